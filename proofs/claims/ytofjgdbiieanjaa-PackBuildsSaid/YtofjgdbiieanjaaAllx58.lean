-- Made by a program of this workplace (wip/pr.sh) out of Lean's print of the translation; Lean checks it.
import Derived.Test.YtofjgdbiieanjaaAllx0
import Derived.Test.YtofjgdbiieanjaaAllx53
namespace Go.Proofs.Ytofjgdbiieanjaa.All
open Go.Proofs.Ytofjgdbiieanjaa.Ext
open Go.RowKit Go.Proofs.YtofjgdbiieanjaaW.PrintWords Go.Proofs.YtofjgdbiieanjaaW.PrintLast Go.Proofs.YtofjgdbiieanjaaW.PrintMore
attribute [local go_sem] max2_int min2_int max_two min_two max_three min_three max_four min_four   -- for this text's walks alone
set_option linter.unusedVariables false
set_option linter.unusedSimpArgs false

/-! ### mantletref04_Build: function 51 -/
def mantletref04_Build.f (k : Nat) (a0_0 : Int) (a0_1 : Int) (a0_2 : Int) (a0_3 : Int) (a0_4 : Int) (a0_5 : Int) (a0_6 : Int) (l1 : List Int) : Option (List Int × Int) := if (l1.length : Int) > 1480 then (some (([] : List Int), 2)) else ((some (([69, 0] : List Int) : List Int)).bind fun y822 => ((mantletref04_Put.f (wrap64 (20 + (l1.length : Int)))).bind fun t825 => (if y822.length + t825.length < 140737488355328 then ((some (y822 ++ t825 : List Int)).bind fun y828 => ((mantletref04_Put.f (wrap64 (a0_6))).bind fun t831 => (if y828.length + t831.length < 140737488355328 then ((some (y828 ++ t831 : List Int)).bind fun y834 => ((some (([0, 0, a0_5, a0_0] : List Int) : List Int)).bind fun y837 => (if y834.length + y837.length < 140737488355328 then ((some (y834 ++ y837 : List Int)).bind fun y840 => ((mantletref04_Wide.f a0_1).bind fun t843 => ((mantletref04_Wide.f a0_2).bind fun t846 => (if t843.length + t846.length < 140737488355328 then ((some (t843 ++ t846 : List Int)).bind fun y849 => ((some (([] : List Int) : List Int)).bind fun y852 => (if y852.length + y840.length < 140737488355328 then ((some (y852 ++ y840 : List Int)).bind fun y855 => (if y855.length + y849.length < 140737488355328 then ((mantletref02_Add.f k 0 (y855 ++ y849)).bind fun t861 => ((mantletref04_Put.f (wrap64 (65535 - t861))).bind fun t862 => (if y840.length + t862.length < 140737488355328 then ((some (y840 ++ t862 : List Int)).bind fun y865 => (if y865.length + y849.length < 140737488355328 then ((some (y865 ++ y849 : List Int)).bind fun y868 => (if y868.length + l1.length < 140737488355328 then (some ((y868 ++ l1), 0)) else (none))) else (none))) else (none)))) else (none))) else (none)))) else (none))))) else (none)))) else (none)))) else (none))))
theorem mantletref04_Build.mono : ∀ a0 a1 a2 a3 a4 a5 a6 a7 k, LeO (mantletref04_Build.f k a0 a1 a2 a3 a4 a5 a6 a7) (mantletref04_Build.f (k + 1) a0 a1 a2 a3 a4 a5 a6 a7) := by
  intro a0 a1 a2 a3 a4 a5 a6 a7 k
  unfold mantletref04_Build.f
  repeat' first
      | (with_reducible exact mantletref02_Add.mono _ _ _)
      | (with_reducible exact LeO.refl _)
      | (with_reducible exact LeO.none _)
      | (with_reducible refine LeO.ite ?_ ?_)
      | (with_reducible refine LeO.bind ?_ (fun _ => ?_))
      | exact mantletref02_Add.mono _ _ _
      | exact LeO.none _
      | refine LeO.ite ?_ ?_
      | refine LeO.bind ?_ (fun _ => ?_)
def mantletref04_Build.T4 : Bool × List (List Nat × List Nat) := (true, [([], []), ([], []), ([1], [1]), ([2], [2]), ([3], [3]), ([0, 4, 4], [0, 4]), ([], []), ([6], [6]), ([], []), ([8], [8]), ([7, 9], [7, 9]), ([5, 10, 5], [5, 10]), ([11, 11, 0, 1, 2, 3, 4, 5, 6, 7, 8, 9, 10, 11], [0, 11])])
def mantletref04_Build.B4 : List Nat := [0, 0, 2, 6, 14, 31, 0, 64, 0, 256, 960, 2047, 4095]
theorem mantletref04_Build.tab4 : rtab .any (opsOf Try.f51 4) = mantletref04_Build.T4 := by kernel_rfl
theorem mantletref04_Build.bits4 : waitsOk mantletref04_Build.T4.2 mantletref04_Build.B4 = true := by kernel_rfl
def mantletref04_Build.T5 : Bool × List (List Nat × List Nat) := (true, [([], []), ([0], [0]), ([1], [1]), ([], []), ([3], [3]), ([4, 2], [4]), ([2, 5, 5], [2, 5]), ([6, 6, 0, 1, 2, 3, 4, 5, 6], [6])])
def mantletref04_Build.B5 : List Nat := [0, 1, 3, 0, 8, 31, 63, 127]
theorem mantletref04_Build.tab5 : rtab .any (opsOf Try.f51 5) = mantletref04_Build.T5 := by kernel_rfl
theorem mantletref04_Build.bits5 : waitsOk mantletref04_Build.T5.2 mantletref04_Build.B5 = true := by kernel_rfl
set_option maxHeartbeats 8000000 in
set_option maxRecDepth 100000 in
theorem mantletref04_Build.calls (k : Nat) (a0_0 : Int) (a0_1 : Int) (a0_2 : Int) (a0_3 : Int) (a0_4 : Int) (a0_5 : Int) (a0_6 : Int) (A1 : Option Addr) (c1 : Nat) (l1 : List Int) (r1 : List Int) (r2 : Int) (w : World) (hr1 : Kd.C (Kd.int .u8) w A1 l1.length l1) (hc1 : l1.length ≤ c1) (h : mantletref04_Build.f k a0_0 a0_1 a0_2 a0_3 a0_4 a0_5 a0_6 l1 = some (r1, r2)) :
    Calls Try.prog 51 #[.agg #[.int .u8 a0_0, .int .u32 a0_1, .int .u32 a0_2, .int .i64 a0_3, .int .i64 a0_4, .int .u8 a0_5, .int .u16 a0_6], .slice A1 l1.length c1] w fun e w' => ∃ v0_ : Value, e = .returned (.tuple #[v0_, .int .i64 r2]) ∧ Kd.R (Kd.int .u8) 5 w' w.heap.size (fun _ => True) v0_ r1 ∧ Below w.heap.size w w' := by
 have hu61 := Try.underlying61
 have HR1 := aS hr1
 have HC1 := aS hc1
 clear hr1 hc1
 have HB := aS (Below.refl w.heap.size w)
 have H := h
 unfold mantletref04_Build.f at H
 clear h
 by_cases c3 : (l1.length : Int) > 1480
 ·rw [if_pos c3] at H
  have c3b0 : decide (1480 < (l1.length : Int)) = true := decide_eq_true c3
  have c3b1 : decide (1480 < l1.length) = true := decide_eq_true (by omega)
  clear c3
  simp only [Option.some.injEq, Prod.mk.injEq] at H
  obtain ⟨rfl, rfl⟩ := H
  go_enter Try.func51, Try.ntmps51
  go_wp2_with (first | ((with_reducible refine gate_dst (N := 2) rfl ?_); refine box_event ?hg (N := 2) ?hd (cs := #[.int .u8 a0_0, .int .u32 a0_1, .int .u32 a0_2, .int .i64 a0_3, .int .i64 a0_4, .int .u8 a0_5, .int .u16 a0_6]) (t := 61) ?hr ?_; (case hd => rfl); (case hg => rfl); (case hr => first | (go_simp; done) | (go_simp; rfl)); intro gb821 hg w4 hbox hb; have BK821 := aS (hbox); have GW821 := aS ((by rw [hg]; exact (below_size (tB HB.out)) : w.heap.size ≤ gb821)); have GE821 := aS ((by rw [hg]; exact (below_size (tB HB.out)) : w.heap.size ≤ gb821)); replace HB := aS (below_step (tB HB.out) hb); clear hb hbox hg))
  go_ret2
  exact ⟨_, by first | rfl | (simp [errW_none, errW_some] <;> rfl) | (simp [*, errW_none, errW_some] <;> rfl), by first | exact Kd.R_nil _ _ _ _ _ | exact Kd.N_nil _ _ _ _ _ | exact Kd.V_nil _ _ _ _ _ | exact Kd.Q_nil _ _ _ _ _ | exact Kd.S_nil _ _ _ _ _, tB HB.out⟩
 ·rw [if_neg c3] at H
  have c3b0 : decide (1480 < (l1.length : Int)) = false := decide_eq_false c3
  have c3b1 : decide (1480 < l1.length) = false := decide_eq_false (by omega)
  clear c3
  obtain ⟨y822, hy822⟩ : ∃ y_ : List Int, y_ = (([69, 0] : List Int)) := ⟨_, rfl⟩
  first | with_reducible replace H := bindY hy822 H | rw [← hy822] at H | skip
  try dsimp -simprocs only at H
  have Ny822 := aS hy822
  clear hy822
  replace H := Option.bind_eq_some_iff.mp H
  obtain ⟨t825, A50, H⟩ := H
  try dsimp -simprocs only at H
  have A5 := aS A50
  clear A50
  by_cases c6 : y822.length + t825.length < 140737488355328
  ·rw [if_pos c6] at H
   have LMc6 := aS c6
   clear c6
   obtain ⟨y828, hy828⟩ : ∃ y_ : List Int, y_ = (y822 ++ t825) := ⟨_, rfl⟩
   first | with_reducible replace H := bindY hy828 H | rw [← hy828] at H | skip
   try dsimp -simprocs only at H
   have Ny828 := aS hy828
   clear hy828
   replace H := Option.bind_eq_some_iff.mp H
   obtain ⟨t831, A70, H⟩ := H
   try dsimp -simprocs only at H
   have A7 := aS A70
   clear A70
   by_cases c8 : y828.length + t831.length < 140737488355328
   ·rw [if_pos c8] at H
    have LMc8 := aS c8
    clear c8
    obtain ⟨y834, hy834⟩ : ∃ y_ : List Int, y_ = (y828 ++ t831) := ⟨_, rfl⟩
    first | with_reducible replace H := bindY hy834 H | rw [← hy834] at H | skip
    try dsimp -simprocs only at H
    have Ny834 := aS hy834
    clear hy834
    obtain ⟨y837, hy837⟩ : ∃ y_ : List Int, y_ = (([0, 0, a0_5, a0_0] : List Int)) := ⟨_, rfl⟩
    first | with_reducible replace H := bindY hy837 H | rw [← hy837] at H | skip
    try dsimp -simprocs only at H
    have Ny837 := aS hy837
    clear hy837
    by_cases c9 : y834.length + y837.length < 140737488355328
    ·rw [if_pos c9] at H
     have LMc9 := aS c9
     clear c9
     obtain ⟨y840, hy840⟩ : ∃ y_ : List Int, y_ = (y834 ++ y837) := ⟨_, rfl⟩
     first | with_reducible replace H := bindY hy840 H | rw [← hy840] at H | skip
     try dsimp -simprocs only at H
     have Ny840 := aS hy840
     clear hy840
     replace H := Option.bind_eq_some_iff.mp H
     obtain ⟨t843, A100, H⟩ := H
     try dsimp -simprocs only at H
     have A10 := aS A100
     clear A100
     replace H := Option.bind_eq_some_iff.mp H
     obtain ⟨t846, A110, H⟩ := H
     try dsimp -simprocs only at H
     have A11 := aS A110
     clear A110
     by_cases c12 : t843.length + t846.length < 140737488355328
     ·rw [if_pos c12] at H
      have LMc12 := aS c12
      clear c12
      obtain ⟨y849, hy849⟩ : ∃ y_ : List Int, y_ = (t843 ++ t846) := ⟨_, rfl⟩
      first | with_reducible replace H := bindY hy849 H | rw [← hy849] at H | skip
      try dsimp -simprocs only at H
      have Ny849 := aS hy849
      clear hy849
      obtain ⟨y852, hy852⟩ : ∃ y_ : List Int, y_ = (([] : List Int)) := ⟨_, rfl⟩
      first | with_reducible replace H := bindY hy852 H | rw [← hy852] at H | skip
      try dsimp -simprocs only at H
      have Ny852 := aS hy852
      clear hy852
      by_cases c13 : y852.length + y840.length < 140737488355328
      ·rw [if_pos c13] at H
       have LMc13 := aS c13
       clear c13
       obtain ⟨y855, hy855⟩ : ∃ y_ : List Int, y_ = (y852 ++ y840) := ⟨_, rfl⟩
       first | with_reducible replace H := bindY hy855 H | rw [← hy855] at H | skip
       try dsimp -simprocs only at H
       have Ny855 := aS hy855
       clear hy855
       by_cases c14 : y855.length + y849.length < 140737488355328
       ·rw [if_pos c14] at H
        have LMc14 := aS c14
        clear c14
        obtain ⟨y858, hy858⟩ : ∃ y_ : List Int, y_ = (y855 ++ y849) := ⟨_, rfl⟩
        first | with_reducible replace H := bindY hy858 H | rw [← hy858] at H | skip
        try dsimp -simprocs only at H
        have Ny858 := aS hy858
        clear hy858
        replace H := Option.bind_eq_some_iff.mp H
        obtain ⟨t861, A150, H⟩ := H
        try dsimp -simprocs only at H
        have A15 := aS A150
        clear A150
        replace H := Option.bind_eq_some_iff.mp H
        obtain ⟨t862, A160, H⟩ := H
        try dsimp -simprocs only at H
        have A16 := aS A160
        clear A160
        by_cases c17 : y840.length + t862.length < 140737488355328
        ·rw [if_pos c17] at H
         have LMc17 := aS c17
         clear c17
         obtain ⟨y865, hy865⟩ : ∃ y_ : List Int, y_ = (y840 ++ t862) := ⟨_, rfl⟩
         first | with_reducible replace H := bindY hy865 H | rw [← hy865] at H | skip
         try dsimp -simprocs only at H
         have Ny865 := aS hy865
         clear hy865
         by_cases c18 : y865.length + y849.length < 140737488355328
         ·rw [if_pos c18] at H
          have LMc18 := aS c18
          clear c18
          obtain ⟨y868, hy868⟩ : ∃ y_ : List Int, y_ = (y865 ++ y849) := ⟨_, rfl⟩
          first | with_reducible replace H := bindY hy868 H | rw [← hy868] at H | skip
          try dsimp -simprocs only at H
          have Ny868 := aS hy868
          clear hy868
          by_cases c19 : y868.length + l1.length < 140737488355328
          ·rw [if_pos c19] at H
           have LMc19 := aS c19
           clear c19
           obtain ⟨y871, hy871⟩ : ∃ y_ : List Int, y_ = (y868 ++ l1) := ⟨_, rfl⟩
           first | with_reducible replace H := bindY hy871 H | rw [← hy871] at H | skip
           try dsimp -simprocs only at H
           have Ny871 := aS hy871
           clear hy871
           simp only [Option.some.injEq, Prod.mk.injEq] at H
           obtain ⟨rfl, rfl⟩ := H
           go_enter Try.func51, Try.ntmps51
           try go_wp2_with (first | ((with_reducible refine gate_dst (N := 2) rfl ?_); refine box_event ?hg (N := 2) ?hd (cs := #[.int .u8 a0_0, .int .u32 a0_1, .int .u32 a0_2, .int .i64 a0_3, .int .i64 a0_4, .int .u8 a0_5, .int .u16 a0_6]) (t := 61) ?hr ?_; (case hd => rfl); (case hg => rfl); (case hr => first | (go_simp; done) | (go_simp; rfl)); intro gb821 hg w20 hbox hb; have BK821 := aS (hbox); have GW821 := aS ((by rw [hg]; exact (below_size (tB HB.out)) : w.heap.size ≤ gb821)); have GE821 := aS ((by rw [hg]; exact (below_size (tB HB.out)) : w.heap.size ≤ gb821)); replace HB := aS (below_step (tB HB.out) hb); clear hb hbox hg) | ((with_reducible refine gate_dst (N := 12) rfl ?_); refine Kd.R_lit (Kd.int .u8) _ 5 ?hg (N := 12) ?hd (xs := ([69, 0] : List Int)) (inner := [.int .u8 69, .int .u8 0]) (ok := fun _ => True) (okp := fun _ => True) ?hr ?hp (fun _ hk => hk) trivial (Below.refl _ _) (Nat.le_refl _) (by simp) ?_; (case hd => rfl); (case hg => rfl); (case hr => first | (go_simp; done) | (go_simp; rfl)); (case hp => exact (Reps.one (show Kd.M (Kd.int .u8) _ _ _ 69 [.int .u8 69] from rfl) (Reps.one (show Kd.M (Kd.int .u8) _ _ _ 0 [.int .u8 0] from rfl) (Reps.none _ _)))); intro v823 w21 ho22 hb hg_ hnew_; clear hg_ hnew_; (first | rw [← Ny822.out] at ho22 | (simp only [Int.reduceToNat] at ho22; rw [← Ny822.out] at ho22)); have HO824 := aS (Kd.R_lower ho22 (below_size (tB HB.out))); replace BK821 := aS (blk_below (g := gb821) (o := .cells #[.int .u8 a0_0, .int .u32 a0_1, .int .u32 a0_2, .int .i64 a0_3, .int .i64 a0_4, .int .u8 a0_5, .int .u16 a0_6] 61 (0, 0)) (tk BK821.out) hb); replace HB := aS (below_step (tB HB.out) hb); clear hb ho22) | ((with_reducible refine gate_callee (f := 71) rfl ?_); refine goesL_ (some 16) rfl rfl Try.func71 (by kernel_rfl) rfl #[.int .i64 (wrap64 (20 + (l1.length : Int)))] rfl (by (try simp only [List.map_toArray, List.map_cons, List.map_nil]); first | done | rfl) ?_; (with_reducible refine (mantletref04_Put.calls (wrap64 (20 + (l1.length : Int))) t825 _ A5.out).mono ?_); rintro e w23 ⟨v826, rfl, ho0, hb⟩; refine ⟨_, rfl, ?_⟩; have HO827 := aS (Kd.R_lower (Kd.R_new' ho0 (Kd.R_lt (tR HO824.out))) (below_size (tB HB.out))); replace HO824 := aS (Kd.R_elder' (tR HO824.out) (Kd.R_base ho0) hb); replace BK821 := aS (blk_below (g := gb821) (o := .cells #[.int .u8 a0_0, .int .u32 a0_1, .int .u32 a0_2, .int .i64 a0_3, .int .i64 a0_4, .int .u8 a0_5, .int .u16 a0_6] 61 (0, 0)) (tk BK821.out) hb); replace HB := aS (below_step (tB HB.out) hb); (try clear hb); (try clear hb2); (try clear hk); (try clear hi); (try clear ho0); obtain ⟨Ao25, co25, eo25⟩ := Kd.R_slice HO827.out; subst eo25) | ((with_reducible refine gate_builtin (b := .append) (xs := #[.tmp 12, .tmp 16]) rfl ?_); at_builtin; refine Kd.R_append_rows (Kd.int .u8) (w0 := w) w.heap.size rfl (.tmp 12) (.tmp 16) 22 5 (.int .u8 0) 1 rfl Try.underlying22 info5 rfl (by decide) (by omega) v823 y822 t825 _ _ _ (fun k_ => some k_ ≠ (.slice Ao25 t825.length co25 : Value).ownBlock) (fun _ => False) rfl rfl ?aO ?aR (fun _ _ h => h) (fun _ h => h.elim) ?aF ?aB ?aS ?aL ?_; (case aR => repeat (first | exact (Kd.R_reads' HO827.out).2.2 | (with_reducible refine Kd.C_alloc ?_ _) | (with_reducible refine Kd.C_drewN ?_ _) | (with_reducible refine Kd.C_drew ?_))); (case aB => exact (tB HB.out)); (case aF => exact (fun k_ hk => Kd.fresh' (Kd.R_lt (tR HO827.out)) k_ hk)); (case aO => exact (tR (Kd.R_mono HO824.out (fun _ hk => hk.2)))); (case aS => exact (below_size (tB HB.out))); (case aL => have := LMc6.out; omega); intro v829 w24 ho hb hg hat; rw [← Ny828.out] at ho; replace BK821 := aS (blk_grown (g := gb821) (o := .cells #[.int .u8 a0_0, .int .u32 a0_1, .int .u32 a0_2, .int .i64 a0_3, .int .i64 a0_4, .int .u8 a0_5, .int .u16 a0_6] 61 (0, 0)) (tk BK821.out) hg (Kd.R_ne HO824.out BK821.out (by decide))); replace HO827 := aS (Kd.R_after (ok := (fun _ => True)) (tR HO827.out) hg hat); replace HB := aS (hb); have HO830 := aS (ho); clear HO824; clear ho hb hg hat; obtain ⟨Ao26, co26, eo26⟩ := Kd.R_slice HO830.out; subst eo26))
           replace HO827 := aS (Kd.R_drew HO827.out)
           replace HO830 := aS (Kd.R_drew HO830.out)
           replace BK821 := aS (blk_drew BK821.out)
           replace HB := aS (below_drew1 HB.out)
           refine start_ (n := 13) (S := fun w' => w'.cell? ⟨gb821, 0, none⟩ = some (.int .u8 a0_0) ∧ w'.cell? ⟨gb821, 1, none⟩ = some (.int .u32 a0_1) ∧ w'.cell? ⟨gb821, 2, none⟩ = some (.int .u32 a0_2) ∧ w'.cell? ⟨gb821, 3, none⟩ = some (.int .i64 a0_3) ∧ w'.cell? ⟨gb821, 4, none⟩ = some (.int .i64 a0_4) ∧ w'.cell? ⟨gb821, 5, none⟩ = some (.int .u8 a0_5) ∧ w'.cell? ⟨gb821, 6, none⟩ = some (.int .u16 a0_6)) (ds := []) #[false, false, false, false, false, false, false, false, false, false, false, false, false] (by kernel_rfl) rfl rfl ⟨(blk_cell BK821.out 0).trans rfl, (blk_cell BK821.out 1).trans rfl, (blk_cell BK821.out 2).trans rfl, (blk_cell BK821.out 3).trans rfl, (blk_cell BK821.out 4).trans rfl, (blk_cell BK821.out 5).trans rfl, (blk_cell BK821.out 6).trans rfl⟩ (fun hHeld => ?_); refine with_tabW mantletref04_Build.tab4 mantletref04_Build.bits4 (fun HT_ HW_ => ?_)
           generalize w24.drew = w27 at HO827 HO830 BK821 HB hHeld ⊢
           refine pure_ (i := 0) (N := some 18) (v := ?_) (a' := ?_) (fl 13 1) rfl rfl (any_of HT_.out (by kernel_rfl)) (fun _ _ _ h => h) (Or.inl ⟨by rfl, ?_⟩) ?_ ?_
           rotate_left; (· intro w'; go_simp; with_reducible rfl); rotate_left; (· simp only [Act.put, q1_, q2_, q3_, i64_w, i32_w]; rfl)
           refine pure_ (i := 1) (N := some 19) (v := ?_) (a' := ?_) (fl 13 3) rfl rfl (any_of HT_.out (by kernel_rfl)) (fun _ _ _ h => h) (Or.inl ⟨by rfl, ?_⟩) ?_ ?_
           rotate_left; (· intro w'; go_simp; with_reducible rfl); rotate_left; (· simp only [Act.put, q1_, q2_, q3_, i64_w, i32_w]; rfl)
           refine pure_ (i := 6) (N := some 24) (v := ?_) (a' := ?_) (fl 13 67) rfl rfl (any_of HT_.out (by kernel_rfl)) (fun _ _ _ h => h) (Or.inl ⟨by rfl, ?_⟩) ?_ ?_
           rotate_left; (· intro w'; go_simp; with_reducible rfl); rotate_left; (· simp only [Act.put, q1_, q2_, q3_, i64_w, i32_w]; rfl)
           refine pure_ (i := 8) (N := some 26) (v := ?_) (a' := ?_) (fl 13 323) rfl rfl (any_of HT_.out (by kernel_rfl)) (fun _ _ _ h => h) (Or.inl ⟨by rfl, ?_⟩) ?_ ?_
           rotate_left; (· intro w'; go_simp; with_reducible rfl); rotate_left; (· simp only [Act.put, q1_, q2_, q3_, i64_w, i32_w]; rfl)
           refine take_ (i := 2) (N := some 20) (v := ?_) (a' := ?_) (fl 13 327) rfl rfl (take_ofW HT_.out HW_.out (by kernel_rfl)) (fun _ _ _ h => h) (Or.inl ⟨by rfl, ?_⟩) hHeld ?_ ?_
           rotate_left; (· rintro w' ⟨s0, s1, s2, s3, s4, s5, s6⟩; go_simp; with_reducible rfl); rotate_left; (· simp only [Act.put, q1_, q2_, q3_, i64_w, i32_w]; rfl)
           refine pure_ (i := 3) (N := some 21) (v := ?_) (a' := ?_) (fl 13 335) rfl rfl (any_of HT_.out (by kernel_rfl)) (fun _ _ _ h => h) (Or.inl ⟨by rfl, ?_⟩) ?_ ?_
           rotate_left; (· intro w'; go_simp; with_reducible rfl); rotate_left; (· simp only [Act.put, q1_, q2_, q3_, i64_w, i32_w]; rfl)
           refine take_ (i := 7) (N := some 25) (v := ?_) (a' := ?_) (fl 13 463) rfl rfl (take_ofW HT_.out HW_.out (by kernel_rfl)) (fun _ _ _ h => h) (Or.inl ⟨by rfl, ?_⟩) hHeld ?_ ?_
           rotate_left; (· rintro w' ⟨s0, s1, s2, s3, s4, s5, s6⟩; go_simp; with_reducible rfl); rotate_left; (· simp only [Act.put, q1_, q2_, q3_, i64_w, i32_w]; rfl)
           refine take_ (i := 9) (N := some 27) (v := ?_) (a' := ?_) (fl 13 975) rfl rfl (take_ofW HT_.out HW_.out (by kernel_rfl)) (fun _ _ _ h => h) (Or.inl ⟨by rfl, ?_⟩) hHeld ?_ ?_
           rotate_left; (· rintro w' ⟨s0, s1, s2, s3, s4, s5, s6⟩; go_simp; with_reducible rfl); rotate_left; (· simp only [Act.put, q1_, q2_, q3_, i64_w, i32_w]; rfl)
           refine join_ (σ := Value × Value × Value) 2 (fl 13 2047) (fun s_ => [(22, s_.1), (23, s_.2.1), (28, s_.2.2)]) (fun s_ w' => (w'.cell? ⟨gb821, 0, none⟩ = some (.int .u8 a0_0) ∧ w'.cell? ⟨gb821, 1, none⟩ = some (.int .u32 a0_1) ∧ w'.cell? ⟨gb821, 2, none⟩ = some (.int .u32 a0_2) ∧ w'.cell? ⟨gb821, 3, none⟩ = some (.int .i64 a0_3) ∧ w'.cell? ⟨gb821, 4, none⟩ = some (.int .i64 a0_4) ∧ w'.cell? ⟨gb821, 5, none⟩ = some (.int .u8 a0_5) ∧ w'.cell? ⟨gb821, 6, none⟩ = some (.int .u16 a0_6)) ∧ (Kd.R (Kd.int .u8) 5 w' w.heap.size (fun k_ => some k_ ≠ (s_.1 : Value).ownBlock ∧ some k_ ≠ (s_.2.1 : Value).ownBlock ∧ some k_ ≠ (s_.2.2 : Value).ownBlock) (.slice Ao25 t825.length co25) t825) ∧ (Kd.R (Kd.int .u8) 5 w' w.heap.size (fun k_ => some k_ ≠ (.slice Ao25 t825.length co25 : Value).ownBlock ∧ some k_ ≠ (s_.2.1 : Value).ownBlock ∧ some k_ ≠ (s_.2.2 : Value).ownBlock) s_.1 t831) ∧ (Kd.R (Kd.int .u8) 5 w' w.heap.size (fun k_ => some k_ ≠ (.slice Ao25 t825.length co25 : Value).ownBlock ∧ some k_ ≠ (s_.1 : Value).ownBlock ∧ some k_ ≠ (s_.2.2 : Value).ownBlock) s_.2.1 y834) ∧ (Kd.R (Kd.int .u8) 5 w' w.heap.size (fun k_ => some k_ ≠ (.slice Ao25 t825.length co25 : Value).ownBlock ∧ some k_ ≠ (s_.1 : Value).ownBlock ∧ some k_ ≠ (s_.2.1 : Value).ownBlock) s_.2.2 y837) ∧ (w'.heap[gb821]? = some (.cells #[.int .u8 a0_0, .int .u32 a0_1, .int .u32 a0_2, .int .i64 a0_3, .int .i64 a0_4, .int .u8 a0_5, .int .u16 a0_6] 61 (0, 0))) ∧ (Below w.heap.size w w')) ?_ ?_
           rotate_left
           ·intro hCont
            refine two_ (i := 4) (j := 10) (Ni := some 22) (Nj := some 28) (fl 13 991) (fl 13 1999) rfl rfl rfl rfl (two_of HT_.out (by kernel_rfl)) (by decide) (by decide) (fun K hK => ?_) (fun K hK => ?_)
            ·skip
             refine goes_ Try.func71 (by kernel_rfl) rfl #[.int .i64 (wrap64 (a0_6))] (by rfl) rfl rfl (by (try simp only [List.map_toArray, List.map_cons, List.map_nil]); first | done | rfl) ?_
             with_reducible refine (mantletref04_Put.calls (wrap64 (a0_6)) t831 _ A7.out).mono ?_
             rintro e w28 ⟨v832, rfl, ho0, hb⟩; refine ⟨_, rfl, ?_⟩
             have HO833 := aS (Kd.R_lower (Kd.R_new' (Kd.R_new' ho0 (Kd.R_lt (tR HO827.out))) (Kd.R_lt (tR HO830.out))) (below_size (tB HB.out)))
             replace HO827 := aS (Kd.R_elder' (tR HO827.out) (Kd.R_base ho0) hb)
             replace HO830 := aS (Kd.R_elder' (tR HO830.out) (Kd.R_base ho0) hb)
             replace BK821 := aS (blk_below (g := gb821) (o := .cells #[.int .u8 a0_0, .int .u32 a0_1, .int .u32 a0_2, .int .i64 a0_3, .int .i64 a0_4, .int .u8 a0_5, .int .u16 a0_6] 61 (0, 0)) (tk BK821.out) hb)
             replace HB := aS (below_step (tB HB.out) hb)
             (try clear hb); (try clear hb2); (try clear hk); (try clear hi); (try clear ho0)
             obtain ⟨Ao30, co30, eo30⟩ := Kd.R_slice HO833.out
             (first | subst eo30 | (injection eo30 with f1_ f2_ f3_; have f4_ := f1_.symm; have f5_ := f3_.symm; clear f1_ f2_ f3_; subst f4_; subst f5_))
             refine hK.out _ _ ⟨(blk_cell BK821.out 0).trans rfl, (blk_cell BK821.out 1).trans rfl, (blk_cell BK821.out 2).trans rfl, (blk_cell BK821.out 3).trans rfl, (blk_cell BK821.out 4).trans rfl, (blk_cell BK821.out 5).trans rfl, (blk_cell BK821.out 6).trans rfl⟩ (fun hHeld => ?_)
             clear hK K
             refine norm_ (a' := ?_) ?_ ?_
             rotate_left
             ·show Act.put _ (some 22) _ = _
              simp only [Act.put, q1_, q2_, q3_, i64_w, i32_w]
              rfl
             refine two_ (i := 5) (j := 10) (Ni := some 23) (Nj := some 28) (fl 13 1023) (fl 13 2015) rfl rfl rfl rfl (two_of HT_.out (by kernel_rfl)) (by decide) (by decide) (fun K hK => ?_) (fun K hK => ?_)
             ·skip
              refine Kd.R_append_rows_step (Kd.int .u8) (w0 := w) w.heap.size (by rfl) (.tmp 18) (.tmp 22) 22 5 (.int .u8 0) 1 rfl Try.underlying22 info5 rfl (by decide) (by omega) (.slice Ao26 y828.length co26) y828 t831 _ _ _ (fun k_ => some k_ ≠ (.slice Ao25 t825.length co25 : Value).ownBlock ∧ some k_ ≠ (.slice Ao30 t831.length co30 : Value).ownBlock) (fun _ => False) rfl rfl ?aO ?aR (fun _ _ h => h) (fun _ h => h.elim) ?aF ?aB ?aS ?aL ?_
              (case aR => repeat (first | exact (Kd.R_reads' HO833.out).2.2 | (with_reducible refine Kd.C_alloc ?_ _) | (with_reducible refine Kd.C_drewN ?_ _) | (with_reducible refine Kd.C_drew ?_)))
              (case aB => exact (tB HB.out))
              (case aF => exact (fun k_ hk => ⟨Kd.fresh' (Kd.R_lt (tR HO827.out)) k_ hk, Kd.fresh' (Kd.R_lt (tR HO833.out)) k_ hk⟩))
              (case aO => exact (tR HO830.out))
              (case aS => exact (below_size (tB HB.out)))
              (case aL => have := LMc8.out; omega)
              intro v835 w29 ho hb hg hat
              rw [← Ny834.out] at ho
              have n0_ := aS (blk_grown (g := gb821) (o := .cells #[.int .u8 a0_0, .int .u32 a0_1, .int .u32 a0_2, .int .i64 a0_3, .int .i64 a0_4, .int .u8 a0_5, .int .u16 a0_6] 61 (0, 0)) (tk BK821.out) hg (Kd.R_ne HO830.out BK821.out (by decide)))
              have n1_ := aS (Kd.R_after (ok := (fun k_ => some k_ ≠ (.slice Ao30 t831.length co30 : Value).ownBlock)) (tR (Kd.R_mono HO827.out (fun _ hk => ⟨hk.2, hk.1.2⟩))) hg hat)
              have n2_ := aS (Kd.R_after (ok := (fun k_ => some k_ ≠ (.slice Ao25 t825.length co25 : Value).ownBlock)) (tR (Kd.R_mono HO833.out (fun _ hk => ⟨hk.1.2, hk.2⟩))) hg hat)
              have n3_ := aS (hb)
              have n4_ := aS (ho)
              clear BK821 HO827 HO833 HB HO830; have BK821 := n0_; have HO827 := n1_; have HO833 := n2_; have HB := n3_; have HO836 := n4_; clear n0_ n1_ n2_ n3_ n4_ ho hb hg hat
              refine hK.out _ _ ⟨(blk_cell BK821.out 0).trans rfl, (blk_cell BK821.out 1).trans rfl, (blk_cell BK821.out 2).trans rfl, (blk_cell BK821.out 3).trans rfl, (blk_cell BK821.out 4).trans rfl, (blk_cell BK821.out 5).trans rfl, (blk_cell BK821.out 6).trans rfl⟩ (fun hHeld => ?_)
              clear hK K
              refine norm_ (a' := ?_) ?_ ?_
              rotate_left
              ·show Act.put _ (some 23) _ = _
               simp only [Act.put, q1_, q2_, q3_, i64_w, i32_w]
               rfl
              refine one_ (i := 10) (N := some 28) (fl 13 2047) rfl rfl (one_of HT_.out (by kernel_rfl)) (by decide) (fun K hK => ?_)
              refine Kd.R_lit_step (Kd.int .u8) _ 5 ?hg (N := 28) ?hd (xs := ([0, 0, a0_5, a0_0] : List Int)) (inner := [.int .u8 0, .int .u8 0, .int .u8 a0_5, .int .u8 a0_0]) (ok := fun _ => True) (okp := fun _ => True) ?hr ?hp (fun _ hk => hk) trivial (Below.refl _ _) (Nat.le_refl _) (by simp) ?_; (case hd => rfl); (case hg => rfl); (case hr => first | (go_simp; done) | (go_simp; rfl)); (case hp => exact (Reps.one (show Kd.M (Kd.int .u8) _ _ _ 0 [.int .u8 0] from rfl) (Reps.one (show Kd.M (Kd.int .u8) _ _ _ 0 [.int .u8 0] from rfl) (Reps.one (show Kd.M (Kd.int .u8) _ _ _ a0_5 [.int .u8 a0_5] from rfl) (Reps.one (show Kd.M (Kd.int .u8) _ _ _ a0_0 [.int .u8 a0_0] from rfl) (Reps.none _ _))))))
              intro v838 w31 ho32 hb hg_ hnew_; clear hg_ hnew_
              (first | rw [← Ny837.out] at ho32 | (simp only [Int.reduceToNat] at ho32; rw [← Ny837.out] at ho32))
              have n0_ := aS (Kd.R_elder' (tR HO827.out) (Kd.R_base ho32) hb)
              have n1_ := aS (Kd.R_elder' (tR HO833.out) (Kd.R_base ho32) hb)
              have n2_ := aS (Kd.R_elder' (tR HO836.out) (Kd.R_base ho32) hb)
              have n3_ := aS (Kd.R_lower (Kd.R_new' (Kd.R_new' (Kd.R_new' ho32 (Kd.R_lt (tR HO827.out))) (Kd.R_lt (tR HO833.out))) (Kd.R_lt (tR HO836.out))) (below_size (tB HB.out)))
              have n4_ := aS (blk_below (g := gb821) (o := .cells #[.int .u8 a0_0, .int .u32 a0_1, .int .u32 a0_2, .int .i64 a0_3, .int .i64 a0_4, .int .u8 a0_5, .int .u16 a0_6] 61 (0, 0)) (tk BK821.out) hb)
              have n5_ := aS (below_step (tB HB.out) hb)
              clear HO827 HO833 HO836 BK821 HB; have HO827 := n0_; have HO833 := n1_; have HO836 := n2_; have HO839 := n3_; have BK821 := n4_; have HB := n5_; clear n0_ n1_ n2_ n3_ n4_ n5_ hb ho32
              refine hK.out _ _ ⟨(blk_cell BK821.out 0).trans rfl, (blk_cell BK821.out 1).trans rfl, (blk_cell BK821.out 2).trans rfl, (blk_cell BK821.out 3).trans rfl, (blk_cell BK821.out 4).trans rfl, (blk_cell BK821.out 5).trans rfl, (blk_cell BK821.out 6).trans rfl⟩ (fun hHeld => ?_)
              clear hK K
              refine norm_ (a' := ?_) ?_ ?_
              rotate_left
              ·show Act.put _ (some 28) _ = _
               simp only [Act.put, q1_, q2_, q3_, i64_w, i32_w]
               rfl
              exact norm_ (by first | (simp only [putAll, Act.put, q1_, q2_, q3_]; done) | (simp only [putAll, Act.put, q1_, q2_, q3_, w8_mod, w16_mod, w32_mod])) (hCont (.slice Ao30 t831.length co30, v835, v838) _ ⟨hHeld, (tR (Kd.R_mono HO827.out (fun _ hk => ⟨hk.1.1, ⟨hk.1.2, hk.2⟩⟩))), (tR (Kd.R_mono HO833.out (fun _ hk => ⟨hk.1.1, ⟨hk.1.2, hk.2⟩⟩))), (tR (Kd.R_mono HO836.out (fun _ hk => ⟨hk.1.1, ⟨hk.1.2, hk.2⟩⟩))), (tR (Kd.R_mono HO839.out (fun _ hk => ⟨hk.1.1.2, ⟨hk.1.2, hk.2⟩⟩))), (tk BK821.out), (tB HB.out)⟩)
             ·skip
              refine Kd.R_lit_step (Kd.int .u8) _ 5 ?hg (N := 28) ?hd (xs := ([0, 0, a0_5, a0_0] : List Int)) (inner := [.int .u8 0, .int .u8 0, .int .u8 a0_5, .int .u8 a0_0]) (ok := fun _ => True) (okp := fun _ => True) ?hr ?hp (fun _ hk => hk) trivial (Below.refl _ _) (Nat.le_refl _) (by simp) ?_; (case hd => rfl); (case hg => rfl); (case hr => first | (go_simp; done) | (go_simp; rfl)); (case hp => exact (Reps.one (show Kd.M (Kd.int .u8) _ _ _ 0 [.int .u8 0] from rfl) (Reps.one (show Kd.M (Kd.int .u8) _ _ _ 0 [.int .u8 0] from rfl) (Reps.one (show Kd.M (Kd.int .u8) _ _ _ a0_5 [.int .u8 a0_5] from rfl) (Reps.one (show Kd.M (Kd.int .u8) _ _ _ a0_0 [.int .u8 a0_0] from rfl) (Reps.none _ _))))))
              intro v838 w29 ho30 hb hg_ hnew_; clear hg_ hnew_
              (first | rw [← Ny837.out] at ho30 | (simp only [Int.reduceToNat] at ho30; rw [← Ny837.out] at ho30))
              have n0_ := aS (Kd.R_elder' (tR HO827.out) (Kd.R_base ho30) hb)
              have n1_ := aS (Kd.R_elder' (tR HO830.out) (Kd.R_base ho30) hb)
              have n2_ := aS (Kd.R_elder' (tR HO833.out) (Kd.R_base ho30) hb)
              have n3_ := aS (Kd.R_lower (Kd.R_new' (Kd.R_new' (Kd.R_new' ho30 (Kd.R_lt (tR HO827.out))) (Kd.R_lt (tR HO830.out))) (Kd.R_lt (tR HO833.out))) (below_size (tB HB.out)))
              have n4_ := aS (blk_below (g := gb821) (o := .cells #[.int .u8 a0_0, .int .u32 a0_1, .int .u32 a0_2, .int .i64 a0_3, .int .i64 a0_4, .int .u8 a0_5, .int .u16 a0_6] 61 (0, 0)) (tk BK821.out) hb)
              have n5_ := aS (below_step (tB HB.out) hb)
              clear HO827 HO830 HO833 BK821 HB; have HO827 := n0_; have HO830 := n1_; have HO833 := n2_; have HO839 := n3_; have BK821 := n4_; have HB := n5_; clear n0_ n1_ n2_ n3_ n4_ n5_ hb ho30
              obtain ⟨Ao32, co32, eo32⟩ := Kd.R_slice HO833.out
              (first | subst eo32 | (injection eo32 with f1_ f2_ f3_; have f4_ := f1_.symm; have f5_ := f3_.symm; clear f1_ f2_ f3_; subst f4_; subst f5_))
              refine hK.out _ _ ⟨(blk_cell BK821.out 0).trans rfl, (blk_cell BK821.out 1).trans rfl, (blk_cell BK821.out 2).trans rfl, (blk_cell BK821.out 3).trans rfl, (blk_cell BK821.out 4).trans rfl, (blk_cell BK821.out 5).trans rfl, (blk_cell BK821.out 6).trans rfl⟩ (fun hHeld => ?_)
              clear hK K
              refine norm_ (a' := ?_) ?_ ?_
              rotate_left
              ·show Act.put _ (some 28) _ = _
               simp only [Act.put, q1_, q2_, q3_, i64_w, i32_w]
               rfl
              refine one_ (i := 5) (N := some 23) (fl 13 2047) rfl rfl (one_of HT_.out (by kernel_rfl)) (by decide) (fun K hK => ?_)
              refine Kd.R_append_rows_step (Kd.int .u8) (w0 := w) w.heap.size (by rfl) (.tmp 18) (.tmp 22) 22 5 (.int .u8 0) 1 rfl Try.underlying22 info5 rfl (by decide) (by omega) (.slice Ao26 y828.length co26) y828 t831 _ _ _ (fun k_ => some k_ ≠ (.slice Ao25 t825.length co25 : Value).ownBlock ∧ some k_ ≠ (.slice Ao32 t831.length co32 : Value).ownBlock ∧ some k_ ≠ (v838 : Value).ownBlock) (fun _ => False) rfl rfl ?aO ?aR (fun _ _ h => h) (fun _ h => h.elim) ?aF ?aB ?aS ?aL ?_
              (case aR => repeat (first | exact (Kd.R_reads' HO833.out).2.2 | (with_reducible refine Kd.C_alloc ?_ _) | (with_reducible refine Kd.C_drewN ?_ _) | (with_reducible refine Kd.C_drew ?_)))
              (case aB => exact (tB HB.out))
              (case aF => exact (fun k_ hk => ⟨Kd.fresh' (Kd.R_lt (tR HO827.out)) k_ hk, Kd.fresh' (Kd.R_lt (tR HO833.out)) k_ hk, Kd.fresh' (Kd.R_lt (tR HO839.out)) k_ hk⟩))
              (case aO => exact (tR (Kd.R_mono HO830.out (fun _ hk => ⟨hk.1.1, ⟨hk.1.2, hk.2⟩⟩))))
              (case aS => exact (below_size (tB HB.out)))
              (case aL => have := LMc8.out; omega)
              intro v835 w31 ho hb hg hat
              rw [← Ny834.out] at ho
              have n0_ := aS (blk_grown (g := gb821) (o := .cells #[.int .u8 a0_0, .int .u32 a0_1, .int .u32 a0_2, .int .i64 a0_3, .int .i64 a0_4, .int .u8 a0_5, .int .u16 a0_6] 61 (0, 0)) (tk BK821.out) hg (Kd.R_ne HO830.out BK821.out (by decide)))
              have n1_ := aS (Kd.R_after (ok := (fun k_ => some k_ ≠ (.slice Ao32 t831.length co32 : Value).ownBlock ∧ some k_ ≠ (v838 : Value).ownBlock)) (tR (Kd.R_mono HO827.out (fun _ hk => ⟨⟨hk.1.2, hk.2⟩, hk.1.1.2⟩))) hg hat)
              have n2_ := aS (Kd.R_after (ok := (fun k_ => some k_ ≠ (.slice Ao25 t825.length co25 : Value).ownBlock ∧ some k_ ≠ (v838 : Value).ownBlock)) (tR (Kd.R_mono HO833.out (fun _ hk => ⟨⟨hk.1.1.2, hk.2⟩, hk.1.2⟩))) hg hat)
              have n3_ := aS (Kd.R_after (ok := (fun k_ => some k_ ≠ (.slice Ao25 t825.length co25 : Value).ownBlock ∧ some k_ ≠ (.slice Ao32 t831.length co32 : Value).ownBlock)) (tR (Kd.R_mono HO839.out (fun _ hk => ⟨⟨hk.1.1.2, hk.2⟩, hk.1.2⟩))) hg hat)
              have n4_ := aS (hb)
              have n5_ := aS (ho)
              clear BK821 HO827 HO833 HO839 HB HO830; have BK821 := n0_; have HO827 := n1_; have HO833 := n2_; have HO839 := n3_; have HB := n4_; have HO836 := n5_; clear n0_ n1_ n2_ n3_ n4_ n5_ ho hb hg hat
              refine hK.out _ _ ⟨(blk_cell BK821.out 0).trans rfl, (blk_cell BK821.out 1).trans rfl, (blk_cell BK821.out 2).trans rfl, (blk_cell BK821.out 3).trans rfl, (blk_cell BK821.out 4).trans rfl, (blk_cell BK821.out 5).trans rfl, (blk_cell BK821.out 6).trans rfl⟩ (fun hHeld => ?_)
              clear hK K
              refine norm_ (a' := ?_) ?_ ?_
              rotate_left
              ·show Act.put _ (some 23) _ = _
               simp only [Act.put, q1_, q2_, q3_, i64_w, i32_w]
               rfl
              exact norm_ (by first | (simp only [putAll, Act.put, q1_, q2_, q3_]; done) | (simp only [putAll, Act.put, q1_, q2_, q3_, w8_mod, w16_mod, w32_mod])) (hCont (.slice Ao32 t831.length co32, v835, v838) _ ⟨hHeld, (tR (Kd.R_mono HO827.out (fun _ hk => ⟨hk.1.1, ⟨hk.2, hk.1.2⟩⟩))), (tR (Kd.R_mono HO833.out (fun _ hk => ⟨hk.1.1, ⟨hk.2, hk.1.2⟩⟩))), (tR HO836.out), (tR (Kd.R_mono HO839.out (fun _ hk => ⟨hk.1.1, ⟨hk.1.2, hk.2⟩⟩))), (tk BK821.out), (tB HB.out)⟩)
            ·skip
             refine Kd.R_lit_step (Kd.int .u8) _ 5 ?hg (N := 28) ?hd (xs := ([0, 0, a0_5, a0_0] : List Int)) (inner := [.int .u8 0, .int .u8 0, .int .u8 a0_5, .int .u8 a0_0]) (ok := fun _ => True) (okp := fun _ => True) ?hr ?hp (fun _ hk => hk) trivial (Below.refl _ _) (Nat.le_refl _) (by simp) ?_; (case hd => rfl); (case hg => rfl); (case hr => first | (go_simp; done) | (go_simp; rfl)); (case hp => exact (Reps.one (show Kd.M (Kd.int .u8) _ _ _ 0 [.int .u8 0] from rfl) (Reps.one (show Kd.M (Kd.int .u8) _ _ _ 0 [.int .u8 0] from rfl) (Reps.one (show Kd.M (Kd.int .u8) _ _ _ a0_5 [.int .u8 a0_5] from rfl) (Reps.one (show Kd.M (Kd.int .u8) _ _ _ a0_0 [.int .u8 a0_0] from rfl) (Reps.none _ _))))))
             intro v838 w28 ho29 hb hg_ hnew_; clear hg_ hnew_
             (first | rw [← Ny837.out] at ho29 | (simp only [Int.reduceToNat] at ho29; rw [← Ny837.out] at ho29))
             have n0_ := aS (Kd.R_elder' (tR HO827.out) (Kd.R_base ho29) hb)
             have n1_ := aS (Kd.R_elder' (tR HO830.out) (Kd.R_base ho29) hb)
             have n2_ := aS (Kd.R_lower (Kd.R_new' (Kd.R_new' ho29 (Kd.R_lt (tR HO827.out))) (Kd.R_lt (tR HO830.out))) (below_size (tB HB.out)))
             have n3_ := aS (blk_below (g := gb821) (o := .cells #[.int .u8 a0_0, .int .u32 a0_1, .int .u32 a0_2, .int .i64 a0_3, .int .i64 a0_4, .int .u8 a0_5, .int .u16 a0_6] 61 (0, 0)) (tk BK821.out) hb)
             have n4_ := aS (below_step (tB HB.out) hb)
             clear HO827 HO830 BK821 HB; have HO827 := n0_; have HO830 := n1_; have HO839 := n2_; have BK821 := n3_; have HB := n4_; clear n0_ n1_ n2_ n3_ n4_ hb ho29
             refine hK.out _ _ ⟨(blk_cell BK821.out 0).trans rfl, (blk_cell BK821.out 1).trans rfl, (blk_cell BK821.out 2).trans rfl, (blk_cell BK821.out 3).trans rfl, (blk_cell BK821.out 4).trans rfl, (blk_cell BK821.out 5).trans rfl, (blk_cell BK821.out 6).trans rfl⟩ (fun hHeld => ?_)
             clear hK K
             refine norm_ (a' := ?_) ?_ ?_
             rotate_left
             ·show Act.put _ (some 28) _ = _
              simp only [Act.put, q1_, q2_, q3_, i64_w, i32_w]
              rfl
             refine one_ (i := 4) (N := some 22) (fl 13 2015) rfl rfl (one_of HT_.out (by kernel_rfl)) (by decide) (fun K hK => ?_)
             refine goes_ Try.func71 (by kernel_rfl) rfl #[.int .i64 (wrap64 (a0_6))] (by rfl) rfl rfl (by (try simp only [List.map_toArray, List.map_cons, List.map_nil]); first | done | rfl) ?_
             with_reducible refine (mantletref04_Put.calls (wrap64 (a0_6)) t831 _ A7.out).mono ?_
             rintro e w30 ⟨v832, rfl, ho0, hb⟩; refine ⟨_, rfl, ?_⟩
             have HO833 := aS (Kd.R_lower (Kd.R_new' (Kd.R_new' (Kd.R_new' ho0 (Kd.R_lt (tR HO827.out))) (Kd.R_lt (tR HO830.out))) (Kd.R_lt (tR HO839.out))) (below_size (tB HB.out)))
             replace HO827 := aS (Kd.R_elder' (tR HO827.out) (Kd.R_base ho0) hb)
             replace HO830 := aS (Kd.R_elder' (tR HO830.out) (Kd.R_base ho0) hb)
             replace HO839 := aS (Kd.R_elder' (tR HO839.out) (Kd.R_base ho0) hb)
             replace BK821 := aS (blk_below (g := gb821) (o := .cells #[.int .u8 a0_0, .int .u32 a0_1, .int .u32 a0_2, .int .i64 a0_3, .int .i64 a0_4, .int .u8 a0_5, .int .u16 a0_6] 61 (0, 0)) (tk BK821.out) hb)
             replace HB := aS (below_step (tB HB.out) hb)
             (try clear hb); (try clear hb2); (try clear hk); (try clear hi); (try clear ho0)
             obtain ⟨Ao32, co32, eo32⟩ := Kd.R_slice HO833.out
             (first | subst eo32 | (injection eo32 with f1_ f2_ f3_; have f4_ := f1_.symm; have f5_ := f3_.symm; clear f1_ f2_ f3_; subst f4_; subst f5_))
             refine hK.out _ _ ⟨(blk_cell BK821.out 0).trans rfl, (blk_cell BK821.out 1).trans rfl, (blk_cell BK821.out 2).trans rfl, (blk_cell BK821.out 3).trans rfl, (blk_cell BK821.out 4).trans rfl, (blk_cell BK821.out 5).trans rfl, (blk_cell BK821.out 6).trans rfl⟩ (fun hHeld => ?_)
             clear hK K
             refine norm_ (a' := ?_) ?_ ?_
             rotate_left
             ·show Act.put _ (some 22) _ = _
              simp only [Act.put, q1_, q2_, q3_, i64_w, i32_w]
              rfl
             refine one_ (i := 5) (N := some 23) (fl 13 2047) rfl rfl (one_of HT_.out (by kernel_rfl)) (by decide) (fun K hK => ?_)
             refine Kd.R_append_rows_step (Kd.int .u8) (w0 := w) w.heap.size (by rfl) (.tmp 18) (.tmp 22) 22 5 (.int .u8 0) 1 rfl Try.underlying22 info5 rfl (by decide) (by omega) (.slice Ao26 y828.length co26) y828 t831 _ _ _ (fun k_ => some k_ ≠ (.slice Ao25 t825.length co25 : Value).ownBlock ∧ some k_ ≠ (v838 : Value).ownBlock ∧ some k_ ≠ (.slice Ao32 t831.length co32 : Value).ownBlock) (fun _ => False) rfl rfl ?aO ?aR (fun _ _ h => h) (fun _ h => h.elim) ?aF ?aB ?aS ?aL ?_
             (case aR => repeat (first | exact (Kd.R_reads' HO833.out).2.2 | (with_reducible refine Kd.C_alloc ?_ _) | (with_reducible refine Kd.C_drewN ?_ _) | (with_reducible refine Kd.C_drew ?_)))
             (case aB => exact (tB HB.out))
             (case aF => exact (fun k_ hk => ⟨Kd.fresh' (Kd.R_lt (tR HO827.out)) k_ hk, Kd.fresh' (Kd.R_lt (tR HO839.out)) k_ hk, Kd.fresh' (Kd.R_lt (tR HO833.out)) k_ hk⟩))
             (case aO => exact (tR (Kd.R_mono HO830.out (fun _ hk => ⟨hk.1.1, ⟨hk.1.2, hk.2⟩⟩))))
             (case aS => exact (below_size (tB HB.out)))
             (case aL => have := LMc8.out; omega)
             intro v835 w31 ho hb hg hat
             rw [← Ny834.out] at ho
             have n0_ := aS (blk_grown (g := gb821) (o := .cells #[.int .u8 a0_0, .int .u32 a0_1, .int .u32 a0_2, .int .i64 a0_3, .int .i64 a0_4, .int .u8 a0_5, .int .u16 a0_6] 61 (0, 0)) (tk BK821.out) hg (Kd.R_ne HO830.out BK821.out (by decide)))
             have n1_ := aS (Kd.R_after (ok := (fun k_ => some k_ ≠ (v838 : Value).ownBlock ∧ some k_ ≠ (.slice Ao32 t831.length co32 : Value).ownBlock)) (tR (Kd.R_mono HO827.out (fun _ hk => ⟨⟨hk.1.2, hk.2⟩, hk.1.1.2⟩))) hg hat)
             have n2_ := aS (Kd.R_after (ok := (fun k_ => some k_ ≠ (.slice Ao25 t825.length co25 : Value).ownBlock ∧ some k_ ≠ (.slice Ao32 t831.length co32 : Value).ownBlock)) (tR (Kd.R_mono HO839.out (fun _ hk => ⟨⟨hk.1.1.2, hk.2⟩, hk.1.2⟩))) hg hat)
             have n3_ := aS (Kd.R_after (ok := (fun k_ => some k_ ≠ (.slice Ao25 t825.length co25 : Value).ownBlock ∧ some k_ ≠ (v838 : Value).ownBlock)) (tR (Kd.R_mono HO833.out (fun _ hk => ⟨⟨hk.1.1.2, hk.2⟩, hk.1.2⟩))) hg hat)
             have n4_ := aS (hb)
             have n5_ := aS (ho)
             clear BK821 HO827 HO839 HO833 HB HO830; have BK821 := n0_; have HO827 := n1_; have HO839 := n2_; have HO833 := n3_; have HB := n4_; have HO836 := n5_; clear n0_ n1_ n2_ n3_ n4_ n5_ ho hb hg hat
             refine hK.out _ _ ⟨(blk_cell BK821.out 0).trans rfl, (blk_cell BK821.out 1).trans rfl, (blk_cell BK821.out 2).trans rfl, (blk_cell BK821.out 3).trans rfl, (blk_cell BK821.out 4).trans rfl, (blk_cell BK821.out 5).trans rfl, (blk_cell BK821.out 6).trans rfl⟩ (fun hHeld => ?_)
             clear hK K
             refine norm_ (a' := ?_) ?_ ?_
             rotate_left
             ·show Act.put _ (some 23) _ = _
              simp only [Act.put, q1_, q2_, q3_, i64_w, i32_w]
              rfl
             exact norm_ (by first | (simp only [putAll, Act.put, q1_, q2_, q3_]; done) | (simp only [putAll, Act.put, q1_, q2_, q3_, w8_mod, w16_mod, w32_mod])) (hCont (.slice Ao32 t831.length co32, v835, v838) _ ⟨hHeld, (tR (Kd.R_mono HO827.out (fun _ hk => ⟨hk.1.2, ⟨hk.2, hk.1.1⟩⟩))), (tR (Kd.R_mono HO833.out (fun _ hk => ⟨hk.1.1, ⟨hk.2, hk.1.2⟩⟩))), (tR (Kd.R_mono HO836.out (fun _ hk => ⟨hk.1, ⟨hk.2.2, hk.2.1⟩⟩))), (tR (Kd.R_mono HO839.out (fun _ hk => ⟨hk.1.1, ⟨hk.1.2, hk.2⟩⟩))), (tk BK821.out), (tB HB.out)⟩)
           rintro ⟨v832, v835, v838⟩ w33 ⟨hS_, h0_, h1_, h2_, h3_, h4_, h5_⟩
           replace HO827 : Aside0 (Kd.R (Kd.int .u8) 5 w33 w.heap.size (fun k_ => some k_ ≠ (v832 : Value).ownBlock ∧ some k_ ≠ (v835 : Value).ownBlock ∧ some k_ ≠ (v838 : Value).ownBlock) (.slice Ao25 t825.length co25) t825) := ⟨h0_⟩
           have HO833 : Aside0 (Kd.R (Kd.int .u8) 5 w33 w.heap.size (fun k_ => some k_ ≠ (.slice Ao25 t825.length co25 : Value).ownBlock ∧ some k_ ≠ (v835 : Value).ownBlock ∧ some k_ ≠ (v838 : Value).ownBlock) v832 t831) := ⟨h1_⟩
           have HO836 : Aside0 (Kd.R (Kd.int .u8) 5 w33 w.heap.size (fun k_ => some k_ ≠ (.slice Ao25 t825.length co25 : Value).ownBlock ∧ some k_ ≠ (v832 : Value).ownBlock ∧ some k_ ≠ (v838 : Value).ownBlock) v835 y834) := ⟨h2_⟩
           have HO839 : Aside0 (Kd.R (Kd.int .u8) 5 w33 w.heap.size (fun k_ => some k_ ≠ (.slice Ao25 t825.length co25 : Value).ownBlock ∧ some k_ ≠ (v832 : Value).ownBlock ∧ some k_ ≠ (v835 : Value).ownBlock) v838 y837) := ⟨h3_⟩
           replace BK821 : Aside0 (w33.heap[gb821]? = some (.cells #[.int .u8 a0_0, .int .u32 a0_1, .int .u32 a0_2, .int .i64 a0_3, .int .i64 a0_4, .int .u8 a0_5, .int .u16 a0_6] 61 (0, 0))) := ⟨h4_⟩
           replace HB : Aside0 (Below w.heap.size w w33) := ⟨h5_⟩
           clear HO830 h0_ h1_ h2_ h3_ h4_ h5_
           have hHeld : w33.cell? ⟨gb821, 0, none⟩ = some (.int .u8 a0_0) ∧ w33.cell? ⟨gb821, 1, none⟩ = some (.int .u32 a0_1) ∧ w33.cell? ⟨gb821, 2, none⟩ = some (.int .u32 a0_2) ∧ w33.cell? ⟨gb821, 3, none⟩ = some (.int .i64 a0_3) ∧ w33.cell? ⟨gb821, 4, none⟩ = some (.int .i64 a0_4) ∧ w33.cell? ⟨gb821, 5, none⟩ = some (.int .u8 a0_5) ∧ w33.cell? ⟨gb821, 6, none⟩ = some (.int .u16 a0_6) := hS_
           obtain ⟨Ao35, co35, eo35⟩ := Kd.R_slice HO839.out
           (first | subst eo35 | (injection eo35 with f1_ f2_ f3_; have f4_ := f1_.symm; have f5_ := f3_.symm; clear f1_ f2_ f3_; subst f4_; subst f5_))
           refine norm_ (a' := ?_) ?_ ?_
           rotate_left
           ·simp only [putAll, Act.put, q1_, q2_, q3_]
            rfl
           refine one_ (i := 11) (N := some 29) (fl 13 4095) rfl rfl (one_of HT_.out (by kernel_rfl)) (by decide) (fun K hK => ?_)
           refine Kd.R_append_rows_step (Kd.int .u8) (w0 := w) w.heap.size (by rfl) (.tmp 23) (.tmp 28) 22 5 (.int .u8 0) 1 rfl Try.underlying22 info5 rfl (by decide) (by omega) v835 y834 y837 _ _ _ (fun k_ => some k_ ≠ (.slice Ao25 t825.length co25 : Value).ownBlock ∧ some k_ ≠ (v832 : Value).ownBlock ∧ some k_ ≠ (.slice Ao35 y837.length co35 : Value).ownBlock) (fun _ => False) rfl rfl ?aO ?aR (fun _ _ h => h) (fun _ h => h.elim) ?aF ?aB ?aS ?aL ?_
           (case aR => repeat (first | exact (Kd.R_reads' HO839.out).2.2 | (with_reducible refine Kd.C_alloc ?_ _) | (with_reducible refine Kd.C_drewN ?_ _) | (with_reducible refine Kd.C_drew ?_)))
           (case aB => exact (tB HB.out))
           (case aF => exact (fun k_ hk => ⟨Kd.fresh' (Kd.R_lt (tR HO827.out)) k_ hk, Kd.fresh' (Kd.R_lt (tR HO833.out)) k_ hk, Kd.fresh' (Kd.R_lt (tR HO839.out)) k_ hk⟩))
           (case aO => exact (tR HO836.out))
           (case aS => exact (below_size (tB HB.out)))
           (case aL => have := LMc9.out; omega)
           intro v841 w34 ho hb hg hat
           rw [← Ny840.out] at ho
           have n0_ := aS (blk_grown (g := gb821) (o := .cells #[.int .u8 a0_0, .int .u32 a0_1, .int .u32 a0_2, .int .i64 a0_3, .int .i64 a0_4, .int .u8 a0_5, .int .u16 a0_6] 61 (0, 0)) (tk BK821.out) hg (Kd.R_ne HO836.out BK821.out (by decide)))
           have n1_ := aS (Kd.R_after (ok := (fun k_ => some k_ ≠ (v832 : Value).ownBlock ∧ some k_ ≠ (.slice Ao35 y837.length co35 : Value).ownBlock)) (tR (Kd.R_mono HO827.out (fun _ hk => ⟨⟨hk.1, hk.2.2⟩, hk.2.1⟩))) hg hat)
           have n2_ := aS (Kd.R_after (ok := (fun k_ => some k_ ≠ (.slice Ao25 t825.length co25 : Value).ownBlock ∧ some k_ ≠ (.slice Ao35 y837.length co35 : Value).ownBlock)) (tR (Kd.R_mono HO833.out (fun _ hk => ⟨⟨hk.1, hk.2.2⟩, hk.2.1⟩))) hg hat)
           have n3_ := aS (Kd.R_after (ok := (fun k_ => some k_ ≠ (.slice Ao25 t825.length co25 : Value).ownBlock ∧ some k_ ≠ (v832 : Value).ownBlock)) (tR (Kd.R_mono HO839.out (fun _ hk => ⟨⟨hk.1, hk.2.1⟩, hk.2.2⟩))) hg hat)
           have n4_ := aS (hb)
           have n5_ := aS (ho)
           clear BK821 HO827 HO833 HO839 HB HO836; have BK821 := n0_; have HO827 := n1_; have HO833 := n2_; have HO839 := n3_; have HB := n4_; have HO842 := n5_; clear n0_ n1_ n2_ n3_ n4_ n5_ ho hb hg hat
           refine hK.out _ _ ⟨(blk_cell BK821.out 0).trans rfl, (blk_cell BK821.out 1).trans rfl, (blk_cell BK821.out 2).trans rfl, (blk_cell BK821.out 3).trans rfl, (blk_cell BK821.out 4).trans rfl, (blk_cell BK821.out 5).trans rfl, (blk_cell BK821.out 6).trans rfl⟩ (fun hHeld => ?_)
           clear hK K
           refine norm_ (a' := ?_) ?_ ?_
           rotate_left
           ·show Act.put _ (some 29) _ = _
            simp only [Act.put, q1_, q2_, q3_, i64_w, i32_w]
            rfl
           refine pure_ (i := 12) (N := some 6) (v := ?_) (a' := ?_) (fl 13 8191) rfl rfl (any_of HT_.out (by kernel_rfl)) (fun _ _ _ h => h) (Or.inl ⟨by rfl, ?_⟩) ?_ ?_
           rotate_left; (· intro w'; go_simp; with_reducible rfl); rotate_left; (· simp only [Act.put, q1_, q2_, q3_, i64_w, i32_w]; rfl)
           refine done_ (done_of HT_.out (by kernel_rfl)) ?_
           try go_wp2
           replace HO827 := aS (Kd.R_drew HO827.out)
           replace HO833 := aS (Kd.R_drew HO833.out)
           replace HO839 := aS (Kd.R_drew HO839.out)
           replace HO842 := aS (Kd.R_drew HO842.out)
           replace BK821 := aS (blk_drew BK821.out)
           replace HB := aS (below_drew1 HB.out)
           refine start_ (n := 8) (S := fun w' => w'.cell? ⟨gb821, 0, none⟩ = some (.int .u8 a0_0) ∧ w'.cell? ⟨gb821, 1, none⟩ = some (.int .u32 a0_1) ∧ w'.cell? ⟨gb821, 2, none⟩ = some (.int .u32 a0_2) ∧ w'.cell? ⟨gb821, 3, none⟩ = some (.int .i64 a0_3) ∧ w'.cell? ⟨gb821, 4, none⟩ = some (.int .i64 a0_4) ∧ w'.cell? ⟨gb821, 5, none⟩ = some (.int .u8 a0_5) ∧ w'.cell? ⟨gb821, 6, none⟩ = some (.int .u16 a0_6)) (ds := []) #[false, false, false, false, false, false, false, false] (by kernel_rfl) rfl rfl ⟨(blk_cell BK821.out 0).trans rfl, (blk_cell BK821.out 1).trans rfl, (blk_cell BK821.out 2).trans rfl, (blk_cell BK821.out 3).trans rfl, (blk_cell BK821.out 4).trans rfl, (blk_cell BK821.out 5).trans rfl, (blk_cell BK821.out 6).trans rfl⟩ (fun hHeld => ?_); refine with_tabW mantletref04_Build.tab5 mantletref04_Build.bits5 (fun HT_ HW_ => ?_)
           generalize w34.drew = w36 at HO827 HO833 HO839 HO842 BK821 HB hHeld ⊢
           refine pure_ (i := 0) (N := some 30) (v := ?_) (a' := ?_) (fl 8 1) rfl rfl (any_of HT_.out (by kernel_rfl)) (fun _ _ _ h => h) (Or.inl ⟨by rfl, ?_⟩) ?_ ?_
           rotate_left; (· intro w'; go_simp; with_reducible rfl); rotate_left; (· simp only [Act.put, q1_, q2_, q3_, i64_w, i32_w]; rfl)
           refine pure_ (i := 3) (N := some 33) (v := ?_) (a' := ?_) (fl 8 9) rfl rfl (any_of HT_.out (by kernel_rfl)) (fun _ _ _ h => h) (Or.inl ⟨by rfl, ?_⟩) ?_ ?_
           rotate_left; (· intro w'; go_simp; with_reducible rfl); rotate_left; (· simp only [Act.put, q1_, q2_, q3_, i64_w, i32_w]; rfl)
           refine take_ (i := 1) (N := some 31) (v := ?_) (a' := ?_) (fl 8 11) rfl rfl (take_ofW HT_.out HW_.out (by kernel_rfl)) (fun _ _ _ h => h) (Or.inl ⟨by rfl, ?_⟩) hHeld ?_ ?_
           rotate_left; (· rintro w' ⟨s0, s1, s2, s3, s4, s5, s6⟩; go_simp; with_reducible rfl); rotate_left; (· simp only [Act.put, q1_, q2_, q3_, i64_w, i32_w]; rfl)
           refine take_ (i := 4) (N := some 34) (v := ?_) (a' := ?_) (fl 8 27) rfl rfl (take_ofW HT_.out HW_.out (by kernel_rfl)) (fun _ _ _ h => h) (Or.inl ⟨by rfl, ?_⟩) hHeld ?_ ?_
           rotate_left; (· rintro w' ⟨s0, s1, s2, s3, s4, s5, s6⟩; go_simp; with_reducible rfl); rotate_left; (· simp only [Act.put, q1_, q2_, q3_, i64_w, i32_w]; rfl)
           refine one_ (i := 2) (N := some 32) (fl 8 31) rfl rfl (one_of HT_.out (by kernel_rfl)) (by decide) (fun K hK => ?_)
           refine goes_ Try.func73 (by kernel_rfl) rfl #[.int .u32 a0_1] (by rfl) rfl rfl (by (try simp only [List.map_toArray, List.map_cons, List.map_nil]); first | done | rfl) ?_
           with_reducible refine (mantletref04_Wide.calls a0_1 t843 _ A10.out).mono ?_
           rintro e w37 ⟨v844, rfl, ho0, hb⟩; refine ⟨_, rfl, ?_⟩
           have HO845 := aS (Kd.R_lower (Kd.R_new' (Kd.R_new' (Kd.R_new' (Kd.R_new' ho0 (Kd.R_lt (tR HO827.out))) (Kd.R_lt (tR HO833.out))) (Kd.R_lt (tR HO839.out))) (Kd.R_lt (tR HO842.out))) (below_size (tB HB.out)))
           replace HO827 := aS (Kd.R_elder' (tR HO827.out) (Kd.R_base ho0) hb)
           replace HO833 := aS (Kd.R_elder' (tR HO833.out) (Kd.R_base ho0) hb)
           replace HO839 := aS (Kd.R_elder' (tR HO839.out) (Kd.R_base ho0) hb)
           replace HO842 := aS (Kd.R_elder' (tR HO842.out) (Kd.R_base ho0) hb)
           replace BK821 := aS (blk_below (g := gb821) (o := .cells #[.int .u8 a0_0, .int .u32 a0_1, .int .u32 a0_2, .int .i64 a0_3, .int .i64 a0_4, .int .u8 a0_5, .int .u16 a0_6] 61 (0, 0)) (tk BK821.out) hb)
           replace HB := aS (below_step (tB HB.out) hb)
           (try clear hb); (try clear hb2); (try clear hk); (try clear hi); (try clear ho0)
           refine hK.out _ _ ⟨(blk_cell BK821.out 0).trans rfl, (blk_cell BK821.out 1).trans rfl, (blk_cell BK821.out 2).trans rfl, (blk_cell BK821.out 3).trans rfl, (blk_cell BK821.out 4).trans rfl, (blk_cell BK821.out 5).trans rfl, (blk_cell BK821.out 6).trans rfl⟩ (fun hHeld => ?_)
           clear hK K
           refine norm_ (a' := ?_) ?_ ?_
           rotate_left
           ·show Act.put _ (some 32) _ = _
            simp only [Act.put, q1_, q2_, q3_, i64_w, i32_w]
            rfl
           refine one_ (i := 5) (N := some 35) (fl 8 63) rfl rfl (one_of HT_.out (by kernel_rfl)) (by decide) (fun K hK => ?_)
           refine goes_ Try.func73 (by kernel_rfl) rfl #[.int .u32 a0_2] (by rfl) rfl rfl (by (try simp only [List.map_toArray, List.map_cons, List.map_nil]); first | done | rfl) ?_
           with_reducible refine (mantletref04_Wide.calls a0_2 t846 _ A11.out).mono ?_
           rintro e w38 ⟨v847, rfl, ho0, hb⟩; refine ⟨_, rfl, ?_⟩
           have HO848 := aS (Kd.R_lower (Kd.R_new' (Kd.R_new' (Kd.R_new' (Kd.R_new' (Kd.R_new' ho0 (Kd.R_lt (tR HO827.out))) (Kd.R_lt (tR HO833.out))) (Kd.R_lt (tR HO839.out))) (Kd.R_lt (tR HO842.out))) (Kd.R_lt (tR HO845.out))) (below_size (tB HB.out)))
           replace HO827 := aS (Kd.R_elder' (tR HO827.out) (Kd.R_base ho0) hb)
           replace HO833 := aS (Kd.R_elder' (tR HO833.out) (Kd.R_base ho0) hb)
           replace HO839 := aS (Kd.R_elder' (tR HO839.out) (Kd.R_base ho0) hb)
           replace HO842 := aS (Kd.R_elder' (tR HO842.out) (Kd.R_base ho0) hb)
           replace HO845 := aS (Kd.R_elder' (tR HO845.out) (Kd.R_base ho0) hb)
           replace BK821 := aS (blk_below (g := gb821) (o := .cells #[.int .u8 a0_0, .int .u32 a0_1, .int .u32 a0_2, .int .i64 a0_3, .int .i64 a0_4, .int .u8 a0_5, .int .u16 a0_6] 61 (0, 0)) (tk BK821.out) hb)
           replace HB := aS (below_step (tB HB.out) hb)
           (try clear hb); (try clear hb2); (try clear hk); (try clear hi); (try clear ho0)
           obtain ⟨Ao40, co40, eo40⟩ := Kd.R_slice HO848.out
           (first | subst eo40 | (injection eo40 with f1_ f2_ f3_; have f4_ := f1_.symm; have f5_ := f3_.symm; clear f1_ f2_ f3_; subst f4_; subst f5_))
           refine hK.out _ _ ⟨(blk_cell BK821.out 0).trans rfl, (blk_cell BK821.out 1).trans rfl, (blk_cell BK821.out 2).trans rfl, (blk_cell BK821.out 3).trans rfl, (blk_cell BK821.out 4).trans rfl, (blk_cell BK821.out 5).trans rfl, (blk_cell BK821.out 6).trans rfl⟩ (fun hHeld => ?_)
           clear hK K
           refine norm_ (a' := ?_) ?_ ?_
           rotate_left
           ·show Act.put _ (some 35) _ = _
            simp only [Act.put, q1_, q2_, q3_, i64_w, i32_w]
            rfl
           refine one_ (i := 6) (N := some 36) (fl 8 127) rfl rfl (one_of HT_.out (by kernel_rfl)) (by decide) (fun K hK => ?_)
           refine Kd.R_append_rows_step (Kd.int .u8) (w0 := w) w.heap.size (by rfl) (.tmp 32) (.tmp 35) 22 5 (.int .u8 0) 1 rfl Try.underlying22 info5 rfl (by decide) (by omega) v844 t843 t846 _ _ _ (fun k_ => some k_ ≠ (.slice Ao25 t825.length co25 : Value).ownBlock ∧ some k_ ≠ (v832 : Value).ownBlock ∧ some k_ ≠ (.slice Ao35 y837.length co35 : Value).ownBlock ∧ some k_ ≠ (v841 : Value).ownBlock ∧ some k_ ≠ (.slice Ao40 t846.length co40 : Value).ownBlock) (fun _ => False) rfl rfl ?aO ?aR (fun _ _ h => h) (fun _ h => h.elim) ?aF ?aB ?aS ?aL ?_
           (case aR => repeat (first | exact (Kd.R_reads' HO848.out).2.2 | (with_reducible refine Kd.C_alloc ?_ _) | (with_reducible refine Kd.C_drewN ?_ _) | (with_reducible refine Kd.C_drew ?_)))
           (case aB => exact (tB HB.out))
           (case aF => exact (fun k_ hk => ⟨Kd.fresh' (Kd.R_lt (tR HO827.out)) k_ hk, Kd.fresh' (Kd.R_lt (tR HO833.out)) k_ hk, Kd.fresh' (Kd.R_lt (tR HO839.out)) k_ hk, Kd.fresh' (Kd.R_lt (tR HO842.out)) k_ hk, Kd.fresh' (Kd.R_lt (tR HO848.out)) k_ hk⟩))
           (case aO => exact (tR (Kd.R_mono HO845.out (fun _ hk => ⟨hk.1.1.1.1.2, ⟨hk.1.1.1.2, ⟨hk.1.1.2, ⟨hk.1.2, hk.2⟩⟩⟩⟩))))
           (case aS => exact (below_size (tB HB.out)))
           (case aL => have := LMc12.out; omega)
           intro v850 w39 ho hb hg hat
           rw [← Ny849.out] at ho
           have n0_ := aS (blk_grown (g := gb821) (o := .cells #[.int .u8 a0_0, .int .u32 a0_1, .int .u32 a0_2, .int .i64 a0_3, .int .i64 a0_4, .int .u8 a0_5, .int .u16 a0_6] 61 (0, 0)) (tk BK821.out) hg (Kd.R_ne HO845.out BK821.out (by decide)))
           have n1_ := aS (Kd.R_after (ok := (fun k_ => some k_ ≠ (v832 : Value).ownBlock ∧ some k_ ≠ (.slice Ao35 y837.length co35 : Value).ownBlock ∧ some k_ ≠ (v841 : Value).ownBlock ∧ some k_ ≠ (.slice Ao40 t846.length co40 : Value).ownBlock)) (tR (Kd.R_mono HO827.out (fun _ hk => ⟨⟨hk.1.1.1.1, ⟨hk.1.1.1.2, ⟨hk.1.1.2, hk.2⟩⟩⟩, hk.1.2⟩))) hg hat)
           have n2_ := aS (Kd.R_after (ok := (fun k_ => some k_ ≠ (.slice Ao25 t825.length co25 : Value).ownBlock ∧ some k_ ≠ (.slice Ao35 y837.length co35 : Value).ownBlock ∧ some k_ ≠ (v841 : Value).ownBlock ∧ some k_ ≠ (.slice Ao40 t846.length co40 : Value).ownBlock)) (tR (Kd.R_mono HO833.out (fun _ hk => ⟨⟨hk.1.1.1.1, ⟨hk.1.1.1.2, ⟨hk.1.1.2, hk.2⟩⟩⟩, hk.1.2⟩))) hg hat)
           have n3_ := aS (Kd.R_after (ok := (fun k_ => some k_ ≠ (.slice Ao25 t825.length co25 : Value).ownBlock ∧ some k_ ≠ (v832 : Value).ownBlock ∧ some k_ ≠ (v841 : Value).ownBlock ∧ some k_ ≠ (.slice Ao40 t846.length co40 : Value).ownBlock)) (tR (Kd.R_mono HO839.out (fun _ hk => ⟨⟨hk.1.1.1.1, ⟨hk.1.1.1.2, ⟨hk.1.1.2, hk.2⟩⟩⟩, hk.1.2⟩))) hg hat)
           have n4_ := aS (Kd.R_after (ok := (fun k_ => some k_ ≠ (.slice Ao25 t825.length co25 : Value).ownBlock ∧ some k_ ≠ (v832 : Value).ownBlock ∧ some k_ ≠ (.slice Ao35 y837.length co35 : Value).ownBlock ∧ some k_ ≠ (.slice Ao40 t846.length co40 : Value).ownBlock)) (tR (Kd.R_mono HO842.out (fun _ hk => ⟨⟨hk.1.1.1, ⟨hk.1.1.2.1, ⟨hk.1.1.2.2, hk.2⟩⟩⟩, hk.1.2⟩))) hg hat)
           have n5_ := aS (Kd.R_after (ok := (fun k_ => some k_ ≠ (.slice Ao25 t825.length co25 : Value).ownBlock ∧ some k_ ≠ (v832 : Value).ownBlock ∧ some k_ ≠ (.slice Ao35 y837.length co35 : Value).ownBlock ∧ some k_ ≠ (v841 : Value).ownBlock)) (tR (Kd.R_mono HO848.out (fun _ hk => ⟨⟨hk.1.1.1.1.2, ⟨hk.1.1.1.2, ⟨hk.1.1.2, hk.1.2⟩⟩⟩, hk.2⟩))) hg hat)
           have n6_ := aS (hb)
           have n7_ := aS (ho)
           clear BK821 HO827 HO833 HO839 HO842 HO848 HB HO845; have BK821 := n0_; have HO827 := n1_; have HO833 := n2_; have HO839 := n3_; have HO842 := n4_; have HO848 := n5_; have HB := n6_; have HO851 := n7_; clear n0_ n1_ n2_ n3_ n4_ n5_ n6_ n7_ ho hb hg hat
           refine hK.out _ _ ⟨(blk_cell BK821.out 0).trans rfl, (blk_cell BK821.out 1).trans rfl, (blk_cell BK821.out 2).trans rfl, (blk_cell BK821.out 3).trans rfl, (blk_cell BK821.out 4).trans rfl, (blk_cell BK821.out 5).trans rfl, (blk_cell BK821.out 6).trans rfl⟩ (fun hHeld => ?_)
           clear hK K
           refine norm_ (a' := ?_) ?_ ?_
           rotate_left
           ·show Act.put _ (some 36) _ = _
            simp only [Act.put, q1_, q2_, q3_, i64_w, i32_w]
            rfl
           refine pure_ (i := 7) (N := some 7) (v := ?_) (a' := ?_) (fl 8 255) rfl rfl (any_of HT_.out (by kernel_rfl)) (fun _ _ _ h => h) (Or.inl ⟨by rfl, ?_⟩) ?_ ?_
           rotate_left; (· intro w'; go_simp; with_reducible rfl); rotate_left; (· simp only [Act.put, q1_, q2_, q3_, i64_w, i32_w]; rfl)
           refine done_ (done_of HT_.out (by kernel_rfl)) ?_
           try go_wp2_with (first | ((with_reducible refine gate_dst (N := 37) rfl ?_); refine Kd.R_lit (Kd.int .u8) _ 5 ?hg (N := 37) ?hd (xs := ([] : List Int)) (inner := []) (ok := fun _ => True) (okp := fun _ => True) ?hr ?hp (fun _ hk => hk) trivial (Below.refl _ _) (Nat.le_refl _) (by simp) ?_; (case hd => rfl); (case hg => rfl); (case hr => first | (go_simp; done) | (go_simp; rfl)); (case hp => exact (Reps.none _ _)); intro v853 w41 ho42 hb hg_ hnew_; clear hg_ hnew_; (first | rw [← Ny852.out] at ho42 | (simp only [Int.reduceToNat] at ho42; rw [← Ny852.out] at ho42)); have HO854 := aS (Kd.R_lower (Kd.R_new' (Kd.R_new' (Kd.R_new' (Kd.R_new' (Kd.R_new' (Kd.R_new' ho42 (Kd.R_lt (tR HO827.out))) (Kd.R_lt (tR HO833.out))) (Kd.R_lt (tR HO839.out))) (Kd.R_lt (tR HO842.out))) (Kd.R_lt (tR HO848.out))) (Kd.R_lt (tR HO851.out))) (below_size (tB HB.out))); replace HO827 := aS (Kd.R_elder' (tR HO827.out) (Kd.R_base ho42) hb); replace HO833 := aS (Kd.R_elder' (tR HO833.out) (Kd.R_base ho42) hb); replace HO839 := aS (Kd.R_elder' (tR HO839.out) (Kd.R_base ho42) hb); replace HO842 := aS (Kd.R_elder' (tR HO842.out) (Kd.R_base ho42) hb); replace HO848 := aS (Kd.R_elder' (tR HO848.out) (Kd.R_base ho42) hb); replace HO851 := aS (Kd.R_elder' (tR HO851.out) (Kd.R_base ho42) hb); replace BK821 := aS (blk_below (g := gb821) (o := .cells #[.int .u8 a0_0, .int .u32 a0_1, .int .u32 a0_2, .int .i64 a0_3, .int .i64 a0_4, .int .u8 a0_5, .int .u16 a0_6] 61 (0, 0)) (tk BK821.out) hb); replace HB := aS (below_step (tB HB.out) hb); clear hb ho42; obtain ⟨Ao44, co44, eo44⟩ := Kd.R_slice HO842.out; subst eo44) | ((with_reducible refine gate_builtin (b := .append) (xs := #[.tmp 37, .tmp 38]) rfl ?_); at_builtin; refine Kd.R_append_rows (Kd.int .u8) (w0 := w) w.heap.size rfl (.tmp 37) (.tmp 38) 22 5 (.int .u8 0) 1 rfl Try.underlying22 info5 rfl (by decide) (by omega) v853 y852 y840 _ _ _ (fun k_ => some k_ ≠ (.slice Ao25 t825.length co25 : Value).ownBlock ∧ some k_ ≠ (v832 : Value).ownBlock ∧ some k_ ≠ (.slice Ao35 y837.length co35 : Value).ownBlock ∧ some k_ ≠ (.slice Ao44 y840.length co44 : Value).ownBlock ∧ some k_ ≠ (.slice Ao40 t846.length co40 : Value).ownBlock ∧ some k_ ≠ (v850 : Value).ownBlock) (fun _ => False) rfl rfl ?aO ?aR (fun _ _ h => h) (fun _ h => h.elim) ?aF ?aB ?aS ?aL ?_; (case aR => repeat (first | exact (Kd.R_reads' HO842.out).2.2 | (with_reducible refine Kd.C_alloc ?_ _) | (with_reducible refine Kd.C_drewN ?_ _) | (with_reducible refine Kd.C_drew ?_))); (case aB => exact (tB HB.out)); (case aF => exact (fun k_ hk => ⟨Kd.fresh' (Kd.R_lt (tR HO827.out)) k_ hk, Kd.fresh' (Kd.R_lt (tR HO833.out)) k_ hk, Kd.fresh' (Kd.R_lt (tR HO839.out)) k_ hk, Kd.fresh' (Kd.R_lt (tR HO842.out)) k_ hk, Kd.fresh' (Kd.R_lt (tR HO848.out)) k_ hk, Kd.fresh' (Kd.R_lt (tR HO851.out)) k_ hk⟩)); (case aO => exact (tR (Kd.R_mono HO854.out (fun _ hk => ⟨hk.1.1.1.1.1.2, ⟨hk.1.1.1.1.2, ⟨hk.1.1.1.2, ⟨hk.1.1.2, ⟨hk.1.2, hk.2⟩⟩⟩⟩⟩)))); (case aS => exact (below_size (tB HB.out))); (case aL => have := LMc13.out; omega); intro v856 w43 ho hb hg hat; rw [← Ny855.out] at ho; replace BK821 := aS (blk_grown (g := gb821) (o := .cells #[.int .u8 a0_0, .int .u32 a0_1, .int .u32 a0_2, .int .i64 a0_3, .int .i64 a0_4, .int .u8 a0_5, .int .u16 a0_6] 61 (0, 0)) (tk BK821.out) hg (Kd.R_ne HO854.out BK821.out (by decide))); replace HO827 := aS (Kd.R_after (ok := (fun k_ => some k_ ≠ (v832 : Value).ownBlock ∧ some k_ ≠ (.slice Ao35 y837.length co35 : Value).ownBlock ∧ some k_ ≠ (.slice Ao44 y840.length co44 : Value).ownBlock ∧ some k_ ≠ (.slice Ao40 t846.length co40 : Value).ownBlock ∧ some k_ ≠ (v850 : Value).ownBlock)) (tR (Kd.R_mono HO827.out (fun _ hk => ⟨⟨hk.1.1.1, ⟨hk.1.1.2.1, ⟨hk.1.1.2.2.1, ⟨hk.1.1.2.2.2, hk.1.2⟩⟩⟩⟩, hk.2⟩))) hg hat); replace HO833 := aS (Kd.R_after (ok := (fun k_ => some k_ ≠ (.slice Ao25 t825.length co25 : Value).ownBlock ∧ some k_ ≠ (.slice Ao35 y837.length co35 : Value).ownBlock ∧ some k_ ≠ (.slice Ao44 y840.length co44 : Value).ownBlock ∧ some k_ ≠ (.slice Ao40 t846.length co40 : Value).ownBlock ∧ some k_ ≠ (v850 : Value).ownBlock)) (tR (Kd.R_mono HO833.out (fun _ hk => ⟨⟨hk.1.1.1, ⟨hk.1.1.2.1, ⟨hk.1.1.2.2.1, ⟨hk.1.1.2.2.2, hk.1.2⟩⟩⟩⟩, hk.2⟩))) hg hat); replace HO839 := aS (Kd.R_after (ok := (fun k_ => some k_ ≠ (.slice Ao25 t825.length co25 : Value).ownBlock ∧ some k_ ≠ (v832 : Value).ownBlock ∧ some k_ ≠ (.slice Ao44 y840.length co44 : Value).ownBlock ∧ some k_ ≠ (.slice Ao40 t846.length co40 : Value).ownBlock ∧ some k_ ≠ (v850 : Value).ownBlock)) (tR (Kd.R_mono HO839.out (fun _ hk => ⟨⟨hk.1.1.1, ⟨hk.1.1.2.1, ⟨hk.1.1.2.2.1, ⟨hk.1.1.2.2.2, hk.1.2⟩⟩⟩⟩, hk.2⟩))) hg hat); replace HO842 := aS (Kd.R_after (ok := (fun k_ => some k_ ≠ (.slice Ao25 t825.length co25 : Value).ownBlock ∧ some k_ ≠ (v832 : Value).ownBlock ∧ some k_ ≠ (.slice Ao35 y837.length co35 : Value).ownBlock ∧ some k_ ≠ (.slice Ao40 t846.length co40 : Value).ownBlock ∧ some k_ ≠ (v850 : Value).ownBlock)) (tR (Kd.R_mono HO842.out (fun _ hk => ⟨⟨hk.1.1.1, ⟨hk.1.1.2.1, ⟨hk.1.1.2.2.1, ⟨hk.1.1.2.2.2, hk.1.2⟩⟩⟩⟩, hk.2⟩))) hg hat); replace HO848 := aS (Kd.R_after (ok := (fun k_ => some k_ ≠ (.slice Ao25 t825.length co25 : Value).ownBlock ∧ some k_ ≠ (v832 : Value).ownBlock ∧ some k_ ≠ (.slice Ao35 y837.length co35 : Value).ownBlock ∧ some k_ ≠ (.slice Ao44 y840.length co44 : Value).ownBlock ∧ some k_ ≠ (v850 : Value).ownBlock)) (tR (Kd.R_mono HO848.out (fun _ hk => ⟨⟨hk.1.1.1, ⟨hk.1.1.2.1, ⟨hk.1.1.2.2.1, ⟨hk.1.1.2.2.2, hk.1.2⟩⟩⟩⟩, hk.2⟩))) hg hat); replace HO851 := aS (Kd.R_after (ok := (fun k_ => some k_ ≠ (.slice Ao25 t825.length co25 : Value).ownBlock ∧ some k_ ≠ (v832 : Value).ownBlock ∧ some k_ ≠ (.slice Ao35 y837.length co35 : Value).ownBlock ∧ some k_ ≠ (.slice Ao44 y840.length co44 : Value).ownBlock ∧ some k_ ≠ (.slice Ao40 t846.length co40 : Value).ownBlock)) (tR HO851.out) hg hat); replace HB := aS (hb); have HO857 := aS (ho); clear HO854; clear ho hb hg hat; obtain ⟨Ao46, co46, eo46⟩ := Kd.R_slice HO851.out; subst eo46) | ((with_reducible refine gate_builtin (b := .append) (xs := #[.tmp 39, .tmp 40]) rfl ?_); at_builtin; refine Kd.R_append_rows (Kd.int .u8) (w0 := w) w.heap.size rfl (.tmp 39) (.tmp 40) 22 5 (.int .u8 0) 1 rfl Try.underlying22 info5 rfl (by decide) (by omega) v856 y855 y849 _ _ _ (fun k_ => some k_ ≠ (.slice Ao25 t825.length co25 : Value).ownBlock ∧ some k_ ≠ (v832 : Value).ownBlock ∧ some k_ ≠ (.slice Ao35 y837.length co35 : Value).ownBlock ∧ some k_ ≠ (.slice Ao44 y840.length co44 : Value).ownBlock ∧ some k_ ≠ (.slice Ao40 t846.length co40 : Value).ownBlock ∧ some k_ ≠ (.slice Ao46 y849.length co46 : Value).ownBlock) (fun _ => False) rfl rfl ?aO ?aR (fun _ _ h => h) (fun _ h => h.elim) ?aF ?aB ?aS ?aL ?_; (case aR => repeat (first | exact (Kd.R_reads' HO851.out).2.2 | (with_reducible refine Kd.C_alloc ?_ _) | (with_reducible refine Kd.C_drewN ?_ _) | (with_reducible refine Kd.C_drew ?_))); (case aB => exact (tB HB.out)); (case aF => exact (fun k_ hk => ⟨Kd.fresh' (Kd.R_lt (tR HO827.out)) k_ hk, Kd.fresh' (Kd.R_lt (tR HO833.out)) k_ hk, Kd.fresh' (Kd.R_lt (tR HO839.out)) k_ hk, Kd.fresh' (Kd.R_lt (tR HO842.out)) k_ hk, Kd.fresh' (Kd.R_lt (tR HO848.out)) k_ hk, Kd.fresh' (Kd.R_lt (tR HO851.out)) k_ hk⟩)); (case aO => exact (tR HO857.out)); (case aS => exact (below_size (tB HB.out))); (case aL => have := LMc14.out; omega); intro v859 w45 ho hb hg hat; rw [← Ny858.out] at ho; replace BK821 := aS (blk_grown (g := gb821) (o := .cells #[.int .u8 a0_0, .int .u32 a0_1, .int .u32 a0_2, .int .i64 a0_3, .int .i64 a0_4, .int .u8 a0_5, .int .u16 a0_6] 61 (0, 0)) (tk BK821.out) hg (Kd.R_ne HO857.out BK821.out (by decide))); replace HO827 := aS (Kd.R_after (ok := (fun k_ => some k_ ≠ (v832 : Value).ownBlock ∧ some k_ ≠ (.slice Ao35 y837.length co35 : Value).ownBlock ∧ some k_ ≠ (.slice Ao44 y840.length co44 : Value).ownBlock ∧ some k_ ≠ (.slice Ao40 t846.length co40 : Value).ownBlock ∧ some k_ ≠ (.slice Ao46 y849.length co46 : Value).ownBlock)) (tR HO827.out) hg hat); replace HO833 := aS (Kd.R_after (ok := (fun k_ => some k_ ≠ (.slice Ao25 t825.length co25 : Value).ownBlock ∧ some k_ ≠ (.slice Ao35 y837.length co35 : Value).ownBlock ∧ some k_ ≠ (.slice Ao44 y840.length co44 : Value).ownBlock ∧ some k_ ≠ (.slice Ao40 t846.length co40 : Value).ownBlock ∧ some k_ ≠ (.slice Ao46 y849.length co46 : Value).ownBlock)) (tR HO833.out) hg hat); replace HO839 := aS (Kd.R_after (ok := (fun k_ => some k_ ≠ (.slice Ao25 t825.length co25 : Value).ownBlock ∧ some k_ ≠ (v832 : Value).ownBlock ∧ some k_ ≠ (.slice Ao44 y840.length co44 : Value).ownBlock ∧ some k_ ≠ (.slice Ao40 t846.length co40 : Value).ownBlock ∧ some k_ ≠ (.slice Ao46 y849.length co46 : Value).ownBlock)) (tR HO839.out) hg hat); replace HO842 := aS (Kd.R_after (ok := (fun k_ => some k_ ≠ (.slice Ao25 t825.length co25 : Value).ownBlock ∧ some k_ ≠ (v832 : Value).ownBlock ∧ some k_ ≠ (.slice Ao35 y837.length co35 : Value).ownBlock ∧ some k_ ≠ (.slice Ao40 t846.length co40 : Value).ownBlock ∧ some k_ ≠ (.slice Ao46 y849.length co46 : Value).ownBlock)) (tR HO842.out) hg hat); replace HO848 := aS (Kd.R_after (ok := (fun k_ => some k_ ≠ (.slice Ao25 t825.length co25 : Value).ownBlock ∧ some k_ ≠ (v832 : Value).ownBlock ∧ some k_ ≠ (.slice Ao35 y837.length co35 : Value).ownBlock ∧ some k_ ≠ (.slice Ao44 y840.length co44 : Value).ownBlock ∧ some k_ ≠ (.slice Ao46 y849.length co46 : Value).ownBlock)) (tR HO848.out) hg hat); replace HO851 := aS (Kd.R_after (ok := (fun k_ => some k_ ≠ (.slice Ao25 t825.length co25 : Value).ownBlock ∧ some k_ ≠ (v832 : Value).ownBlock ∧ some k_ ≠ (.slice Ao35 y837.length co35 : Value).ownBlock ∧ some k_ ≠ (.slice Ao44 y840.length co44 : Value).ownBlock ∧ some k_ ≠ (.slice Ao40 t846.length co40 : Value).ownBlock)) (tR HO851.out) hg hat); replace HB := aS (hb); have HO860 := aS (ho); clear HO857; clear ho hb hg hat; obtain ⟨Ao47, co47, eo47⟩ := Kd.R_slice HO860.out; subst eo47) | ((with_reducible refine gate_callee (f := 65) rfl ?_); refine goesL_ (some 42) rfl rfl Try.func65 (by kernel_rfl) rfl #[.int .i64 0, .slice Ao47 y858.length co47] rfl (by (try simp only [List.map_toArray, List.map_cons, List.map_nil]); first | done | rfl) ?_; (with_reducible refine (mantletref02_Add.calls k 0 _ _ y858 t861 _ ?side1 ?side2 A15.out).mono ?_); (case side1 => repeat (first | exact (Kd.R_reads' HO860.out).2.2 | (with_reducible refine Kd.C_alloc ?_ _) | (with_reducible refine Kd.C_drewN ?_ _) | (with_reducible refine Kd.C_drew ?_))); (case side2 => exact (Kd.R_reads' HO860.out).2.1); rintro e w' ⟨rfl, ⟨nd, rfl⟩⟩; refine ⟨_, rfl, ?_⟩) | ((with_reducible refine gate_callee (f := 71) rfl ?_); refine goesL_ (some 46) rfl rfl Try.func71 (by kernel_rfl) rfl #[.int .i64 (wrap64 (65535 - t861))] rfl (by (try simp only [List.map_toArray, List.map_cons, List.map_nil]); first | done | rfl) ?_; (with_reducible refine (mantletref04_Put.calls (wrap64 (65535 - t861)) t862 _ A16.out).mono ?_); rintro e w48 ⟨v863, rfl, ho0, hb⟩; refine ⟨_, rfl, ?_⟩; have HO864 := aS (Kd.R_lower (Kd.R_new' (Kd.R_new' (Kd.R_new' (Kd.R_new' (Kd.R_new' (Kd.R_new' (Kd.R_new' ho0 (Kd.R_lt (tR HO827.out))) (Kd.R_lt (tR HO833.out))) (Kd.R_lt (tR HO839.out))) (Kd.R_lt (tR HO842.out))) (Kd.R_lt (tR HO848.out))) (Kd.R_lt (tR HO851.out))) (Kd.R_lt (tR HO860.out))) (below_size (tB HB.out))); replace HO827 := aS (Kd.R_elder' (tR HO827.out) (Kd.R_base ho0) hb); replace HO833 := aS (Kd.R_elder' (tR HO833.out) (Kd.R_base ho0) hb); replace HO839 := aS (Kd.R_elder' (tR HO839.out) (Kd.R_base ho0) hb); replace HO842 := aS (Kd.R_elder' (tR HO842.out) (Kd.R_base ho0) hb); replace HO848 := aS (Kd.R_elder' (tR HO848.out) (Kd.R_base ho0) hb); replace HO851 := aS (Kd.R_elder' (tR HO851.out) (Kd.R_base ho0) hb); replace HO860 := aS (Kd.R_elder' (tR HO860.out) (Kd.R_base ho0) hb); replace BK821 := aS (blk_below (g := gb821) (o := .cells #[.int .u8 a0_0, .int .u32 a0_1, .int .u32 a0_2, .int .i64 a0_3, .int .i64 a0_4, .int .u8 a0_5, .int .u16 a0_6] 61 (0, 0)) (tk BK821.out) hb); replace HB := aS (below_step (tB HB.out) hb); (try clear hb); (try clear hb2); (try clear hk); (try clear hi); (try clear ho0); obtain ⟨Ao50, co50, eo50⟩ := Kd.R_slice HO864.out; subst eo50) | ((with_reducible refine gate_builtin (b := .append) (xs := #[.tmp 44, .tmp 46]) rfl ?_); at_builtin; refine Kd.R_append_rows (Kd.int .u8) (w0 := w) w.heap.size rfl (.tmp 44) (.tmp 46) 22 5 (.int .u8 0) 1 rfl Try.underlying22 info5 rfl (by decide) (by omega) (.slice Ao44 y840.length co44) y840 t862 _ _ _ (fun k_ => some k_ ≠ (.slice Ao25 t825.length co25 : Value).ownBlock ∧ some k_ ≠ (v832 : Value).ownBlock ∧ some k_ ≠ (.slice Ao35 y837.length co35 : Value).ownBlock ∧ some k_ ≠ (.slice Ao40 t846.length co40 : Value).ownBlock ∧ some k_ ≠ (.slice Ao46 y849.length co46 : Value).ownBlock ∧ some k_ ≠ (.slice Ao47 y858.length co47 : Value).ownBlock ∧ some k_ ≠ (.slice Ao50 t862.length co50 : Value).ownBlock) (fun _ => False) rfl rfl ?aO ?aR (fun _ _ h => h) (fun _ h => h.elim) ?aF ?aB ?aS ?aL ?_; (case aR => repeat (first | exact (Kd.R_reads' HO864.out).2.2 | (with_reducible refine Kd.C_alloc ?_ _) | (with_reducible refine Kd.C_drewN ?_ _) | (with_reducible refine Kd.C_drew ?_))); (case aB => exact (tB HB.out)); (case aF => exact (fun k_ hk => ⟨Kd.fresh' (Kd.R_lt (tR HO827.out)) k_ hk, Kd.fresh' (Kd.R_lt (tR HO833.out)) k_ hk, Kd.fresh' (Kd.R_lt (tR HO839.out)) k_ hk, Kd.fresh' (Kd.R_lt (tR HO848.out)) k_ hk, Kd.fresh' (Kd.R_lt (tR HO851.out)) k_ hk, Kd.fresh' (Kd.R_lt (tR HO860.out)) k_ hk, Kd.fresh' (Kd.R_lt (tR HO864.out)) k_ hk⟩)); (case aO => exact (tR (Kd.R_mono HO842.out (fun _ hk => ⟨hk.1.1.1, ⟨hk.1.1.2.1, ⟨hk.1.1.2.2.1, ⟨hk.1.1.2.2.2.1, ⟨hk.1.1.2.2.2.2, ⟨hk.1.2, hk.2⟩⟩⟩⟩⟩⟩)))); (case aS => exact (below_size (tB HB.out))); (case aL => have := LMc17.out; omega); intro v866 w49 ho hb hg hat; rw [← Ny865.out] at ho; replace BK821 := aS (blk_grown (g := gb821) (o := .cells #[.int .u8 a0_0, .int .u32 a0_1, .int .u32 a0_2, .int .i64 a0_3, .int .i64 a0_4, .int .u8 a0_5, .int .u16 a0_6] 61 (0, 0)) (tk BK821.out) hg (Kd.R_ne HO842.out BK821.out (by decide))); replace HO827 := aS (Kd.R_after (ok := (fun k_ => some k_ ≠ (v832 : Value).ownBlock ∧ some k_ ≠ (.slice Ao35 y837.length co35 : Value).ownBlock ∧ some k_ ≠ (.slice Ao40 t846.length co40 : Value).ownBlock ∧ some k_ ≠ (.slice Ao46 y849.length co46 : Value).ownBlock ∧ some k_ ≠ (.slice Ao47 y858.length co47 : Value).ownBlock ∧ some k_ ≠ (.slice Ao50 t862.length co50 : Value).ownBlock)) (tR (Kd.R_mono HO827.out (fun _ hk => ⟨⟨hk.1.1.1, ⟨hk.1.1.2.1, ⟨hk.1.1.2.2.2.1, ⟨hk.1.1.2.2.2.2, ⟨hk.1.2, hk.2⟩⟩⟩⟩⟩, hk.1.1.2.2.1⟩))) hg hat); replace HO833 := aS (Kd.R_after (ok := (fun k_ => some k_ ≠ (.slice Ao25 t825.length co25 : Value).ownBlock ∧ some k_ ≠ (.slice Ao35 y837.length co35 : Value).ownBlock ∧ some k_ ≠ (.slice Ao40 t846.length co40 : Value).ownBlock ∧ some k_ ≠ (.slice Ao46 y849.length co46 : Value).ownBlock ∧ some k_ ≠ (.slice Ao47 y858.length co47 : Value).ownBlock ∧ some k_ ≠ (.slice Ao50 t862.length co50 : Value).ownBlock)) (tR (Kd.R_mono HO833.out (fun _ hk => ⟨⟨hk.1.1.1, ⟨hk.1.1.2.1, ⟨hk.1.1.2.2.2.1, ⟨hk.1.1.2.2.2.2, ⟨hk.1.2, hk.2⟩⟩⟩⟩⟩, hk.1.1.2.2.1⟩))) hg hat); replace HO839 := aS (Kd.R_after (ok := (fun k_ => some k_ ≠ (.slice Ao25 t825.length co25 : Value).ownBlock ∧ some k_ ≠ (v832 : Value).ownBlock ∧ some k_ ≠ (.slice Ao40 t846.length co40 : Value).ownBlock ∧ some k_ ≠ (.slice Ao46 y849.length co46 : Value).ownBlock ∧ some k_ ≠ (.slice Ao47 y858.length co47 : Value).ownBlock ∧ some k_ ≠ (.slice Ao50 t862.length co50 : Value).ownBlock)) (tR (Kd.R_mono HO839.out (fun _ hk => ⟨⟨hk.1.1.1, ⟨hk.1.1.2.1, ⟨hk.1.1.2.2.2.1, ⟨hk.1.1.2.2.2.2, ⟨hk.1.2, hk.2⟩⟩⟩⟩⟩, hk.1.1.2.2.1⟩))) hg hat); replace HO848 := aS (Kd.R_after (ok := (fun k_ => some k_ ≠ (.slice Ao25 t825.length co25 : Value).ownBlock ∧ some k_ ≠ (v832 : Value).ownBlock ∧ some k_ ≠ (.slice Ao35 y837.length co35 : Value).ownBlock ∧ some k_ ≠ (.slice Ao46 y849.length co46 : Value).ownBlock ∧ some k_ ≠ (.slice Ao47 y858.length co47 : Value).ownBlock ∧ some k_ ≠ (.slice Ao50 t862.length co50 : Value).ownBlock)) (tR (Kd.R_mono HO848.out (fun _ hk => ⟨⟨hk.1.1.1, ⟨hk.1.1.2.1, ⟨hk.1.1.2.2.1, ⟨hk.1.1.2.2.2.2, ⟨hk.1.2, hk.2⟩⟩⟩⟩⟩, hk.1.1.2.2.2.1⟩))) hg hat); replace HO851 := aS (Kd.R_after (ok := (fun k_ => some k_ ≠ (.slice Ao25 t825.length co25 : Value).ownBlock ∧ some k_ ≠ (v832 : Value).ownBlock ∧ some k_ ≠ (.slice Ao35 y837.length co35 : Value).ownBlock ∧ some k_ ≠ (.slice Ao40 t846.length co40 : Value).ownBlock ∧ some k_ ≠ (.slice Ao47 y858.length co47 : Value).ownBlock ∧ some k_ ≠ (.slice Ao50 t862.length co50 : Value).ownBlock)) (tR (Kd.R_mono HO851.out (fun _ hk => ⟨⟨hk.1.1.1, ⟨hk.1.1.2.1, ⟨hk.1.1.2.2.1, ⟨hk.1.1.2.2.2.2, ⟨hk.1.2, hk.2⟩⟩⟩⟩⟩, hk.1.1.2.2.2.1⟩))) hg hat); replace HO860 := aS (Kd.R_after (ok := (fun k_ => some k_ ≠ (.slice Ao25 t825.length co25 : Value).ownBlock ∧ some k_ ≠ (v832 : Value).ownBlock ∧ some k_ ≠ (.slice Ao35 y837.length co35 : Value).ownBlock ∧ some k_ ≠ (.slice Ao40 t846.length co40 : Value).ownBlock ∧ some k_ ≠ (.slice Ao46 y849.length co46 : Value).ownBlock ∧ some k_ ≠ (.slice Ao50 t862.length co50 : Value).ownBlock)) (tR (Kd.R_mono HO860.out (fun _ hk => ⟨⟨hk.1.1, ⟨hk.1.2.1, ⟨hk.1.2.2.1, ⟨hk.1.2.2.2.2.1, ⟨hk.1.2.2.2.2.2, hk.2⟩⟩⟩⟩⟩, hk.1.2.2.2.1⟩))) hg hat); replace HO864 := aS (Kd.R_after (ok := (fun k_ => some k_ ≠ (.slice Ao25 t825.length co25 : Value).ownBlock ∧ some k_ ≠ (v832 : Value).ownBlock ∧ some k_ ≠ (.slice Ao35 y837.length co35 : Value).ownBlock ∧ some k_ ≠ (.slice Ao40 t846.length co40 : Value).ownBlock ∧ some k_ ≠ (.slice Ao46 y849.length co46 : Value).ownBlock ∧ some k_ ≠ (.slice Ao47 y858.length co47 : Value).ownBlock)) (tR (Kd.R_mono HO864.out (fun _ hk => ⟨⟨hk.1.1.1.1.1.1.2, ⟨hk.1.1.1.1.1.2, ⟨hk.1.1.1.1.2, ⟨hk.1.1.2, ⟨hk.1.2, hk.2⟩⟩⟩⟩⟩, hk.1.1.1.2⟩))) hg hat); replace HB := aS (hb); have HO867 := aS (ho); clear HO842; clear ho hb hg hat) | ((with_reducible refine gate_builtin (b := .append) (xs := #[.tmp 47, .tmp 48]) rfl ?_); at_builtin; refine Kd.R_append_rows (Kd.int .u8) (w0 := w) w.heap.size rfl (.tmp 47) (.tmp 48) 22 5 (.int .u8 0) 1 rfl Try.underlying22 info5 rfl (by decide) (by omega) v866 y865 y849 _ _ _ (fun k_ => some k_ ≠ (.slice Ao25 t825.length co25 : Value).ownBlock ∧ some k_ ≠ (v832 : Value).ownBlock ∧ some k_ ≠ (.slice Ao35 y837.length co35 : Value).ownBlock ∧ some k_ ≠ (.slice Ao40 t846.length co40 : Value).ownBlock ∧ some k_ ≠ (.slice Ao46 y849.length co46 : Value).ownBlock ∧ some k_ ≠ (.slice Ao47 y858.length co47 : Value).ownBlock ∧ some k_ ≠ (.slice Ao50 t862.length co50 : Value).ownBlock) (fun _ => False) rfl rfl ?aO ?aR (fun _ _ h => h) (fun _ h => h.elim) ?aF ?aB ?aS ?aL ?_; (case aR => repeat (first | exact (Kd.R_reads' HO851.out).2.2 | (with_reducible refine Kd.C_alloc ?_ _) | (with_reducible refine Kd.C_drewN ?_ _) | (with_reducible refine Kd.C_drew ?_))); (case aB => exact (tB HB.out)); (case aF => exact (fun k_ hk => ⟨Kd.fresh' (Kd.R_lt (tR HO827.out)) k_ hk, Kd.fresh' (Kd.R_lt (tR HO833.out)) k_ hk, Kd.fresh' (Kd.R_lt (tR HO839.out)) k_ hk, Kd.fresh' (Kd.R_lt (tR HO848.out)) k_ hk, Kd.fresh' (Kd.R_lt (tR HO851.out)) k_ hk, Kd.fresh' (Kd.R_lt (tR HO860.out)) k_ hk, Kd.fresh' (Kd.R_lt (tR HO864.out)) k_ hk⟩)); (case aO => exact (tR HO867.out)); (case aS => exact (below_size (tB HB.out))); (case aL => have := LMc18.out; omega); intro v869 w51 ho hb hg hat; rw [← Ny868.out] at ho; replace BK821 := aS (blk_grown (g := gb821) (o := .cells #[.int .u8 a0_0, .int .u32 a0_1, .int .u32 a0_2, .int .i64 a0_3, .int .i64 a0_4, .int .u8 a0_5, .int .u16 a0_6] 61 (0, 0)) (tk BK821.out) hg (Kd.R_ne HO867.out BK821.out (by decide))); replace HO827 := aS (Kd.R_after (ok := (fun k_ => some k_ ≠ (v832 : Value).ownBlock ∧ some k_ ≠ (.slice Ao35 y837.length co35 : Value).ownBlock ∧ some k_ ≠ (.slice Ao40 t846.length co40 : Value).ownBlock ∧ some k_ ≠ (.slice Ao46 y849.length co46 : Value).ownBlock ∧ some k_ ≠ (.slice Ao47 y858.length co47 : Value).ownBlock ∧ some k_ ≠ (.slice Ao50 t862.length co50 : Value).ownBlock)) (tR HO827.out) hg hat); replace HO833 := aS (Kd.R_after (ok := (fun k_ => some k_ ≠ (.slice Ao25 t825.length co25 : Value).ownBlock ∧ some k_ ≠ (.slice Ao35 y837.length co35 : Value).ownBlock ∧ some k_ ≠ (.slice Ao40 t846.length co40 : Value).ownBlock ∧ some k_ ≠ (.slice Ao46 y849.length co46 : Value).ownBlock ∧ some k_ ≠ (.slice Ao47 y858.length co47 : Value).ownBlock ∧ some k_ ≠ (.slice Ao50 t862.length co50 : Value).ownBlock)) (tR HO833.out) hg hat); replace HO839 := aS (Kd.R_after (ok := (fun k_ => some k_ ≠ (.slice Ao25 t825.length co25 : Value).ownBlock ∧ some k_ ≠ (v832 : Value).ownBlock ∧ some k_ ≠ (.slice Ao40 t846.length co40 : Value).ownBlock ∧ some k_ ≠ (.slice Ao46 y849.length co46 : Value).ownBlock ∧ some k_ ≠ (.slice Ao47 y858.length co47 : Value).ownBlock ∧ some k_ ≠ (.slice Ao50 t862.length co50 : Value).ownBlock)) (tR HO839.out) hg hat); replace HO848 := aS (Kd.R_after (ok := (fun k_ => some k_ ≠ (.slice Ao25 t825.length co25 : Value).ownBlock ∧ some k_ ≠ (v832 : Value).ownBlock ∧ some k_ ≠ (.slice Ao35 y837.length co35 : Value).ownBlock ∧ some k_ ≠ (.slice Ao46 y849.length co46 : Value).ownBlock ∧ some k_ ≠ (.slice Ao47 y858.length co47 : Value).ownBlock ∧ some k_ ≠ (.slice Ao50 t862.length co50 : Value).ownBlock)) (tR HO848.out) hg hat); replace HO851 := aS (Kd.R_after (ok := (fun k_ => some k_ ≠ (.slice Ao25 t825.length co25 : Value).ownBlock ∧ some k_ ≠ (v832 : Value).ownBlock ∧ some k_ ≠ (.slice Ao35 y837.length co35 : Value).ownBlock ∧ some k_ ≠ (.slice Ao40 t846.length co40 : Value).ownBlock ∧ some k_ ≠ (.slice Ao47 y858.length co47 : Value).ownBlock ∧ some k_ ≠ (.slice Ao50 t862.length co50 : Value).ownBlock)) (tR HO851.out) hg hat); replace HO860 := aS (Kd.R_after (ok := (fun k_ => some k_ ≠ (.slice Ao25 t825.length co25 : Value).ownBlock ∧ some k_ ≠ (v832 : Value).ownBlock ∧ some k_ ≠ (.slice Ao35 y837.length co35 : Value).ownBlock ∧ some k_ ≠ (.slice Ao40 t846.length co40 : Value).ownBlock ∧ some k_ ≠ (.slice Ao46 y849.length co46 : Value).ownBlock ∧ some k_ ≠ (.slice Ao50 t862.length co50 : Value).ownBlock)) (tR HO860.out) hg hat); replace HO864 := aS (Kd.R_after (ok := (fun k_ => some k_ ≠ (.slice Ao25 t825.length co25 : Value).ownBlock ∧ some k_ ≠ (v832 : Value).ownBlock ∧ some k_ ≠ (.slice Ao35 y837.length co35 : Value).ownBlock ∧ some k_ ≠ (.slice Ao40 t846.length co40 : Value).ownBlock ∧ some k_ ≠ (.slice Ao46 y849.length co46 : Value).ownBlock ∧ some k_ ≠ (.slice Ao47 y858.length co47 : Value).ownBlock)) (tR HO864.out) hg hat); replace HB := aS (hb); have HO870 := aS (ho); clear HO867; clear ho hb hg hat) | ((with_reducible refine gate_builtin (b := .append) (xs := #[.tmp 49, .tmp 50]) rfl ?_); at_builtin; refine Kd.R_append_rows (Kd.int .u8) (w0 := w) w.heap.size rfl (.tmp 49) (.tmp 50) 22 5 (.int .u8 0) 1 rfl Try.underlying22 info5 rfl (by decide) (by omega) v869 y868 l1 _ _ _ (fun k_ => some k_ ≠ (.slice Ao25 t825.length co25 : Value).ownBlock ∧ some k_ ≠ (v832 : Value).ownBlock ∧ some k_ ≠ (.slice Ao35 y837.length co35 : Value).ownBlock ∧ some k_ ≠ (.slice Ao40 t846.length co40 : Value).ownBlock ∧ some k_ ≠ (.slice Ao46 y849.length co46 : Value).ownBlock ∧ some k_ ≠ (.slice Ao47 y858.length co47 : Value).ownBlock ∧ some k_ ≠ (.slice Ao50 t862.length co50 : Value).ownBlock) (fun _ => False) rfl rfl ?aO ?aR (fun _ _ h => h) (fun _ h => h.elim) ?aF ?aB ?aS ?aL ?_; (case aR => repeat (first | exact (Kd.C_below HR1.out HB.out) | (with_reducible refine Kd.C_alloc ?_ _) | (with_reducible refine Kd.C_drewN ?_ _) | (with_reducible refine Kd.C_drew ?_))); (case aB => exact (tB HB.out)); (case aF => exact (fun k_ hk => ⟨Kd.fresh' (Kd.R_lt (tR HO827.out)) k_ hk, Kd.fresh' (Kd.R_lt (tR HO833.out)) k_ hk, Kd.fresh' (Kd.R_lt (tR HO839.out)) k_ hk, Kd.fresh' (Kd.R_lt (tR HO848.out)) k_ hk, Kd.fresh' (Kd.R_lt (tR HO851.out)) k_ hk, Kd.fresh' (Kd.R_lt (tR HO860.out)) k_ hk, Kd.fresh' (Kd.R_lt (tR HO864.out)) k_ hk⟩)); (case aO => exact (tR HO870.out)); (case aS => exact (below_size (tB HB.out))); (case aL => have := LMc19.out; omega); intro v872 w52 ho hb hg hat; rw [← Ny871.out] at ho; replace BK821 := aS (blk_grown (g := gb821) (o := .cells #[.int .u8 a0_0, .int .u32 a0_1, .int .u32 a0_2, .int .i64 a0_3, .int .i64 a0_4, .int .u8 a0_5, .int .u16 a0_6] 61 (0, 0)) (tk BK821.out) hg (Kd.R_ne HO870.out BK821.out (by decide))); replace HO827 := aS (Kd.R_after (ok := (fun k_ => some k_ ≠ (v832 : Value).ownBlock ∧ some k_ ≠ (.slice Ao35 y837.length co35 : Value).ownBlock ∧ some k_ ≠ (.slice Ao40 t846.length co40 : Value).ownBlock ∧ some k_ ≠ (.slice Ao46 y849.length co46 : Value).ownBlock ∧ some k_ ≠ (.slice Ao47 y858.length co47 : Value).ownBlock ∧ some k_ ≠ (.slice Ao50 t862.length co50 : Value).ownBlock)) (tR HO827.out) hg hat); replace HO833 := aS (Kd.R_after (ok := (fun k_ => some k_ ≠ (.slice Ao25 t825.length co25 : Value).ownBlock ∧ some k_ ≠ (.slice Ao35 y837.length co35 : Value).ownBlock ∧ some k_ ≠ (.slice Ao40 t846.length co40 : Value).ownBlock ∧ some k_ ≠ (.slice Ao46 y849.length co46 : Value).ownBlock ∧ some k_ ≠ (.slice Ao47 y858.length co47 : Value).ownBlock ∧ some k_ ≠ (.slice Ao50 t862.length co50 : Value).ownBlock)) (tR HO833.out) hg hat); replace HO839 := aS (Kd.R_after (ok := (fun k_ => some k_ ≠ (.slice Ao25 t825.length co25 : Value).ownBlock ∧ some k_ ≠ (v832 : Value).ownBlock ∧ some k_ ≠ (.slice Ao40 t846.length co40 : Value).ownBlock ∧ some k_ ≠ (.slice Ao46 y849.length co46 : Value).ownBlock ∧ some k_ ≠ (.slice Ao47 y858.length co47 : Value).ownBlock ∧ some k_ ≠ (.slice Ao50 t862.length co50 : Value).ownBlock)) (tR HO839.out) hg hat); replace HO848 := aS (Kd.R_after (ok := (fun k_ => some k_ ≠ (.slice Ao25 t825.length co25 : Value).ownBlock ∧ some k_ ≠ (v832 : Value).ownBlock ∧ some k_ ≠ (.slice Ao35 y837.length co35 : Value).ownBlock ∧ some k_ ≠ (.slice Ao46 y849.length co46 : Value).ownBlock ∧ some k_ ≠ (.slice Ao47 y858.length co47 : Value).ownBlock ∧ some k_ ≠ (.slice Ao50 t862.length co50 : Value).ownBlock)) (tR HO848.out) hg hat); replace HO851 := aS (Kd.R_after (ok := (fun k_ => some k_ ≠ (.slice Ao25 t825.length co25 : Value).ownBlock ∧ some k_ ≠ (v832 : Value).ownBlock ∧ some k_ ≠ (.slice Ao35 y837.length co35 : Value).ownBlock ∧ some k_ ≠ (.slice Ao40 t846.length co40 : Value).ownBlock ∧ some k_ ≠ (.slice Ao47 y858.length co47 : Value).ownBlock ∧ some k_ ≠ (.slice Ao50 t862.length co50 : Value).ownBlock)) (tR HO851.out) hg hat); replace HO860 := aS (Kd.R_after (ok := (fun k_ => some k_ ≠ (.slice Ao25 t825.length co25 : Value).ownBlock ∧ some k_ ≠ (v832 : Value).ownBlock ∧ some k_ ≠ (.slice Ao35 y837.length co35 : Value).ownBlock ∧ some k_ ≠ (.slice Ao40 t846.length co40 : Value).ownBlock ∧ some k_ ≠ (.slice Ao46 y849.length co46 : Value).ownBlock ∧ some k_ ≠ (.slice Ao50 t862.length co50 : Value).ownBlock)) (tR HO860.out) hg hat); replace HO864 := aS (Kd.R_after (ok := (fun k_ => some k_ ≠ (.slice Ao25 t825.length co25 : Value).ownBlock ∧ some k_ ≠ (v832 : Value).ownBlock ∧ some k_ ≠ (.slice Ao35 y837.length co35 : Value).ownBlock ∧ some k_ ≠ (.slice Ao40 t846.length co40 : Value).ownBlock ∧ some k_ ≠ (.slice Ao46 y849.length co46 : Value).ownBlock ∧ some k_ ≠ (.slice Ao47 y858.length co47 : Value).ownBlock)) (tR HO864.out) hg hat); replace HB := aS (hb); have HO873 := aS (ho); clear HO870; clear ho hb hg hat))
           go_ret2
           exact ⟨_, by first | rfl | (simp [errW_none, errW_some] <;> rfl) | (simp [*, errW_none, errW_some] <;> rfl), by (with_reducible repeat apply mR); exact Kd.R_mono HO873.out (fun _ hk => trivial), tB HB.out⟩
          ·rw [if_neg c19] at H
           exact absurd H (by simp)
         ·rw [if_neg c18] at H
          exact absurd H (by simp)
        ·rw [if_neg c17] at H
         exact absurd H (by simp)
       ·rw [if_neg c14] at H
        exact absurd H (by simp)
      ·rw [if_neg c13] at H
       exact absurd H (by simp)
     ·rw [if_neg c12] at H
      exact absurd H (by simp)
    ·rw [if_neg c9] at H
     exact absurd H (by simp)
   ·rw [if_neg c8] at H
    exact absurd H (by simp)
  ·rw [if_neg c6] at H
   exact absurd H (by simp)

end Go.Proofs.Ytofjgdbiieanjaa.All
