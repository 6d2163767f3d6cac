-- Made by a program of this workplace (wip/pr.sh) out of Lean's print of the translation; Lean checks it.
import Derived.Test.YtofjgdbiieanjaaAllx0
import Derived.Test.YtofjgdbiieanjaaAllx53
import Derived.Test.YtofjgdbiieanjaaAllx28
namespace Go.Proofs.Ytofjgdbiieanjaa.All
open Go.Proofs.Ytofjgdbiieanjaa.Ext
open Go.RowKit Go.Proofs.YtofjgdbiieanjaaW.PrintWords Go.Proofs.YtofjgdbiieanjaaW.PrintLast Go.Proofs.YtofjgdbiieanjaaW.PrintMore
attribute [local go_sem] max2_int min2_int max_two min_two max_three min_three max_four min_four   -- for this text's walks alone
set_option linter.unusedVariables false
set_option linter.unusedSimpArgs false

/-! ### mantletref06_Build: function 45 -/
def mantletref06_Build.f (k : Nat) (a0 : Int) (a1 : Int) (a2 : Int) (a3 : Int) (l4 : List Int) : Option (List Int × Int) := if (l4.length : Int) > 1472 then (some (([] : List Int), 2)) else ((mantletref04_Put.f (wrap64 (a2))).bind fun t566 => ((mantletref04_Put.f (wrap64 (a3))).bind fun t569 => (if t566.length + t569.length < 140737488355328 then ((some (t566 ++ t569 : List Int)).bind fun y572 => ((mantletref04_Put.f (wrap64 (8 + (l4.length : Int)))).bind fun t575 => (if y572.length + t575.length < 140737488355328 then ((some (y572 ++ t575 : List Int)).bind fun y578 => ((mantletref05_Pseudo.f k 17 a0 a1 (wrap64 (8 + (l4.length : Int)))).bind fun t581 => ((some (([] : List Int) : List Int)).bind fun y582 => (if y582.length + y578.length < 140737488355328 then ((some (y582 ++ y578 : List Int)).bind fun y585 => ((some (([0, 0] : List Int) : List Int)).bind fun y588 => (if y585.length + y588.length < 140737488355328 then ((some (y585 ++ y588 : List Int)).bind fun y591 => (if y591.length + l4.length < 140737488355328 then ((mantletref02_Add.f k t581 (y591 ++ l4)).bind fun t597 => (if (wrap64 (65535 - t597)) = 0 then ((mantletref04_Put.f 65535).bind fun t598 => (if y578.length + t598.length < 140737488355328 then ((some (y578 ++ t598 : List Int)).bind fun y601 => (if y601.length + l4.length < 140737488355328 then (some ((y601 ++ l4), 0)) else (none))) else (none))) else ((mantletref04_Put.f (wrap64 (65535 - t597))).bind fun t607 => (if y578.length + t607.length < 140737488355328 then ((some (y578 ++ t607 : List Int)).bind fun y610 => (if y610.length + l4.length < 140737488355328 then (some ((y610 ++ l4), 0)) else (none))) else (none))))) else (none))) else (none)))) else (none))))) else (none)))) else (none))))
theorem mantletref06_Build.mono : ∀ a0 a1 a2 a3 a4 k, LeO (mantletref06_Build.f k a0 a1 a2 a3 a4) (mantletref06_Build.f (k + 1) a0 a1 a2 a3 a4) := by
  intro a0 a1 a2 a3 a4 k
  unfold mantletref06_Build.f
  repeat' first
      | (with_reducible exact mantletref02_Add.mono _ _ _)
      | (with_reducible exact mantletref05_Pseudo.mono _ _ _ _ _)
      | (with_reducible exact LeO.refl _)
      | (with_reducible exact LeO.none _)
      | (with_reducible refine LeO.ite ?_ ?_)
      | (with_reducible refine LeO.bind ?_ (fun _ => ?_))
      | exact mantletref02_Add.mono _ _ _
      | exact mantletref05_Pseudo.mono _ _ _ _ _
      | exact LeO.none _
      | refine LeO.ite ?_ ?_
      | refine LeO.bind ?_ (fun _ => ?_)
set_option maxHeartbeats 8000000 in
set_option maxRecDepth 100000 in
theorem mantletref06_Build.calls (k : Nat) (a0 : Int) (a1 : Int) (a2 : Int) (a3 : Int) (A4 : Option Addr) (c4 : Nat) (l4 : List Int) (r1 : List Int) (r2 : Int) (w : World) (hr4 : Kd.C (Kd.int .u8) w A4 l4.length l4) (hc4 : l4.length ≤ c4) (h : mantletref06_Build.f k a0 a1 a2 a3 l4 = some (r1, r2)) :
    Calls Try.prog 45 #[.int .u32 a0, .int .u32 a1, .int .u16 a2, .int .u16 a3, .slice A4 l4.length c4] w fun e w' => ∃ v0_ : Value, e = .returned (.tuple #[v0_, .int .i64 r2]) ∧ Kd.R (Kd.int .u8) 5 w' w.heap.size (fun _ => True) v0_ r1 ∧ Below w.heap.size w w' := by
 have HR4 := aS hr4
 have HC4 := aS hc4
 clear hr4 hc4
 have HB := aS (Below.refl w.heap.size w)
 have H := h
 unfold mantletref06_Build.f at H
 clear h
 by_cases c6 : (l4.length : Int) > 1472
 ·rw [if_pos c6] at H
  have c6b0 : decide (1472 < (l4.length : Int)) = true := decide_eq_true c6
  have c6b1 : decide (1472 < l4.length) = true := decide_eq_true (by omega)
  clear c6
  simp only [Option.some.injEq, Prod.mk.injEq] at H
  obtain ⟨rfl, rfl⟩ := H
  go_enter Try.func45, Try.ntmps45
  go_wp2
  go_ret2
  exact ⟨_, by first | rfl | (simp [errW_none, errW_some] <;> rfl) | (simp [*, errW_none, errW_some] <;> rfl), by first | exact Kd.R_nil _ _ _ _ _ | exact Kd.N_nil _ _ _ _ _ | exact Kd.V_nil _ _ _ _ _ | exact Kd.Q_nil _ _ _ _ _ | exact Kd.S_nil _ _ _ _ _, tB HB.out⟩
 ·rw [if_neg c6] at H
  have c6b0 : decide (1472 < (l4.length : Int)) = false := decide_eq_false c6
  have c6b1 : decide (1472 < l4.length) = false := decide_eq_false (by omega)
  clear c6
  replace H := Option.bind_eq_some_iff.mp H
  obtain ⟨t566, A70, H⟩ := H
  try dsimp -simprocs only at H
  have A7 := aS A70
  clear A70
  replace H := Option.bind_eq_some_iff.mp H
  obtain ⟨t569, A80, H⟩ := H
  try dsimp -simprocs only at H
  have A8 := aS A80
  clear A80
  by_cases c9 : t566.length + t569.length < 140737488355328
  ·rw [if_pos c9] at H
   have LMc9 := aS c9
   clear c9
   obtain ⟨y572, hy572⟩ : ∃ y_ : List Int, y_ = (t566 ++ t569) := ⟨_, rfl⟩
   first | with_reducible replace H := bindY hy572 H | rw [← hy572] at H | skip
   try dsimp -simprocs only at H
   have Ny572 := aS hy572
   clear hy572
   replace H := Option.bind_eq_some_iff.mp H
   obtain ⟨t575, A100, H⟩ := H
   try dsimp -simprocs only at H
   have A10 := aS A100
   clear A100
   by_cases c11 : y572.length + t575.length < 140737488355328
   ·rw [if_pos c11] at H
    have LMc11 := aS c11
    clear c11
    obtain ⟨y578, hy578⟩ : ∃ y_ : List Int, y_ = (y572 ++ t575) := ⟨_, rfl⟩
    first | with_reducible replace H := bindY hy578 H | rw [← hy578] at H | skip
    try dsimp -simprocs only at H
    have Ny578 := aS hy578
    clear hy578
    replace H := Option.bind_eq_some_iff.mp H
    obtain ⟨t581, A120, H⟩ := H
    try dsimp -simprocs only at H
    have A12 := aS A120
    clear A120
    obtain ⟨y582, hy582⟩ : ∃ y_ : List Int, y_ = (([] : List Int)) := ⟨_, rfl⟩
    first | with_reducible replace H := bindY hy582 H | rw [← hy582] at H | skip
    try dsimp -simprocs only at H
    have Ny582 := aS hy582
    clear hy582
    by_cases c13 : y582.length + y578.length < 140737488355328
    ·rw [if_pos c13] at H
     have LMc13 := aS c13
     clear c13
     obtain ⟨y585, hy585⟩ : ∃ y_ : List Int, y_ = (y582 ++ y578) := ⟨_, rfl⟩
     first | with_reducible replace H := bindY hy585 H | rw [← hy585] at H | skip
     try dsimp -simprocs only at H
     have Ny585 := aS hy585
     clear hy585
     obtain ⟨y588, hy588⟩ : ∃ y_ : List Int, y_ = (([0, 0] : List Int)) := ⟨_, rfl⟩
     first | with_reducible replace H := bindY hy588 H | rw [← hy588] at H | skip
     try dsimp -simprocs only at H
     have Ny588 := aS hy588
     clear hy588
     by_cases c14 : y585.length + y588.length < 140737488355328
     ·rw [if_pos c14] at H
      have LMc14 := aS c14
      clear c14
      obtain ⟨y591, hy591⟩ : ∃ y_ : List Int, y_ = (y585 ++ y588) := ⟨_, rfl⟩
      first | with_reducible replace H := bindY hy591 H | rw [← hy591] at H | skip
      try dsimp -simprocs only at H
      have Ny591 := aS hy591
      clear hy591
      by_cases c15 : y591.length + l4.length < 140737488355328
      ·rw [if_pos c15] at H
       have LMc15 := aS c15
       clear c15
       obtain ⟨y594, hy594⟩ : ∃ y_ : List Int, y_ = (y591 ++ l4) := ⟨_, rfl⟩
       first | with_reducible replace H := bindY hy594 H | rw [← hy594] at H | skip
       try dsimp -simprocs only at H
       have Ny594 := aS hy594
       clear hy594
       replace H := Option.bind_eq_some_iff.mp H
       obtain ⟨t597, A160, H⟩ := H
       try dsimp -simprocs only at H
       have A16 := aS A160
       clear A160
       have HH_ := aS H
       clear H
       go_enter Try.func45, Try.ntmps45
       repeat (go_not_at_if 45; first | ((with_reducible refine gate_callee (f := 71) rfl ?_); refine goesL_ (some 19) rfl rfl Try.func71 (by kernel_rfl) rfl #[.int .i64 (wrap64 (a2))] rfl (by (try simp only [List.map_toArray, List.map_cons, List.map_nil]); first | done | rfl) ?_; (with_reducible refine (mantletref04_Put.calls (wrap64 (a2)) t566 _ A7.out).mono ?_); rintro e w900 ⟨v901, rfl, ho902, hb⟩; refine ⟨_, rfl, ?_⟩; have HO903 := aS (Kd.R_lower ho902 (below_size (tB HB.out))); replace HB := aS (below_step (tB HB.out) hb); (try clear hb); (try clear hb2); (try clear hk); (try clear hi); (try clear ho902)) | ((with_reducible refine gate_callee (f := 71) rfl ?_); refine goesL_ (some 22) rfl rfl Try.func71 (by kernel_rfl) rfl #[.int .i64 (wrap64 (a3))] rfl (by (try simp only [List.map_toArray, List.map_cons, List.map_nil]); first | done | rfl) ?_; (with_reducible refine (mantletref04_Put.calls (wrap64 (a3)) t569 _ A8.out).mono ?_); rintro e w904 ⟨v905, rfl, ho902, hb⟩; refine ⟨_, rfl, ?_⟩; have HO906 := aS (Kd.R_lower (Kd.R_new' ho902 (Kd.R_lt (tR HO903.out))) (below_size (tB HB.out))); replace HO903 := aS (Kd.R_elder' (tR HO903.out) (Kd.R_base ho902) hb); replace HB := aS (below_step (tB HB.out) hb); (try clear hb); (try clear hb2); (try clear hk); (try clear hi); (try clear ho902); obtain ⟨Ao907, co908, eo909⟩ := Kd.R_slice HO906.out; subst eo909) | ((with_reducible refine gate_builtin (b := .append) (xs := #[.tmp 19, .tmp 22]) rfl ?_); at_builtin; refine Kd.R_append_rows (Kd.int .u8) (w0 := w) w.heap.size rfl (.tmp 19) (.tmp 22) 22 5 (.int .u8 0) 1 rfl Try.underlying22 info5 rfl (by decide) (by omega) v901 t566 t569 _ _ _ (fun k_ => some k_ ≠ (.slice Ao907 t569.length co908 : Value).ownBlock) (fun _ => False) rfl rfl ?aO ?aR (fun _ _ h => h) (fun _ h => h.elim) ?aF ?aB ?aS ?aL ?_; (case aR => repeat (first | exact (Kd.R_reads' HO906.out).2.2 | (with_reducible refine Kd.C_alloc ?_ _) | (with_reducible refine Kd.C_drewN ?_ _) | (with_reducible refine Kd.C_drew ?_))); (case aB => exact (tB HB.out)); (case aF => exact (fun k_ hk => Kd.fresh' (Kd.R_lt (tR HO906.out)) k_ hk)); (case aO => exact (tR (Kd.R_mono HO903.out (fun _ hk => hk.2)))); (case aS => exact (below_size (tB HB.out))); (case aL => have := LMc9.out; omega); intro v910 w911 ho hb hg hat; rw [← Ny572.out] at ho; replace HO906 := aS (Kd.R_after (ok := (fun _ => True)) (tR HO906.out) hg hat); replace HB := aS (hb); have HO912 := aS (ho); clear HO903; clear ho hb hg hat) | ((with_reducible refine gate_callee (f := 71) rfl ?_); refine goesL_ (some 27) rfl rfl Try.func71 (by kernel_rfl) rfl #[.int .i64 (wrap64 (8 + (l4.length : Int)))] rfl (by (try simp only [List.map_toArray, List.map_cons, List.map_nil]); first | done | rfl) ?_; (with_reducible refine (mantletref04_Put.calls (wrap64 (8 + (l4.length : Int))) t575 _ A10.out).mono ?_); rintro e w913 ⟨v914, rfl, ho902, hb⟩; refine ⟨_, rfl, ?_⟩; have HO915 := aS (Kd.R_lower (Kd.R_new' (Kd.R_new' ho902 (Kd.R_lt (tR HO906.out))) (Kd.R_lt (tR HO912.out))) (below_size (tB HB.out))); replace HO906 := aS (Kd.R_elder' (tR HO906.out) (Kd.R_base ho902) hb); replace HO912 := aS (Kd.R_elder' (tR HO912.out) (Kd.R_base ho902) hb); replace HB := aS (below_step (tB HB.out) hb); (try clear hb); (try clear hb2); (try clear hk); (try clear hi); (try clear ho902); obtain ⟨Ao916, co917, eo918⟩ := Kd.R_slice HO915.out; subst eo918) | ((with_reducible refine gate_builtin (b := .append) (xs := #[.tmp 23, .tmp 27]) rfl ?_); at_builtin; refine Kd.R_append_rows (Kd.int .u8) (w0 := w) w.heap.size rfl (.tmp 23) (.tmp 27) 22 5 (.int .u8 0) 1 rfl Try.underlying22 info5 rfl (by decide) (by omega) v910 y572 t575 _ _ _ (fun k_ => some k_ ≠ (.slice Ao907 t569.length co908 : Value).ownBlock ∧ some k_ ≠ (.slice Ao916 t575.length co917 : Value).ownBlock) (fun _ => False) rfl rfl ?aO ?aR (fun _ _ h => h) (fun _ h => h.elim) ?aF ?aB ?aS ?aL ?_; (case aR => repeat (first | exact (Kd.R_reads' HO915.out).2.2 | (with_reducible refine Kd.C_alloc ?_ _) | (with_reducible refine Kd.C_drewN ?_ _) | (with_reducible refine Kd.C_drew ?_))); (case aB => exact (tB HB.out)); (case aF => exact (fun k_ hk => ⟨Kd.fresh' (Kd.R_lt (tR HO906.out)) k_ hk, Kd.fresh' (Kd.R_lt (tR HO915.out)) k_ hk⟩)); (case aO => exact (tR HO912.out)); (case aS => exact (below_size (tB HB.out))); (case aL => have := LMc11.out; omega); intro v919 w920 ho hb hg hat; rw [← Ny578.out] at ho; replace HO906 := aS (Kd.R_after (ok := (fun k_ => some k_ ≠ (.slice Ao916 t575.length co917 : Value).ownBlock)) (tR (Kd.R_mono HO906.out (fun _ hk => ⟨hk.2, hk.1.2⟩))) hg hat); replace HO915 := aS (Kd.R_after (ok := (fun k_ => some k_ ≠ (.slice Ao907 t569.length co908 : Value).ownBlock)) (tR (Kd.R_mono HO915.out (fun _ hk => ⟨hk.1.2, hk.2⟩))) hg hat); replace HB := aS (hb); have HO921 := aS (ho); clear HO912; clear ho hb hg hat) | ((with_reducible refine gate_callee (f := 39) rfl ?_); refine goesL_ (some 34) rfl rfl Try.func39 (by kernel_rfl) rfl #[.int .u8 17, .int .u32 a0, .int .u32 a1, .int .i64 (wrap64 (8 + (l4.length : Int)))] rfl (by (try simp only [List.map_toArray, List.map_cons, List.map_nil]); first | done | rfl) ?_; (with_reducible refine (mantletref05_Pseudo.calls k 17 a0 a1 (wrap64 (8 + (l4.length : Int))) t581 _ A12.out).mono ?_); rintro e w922 ⟨rfl, hb⟩; refine ⟨_, rfl, ?_⟩; replace HO906 := aS (Kd.R_below (tR HO906.out) hb); replace HO915 := aS (Kd.R_below (tR HO915.out) hb); replace HO921 := aS (Kd.R_below (tR HO921.out) hb); replace HB := aS (below_step (tB HB.out) hb); (try clear hb); (try clear hb2); (try clear hk); (try clear hi)) | ((with_reducible refine gate_dst (N := 35) rfl ?_); refine Kd.R_lit (Kd.int .u8) _ 5 ?hg (N := 35) ?hd (xs := ([] : List Int)) (inner := []) (ok := fun _ => True) (okp := fun _ => True) ?hr ?hp (fun _ hk => hk) trivial (Below.refl _ _) (Nat.le_refl _) (by simp) ?_; (case hd => rfl); (case hg => rfl); (case hr => first | (go_simp; done) | (go_simp; rfl)); (case hp => exact (Reps.none _ _)); intro v923 w924 ho925 hb hg_ hnew_; clear hg_ hnew_; (first | rw [← Ny582.out] at ho925 | (simp only [Int.reduceToNat] at ho925; rw [← Ny582.out] at ho925)); have HO926 := aS (Kd.R_lower (Kd.R_new' (Kd.R_new' (Kd.R_new' ho925 (Kd.R_lt (tR HO906.out))) (Kd.R_lt (tR HO915.out))) (Kd.R_lt (tR HO921.out))) (below_size (tB HB.out))); replace HO906 := aS (Kd.R_elder' (tR HO906.out) (Kd.R_base ho925) hb); replace HO915 := aS (Kd.R_elder' (tR HO915.out) (Kd.R_base ho925) hb); replace HO921 := aS (Kd.R_elder' (tR HO921.out) (Kd.R_base ho925) hb); replace HB := aS (below_step (tB HB.out) hb); clear hb ho925; obtain ⟨Ao927, co928, eo929⟩ := Kd.R_slice HO921.out; subst eo929) | ((with_reducible refine gate_builtin (b := .append) (xs := #[.tmp 35, .tmp 36]) rfl ?_); at_builtin; refine Kd.R_append_rows (Kd.int .u8) (w0 := w) w.heap.size rfl (.tmp 35) (.tmp 36) 22 5 (.int .u8 0) 1 rfl Try.underlying22 info5 rfl (by decide) (by omega) v923 y582 y578 _ _ _ (fun k_ => some k_ ≠ (.slice Ao907 t569.length co908 : Value).ownBlock ∧ some k_ ≠ (.slice Ao916 t575.length co917 : Value).ownBlock ∧ some k_ ≠ (.slice Ao927 y578.length co928 : Value).ownBlock) (fun _ => False) rfl rfl ?aO ?aR (fun _ _ h => h) (fun _ h => h.elim) ?aF ?aB ?aS ?aL ?_; (case aR => repeat (first | exact (Kd.R_reads' HO921.out).2.2 | (with_reducible refine Kd.C_alloc ?_ _) | (with_reducible refine Kd.C_drewN ?_ _) | (with_reducible refine Kd.C_drew ?_))); (case aB => exact (tB HB.out)); (case aF => exact (fun k_ hk => ⟨Kd.fresh' (Kd.R_lt (tR HO906.out)) k_ hk, Kd.fresh' (Kd.R_lt (tR HO915.out)) k_ hk, Kd.fresh' (Kd.R_lt (tR HO921.out)) k_ hk⟩)); (case aO => exact (tR (Kd.R_mono HO926.out (fun _ hk => ⟨hk.1.1.2, ⟨hk.1.2, hk.2⟩⟩)))); (case aS => exact (below_size (tB HB.out))); (case aL => have := LMc13.out; omega); intro v930 w931 ho hb hg hat; rw [← Ny585.out] at ho; replace HO906 := aS (Kd.R_after (ok := (fun k_ => some k_ ≠ (.slice Ao916 t575.length co917 : Value).ownBlock ∧ some k_ ≠ (.slice Ao927 y578.length co928 : Value).ownBlock)) (tR HO906.out) hg hat); replace HO915 := aS (Kd.R_after (ok := (fun k_ => some k_ ≠ (.slice Ao907 t569.length co908 : Value).ownBlock ∧ some k_ ≠ (.slice Ao927 y578.length co928 : Value).ownBlock)) (tR HO915.out) hg hat); replace HO921 := aS (Kd.R_after (ok := (fun k_ => some k_ ≠ (.slice Ao907 t569.length co908 : Value).ownBlock ∧ some k_ ≠ (.slice Ao916 t575.length co917 : Value).ownBlock)) (tR HO921.out) hg hat); replace HB := aS (hb); have HO932 := aS (ho); clear HO926; clear ho hb hg hat) | ((with_reducible refine gate_dst (N := 38) rfl ?_); refine Kd.R_lit (Kd.int .u8) _ 5 ?hg (N := 38) ?hd (xs := ([0, 0] : List Int)) (inner := [.int .u8 0, .int .u8 0]) (ok := fun _ => True) (okp := fun _ => True) ?hr ?hp (fun _ hk => hk) trivial (Below.refl _ _) (Nat.le_refl _) (by simp) ?_; (case hd => rfl); (case hg => rfl); (case hr => first | (go_simp; done) | (go_simp; rfl)); (case hp => exact (Reps.one (show Kd.M (Kd.int .u8) _ _ _ 0 [.int .u8 0] from rfl) (Reps.one (show Kd.M (Kd.int .u8) _ _ _ 0 [.int .u8 0] from rfl) (Reps.none _ _)))); intro v933 w934 ho935 hb hg_ hnew_; clear hg_ hnew_; (first | rw [← Ny588.out] at ho935 | (simp only [Int.reduceToNat] at ho935; rw [← Ny588.out] at ho935)); have HO936 := aS (Kd.R_lower (Kd.R_new' (Kd.R_new' (Kd.R_new' (Kd.R_new' ho935 (Kd.R_lt (tR HO906.out))) (Kd.R_lt (tR HO915.out))) (Kd.R_lt (tR HO921.out))) (Kd.R_lt (tR HO932.out))) (below_size (tB HB.out))); replace HO906 := aS (Kd.R_elder' (tR HO906.out) (Kd.R_base ho935) hb); replace HO915 := aS (Kd.R_elder' (tR HO915.out) (Kd.R_base ho935) hb); replace HO921 := aS (Kd.R_elder' (tR HO921.out) (Kd.R_base ho935) hb); replace HO932 := aS (Kd.R_elder' (tR HO932.out) (Kd.R_base ho935) hb); replace HB := aS (below_step (tB HB.out) hb); clear hb ho935; obtain ⟨Ao937, co938, eo939⟩ := Kd.R_slice HO936.out; subst eo939) | ((with_reducible refine gate_builtin (b := .append) (xs := #[.tmp 37, .tmp 38]) rfl ?_); at_builtin; refine Kd.R_append_rows (Kd.int .u8) (w0 := w) w.heap.size rfl (.tmp 37) (.tmp 38) 22 5 (.int .u8 0) 1 rfl Try.underlying22 info5 rfl (by decide) (by omega) v930 y585 y588 _ _ _ (fun k_ => some k_ ≠ (.slice Ao907 t569.length co908 : Value).ownBlock ∧ some k_ ≠ (.slice Ao916 t575.length co917 : Value).ownBlock ∧ some k_ ≠ (.slice Ao927 y578.length co928 : Value).ownBlock ∧ some k_ ≠ (.slice Ao937 y588.length co938 : Value).ownBlock) (fun _ => False) rfl rfl ?aO ?aR (fun _ _ h => h) (fun _ h => h.elim) ?aF ?aB ?aS ?aL ?_; (case aR => repeat (first | exact (Kd.R_reads' HO936.out).2.2 | (with_reducible refine Kd.C_alloc ?_ _) | (with_reducible refine Kd.C_drewN ?_ _) | (with_reducible refine Kd.C_drew ?_))); (case aB => exact (tB HB.out)); (case aF => exact (fun k_ hk => ⟨Kd.fresh' (Kd.R_lt (tR HO906.out)) k_ hk, Kd.fresh' (Kd.R_lt (tR HO915.out)) k_ hk, Kd.fresh' (Kd.R_lt (tR HO921.out)) k_ hk, Kd.fresh' (Kd.R_lt (tR HO936.out)) k_ hk⟩)); (case aO => exact (tR (Kd.R_mono HO932.out (fun _ hk => ⟨hk.1.1, ⟨hk.1.2.1, ⟨hk.1.2.2, hk.2⟩⟩⟩)))); (case aS => exact (below_size (tB HB.out))); (case aL => have := LMc14.out; omega); intro v940 w941 ho hb hg hat; rw [← Ny591.out] at ho; replace HO906 := aS (Kd.R_after (ok := (fun k_ => some k_ ≠ (.slice Ao916 t575.length co917 : Value).ownBlock ∧ some k_ ≠ (.slice Ao927 y578.length co928 : Value).ownBlock ∧ some k_ ≠ (.slice Ao937 y588.length co938 : Value).ownBlock)) (tR (Kd.R_mono HO906.out (fun _ hk => ⟨⟨hk.1.1.1, ⟨hk.1.1.2, hk.2⟩⟩, hk.1.2⟩))) hg hat); replace HO915 := aS (Kd.R_after (ok := (fun k_ => some k_ ≠ (.slice Ao907 t569.length co908 : Value).ownBlock ∧ some k_ ≠ (.slice Ao927 y578.length co928 : Value).ownBlock ∧ some k_ ≠ (.slice Ao937 y588.length co938 : Value).ownBlock)) (tR (Kd.R_mono HO915.out (fun _ hk => ⟨⟨hk.1.1.1, ⟨hk.1.1.2, hk.2⟩⟩, hk.1.2⟩))) hg hat); replace HO921 := aS (Kd.R_after (ok := (fun k_ => some k_ ≠ (.slice Ao907 t569.length co908 : Value).ownBlock ∧ some k_ ≠ (.slice Ao916 t575.length co917 : Value).ownBlock ∧ some k_ ≠ (.slice Ao937 y588.length co938 : Value).ownBlock)) (tR (Kd.R_mono HO921.out (fun _ hk => ⟨⟨hk.1.1.1, ⟨hk.1.1.2, hk.2⟩⟩, hk.1.2⟩))) hg hat); replace HO936 := aS (Kd.R_after (ok := (fun k_ => some k_ ≠ (.slice Ao907 t569.length co908 : Value).ownBlock ∧ some k_ ≠ (.slice Ao916 t575.length co917 : Value).ownBlock ∧ some k_ ≠ (.slice Ao927 y578.length co928 : Value).ownBlock)) (tR (Kd.R_mono HO936.out (fun _ hk => ⟨⟨hk.1.1.1.2, ⟨hk.1.1.2, hk.1.2⟩⟩, hk.2⟩))) hg hat); replace HB := aS (hb); have HO942 := aS (ho); clear HO932; clear ho hb hg hat) | ((with_reducible refine gate_builtin (b := .append) (xs := #[.tmp 39, .tmp 40]) rfl ?_); at_builtin; refine Kd.R_append_rows (Kd.int .u8) (w0 := w) w.heap.size rfl (.tmp 39) (.tmp 40) 22 5 (.int .u8 0) 1 rfl Try.underlying22 info5 rfl (by decide) (by omega) v940 y591 l4 _ _ _ (fun k_ => some k_ ≠ (.slice Ao907 t569.length co908 : Value).ownBlock ∧ some k_ ≠ (.slice Ao916 t575.length co917 : Value).ownBlock ∧ some k_ ≠ (.slice Ao927 y578.length co928 : Value).ownBlock ∧ some k_ ≠ (.slice Ao937 y588.length co938 : Value).ownBlock) (fun _ => False) rfl rfl ?aO ?aR (fun _ _ h => h) (fun _ h => h.elim) ?aF ?aB ?aS ?aL ?_; (case aR => repeat (first | exact (Kd.C_below HR4.out HB.out) | (with_reducible refine Kd.C_alloc ?_ _) | (with_reducible refine Kd.C_drewN ?_ _) | (with_reducible refine Kd.C_drew ?_))); (case aB => exact (tB HB.out)); (case aF => exact (fun k_ hk => ⟨Kd.fresh' (Kd.R_lt (tR HO906.out)) k_ hk, Kd.fresh' (Kd.R_lt (tR HO915.out)) k_ hk, Kd.fresh' (Kd.R_lt (tR HO921.out)) k_ hk, Kd.fresh' (Kd.R_lt (tR HO936.out)) k_ hk⟩)); (case aO => exact (tR HO942.out)); (case aS => exact (below_size (tB HB.out))); (case aL => have := LMc15.out; omega); intro v943 w944 ho hb hg hat; rw [← Ny594.out] at ho; replace HO906 := aS (Kd.R_after (ok := (fun k_ => some k_ ≠ (.slice Ao916 t575.length co917 : Value).ownBlock ∧ some k_ ≠ (.slice Ao927 y578.length co928 : Value).ownBlock ∧ some k_ ≠ (.slice Ao937 y588.length co938 : Value).ownBlock)) (tR HO906.out) hg hat); replace HO915 := aS (Kd.R_after (ok := (fun k_ => some k_ ≠ (.slice Ao907 t569.length co908 : Value).ownBlock ∧ some k_ ≠ (.slice Ao927 y578.length co928 : Value).ownBlock ∧ some k_ ≠ (.slice Ao937 y588.length co938 : Value).ownBlock)) (tR HO915.out) hg hat); replace HO921 := aS (Kd.R_after (ok := (fun k_ => some k_ ≠ (.slice Ao907 t569.length co908 : Value).ownBlock ∧ some k_ ≠ (.slice Ao916 t575.length co917 : Value).ownBlock ∧ some k_ ≠ (.slice Ao937 y588.length co938 : Value).ownBlock)) (tR HO921.out) hg hat); replace HO936 := aS (Kd.R_after (ok := (fun k_ => some k_ ≠ (.slice Ao907 t569.length co908 : Value).ownBlock ∧ some k_ ≠ (.slice Ao916 t575.length co917 : Value).ownBlock ∧ some k_ ≠ (.slice Ao927 y578.length co928 : Value).ownBlock)) (tR HO936.out) hg hat); replace HB := aS (hb); have HO945 := aS (ho); clear HO942; clear ho hb hg hat; obtain ⟨Ao946, co947, eo948⟩ := Kd.R_slice HO945.out; subst eo948) | ((with_reducible refine gate_callee (f := 65) rfl ?_); refine goesL_ (some 42) rfl rfl Try.func65 (by kernel_rfl) rfl #[.int .i64 t581, .slice Ao946 y594.length co947] rfl (by (try simp only [List.map_toArray, List.map_cons, List.map_nil]); first | done | rfl) ?_; (with_reducible refine (mantletref02_Add.calls k t581 _ _ y594 t597 _ ?side949 ?side950 A16.out).mono ?_); (case side949 => repeat (first | exact (Kd.R_reads' HO945.out).2.2 | (with_reducible refine Kd.C_alloc ?_ _) | (with_reducible refine Kd.C_drewN ?_ _) | (with_reducible refine Kd.C_drew ?_))); (case side950 => exact (Kd.R_reads' HO945.out).2.1); rintro e w' ⟨rfl, ⟨nd, rfl⟩⟩; refine ⟨_, rfl, ?_⟩) | go_values | go_skip | go_guarded | go_step | go_upon | go_back)
       have H := HH_.out
       clear HH_
       by_cases c17 : (wrap64 (65535 - t597)) = 0
       ·rw [if_pos c17] at H
        have c17b0 : ((wrap64 (65535 - t597)) == 0) = true := beq_iff_eq.mpr c17
        have c17b1 : ((wrap64 (65535 - t597)) != 0) = false := bne_eq_false_iff_eq.mpr c17
        clear c17
        replace H := Option.bind_eq_some_iff.mp H
        obtain ⟨t598, A180, H⟩ := H
        try dsimp -simprocs only at H
        have A18 := aS A180
        clear A180
        by_cases c19 : y578.length + t598.length < 140737488355328
        ·rw [if_pos c19] at H
         have LMc19 := aS c19
         clear c19
         obtain ⟨y601, hy601⟩ : ∃ y_ : List Int, y_ = (y578 ++ t598) := ⟨_, rfl⟩
         first | with_reducible replace H := bindY hy601 H | rw [← hy601] at H | skip
         try dsimp -simprocs only at H
         have Ny601 := aS hy601
         clear hy601
         by_cases c20 : y601.length + l4.length < 140737488355328
         ·rw [if_pos c20] at H
          have LMc20 := aS c20
          clear c20
          obtain ⟨y604, hy604⟩ : ∃ y_ : List Int, y_ = (y601 ++ l4) := ⟨_, rfl⟩
          first | with_reducible replace H := bindY hy604 H | rw [← hy604] at H | skip
          try dsimp -simprocs only at H
          have Ny604 := aS hy604
          clear hy604
          simp only [Option.some.injEq, Prod.mk.injEq] at H
          obtain ⟨rfl, rfl⟩ := H
          go_wp2_with (first | ((with_reducible refine gate_callee (f := 71) rfl ?_); refine goesL_ (some 48) rfl rfl Try.func71 (by kernel_rfl) rfl #[.int .i64 65535] rfl (by (try simp only [List.map_toArray, List.map_cons, List.map_nil]); first | done | rfl) ?_; (with_reducible refine (mantletref04_Put.calls 65535 t598 _ A18.out).mono ?_); rintro e w951 ⟨v952, rfl, ho902, hb⟩; refine ⟨_, rfl, ?_⟩; have HO953 := aS (Kd.R_lower (Kd.R_new' (Kd.R_new' (Kd.R_new' (Kd.R_new' (Kd.R_new' ho902 (Kd.R_lt (tR HO906.out))) (Kd.R_lt (tR HO915.out))) (Kd.R_lt (tR HO921.out))) (Kd.R_lt (tR HO936.out))) (Kd.R_lt (tR HO945.out))) (below_size (tB HB.out))); replace HO906 := aS (Kd.R_elder' (tR HO906.out) (Kd.R_base ho902) hb); replace HO915 := aS (Kd.R_elder' (tR HO915.out) (Kd.R_base ho902) hb); replace HO921 := aS (Kd.R_elder' (tR HO921.out) (Kd.R_base ho902) hb); replace HO936 := aS (Kd.R_elder' (tR HO936.out) (Kd.R_base ho902) hb); replace HO945 := aS (Kd.R_elder' (tR HO945.out) (Kd.R_base ho902) hb); replace HB := aS (below_step (tB HB.out) hb); (try clear hb); (try clear hb2); (try clear hk); (try clear hi); (try clear ho902); obtain ⟨Ao954, co955, eo956⟩ := Kd.R_slice HO953.out; subst eo956) | ((with_reducible refine gate_builtin (b := .append) (xs := #[.tmp 46, .tmp 48]) rfl ?_); at_builtin; refine Kd.R_append_rows (Kd.int .u8) (w0 := w) w.heap.size rfl (.tmp 46) (.tmp 48) 22 5 (.int .u8 0) 1 rfl Try.underlying22 info5 rfl (by decide) (by omega) (.slice Ao927 y578.length co928) y578 t598 _ _ _ (fun k_ => some k_ ≠ (.slice Ao907 t569.length co908 : Value).ownBlock ∧ some k_ ≠ (.slice Ao916 t575.length co917 : Value).ownBlock ∧ some k_ ≠ (.slice Ao937 y588.length co938 : Value).ownBlock ∧ some k_ ≠ (.slice Ao946 y594.length co947 : Value).ownBlock ∧ some k_ ≠ (.slice Ao954 t598.length co955 : Value).ownBlock) (fun _ => False) rfl rfl ?aO ?aR (fun _ _ h => h) (fun _ h => h.elim) ?aF ?aB ?aS ?aL ?_; (case aR => repeat (first | exact (Kd.R_reads' HO953.out).2.2 | (with_reducible refine Kd.C_alloc ?_ _) | (with_reducible refine Kd.C_drewN ?_ _) | (with_reducible refine Kd.C_drew ?_))); (case aB => exact (tB HB.out)); (case aF => exact (fun k_ hk => ⟨Kd.fresh' (Kd.R_lt (tR HO906.out)) k_ hk, Kd.fresh' (Kd.R_lt (tR HO915.out)) k_ hk, Kd.fresh' (Kd.R_lt (tR HO936.out)) k_ hk, Kd.fresh' (Kd.R_lt (tR HO945.out)) k_ hk, Kd.fresh' (Kd.R_lt (tR HO953.out)) k_ hk⟩)); (case aO => exact (tR (Kd.R_mono HO921.out (fun _ hk => ⟨hk.1.1.1, ⟨hk.1.1.2.1, ⟨hk.1.1.2.2, ⟨hk.1.2, hk.2⟩⟩⟩⟩)))); (case aS => exact (below_size (tB HB.out))); (case aL => have := LMc19.out; omega); intro v957 w958 ho hb hg hat; rw [← Ny601.out] at ho; replace HO906 := aS (Kd.R_after (ok := (fun k_ => some k_ ≠ (.slice Ao916 t575.length co917 : Value).ownBlock ∧ some k_ ≠ (.slice Ao937 y588.length co938 : Value).ownBlock ∧ some k_ ≠ (.slice Ao946 y594.length co947 : Value).ownBlock ∧ some k_ ≠ (.slice Ao954 t598.length co955 : Value).ownBlock)) (tR (Kd.R_mono HO906.out (fun _ hk => ⟨⟨hk.1.1.1, ⟨hk.1.1.2.2, ⟨hk.1.2, hk.2⟩⟩⟩, hk.1.1.2.1⟩))) hg hat); replace HO915 := aS (Kd.R_after (ok := (fun k_ => some k_ ≠ (.slice Ao907 t569.length co908 : Value).ownBlock ∧ some k_ ≠ (.slice Ao937 y588.length co938 : Value).ownBlock ∧ some k_ ≠ (.slice Ao946 y594.length co947 : Value).ownBlock ∧ some k_ ≠ (.slice Ao954 t598.length co955 : Value).ownBlock)) (tR (Kd.R_mono HO915.out (fun _ hk => ⟨⟨hk.1.1.1, ⟨hk.1.1.2.2, ⟨hk.1.2, hk.2⟩⟩⟩, hk.1.1.2.1⟩))) hg hat); replace HO936 := aS (Kd.R_after (ok := (fun k_ => some k_ ≠ (.slice Ao907 t569.length co908 : Value).ownBlock ∧ some k_ ≠ (.slice Ao916 t575.length co917 : Value).ownBlock ∧ some k_ ≠ (.slice Ao946 y594.length co947 : Value).ownBlock ∧ some k_ ≠ (.slice Ao954 t598.length co955 : Value).ownBlock)) (tR (Kd.R_mono HO936.out (fun _ hk => ⟨⟨hk.1.1.1, ⟨hk.1.1.2.1, ⟨hk.1.2, hk.2⟩⟩⟩, hk.1.1.2.2⟩))) hg hat); replace HO945 := aS (Kd.R_after (ok := (fun k_ => some k_ ≠ (.slice Ao907 t569.length co908 : Value).ownBlock ∧ some k_ ≠ (.slice Ao916 t575.length co917 : Value).ownBlock ∧ some k_ ≠ (.slice Ao937 y588.length co938 : Value).ownBlock ∧ some k_ ≠ (.slice Ao954 t598.length co955 : Value).ownBlock)) (tR (Kd.R_mono HO945.out (fun _ hk => ⟨⟨hk.1.1, ⟨hk.1.2.1, ⟨hk.1.2.2.2, hk.2⟩⟩⟩, hk.1.2.2.1⟩))) hg hat); replace HO953 := aS (Kd.R_after (ok := (fun k_ => some k_ ≠ (.slice Ao907 t569.length co908 : Value).ownBlock ∧ some k_ ≠ (.slice Ao916 t575.length co917 : Value).ownBlock ∧ some k_ ≠ (.slice Ao937 y588.length co938 : Value).ownBlock ∧ some k_ ≠ (.slice Ao946 y594.length co947 : Value).ownBlock)) (tR (Kd.R_mono HO953.out (fun _ hk => ⟨⟨hk.1.1.1.1.2, ⟨hk.1.1.1.2, ⟨hk.1.2, hk.2⟩⟩⟩, hk.1.1.2⟩))) hg hat); replace HB := aS (hb); have HO959 := aS (ho); clear HO921; clear ho hb hg hat) | ((with_reducible refine gate_builtin (b := .append) (xs := #[.tmp 49, .tmp 50]) rfl ?_); at_builtin; refine Kd.R_append_rows (Kd.int .u8) (w0 := w) w.heap.size rfl (.tmp 49) (.tmp 50) 22 5 (.int .u8 0) 1 rfl Try.underlying22 info5 rfl (by decide) (by omega) v957 y601 l4 _ _ _ (fun k_ => some k_ ≠ (.slice Ao907 t569.length co908 : Value).ownBlock ∧ some k_ ≠ (.slice Ao916 t575.length co917 : Value).ownBlock ∧ some k_ ≠ (.slice Ao937 y588.length co938 : Value).ownBlock ∧ some k_ ≠ (.slice Ao946 y594.length co947 : Value).ownBlock ∧ some k_ ≠ (.slice Ao954 t598.length co955 : Value).ownBlock) (fun _ => False) rfl rfl ?aO ?aR (fun _ _ h => h) (fun _ h => h.elim) ?aF ?aB ?aS ?aL ?_; (case aR => repeat (first | exact (Kd.C_below HR4.out HB.out) | (with_reducible refine Kd.C_alloc ?_ _) | (with_reducible refine Kd.C_drewN ?_ _) | (with_reducible refine Kd.C_drew ?_))); (case aB => exact (tB HB.out)); (case aF => exact (fun k_ hk => ⟨Kd.fresh' (Kd.R_lt (tR HO906.out)) k_ hk, Kd.fresh' (Kd.R_lt (tR HO915.out)) k_ hk, Kd.fresh' (Kd.R_lt (tR HO936.out)) k_ hk, Kd.fresh' (Kd.R_lt (tR HO945.out)) k_ hk, Kd.fresh' (Kd.R_lt (tR HO953.out)) k_ hk⟩)); (case aO => exact (tR HO959.out)); (case aS => exact (below_size (tB HB.out))); (case aL => have := LMc20.out; omega); intro v960 w961 ho hb hg hat; rw [← Ny604.out] at ho; replace HO906 := aS (Kd.R_after (ok := (fun k_ => some k_ ≠ (.slice Ao916 t575.length co917 : Value).ownBlock ∧ some k_ ≠ (.slice Ao937 y588.length co938 : Value).ownBlock ∧ some k_ ≠ (.slice Ao946 y594.length co947 : Value).ownBlock ∧ some k_ ≠ (.slice Ao954 t598.length co955 : Value).ownBlock)) (tR HO906.out) hg hat); replace HO915 := aS (Kd.R_after (ok := (fun k_ => some k_ ≠ (.slice Ao907 t569.length co908 : Value).ownBlock ∧ some k_ ≠ (.slice Ao937 y588.length co938 : Value).ownBlock ∧ some k_ ≠ (.slice Ao946 y594.length co947 : Value).ownBlock ∧ some k_ ≠ (.slice Ao954 t598.length co955 : Value).ownBlock)) (tR HO915.out) hg hat); replace HO936 := aS (Kd.R_after (ok := (fun k_ => some k_ ≠ (.slice Ao907 t569.length co908 : Value).ownBlock ∧ some k_ ≠ (.slice Ao916 t575.length co917 : Value).ownBlock ∧ some k_ ≠ (.slice Ao946 y594.length co947 : Value).ownBlock ∧ some k_ ≠ (.slice Ao954 t598.length co955 : Value).ownBlock)) (tR HO936.out) hg hat); replace HO945 := aS (Kd.R_after (ok := (fun k_ => some k_ ≠ (.slice Ao907 t569.length co908 : Value).ownBlock ∧ some k_ ≠ (.slice Ao916 t575.length co917 : Value).ownBlock ∧ some k_ ≠ (.slice Ao937 y588.length co938 : Value).ownBlock ∧ some k_ ≠ (.slice Ao954 t598.length co955 : Value).ownBlock)) (tR HO945.out) hg hat); replace HO953 := aS (Kd.R_after (ok := (fun k_ => some k_ ≠ (.slice Ao907 t569.length co908 : Value).ownBlock ∧ some k_ ≠ (.slice Ao916 t575.length co917 : Value).ownBlock ∧ some k_ ≠ (.slice Ao937 y588.length co938 : Value).ownBlock ∧ some k_ ≠ (.slice Ao946 y594.length co947 : Value).ownBlock)) (tR HO953.out) hg hat); replace HB := aS (hb); have HO962 := aS (ho); clear HO959; clear ho hb hg hat))
          go_ret2
          exact ⟨_, by first | rfl | (simp [errW_none, errW_some] <;> rfl) | (simp [*, errW_none, errW_some] <;> rfl), by (with_reducible repeat apply mR); exact Kd.R_mono HO962.out (fun _ hk => trivial), tB HB.out⟩
         ·rw [if_neg c20] at H
          exact absurd H (by simp)
        ·rw [if_neg c19] at H
         exact absurd H (by simp)
       ·rw [if_neg c17] at H
        have c17b0 : ((wrap64 (65535 - t597)) == 0) = false := beq_eq_false_iff_ne.mpr c17
        have c17b1 : ((wrap64 (65535 - t597)) != 0) = true := bne_iff_ne.mpr c17
        replace H := Option.bind_eq_some_iff.mp H
        obtain ⟨t607, A430, H⟩ := H
        try dsimp -simprocs only at H
        have A43 := aS A430
        clear A430
        by_cases c44 : y578.length + t607.length < 140737488355328
        ·rw [if_pos c44] at H
         have LMc44 := aS c44
         clear c44
         obtain ⟨y610, hy610⟩ : ∃ y_ : List Int, y_ = (y578 ++ t607) := ⟨_, rfl⟩
         first | with_reducible replace H := bindY hy610 H | rw [← hy610] at H | skip
         try dsimp -simprocs only at H
         have Ny610 := aS hy610
         clear hy610
         by_cases c45 : y610.length + l4.length < 140737488355328
         ·rw [if_pos c45] at H
          have LMc45 := aS c45
          clear c45
          obtain ⟨y613, hy613⟩ : ∃ y_ : List Int, y_ = (y610 ++ l4) := ⟨_, rfl⟩
          first | with_reducible replace H := bindY hy613 H | rw [← hy613] at H | skip
          try dsimp -simprocs only at H
          have Ny613 := aS hy613
          clear hy613
          simp only [Option.some.injEq, Prod.mk.injEq] at H
          obtain ⟨rfl, rfl⟩ := H
          go_wp2_with (first | ((with_reducible refine gate_callee (f := 71) rfl ?_); refine goesL_ (some 48) rfl rfl Try.func71 (by kernel_rfl) rfl #[.int .i64 (wrap64 (65535 - t597))] rfl (by (try simp only [List.map_toArray, List.map_cons, List.map_nil]); first | done | rfl) ?_; (with_reducible refine (mantletref04_Put.calls (wrap64 (65535 - t597)) t607 _ A43.out).mono ?_); rintro e w951 ⟨v952, rfl, ho902, hb⟩; refine ⟨_, rfl, ?_⟩; have HO953 := aS (Kd.R_lower (Kd.R_new' (Kd.R_new' (Kd.R_new' (Kd.R_new' (Kd.R_new' ho902 (Kd.R_lt (tR HO906.out))) (Kd.R_lt (tR HO915.out))) (Kd.R_lt (tR HO921.out))) (Kd.R_lt (tR HO936.out))) (Kd.R_lt (tR HO945.out))) (below_size (tB HB.out))); replace HO906 := aS (Kd.R_elder' (tR HO906.out) (Kd.R_base ho902) hb); replace HO915 := aS (Kd.R_elder' (tR HO915.out) (Kd.R_base ho902) hb); replace HO921 := aS (Kd.R_elder' (tR HO921.out) (Kd.R_base ho902) hb); replace HO936 := aS (Kd.R_elder' (tR HO936.out) (Kd.R_base ho902) hb); replace HO945 := aS (Kd.R_elder' (tR HO945.out) (Kd.R_base ho902) hb); replace HB := aS (below_step (tB HB.out) hb); (try clear hb); (try clear hb2); (try clear hk); (try clear hi); (try clear ho902); obtain ⟨Ao954, co955, eo956⟩ := Kd.R_slice HO953.out; subst eo956) | ((with_reducible refine gate_builtin (b := .append) (xs := #[.tmp 46, .tmp 48]) rfl ?_); at_builtin; refine Kd.R_append_rows (Kd.int .u8) (w0 := w) w.heap.size rfl (.tmp 46) (.tmp 48) 22 5 (.int .u8 0) 1 rfl Try.underlying22 info5 rfl (by decide) (by omega) (.slice Ao927 y578.length co928) y578 t607 _ _ _ (fun k_ => some k_ ≠ (.slice Ao907 t569.length co908 : Value).ownBlock ∧ some k_ ≠ (.slice Ao916 t575.length co917 : Value).ownBlock ∧ some k_ ≠ (.slice Ao937 y588.length co938 : Value).ownBlock ∧ some k_ ≠ (.slice Ao946 y594.length co947 : Value).ownBlock ∧ some k_ ≠ (.slice Ao954 t607.length co955 : Value).ownBlock) (fun _ => False) rfl rfl ?aO ?aR (fun _ _ h => h) (fun _ h => h.elim) ?aF ?aB ?aS ?aL ?_; (case aR => repeat (first | exact (Kd.R_reads' HO953.out).2.2 | (with_reducible refine Kd.C_alloc ?_ _) | (with_reducible refine Kd.C_drewN ?_ _) | (with_reducible refine Kd.C_drew ?_))); (case aB => exact (tB HB.out)); (case aF => exact (fun k_ hk => ⟨Kd.fresh' (Kd.R_lt (tR HO906.out)) k_ hk, Kd.fresh' (Kd.R_lt (tR HO915.out)) k_ hk, Kd.fresh' (Kd.R_lt (tR HO936.out)) k_ hk, Kd.fresh' (Kd.R_lt (tR HO945.out)) k_ hk, Kd.fresh' (Kd.R_lt (tR HO953.out)) k_ hk⟩)); (case aO => exact (tR (Kd.R_mono HO921.out (fun _ hk => ⟨hk.1.1.1, ⟨hk.1.1.2.1, ⟨hk.1.1.2.2, ⟨hk.1.2, hk.2⟩⟩⟩⟩)))); (case aS => exact (below_size (tB HB.out))); (case aL => have := LMc44.out; omega); intro v957 w958 ho hb hg hat; rw [← Ny610.out] at ho; replace HO906 := aS (Kd.R_after (ok := (fun k_ => some k_ ≠ (.slice Ao916 t575.length co917 : Value).ownBlock ∧ some k_ ≠ (.slice Ao937 y588.length co938 : Value).ownBlock ∧ some k_ ≠ (.slice Ao946 y594.length co947 : Value).ownBlock ∧ some k_ ≠ (.slice Ao954 t607.length co955 : Value).ownBlock)) (tR (Kd.R_mono HO906.out (fun _ hk => ⟨⟨hk.1.1.1, ⟨hk.1.1.2.2, ⟨hk.1.2, hk.2⟩⟩⟩, hk.1.1.2.1⟩))) hg hat); replace HO915 := aS (Kd.R_after (ok := (fun k_ => some k_ ≠ (.slice Ao907 t569.length co908 : Value).ownBlock ∧ some k_ ≠ (.slice Ao937 y588.length co938 : Value).ownBlock ∧ some k_ ≠ (.slice Ao946 y594.length co947 : Value).ownBlock ∧ some k_ ≠ (.slice Ao954 t607.length co955 : Value).ownBlock)) (tR (Kd.R_mono HO915.out (fun _ hk => ⟨⟨hk.1.1.1, ⟨hk.1.1.2.2, ⟨hk.1.2, hk.2⟩⟩⟩, hk.1.1.2.1⟩))) hg hat); replace HO936 := aS (Kd.R_after (ok := (fun k_ => some k_ ≠ (.slice Ao907 t569.length co908 : Value).ownBlock ∧ some k_ ≠ (.slice Ao916 t575.length co917 : Value).ownBlock ∧ some k_ ≠ (.slice Ao946 y594.length co947 : Value).ownBlock ∧ some k_ ≠ (.slice Ao954 t607.length co955 : Value).ownBlock)) (tR (Kd.R_mono HO936.out (fun _ hk => ⟨⟨hk.1.1.1, ⟨hk.1.1.2.1, ⟨hk.1.2, hk.2⟩⟩⟩, hk.1.1.2.2⟩))) hg hat); replace HO945 := aS (Kd.R_after (ok := (fun k_ => some k_ ≠ (.slice Ao907 t569.length co908 : Value).ownBlock ∧ some k_ ≠ (.slice Ao916 t575.length co917 : Value).ownBlock ∧ some k_ ≠ (.slice Ao937 y588.length co938 : Value).ownBlock ∧ some k_ ≠ (.slice Ao954 t607.length co955 : Value).ownBlock)) (tR (Kd.R_mono HO945.out (fun _ hk => ⟨⟨hk.1.1, ⟨hk.1.2.1, ⟨hk.1.2.2.2, hk.2⟩⟩⟩, hk.1.2.2.1⟩))) hg hat); replace HO953 := aS (Kd.R_after (ok := (fun k_ => some k_ ≠ (.slice Ao907 t569.length co908 : Value).ownBlock ∧ some k_ ≠ (.slice Ao916 t575.length co917 : Value).ownBlock ∧ some k_ ≠ (.slice Ao937 y588.length co938 : Value).ownBlock ∧ some k_ ≠ (.slice Ao946 y594.length co947 : Value).ownBlock)) (tR (Kd.R_mono HO953.out (fun _ hk => ⟨⟨hk.1.1.1.1.2, ⟨hk.1.1.1.2, ⟨hk.1.2, hk.2⟩⟩⟩, hk.1.1.2⟩))) hg hat); replace HB := aS (hb); have HO959 := aS (ho); clear HO921; clear ho hb hg hat) | ((with_reducible refine gate_builtin (b := .append) (xs := #[.tmp 49, .tmp 50]) rfl ?_); at_builtin; refine Kd.R_append_rows (Kd.int .u8) (w0 := w) w.heap.size rfl (.tmp 49) (.tmp 50) 22 5 (.int .u8 0) 1 rfl Try.underlying22 info5 rfl (by decide) (by omega) v957 y610 l4 _ _ _ (fun k_ => some k_ ≠ (.slice Ao907 t569.length co908 : Value).ownBlock ∧ some k_ ≠ (.slice Ao916 t575.length co917 : Value).ownBlock ∧ some k_ ≠ (.slice Ao937 y588.length co938 : Value).ownBlock ∧ some k_ ≠ (.slice Ao946 y594.length co947 : Value).ownBlock ∧ some k_ ≠ (.slice Ao954 t607.length co955 : Value).ownBlock) (fun _ => False) rfl rfl ?aO ?aR (fun _ _ h => h) (fun _ h => h.elim) ?aF ?aB ?aS ?aL ?_; (case aR => repeat (first | exact (Kd.C_below HR4.out HB.out) | (with_reducible refine Kd.C_alloc ?_ _) | (with_reducible refine Kd.C_drewN ?_ _) | (with_reducible refine Kd.C_drew ?_))); (case aB => exact (tB HB.out)); (case aF => exact (fun k_ hk => ⟨Kd.fresh' (Kd.R_lt (tR HO906.out)) k_ hk, Kd.fresh' (Kd.R_lt (tR HO915.out)) k_ hk, Kd.fresh' (Kd.R_lt (tR HO936.out)) k_ hk, Kd.fresh' (Kd.R_lt (tR HO945.out)) k_ hk, Kd.fresh' (Kd.R_lt (tR HO953.out)) k_ hk⟩)); (case aO => exact (tR HO959.out)); (case aS => exact (below_size (tB HB.out))); (case aL => have := LMc45.out; omega); intro v960 w961 ho hb hg hat; rw [← Ny613.out] at ho; replace HO906 := aS (Kd.R_after (ok := (fun k_ => some k_ ≠ (.slice Ao916 t575.length co917 : Value).ownBlock ∧ some k_ ≠ (.slice Ao937 y588.length co938 : Value).ownBlock ∧ some k_ ≠ (.slice Ao946 y594.length co947 : Value).ownBlock ∧ some k_ ≠ (.slice Ao954 t607.length co955 : Value).ownBlock)) (tR HO906.out) hg hat); replace HO915 := aS (Kd.R_after (ok := (fun k_ => some k_ ≠ (.slice Ao907 t569.length co908 : Value).ownBlock ∧ some k_ ≠ (.slice Ao937 y588.length co938 : Value).ownBlock ∧ some k_ ≠ (.slice Ao946 y594.length co947 : Value).ownBlock ∧ some k_ ≠ (.slice Ao954 t607.length co955 : Value).ownBlock)) (tR HO915.out) hg hat); replace HO936 := aS (Kd.R_after (ok := (fun k_ => some k_ ≠ (.slice Ao907 t569.length co908 : Value).ownBlock ∧ some k_ ≠ (.slice Ao916 t575.length co917 : Value).ownBlock ∧ some k_ ≠ (.slice Ao946 y594.length co947 : Value).ownBlock ∧ some k_ ≠ (.slice Ao954 t607.length co955 : Value).ownBlock)) (tR HO936.out) hg hat); replace HO945 := aS (Kd.R_after (ok := (fun k_ => some k_ ≠ (.slice Ao907 t569.length co908 : Value).ownBlock ∧ some k_ ≠ (.slice Ao916 t575.length co917 : Value).ownBlock ∧ some k_ ≠ (.slice Ao937 y588.length co938 : Value).ownBlock ∧ some k_ ≠ (.slice Ao954 t607.length co955 : Value).ownBlock)) (tR HO945.out) hg hat); replace HO953 := aS (Kd.R_after (ok := (fun k_ => some k_ ≠ (.slice Ao907 t569.length co908 : Value).ownBlock ∧ some k_ ≠ (.slice Ao916 t575.length co917 : Value).ownBlock ∧ some k_ ≠ (.slice Ao937 y588.length co938 : Value).ownBlock ∧ some k_ ≠ (.slice Ao946 y594.length co947 : Value).ownBlock)) (tR HO953.out) hg hat); replace HB := aS (hb); have HO962 := aS (ho); clear HO959; clear ho hb hg hat))
          go_ret2
          exact ⟨_, by first | rfl | (simp [errW_none, errW_some] <;> rfl) | (simp [*, errW_none, errW_some] <;> rfl), by (with_reducible repeat apply mR); exact Kd.R_mono HO962.out (fun _ hk => trivial), tB HB.out⟩
         ·rw [if_neg c45] at H
          exact absurd H (by simp)
        ·rw [if_neg c44] at H
         exact absurd H (by simp)
      ·rw [if_neg c15] at H
       exact absurd H (by simp)
     ·rw [if_neg c14] at H
      exact absurd H (by simp)
    ·rw [if_neg c13] at H
     exact absurd H (by simp)
   ·rw [if_neg c11] at H
    exact absurd H (by simp)
  ·rw [if_neg c9] at H
   exact absurd H (by simp)

end Go.Proofs.Ytofjgdbiieanjaa.All
