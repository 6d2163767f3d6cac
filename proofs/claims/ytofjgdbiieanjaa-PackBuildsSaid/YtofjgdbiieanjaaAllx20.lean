-- Made by a program of this workplace (wip/pr.sh) out of Lean's print of the translation; Lean checks it.
import Derived.Test.YtofjgdbiieanjaaAllx0
import Derived.Test.YtofjgdbiieanjaaAllx53
namespace Go.Proofs.Ytofjgdbiieanjaa.All
open Go.Proofs.Ytofjgdbiieanjaa.Ext
open Go.RowKit Go.Proofs.YtofjgdbiieanjaaW.PrintWords Go.Proofs.YtofjgdbiieanjaaW.PrintLast Go.Proofs.YtofjgdbiieanjaaW.PrintMore
attribute [local go_sem] max2_int min2_int max_two min_two max_three min_three max_four min_four   -- for this text's walks alone
set_option linter.unusedVariables false
set_option linter.unusedSimpArgs false

/-! ### mantletref07_Build: function 29 -/
def mantletref07_Build.j0 : Nat → Int → Int → List Int → Bool → Option (List Int × Int)
  | 0, _, _, _, _ => none
  | k + 1, x0, x1, x2, x15 => if x15 = true then (some (([] : List Int), 10)) else (if (x2.length : Int) > 1472 then (some (([] : List Int), 2)) else ((mantletref04_Put.f (wrap64 (x1))).bind fun t205 => ((some (([0, 0] : List Int) : List Int)).bind fun y208 => (if t205.length + y208.length < 140737488355328 then ((some (t205 ++ y208 : List Int)).bind fun y211 => (if y211.length + x2.length < 140737488355328 then ((some (y211 ++ x2 : List Int)).bind fun y214 => ((some (([x0, 0, 0, 0] : List Int) : List Int)).bind fun y217 => (if y217.length + y214.length < 140737488355328 then ((mantletref02_Add.f k 0 (y217 ++ y214)).bind fun t223 => ((some (([x0, 0] : List Int) : List Int)).bind fun y224 => ((mantletref04_Put.f (wrap64 (65535 - t223))).bind fun t227 => (if y224.length + t227.length < 140737488355328 then ((some (y224 ++ t227 : List Int)).bind fun y230 => (if y230.length + y214.length < 140737488355328 then (some ((y230 ++ y214), 0)) else (none))) else (none))))) else (none)))) else (none))) else (none)))))
def mantletref07_Build.f (k : Nat) (a0 : Int) (a1 : Int) (l2 : List Int) : Option (List Int × Int) := if a0 = 8 then (mantletref07_Build.j0 k a0 a1 l2 false) else (mantletref07_Build.j0 k a0 a1 l2 (a0 != 0))
theorem mantletref07_Build.mono_l : ∀ k, (∀ y0 y1 y2 y3, LeO (mantletref07_Build.j0 k y0 y1 y2 y3) (mantletref07_Build.j0 (k + 1) y0 y1 y2 y3))
  | 0 => fun _ _ _ _ r h => by simp [mantletref07_Build.j0] at h
  | k + 1 => by
    have ih0 := mantletref07_Build.mono_l k
    · intro y0 y1 y2 y3
      unfold mantletref07_Build.j0
      repeat' first
      | (with_reducible exact ih0 _ _ _ _)
      | (with_reducible exact mantletref02_Add.mono _ _ _)
      | (with_reducible exact LeO.refl _)
      | (with_reducible exact LeO.none _)
      | (with_reducible refine LeO.ite ?_ ?_)
      | (with_reducible refine LeO.bind ?_ (fun _ => ?_))
      | exact ih0 _ _ _ _
      | exact mantletref02_Add.mono _ _ _
      | exact LeO.none _
      | refine LeO.ite ?_ ?_
      | refine LeO.bind ?_ (fun _ => ?_)
theorem mantletref07_Build.mono : ∀ a0 a1 a2 k, LeO (mantletref07_Build.f k a0 a1 a2) (mantletref07_Build.f (k + 1) a0 a1 a2) := by
  intro a0 a1 a2 k
  have ih0 := mantletref07_Build.mono_l k
  unfold mantletref07_Build.f
  repeat' first
      | (with_reducible exact ih0 _ _ _ _)
      | (with_reducible exact mantletref02_Add.mono _ _ _)
      | (with_reducible exact LeO.refl _)
      | (with_reducible exact LeO.none _)
      | (with_reducible refine LeO.ite ?_ ?_)
      | (with_reducible refine LeO.bind ?_ (fun _ => ?_))
      | exact ih0 _ _ _ _
      | exact mantletref02_Add.mono _ _ _
      | exact LeO.none _
      | refine LeO.ite ?_ ?_
      | refine LeO.bind ?_ (fun _ => ?_)
set_option maxHeartbeats 8000000 in
set_option maxRecDepth 100000 in
theorem mantletref07_Build.calls (k : Nat) (a0 : Int) (a1 : Int) (A2 : Option Addr) (c2 : Nat) (l2 : List Int) (r1 : List Int) (r2 : Int) (w : World) (hr2 : Kd.C (Kd.int .u8) w A2 l2.length l2) (hc2 : l2.length ≤ c2) (h : mantletref07_Build.f k a0 a1 l2 = some (r1, r2)) :
    Calls Try.prog 29 #[.int .u8 a0, .int .u16 a1, .slice A2 l2.length c2] w fun e w' => ∃ v0_ : Value, e = .returned (.tuple #[v0_, .int .i64 r2]) ∧ Kd.R (Kd.int .u8) 5 w' w.heap.size (fun _ => True) v0_ r1 ∧ Below w.heap.size w w' := by
 have HR2 := aS hr2
 have HC2 := aS hc2
 clear hr2 hc2
 have HB := aS (Below.refl w.heap.size w)
 have H := h
 unfold mantletref07_Build.f at H
 clear h
 have HC4 := aS H
 clear H
 go_enter Try.func29, Try.ntmps29
 go_upto_region 1 with (fail)
 go_cut [15] (fun v15 wc => ∃ (kq : Nat) (x15_3 : Bool), v15 = .bool x15_3 ∧ Aside0 (mantletref07_Build.j0 kq a0 a1 l2 x15_3 = some (r1, r2)) ∧ Aside0 (kq ≤ k) ∧ Aside0 (Below w.heap.size w wc))
 case first =>
  have H := HC4.out
  clear HC4
  by_cases c5 : a0 = 8
  ·rw [if_pos c5] at H
   have c5b0 : (a0 == 8) = true := beq_iff_eq.mpr c5
   have c5b1 : (a0 != 8) = false := bne_eq_false_iff_eq.mpr c5
   clear c5
   (first | rw [c5b0] | (simp only [i64_w, i32_w]; rw [c5b0]) | skip)
   have H' := aS H
   clear H
   go_wp2
   go_meet
   case rel => exact ⟨_, (false), (by first | rfl | (simp; done) | (simp [*]; done)), H', ⟨by first | omega | exact Nat.le_refl _⟩, ⟨tB HB.out⟩⟩
  ·rw [if_neg c5] at H
   have c5b0 : (a0 == 8) = false := beq_eq_false_iff_ne.mpr c5
   have c5b1 : (a0 != 8) = true := bne_iff_ne.mpr c5
   (first | rw [c5b0] | (simp only [i64_w, i32_w]; rw [c5b0]) | skip)
   have H' := aS H
   clear H
   go_wp2
   go_meet
   case rel => exact ⟨_, ((a0 != 0)), (by first | rfl | (simp; done) | (simp [*]; done)), H', ⟨by first | omega | exact Nat.le_refl _⟩, ⟨tB HB.out⟩⟩
 case rest =>
  clear HC4; (try clear c2); obtain ⟨kq, x15_3, rfl, HA, HJ3, HB⟩ := hcut
  cases kq with
  | zero => exact absurd HA.out (by simp [mantletref07_Build.j0])
  | succ kj3 =>
   have H := HA.out
   clear HA
   simp only [mantletref07_Build.j0] at H
   by_cases c6 : x15_3 = true
   ·subst c6
    rw [if_pos rfl] at H
    have H1 := H; clear H; have H := H1; clear H1
    simp only [Option.some.injEq, Prod.mk.injEq] at H
    obtain ⟨rfl, rfl⟩ := H
    go_wp2
    go_ret2
    exact ⟨_, by first | rfl | (simp [errW_none, errW_some] <;> rfl) | (simp [*, errW_none, errW_some] <;> rfl), by first | exact Kd.R_nil _ _ _ _ _ | exact Kd.N_nil _ _ _ _ _ | exact Kd.V_nil _ _ _ _ _ | exact Kd.Q_nil _ _ _ _ _ | exact Kd.S_nil _ _ _ _ _, tB HB.out⟩
   ·replace c6 := Bool.eq_false_iff.mpr c6
    subst c6
    rw [if_neg (show ¬ (false = true) by decide)] at H
    have H1 := H; clear H; have H := H1; clear H1
    by_cases c7 : (l2.length : Int) > 1472
    ·rw [if_pos c7] at H
     have c7b0 : decide (1472 < (l2.length : Int)) = true := decide_eq_true c7
     have c7b1 : decide (1472 < l2.length) = true := decide_eq_true (by omega)
     clear c7
     simp only [Option.some.injEq, Prod.mk.injEq] at H
     obtain ⟨rfl, rfl⟩ := H
     go_wp2
     go_ret2
     exact ⟨_, by first | rfl | (simp [errW_none, errW_some] <;> rfl) | (simp [*, errW_none, errW_some] <;> rfl), by first | exact Kd.R_nil _ _ _ _ _ | exact Kd.N_nil _ _ _ _ _ | exact Kd.V_nil _ _ _ _ _ | exact Kd.Q_nil _ _ _ _ _ | exact Kd.S_nil _ _ _ _ _, tB HB.out⟩
    ·rw [if_neg c7] at H
     have c7b0 : decide (1472 < (l2.length : Int)) = false := decide_eq_false c7
     have c7b1 : decide (1472 < l2.length) = false := decide_eq_false (by omega)
     clear c7
     replace H := Option.bind_eq_some_iff.mp H
     obtain ⟨t205, A80, H⟩ := H
     try dsimp -simprocs only at H
     have A8 := aS A80
     clear A80
     obtain ⟨y208, hy208⟩ : ∃ y_ : List Int, y_ = (([0, 0] : List Int)) := ⟨_, rfl⟩
     first | with_reducible replace H := bindY hy208 H | rw [← hy208] at H | skip
     try dsimp -simprocs only at H
     have Ny208 := aS hy208
     clear hy208
     by_cases c9 : t205.length + y208.length < 140737488355328
     ·rw [if_pos c9] at H
      have LMc9 := aS c9
      clear c9
      obtain ⟨y211, hy211⟩ : ∃ y_ : List Int, y_ = (t205 ++ y208) := ⟨_, rfl⟩
      first | with_reducible replace H := bindY hy211 H | rw [← hy211] at H | skip
      try dsimp -simprocs only at H
      have Ny211 := aS hy211
      clear hy211
      by_cases c10 : y211.length + l2.length < 140737488355328
      ·rw [if_pos c10] at H
       have LMc10 := aS c10
       clear c10
       obtain ⟨y214, hy214⟩ : ∃ y_ : List Int, y_ = (y211 ++ l2) := ⟨_, rfl⟩
       first | with_reducible replace H := bindY hy214 H | rw [← hy214] at H | skip
       try dsimp -simprocs only at H
       have Ny214 := aS hy214
       clear hy214
       obtain ⟨y217, hy217⟩ : ∃ y_ : List Int, y_ = (([a0, 0, 0, 0] : List Int)) := ⟨_, rfl⟩
       first | with_reducible replace H := bindY hy217 H | rw [← hy217] at H | skip
       try dsimp -simprocs only at H
       have Ny217 := aS hy217
       clear hy217
       by_cases c11 : y217.length + y214.length < 140737488355328
       ·rw [if_pos c11] at H
        have LMc11 := aS c11
        clear c11
        obtain ⟨y220, hy220⟩ : ∃ y_ : List Int, y_ = (y217 ++ y214) := ⟨_, rfl⟩
        first | with_reducible replace H := bindY hy220 H | rw [← hy220] at H | skip
        try dsimp -simprocs only at H
        have Ny220 := aS hy220
        clear hy220
        replace H := Option.bind_eq_some_iff.mp H
        obtain ⟨t223, A120, H⟩ := H
        try dsimp -simprocs only at H
        have A12 := aS A120
        clear A120
        obtain ⟨y224, hy224⟩ : ∃ y_ : List Int, y_ = (([a0, 0] : List Int)) := ⟨_, rfl⟩
        first | with_reducible replace H := bindY hy224 H | rw [← hy224] at H | skip
        try dsimp -simprocs only at H
        have Ny224 := aS hy224
        clear hy224
        replace H := Option.bind_eq_some_iff.mp H
        obtain ⟨t227, A130, H⟩ := H
        try dsimp -simprocs only at H
        have A13 := aS A130
        clear A130
        by_cases c14 : y224.length + t227.length < 140737488355328
        ·rw [if_pos c14] at H
         have LMc14 := aS c14
         clear c14
         obtain ⟨y230, hy230⟩ : ∃ y_ : List Int, y_ = (y224 ++ t227) := ⟨_, rfl⟩
         first | with_reducible replace H := bindY hy230 H | rw [← hy230] at H | skip
         try dsimp -simprocs only at H
         have Ny230 := aS hy230
         clear hy230
         by_cases c15 : y230.length + y214.length < 140737488355328
         ·rw [if_pos c15] at H
          have LMc15 := aS c15
          clear c15
          obtain ⟨y233, hy233⟩ : ∃ y_ : List Int, y_ = (y230 ++ y214) := ⟨_, rfl⟩
          first | with_reducible replace H := bindY hy233 H | rw [← hy233] at H | skip
          try dsimp -simprocs only at H
          have Ny233 := aS hy233
          clear hy233
          simp only [Option.some.injEq, Prod.mk.injEq] at H
          obtain ⟨rfl, rfl⟩ := H
          go_wp2_with (first | ((with_reducible refine gate_callee (f := 71) rfl ?_); refine goesL_ (some 21) rfl rfl Try.func71 (by kernel_rfl) rfl #[.int .i64 (wrap64 (a1))] rfl (by (try simp only [List.map_toArray, List.map_cons, List.map_nil]); first | done | rfl) ?_; (with_reducible refine (mantletref04_Put.calls (wrap64 (a1)) t205 _ A8.out).mono ?_); rintro e w16 ⟨v206, rfl, ho0, hb⟩; refine ⟨_, rfl, ?_⟩; have HO207 := aS (Kd.R_lower ho0 (below_size (tB HB.out))); replace HB := aS (below_step (tB HB.out) hb); (try clear hb); (try clear hb2); (try clear hk); (try clear hi); (try clear ho0)) | ((with_reducible refine gate_dst (N := 22) rfl ?_); refine Kd.R_lit (Kd.int .u8) _ 5 ?hg (N := 22) ?hd (xs := ([0, 0] : List Int)) (inner := [.int .u8 0, .int .u8 0]) (ok := fun _ => True) (okp := fun _ => True) ?hr ?hp (fun _ hk => hk) trivial (Below.refl _ _) (Nat.le_refl _) (by simp) ?_; (case hd => rfl); (case hg => rfl); (case hr => first | (go_simp; done) | (go_simp; rfl)); (case hp => exact (Reps.one (show Kd.M (Kd.int .u8) _ _ _ 0 [.int .u8 0] from rfl) (Reps.one (show Kd.M (Kd.int .u8) _ _ _ 0 [.int .u8 0] from rfl) (Reps.none _ _)))); intro v209 w17 ho18 hb hg_ hnew_; clear hg_ hnew_; (first | rw [← Ny208.out] at ho18 | (simp only [Int.reduceToNat] at ho18; rw [← Ny208.out] at ho18)); have HO210 := aS (Kd.R_lower (Kd.R_new' ho18 (Kd.R_lt (tR HO207.out))) (below_size (tB HB.out))); replace HO207 := aS (Kd.R_elder' (tR HO207.out) (Kd.R_base ho18) hb); replace HB := aS (below_step (tB HB.out) hb); clear hb ho18; obtain ⟨Ao20, co20, eo20⟩ := Kd.R_slice HO210.out; subst eo20) | ((with_reducible refine gate_builtin (b := .append) (xs := #[.tmp 21, .tmp 22]) rfl ?_); at_builtin; refine Kd.R_append_rows (Kd.int .u8) (w0 := w) w.heap.size rfl (.tmp 21) (.tmp 22) 22 5 (.int .u8 0) 1 rfl Try.underlying22 info5 rfl (by decide) (by omega) v206 t205 y208 _ _ _ (fun k_ => some k_ ≠ (.slice Ao20 y208.length co20 : Value).ownBlock) (fun _ => False) rfl rfl ?aO ?aR (fun _ _ h => h) (fun _ h => h.elim) ?aF ?aB ?aS ?aL ?_; (case aR => repeat (first | exact (Kd.R_reads' HO210.out).2.2 | (with_reducible refine Kd.C_alloc ?_ _) | (with_reducible refine Kd.C_drewN ?_ _) | (with_reducible refine Kd.C_drew ?_))); (case aB => exact (tB HB.out)); (case aF => exact (fun k_ hk => Kd.fresh' (Kd.R_lt (tR HO210.out)) k_ hk)); (case aO => exact (tR (Kd.R_mono HO207.out (fun _ hk => hk.2)))); (case aS => exact (below_size (tB HB.out))); (case aL => have := LMc9.out; omega); intro v212 w19 ho hb hg hat; rw [← Ny211.out] at ho; replace HO210 := aS (Kd.R_after (ok := (fun _ => True)) (tR HO210.out) hg hat); replace HB := aS (hb); have HO213 := aS (ho); clear HO207; clear ho hb hg hat) | ((with_reducible refine gate_builtin (b := .append) (xs := #[.tmp 23, .tmp 24]) rfl ?_); at_builtin; refine Kd.R_append_rows (Kd.int .u8) (w0 := w) w.heap.size rfl (.tmp 23) (.tmp 24) 22 5 (.int .u8 0) 1 rfl Try.underlying22 info5 rfl (by decide) (by omega) v212 y211 l2 _ _ _ (fun k_ => some k_ ≠ (.slice Ao20 y208.length co20 : Value).ownBlock) (fun _ => False) rfl rfl ?aO ?aR (fun _ _ h => h) (fun _ h => h.elim) ?aF ?aB ?aS ?aL ?_; (case aR => repeat (first | exact (Kd.C_below HR2.out HB.out) | (with_reducible refine Kd.C_alloc ?_ _) | (with_reducible refine Kd.C_drewN ?_ _) | (with_reducible refine Kd.C_drew ?_))); (case aB => exact (tB HB.out)); (case aF => exact (fun k_ hk => Kd.fresh' (Kd.R_lt (tR HO210.out)) k_ hk)); (case aO => exact (tR HO213.out)); (case aS => exact (below_size (tB HB.out))); (case aL => have := LMc10.out; omega); intro v215 w21 ho hb hg hat; rw [← Ny214.out] at ho; replace HO210 := aS (Kd.R_after (ok := (fun _ => True)) (tR HO210.out) hg hat); replace HB := aS (hb); have HO216 := aS (ho); clear HO213; clear ho hb hg hat) | ((with_reducible refine gate_dst (N := 27) rfl ?_); refine Kd.R_lit (Kd.int .u8) _ 5 ?hg (N := 27) ?hd (xs := ([a0, 0, 0, 0] : List Int)) (inner := [.int .u8 a0, .int .u8 0, .int .u8 0, .int .u8 0]) (ok := fun _ => True) (okp := fun _ => True) ?hr ?hp (fun _ hk => hk) trivial (Below.refl _ _) (Nat.le_refl _) (by simp) ?_; (case hd => rfl); (case hg => rfl); (case hr => first | (go_simp; done) | (go_simp; rfl)); (case hp => exact (Reps.one (show Kd.M (Kd.int .u8) _ _ _ a0 [.int .u8 a0] from rfl) (Reps.one (show Kd.M (Kd.int .u8) _ _ _ 0 [.int .u8 0] from rfl) (Reps.one (show Kd.M (Kd.int .u8) _ _ _ 0 [.int .u8 0] from rfl) (Reps.one (show Kd.M (Kd.int .u8) _ _ _ 0 [.int .u8 0] from rfl) (Reps.none _ _)))))); intro v218 w22 ho23 hb hg_ hnew_; clear hg_ hnew_; (first | rw [← Ny217.out] at ho23 | (simp only [Int.reduceToNat] at ho23; rw [← Ny217.out] at ho23)); have HO219 := aS (Kd.R_lower (Kd.R_new' (Kd.R_new' ho23 (Kd.R_lt (tR HO210.out))) (Kd.R_lt (tR HO216.out))) (below_size (tB HB.out))); replace HO210 := aS (Kd.R_elder' (tR HO210.out) (Kd.R_base ho23) hb); replace HO216 := aS (Kd.R_elder' (tR HO216.out) (Kd.R_base ho23) hb); replace HB := aS (below_step (tB HB.out) hb); clear hb ho23; obtain ⟨Ao25, co25, eo25⟩ := Kd.R_slice HO216.out; subst eo25) | ((with_reducible refine gate_builtin (b := .append) (xs := #[.tmp 27, .tmp 28]) rfl ?_); at_builtin; refine Kd.R_append_rows (Kd.int .u8) (w0 := w) w.heap.size rfl (.tmp 27) (.tmp 28) 22 5 (.int .u8 0) 1 rfl Try.underlying22 info5 rfl (by decide) (by omega) v218 y217 y214 _ _ _ (fun k_ => some k_ ≠ (.slice Ao20 y208.length co20 : Value).ownBlock ∧ some k_ ≠ (.slice Ao25 y214.length co25 : Value).ownBlock) (fun _ => False) rfl rfl ?aO ?aR (fun _ _ h => h) (fun _ h => h.elim) ?aF ?aB ?aS ?aL ?_; (case aR => repeat (first | exact (Kd.R_reads' HO216.out).2.2 | (with_reducible refine Kd.C_alloc ?_ _) | (with_reducible refine Kd.C_drewN ?_ _) | (with_reducible refine Kd.C_drew ?_))); (case aB => exact (tB HB.out)); (case aF => exact (fun k_ hk => ⟨Kd.fresh' (Kd.R_lt (tR HO210.out)) k_ hk, Kd.fresh' (Kd.R_lt (tR HO216.out)) k_ hk⟩)); (case aO => exact (tR (Kd.R_mono HO219.out (fun _ hk => ⟨hk.1.2, hk.2⟩)))); (case aS => exact (below_size (tB HB.out))); (case aL => have := LMc11.out; omega); intro v221 w24 ho hb hg hat; rw [← Ny220.out] at ho; replace HO210 := aS (Kd.R_after (ok := (fun k_ => some k_ ≠ (.slice Ao25 y214.length co25 : Value).ownBlock)) (tR (Kd.R_mono HO210.out (fun _ hk => ⟨hk.1.2, hk.2⟩))) hg hat); replace HO216 := aS (Kd.R_after (ok := (fun k_ => some k_ ≠ (.slice Ao20 y208.length co20 : Value).ownBlock)) (tR HO216.out) hg hat); replace HB := aS (hb); have HO222 := aS (ho); clear HO219; clear ho hb hg hat; obtain ⟨Ao26, co26, eo26⟩ := Kd.R_slice HO222.out; subst eo26) | ((with_reducible refine gate_callee (f := 65) rfl ?_); refine goesL_ (some 30) rfl rfl Try.func65 (by kernel_rfl) rfl #[.int .i64 0, .slice Ao26 y220.length co26] rfl (by (try simp only [List.map_toArray, List.map_cons, List.map_nil]); first | done | rfl) ?_; (with_reducible refine (mantletref02_Add.calls kj3 0 _ _ y220 t223 _ ?side1 ?side2 A12.out).mono ?_); (case side1 => repeat (first | exact (Kd.R_reads' HO222.out).2.2 | (with_reducible refine Kd.C_alloc ?_ _) | (with_reducible refine Kd.C_drewN ?_ _) | (with_reducible refine Kd.C_drew ?_))); (case side2 => exact (Kd.R_reads' HO222.out).2.1); rintro e w' ⟨rfl, ⟨nd, rfl⟩⟩; refine ⟨_, rfl, ?_⟩) | ((with_reducible refine gate_dst (N := 33) rfl ?_); refine Kd.R_lit (Kd.int .u8) _ 5 ?hg (N := 33) ?hd (xs := ([a0, 0] : List Int)) (inner := [.int .u8 a0, .int .u8 0]) (ok := fun _ => True) (okp := fun _ => True) ?hr ?hp (fun _ hk => hk) trivial (Below.refl _ _) (Nat.le_refl _) (by simp) ?_; (case hd => rfl); (case hg => rfl); (case hr => first | (go_simp; done) | (go_simp; rfl)); (case hp => exact (Reps.one (show Kd.M (Kd.int .u8) _ _ _ a0 [.int .u8 a0] from rfl) (Reps.one (show Kd.M (Kd.int .u8) _ _ _ 0 [.int .u8 0] from rfl) (Reps.none _ _)))); intro v225 w27 ho28 hb hg_ hnew_; clear hg_ hnew_; (first | rw [← Ny224.out] at ho28 | (simp only [Int.reduceToNat] at ho28; rw [← Ny224.out] at ho28)); have HO226 := aS (Kd.R_lower (Kd.R_new' (Kd.R_new' (Kd.R_new' ho28 (Kd.R_lt (tR HO210.out))) (Kd.R_lt (tR HO216.out))) (Kd.R_lt (tR HO222.out))) (below_size (tB HB.out))); replace HO210 := aS (Kd.R_elder' (tR HO210.out) (Kd.R_base ho28) hb); replace HO216 := aS (Kd.R_elder' (tR HO216.out) (Kd.R_base ho28) hb); replace HO222 := aS (Kd.R_elder' (tR HO222.out) (Kd.R_base ho28) hb); replace HB := aS (below_step (tB HB.out) hb); clear hb ho28) | ((with_reducible refine gate_callee (f := 71) rfl ?_); refine goesL_ (some 35) rfl rfl Try.func71 (by kernel_rfl) rfl #[.int .i64 (wrap64 (65535 - t223))] rfl (by (try simp only [List.map_toArray, List.map_cons, List.map_nil]); first | done | rfl) ?_; (with_reducible refine (mantletref04_Put.calls (wrap64 (65535 - t223)) t227 _ A13.out).mono ?_); rintro e w29 ⟨v228, rfl, ho0, hb⟩; refine ⟨_, rfl, ?_⟩; have HO229 := aS (Kd.R_lower (Kd.R_new' (Kd.R_new' (Kd.R_new' (Kd.R_new' ho0 (Kd.R_lt (tR HO210.out))) (Kd.R_lt (tR HO216.out))) (Kd.R_lt (tR HO222.out))) (Kd.R_lt (tR HO226.out))) (below_size (tB HB.out))); replace HO210 := aS (Kd.R_elder' (tR HO210.out) (Kd.R_base ho0) hb); replace HO216 := aS (Kd.R_elder' (tR HO216.out) (Kd.R_base ho0) hb); replace HO222 := aS (Kd.R_elder' (tR HO222.out) (Kd.R_base ho0) hb); replace HO226 := aS (Kd.R_elder' (tR HO226.out) (Kd.R_base ho0) hb); replace HB := aS (below_step (tB HB.out) hb); (try clear hb); (try clear hb2); (try clear hk); (try clear hi); (try clear ho0); obtain ⟨Ao31, co31, eo31⟩ := Kd.R_slice HO229.out; subst eo31) | ((with_reducible refine gate_builtin (b := .append) (xs := #[.tmp 33, .tmp 35]) rfl ?_); at_builtin; refine Kd.R_append_rows (Kd.int .u8) (w0 := w) w.heap.size rfl (.tmp 33) (.tmp 35) 22 5 (.int .u8 0) 1 rfl Try.underlying22 info5 rfl (by decide) (by omega) v225 y224 t227 _ _ _ (fun k_ => some k_ ≠ (.slice Ao20 y208.length co20 : Value).ownBlock ∧ some k_ ≠ (.slice Ao25 y214.length co25 : Value).ownBlock ∧ some k_ ≠ (.slice Ao26 y220.length co26 : Value).ownBlock ∧ some k_ ≠ (.slice Ao31 t227.length co31 : Value).ownBlock) (fun _ => False) rfl rfl ?aO ?aR (fun _ _ h => h) (fun _ h => h.elim) ?aF ?aB ?aS ?aL ?_; (case aR => repeat (first | exact (Kd.R_reads' HO229.out).2.2 | (with_reducible refine Kd.C_alloc ?_ _) | (with_reducible refine Kd.C_drewN ?_ _) | (with_reducible refine Kd.C_drew ?_))); (case aB => exact (tB HB.out)); (case aF => exact (fun k_ hk => ⟨Kd.fresh' (Kd.R_lt (tR HO210.out)) k_ hk, Kd.fresh' (Kd.R_lt (tR HO216.out)) k_ hk, Kd.fresh' (Kd.R_lt (tR HO222.out)) k_ hk, Kd.fresh' (Kd.R_lt (tR HO229.out)) k_ hk⟩)); (case aO => exact (tR (Kd.R_mono HO226.out (fun _ hk => ⟨hk.1.1.1.2, ⟨hk.1.1.2, ⟨hk.1.2, hk.2⟩⟩⟩)))); (case aS => exact (below_size (tB HB.out))); (case aL => have := LMc14.out; omega); intro v231 w30 ho hb hg hat; rw [← Ny230.out] at ho; replace HO210 := aS (Kd.R_after (ok := (fun k_ => some k_ ≠ (.slice Ao25 y214.length co25 : Value).ownBlock ∧ some k_ ≠ (.slice Ao26 y220.length co26 : Value).ownBlock ∧ some k_ ≠ (.slice Ao31 t227.length co31 : Value).ownBlock)) (tR (Kd.R_mono HO210.out (fun _ hk => ⟨⟨hk.1.1.1, ⟨hk.1.1.2, hk.2⟩⟩, hk.1.2⟩))) hg hat); replace HO216 := aS (Kd.R_after (ok := (fun k_ => some k_ ≠ (.slice Ao20 y208.length co20 : Value).ownBlock ∧ some k_ ≠ (.slice Ao26 y220.length co26 : Value).ownBlock ∧ some k_ ≠ (.slice Ao31 t227.length co31 : Value).ownBlock)) (tR (Kd.R_mono HO216.out (fun _ hk => ⟨⟨hk.1.1.1, ⟨hk.1.1.2, hk.2⟩⟩, hk.1.2⟩))) hg hat); replace HO222 := aS (Kd.R_after (ok := (fun k_ => some k_ ≠ (.slice Ao20 y208.length co20 : Value).ownBlock ∧ some k_ ≠ (.slice Ao25 y214.length co25 : Value).ownBlock ∧ some k_ ≠ (.slice Ao31 t227.length co31 : Value).ownBlock)) (tR (Kd.R_mono HO222.out (fun _ hk => ⟨⟨hk.1.1.1, ⟨hk.1.1.2, hk.2⟩⟩, hk.1.2⟩))) hg hat); replace HO229 := aS (Kd.R_after (ok := (fun k_ => some k_ ≠ (.slice Ao20 y208.length co20 : Value).ownBlock ∧ some k_ ≠ (.slice Ao25 y214.length co25 : Value).ownBlock ∧ some k_ ≠ (.slice Ao26 y220.length co26 : Value).ownBlock)) (tR (Kd.R_mono HO229.out (fun _ hk => ⟨⟨hk.1.1.1.2, ⟨hk.1.1.2, hk.1.2⟩⟩, hk.2⟩))) hg hat); replace HB := aS (hb); have HO232 := aS (ho); clear HO226; clear ho hb hg hat) | ((with_reducible refine gate_builtin (b := .append) (xs := #[.tmp 36, .tmp 37]) rfl ?_); at_builtin; refine Kd.R_append_rows (Kd.int .u8) (w0 := w) w.heap.size rfl (.tmp 36) (.tmp 37) 22 5 (.int .u8 0) 1 rfl Try.underlying22 info5 rfl (by decide) (by omega) v231 y230 y214 _ _ _ (fun k_ => some k_ ≠ (.slice Ao20 y208.length co20 : Value).ownBlock ∧ some k_ ≠ (.slice Ao25 y214.length co25 : Value).ownBlock ∧ some k_ ≠ (.slice Ao26 y220.length co26 : Value).ownBlock ∧ some k_ ≠ (.slice Ao31 t227.length co31 : Value).ownBlock) (fun _ => False) rfl rfl ?aO ?aR (fun _ _ h => h) (fun _ h => h.elim) ?aF ?aB ?aS ?aL ?_; (case aR => repeat (first | exact (Kd.R_reads' HO216.out).2.2 | (with_reducible refine Kd.C_alloc ?_ _) | (with_reducible refine Kd.C_drewN ?_ _) | (with_reducible refine Kd.C_drew ?_))); (case aB => exact (tB HB.out)); (case aF => exact (fun k_ hk => ⟨Kd.fresh' (Kd.R_lt (tR HO210.out)) k_ hk, Kd.fresh' (Kd.R_lt (tR HO216.out)) k_ hk, Kd.fresh' (Kd.R_lt (tR HO222.out)) k_ hk, Kd.fresh' (Kd.R_lt (tR HO229.out)) k_ hk⟩)); (case aO => exact (tR HO232.out)); (case aS => exact (below_size (tB HB.out))); (case aL => have := LMc15.out; omega); intro v234 w32 ho hb hg hat; rw [← Ny233.out] at ho; replace HO210 := aS (Kd.R_after (ok := (fun k_ => some k_ ≠ (.slice Ao25 y214.length co25 : Value).ownBlock ∧ some k_ ≠ (.slice Ao26 y220.length co26 : Value).ownBlock ∧ some k_ ≠ (.slice Ao31 t227.length co31 : Value).ownBlock)) (tR HO210.out) hg hat); replace HO216 := aS (Kd.R_after (ok := (fun k_ => some k_ ≠ (.slice Ao20 y208.length co20 : Value).ownBlock ∧ some k_ ≠ (.slice Ao26 y220.length co26 : Value).ownBlock ∧ some k_ ≠ (.slice Ao31 t227.length co31 : Value).ownBlock)) (tR HO216.out) hg hat); replace HO222 := aS (Kd.R_after (ok := (fun k_ => some k_ ≠ (.slice Ao20 y208.length co20 : Value).ownBlock ∧ some k_ ≠ (.slice Ao25 y214.length co25 : Value).ownBlock ∧ some k_ ≠ (.slice Ao31 t227.length co31 : Value).ownBlock)) (tR HO222.out) hg hat); replace HO229 := aS (Kd.R_after (ok := (fun k_ => some k_ ≠ (.slice Ao20 y208.length co20 : Value).ownBlock ∧ some k_ ≠ (.slice Ao25 y214.length co25 : Value).ownBlock ∧ some k_ ≠ (.slice Ao26 y220.length co26 : Value).ownBlock)) (tR HO229.out) hg hat); replace HB := aS (hb); have HO235 := aS (ho); clear HO232; clear ho hb hg hat))
          go_ret2
          exact ⟨_, by first | rfl | (simp [errW_none, errW_some] <;> rfl) | (simp [*, errW_none, errW_some] <;> rfl), by (with_reducible repeat apply mR); exact Kd.R_mono HO235.out (fun _ hk => trivial), tB HB.out⟩
         ·rw [if_neg c15] at H
          exact absurd H (by simp)
        ·rw [if_neg c14] at H
         exact absurd H (by simp)
       ·rw [if_neg c11] at H
        exact absurd H (by simp)
      ·rw [if_neg c10] at H
       exact absurd H (by simp)
     ·rw [if_neg c9] at H
      exact absurd H (by simp)

end Go.Proofs.Ytofjgdbiieanjaa.All
