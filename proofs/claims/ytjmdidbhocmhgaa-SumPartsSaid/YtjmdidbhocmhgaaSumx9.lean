-- Made by a program of this workplace (wip/pr.sh) out of Lean's print of the translation; Lean checks it.
import Derived.Test.YtjmdidbhocmhgaaSumx0
import Derived.Test.YtjmdidbhocmhgaaSumx2
import Derived.Test.YtjmdidbhocmhgaaSumx4
import Derived.Test.YtjmdidbhocmhgaaSumx5
namespace Go.Proofs.Ytjmdidbhocmhgaa.Sum
open Go.RowKit Go.Proofs.YtjmdidbhocmhgaaW.PrintWords Go.Proofs.YtjmdidbhocmhgaaW.PrintLast Go.Proofs.YtjmdidbhocmhgaaW.PrintMore
attribute [local go_sem] max2_int min2_int max_two min_two max_three min_three max_four min_four   -- for this text's walks alone
set_option linter.unusedVariables false
set_option linter.unusedSimpArgs false

/-! ### mantletlaw02_SumParts: function 7 -/
mutual
def mantletlaw02_SumParts.j0 : Nat → List Int → List Int → Option (Bool)
  | 0, _, _ => none
  | k + 1, x5, x6 => (some (([] : List Int) : List Int)).bind fun y161 => (if y161.length + x5.length < 140737488355328 then ((some (y161 ++ x5 : List Int)).bind fun y164 => (if y164.length + x6.length < 140737488355328 then ((sum_Add.f k 0 x5).bind fun t170 => ((sum_Add.f k t170 x6).bind fun t171 => ((sum_Add.f k 0 (y164 ++ x6)).bind fun t172 => (if t171 = t172 then (if ((x6.length : Int) % 2) = 1 then (if 0 ≤ (wrap64 ((x6.length : Int) - 1)) then (if (wrap64 ((x6.length : Int) - 1)) ≤ (x6.length : Int) then (mantletlaw02_SumParts.j1 k x5 (x6.take ((wrap64 ((x6.length : Int) - 1)) : Int).toNat)) else (none)) else (none)) else (mantletlaw02_SumParts.j1 k x5 x6)) else (some false))))) else (none))) else (none))
def mantletlaw02_SumParts.j1 : Nat → List Int → List Int → Option (Bool)
  | 0, _, _ => none
  | k + 1, x5, x6 => (mantletlaw02_awake.f k).bind fun t178 => (if t178 = true then ((sum_Add.f k 0 x6).bind fun t179 => ((sum_Add.f k t179 x5).bind fun t180 => ((sum_Add.f k 0 x5).bind fun t181 => ((sum_Add.f k t181 x6).bind fun t182 => (some (t180 == t182)))))) else (some false))
end
def mantletlaw02_SumParts.f (k : Nat) (l0 : List Int) (l1 : List Int) : Option (Bool) := (mantletlaw02_short.f l0).bind fun t150 => ((mantletlaw02_short.f l1).bind fun t153 => (if ((t150.length : Int) % 2) = 1 then (if 0 ≤ (wrap64 ((t150.length : Int) - 1)) then (if (wrap64 ((t150.length : Int) - 1)) ≤ (t150.length : Int) then (mantletlaw02_SumParts.j0 k (t150.take ((wrap64 ((t150.length : Int) - 1)) : Int).toNat) t153) else (none)) else (none)) else (mantletlaw02_SumParts.j0 k t150 t153)))
theorem mantletlaw02_SumParts.mono_l : ∀ k, (∀ y0 y1, LeO (mantletlaw02_SumParts.j0 k y0 y1) (mantletlaw02_SumParts.j0 (k + 1) y0 y1)) ∧ (∀ y0 y1, LeO (mantletlaw02_SumParts.j1 k y0 y1) (mantletlaw02_SumParts.j1 (k + 1) y0 y1))
  | 0 => ⟨fun _ _ r h => by simp [mantletlaw02_SumParts.j0] at h, fun _ _ r h => by simp [mantletlaw02_SumParts.j1] at h⟩
  | k + 1 => by
    obtain ⟨ih0, ih1⟩ := mantletlaw02_SumParts.mono_l k
    refine ⟨?_, ?_⟩
    · intro y0 y1
      unfold mantletlaw02_SumParts.j0
      repeat' first
      | (with_reducible exact ih0 _ _)
      | (with_reducible exact ih1 _ _)
      | (with_reducible exact mantletlaw02_awake.mono _)
      | (with_reducible exact sum_Add.mono _ _ _)
      | (with_reducible exact LeO.refl _)
      | (with_reducible exact LeO.none _)
      | (with_reducible refine LeO.ite ?_ ?_)
      | (with_reducible refine LeO.bind ?_ (fun _ => ?_))
      | exact ih0 _ _
      | exact ih1 _ _
      | exact mantletlaw02_awake.mono _
      | exact sum_Add.mono _ _ _
      | exact LeO.none _
      | refine LeO.ite ?_ ?_
      | refine LeO.bind ?_ (fun _ => ?_)
    · intro y0 y1
      unfold mantletlaw02_SumParts.j1
      repeat' first
      | (with_reducible exact ih0 _ _)
      | (with_reducible exact ih1 _ _)
      | (with_reducible exact mantletlaw02_awake.mono _)
      | (with_reducible exact sum_Add.mono _ _ _)
      | (with_reducible exact LeO.refl _)
      | (with_reducible exact LeO.none _)
      | (with_reducible refine LeO.ite ?_ ?_)
      | (with_reducible refine LeO.bind ?_ (fun _ => ?_))
      | exact ih0 _ _
      | exact ih1 _ _
      | exact mantletlaw02_awake.mono _
      | exact sum_Add.mono _ _ _
      | exact LeO.none _
      | refine LeO.ite ?_ ?_
      | refine LeO.bind ?_ (fun _ => ?_)
theorem mantletlaw02_SumParts.mono : ∀ a0 a1 k, LeO (mantletlaw02_SumParts.f k a0 a1) (mantletlaw02_SumParts.f (k + 1) a0 a1) := by
  intro a0 a1 k
  obtain ⟨ih0, ih1⟩ := mantletlaw02_SumParts.mono_l k
  unfold mantletlaw02_SumParts.f
  repeat' first
      | (with_reducible exact ih0 _ _)
      | (with_reducible exact ih1 _ _)
      | (with_reducible exact mantletlaw02_awake.mono _)
      | (with_reducible exact sum_Add.mono _ _ _)
      | (with_reducible exact LeO.refl _)
      | (with_reducible exact LeO.none _)
      | (with_reducible refine LeO.ite ?_ ?_)
      | (with_reducible refine LeO.bind ?_ (fun _ => ?_))
      | exact ih0 _ _
      | exact ih1 _ _
      | exact mantletlaw02_awake.mono _
      | exact sum_Add.mono _ _ _
      | exact LeO.none _
      | refine LeO.ite ?_ ?_
      | refine LeO.bind ?_ (fun _ => ?_)
set_option maxHeartbeats 8000000 in
set_option maxRecDepth 100000 in
theorem mantletlaw02_SumParts.calls (k : Nat) (A0 : Option Addr) (c0 : Nat) (l0 : List Int) (A1 : Option Addr) (c1 : Nat) (l1 : List Int) (r : Bool) (w : World) (hr0 : Kd.C (Kd.int .u8) w A0 l0.length l0) (hc0 : l0.length ≤ c0) (hr1 : Kd.C (Kd.int .u8) w A1 l1.length l1) (hc1 : l1.length ≤ c1) (h : mantletlaw02_SumParts.f k l0 l1 = some r) :
    Calls Try.prog 7 #[.slice A0 l0.length c0, .slice A1 l1.length c1] w fun e w' => e = .returned (.bool r) ∧ Below w.heap.size w w' := by
  have HR0 := Aside0.mk hr0
  have HC0 := Aside0.mk hc0
  clear hr0 hc0
  have HR1 := Aside0.mk hr1
  have HC1 := Aside0.mk hc1
  clear hr1 hc1
  have HB := Aside0.mk (Below.refl w.heap.size w)
  have H : ((mantletlaw02_short.f l0).bind fun t150 => ((mantletlaw02_short.f l1).bind fun t153 => (if ((t150.length : Int) % 2) = 1 then (if 0 ≤ (wrap64 ((t150.length : Int) - 1)) then (if (wrap64 ((t150.length : Int) - 1)) ≤ (t150.length : Int) then (mantletlaw02_SumParts.j0 k (t150.take ((wrap64 ((t150.length : Int) - 1)) : Int).toNat) t153) else (none)) else (none)) else (mantletlaw02_SumParts.j0 k t150 t153)))) = some r := h
  clear h
  replace H := Option.bind_eq_some_iff.mp H
  obtain ⟨t150, A30, H⟩ := H
  replace H : ((mantletlaw02_short.f l1).bind fun t153 => (if ((t150.length : Int) % 2) = 1 then (if 0 ≤ (wrap64 ((t150.length : Int) - 1)) then (if (wrap64 ((t150.length : Int) - 1)) ≤ (t150.length : Int) then (mantletlaw02_SumParts.j0 k (t150.take ((wrap64 ((t150.length : Int) - 1)) : Int).toNat) t153) else (none)) else (none)) else (mantletlaw02_SumParts.j0 k t150 t153))) = some r := H
  have A3 := Aside0.mk A30
  clear A30
  replace H := Option.bind_eq_some_iff.mp H
  obtain ⟨t153, A40, H⟩ := H
  replace H : (if ((t150.length : Int) % 2) = 1 then (if 0 ≤ (wrap64 ((t150.length : Int) - 1)) then (if (wrap64 ((t150.length : Int) - 1)) ≤ (t150.length : Int) then (mantletlaw02_SumParts.j0 k (t150.take ((wrap64 ((t150.length : Int) - 1)) : Int).toNat) t153) else (none)) else (none)) else (mantletlaw02_SumParts.j0 k t150 t153)) = some r := H
  have A4 := Aside0.mk A40
  clear A40
  have HC5 := Aside0.mk H
  clear H
  go_enter Try.func7, Try.ntmps7
  go_upto_if 15 with (first | ((with_reducible refine gate_callee (f := 15) rfl ?_); refine goesL_ (some 9) rfl rfl Try.func15 (by kernel_rfl) rfl #[.slice A0 l0.length c0] rfl (by (try simp only [List.map_toArray, List.map_cons, List.map_nil]); first | done | rfl | (simp only [List.length_drop, List.length_take]; rfl)) ?_; (with_reducible refine (mantletlaw02_short.calls (fun k_ => k_ < w.heap.size) _ _ l0 t150 _ ?side1 A3.out).mono ?_); (case side1 => exact Kd.V_mk HC0.out (Kd.F_below (Kd.C_F (Kd.heap_int .u8) HR0.out) (by repeat (first | (with_reducible first | exact HB.out | apply below_alloc | apply pw_below_drewN | apply below_drew1) | exact HB.out)))); rintro e w6 ⟨v151, rfl, ho0, hb⟩; refine ⟨_, rfl, ?_⟩; have n0_ := Aside0.mk (Kd.V_lower (Kd.V_mono (ok' := fun k_ => True) ho0 (fun k_ hk_ => trivial)) (below_size (by repeat (first | (with_reducible first | exact HB.out | apply below_alloc | apply pw_below_drewN | apply below_drew1) | exact HB.out)))); have n1_ := Aside0.mk (below_step (by repeat (first | (with_reducible first | exact HB.out | apply below_alloc | apply pw_below_drewN | apply below_drew1) | exact HB.out)) hb); clear HB; have HO152 := n0_; have HB := n1_; clear n0_ n1_; (try clear hb); (try clear hb2); (try clear hk); (try clear hi); (try clear ho0)) | ((with_reducible refine gate_callee (f := 15) rfl ?_); refine goesL_ (some 11) rfl rfl Try.func15 (by kernel_rfl) rfl #[.slice A1 l1.length c1] rfl (by (try simp only [List.map_toArray, List.map_cons, List.map_nil]); first | done | rfl | (simp only [List.length_drop, List.length_take]; rfl)) ?_; (with_reducible refine (mantletlaw02_short.calls (fun k_ => k_ < w.heap.size) _ _ l1 t153 _ ?side1 A4.out).mono ?_); (case side1 => exact Kd.V_mk HC1.out (Kd.F_below (Kd.C_F (Kd.heap_int .u8) HR1.out) (by repeat (first | (with_reducible first | exact HB.out | apply below_alloc | apply pw_below_drewN | apply below_drew1) | exact HB.out)))); rintro e w7 ⟨v154, rfl, ho0, hb⟩; refine ⟨_, rfl, ?_⟩; have n0_ := Aside0.mk (Kd.V_below (by (with_reducible repeat (first | apply Kd.V_alloc | apply Kd.V_drewN | apply Kd.V_drew)); exact HO152.out) hb); have n1_ := Aside0.mk (Kd.V_lower (Kd.V_mono (ok' := fun k_ => True) ho0 (fun k_ hk_ => trivial)) (below_size (by repeat (first | (with_reducible first | exact HB.out | apply below_alloc | apply pw_below_drewN | apply below_drew1) | exact HB.out)))); have n2_ := Aside0.mk (below_step (by repeat (first | (with_reducible first | exact HB.out | apply below_alloc | apply pw_below_drewN | apply below_drew1) | exact HB.out)) hb); clear HO152; clear HB; have HO152 := n0_; have HO155 := n1_; have HB := n2_; clear n0_ n1_ n2_; (try clear hb); (try clear hb2); (try clear hk); (try clear hi); (try clear ho0); obtain ⟨Ao8, co8, eo8⟩ := Kd.V_slice HO152.out; subst eo8))
  (try simp only [Act.put, List.setIfInBounds_toArray, List.set_cons_zero, List.set_cons_succ])
  go_cut [5] (fun v5 wc => ∃ (kq : Nat) (x5_4 : List Int), Aside0 (mantletlaw02_SumParts.j0 kq x5_4 t153 = some r) ∧ Aside0 (kq ≤ k) ∧ Aside0 (Kd.V (Kd.int .u8) 5 wc w.heap.size (fun _ => True) v5 x5_4) ∧ Aside0 (Kd.V (Kd.int .u8) 5 wc w.heap.size (fun _ => True) v154 t153) ∧ Aside0 (Below w.heap.size w wc))
  case first =>
    have H := HC5.out
    clear HC5
    by_cases c9 : ((t150.length : Int) % 2) = 1
    · rw [if_pos c9] at H
      have c9b0 : (((t150.length : Int) % 2) == 1) = true := beq_iff_eq.mpr c9
      have c9b1 : (((t150.length : Int) % 2) != 1) = false := bne_eq_false_iff_eq.mpr c9
      clear c9
      (first | rw [c9b0] | (simp only [i64_w, i32_w]; rw [c9b0]) | skip)
      obtain ⟨ji10, hji10⟩ : ∃ j_ : Int, (wrap64 ((t150.length : Int) - 1)) = j_ := ⟨_, rfl⟩
      replace H : (if 0 ≤ (ji10) then (if (ji10) ≤ (t150.length : Int) then (mantletlaw02_SumParts.j0 k (t150.take ((ji10) : Int).toNat) t153) else (none)) else (none)) = some r := by first | (rw [hji10] at H; exact H) | (simp only [hji10] at H ⊢; exact H)
      have hji10w : (IntKind.i64.wrap ((t150.length : Int) - 1)) = ji10 := (i64_w _).trans hji10
      by_cases c11 : 0 ≤ (ji10)
      · rw [if_pos c11] at H
        have c11b0 := eq_true c11
        have c11b1 : decide (0 ≤ (ji10)) = true := decide_eq_true c11
        clear c11
        by_cases c12 : (ji10) ≤ (t150.length : Int)
        · rw [if_pos c12] at H
          have c12b0 := eq_true c12
          have c12b1 : decide ((ji10) ≤ (t150.length : Int)) = true := decide_eq_true c12
          clear c12
          obtain ⟨y156, hy156⟩ : ∃ y_ : List Int, y_ = (t150.take ((ji10) : Int).toNat) := ⟨_, rfl⟩
          replace H : (mantletlaw02_SumParts.j0 k y156 t153) = some r := by first | (rw [hy156]; with_reducible exact H) | (have H2_ := (Option.bind_some _ _).symm.trans H; rw [hy156]; with_reducible exact H2_) | (have H2_ := (Option.bind_some _ _).symm.trans H; with_reducible exact H2_) | with_reducible exact H | (rw [hy156]; exact H) | exact H
          have Ny156 := Aside0.mk hy156
          clear hy156
          have H' := Aside0.mk H
          clear H
          have q13 : ((ji10) : Int) ≤ ((t150.length : Int) : Int) := of_decide_eq_true (by first | (with_reducible assumption) | assumption)
          obtain ⟨i013, hi013, _, hsz13, _⟩ := info_parts info5
          have hroom13 : t150.length ≤ co8 := (Kd.V_reads' HO152.out).2.1
          have hC13 : Kd.F (Kd.int .u8) _ _ Ao8 t150.length t150 := (Kd.V_at (base := w.heap.size) HO152.out).2.2
          have hcut13 := cut_to (P := Try.prog) 23 5 .i64 Try.underlying23 hi013 Ao8 t150.length co8 (ji10) (of_decide_eq_true (by first | (with_reducible assumption) | assumption)) q13 hroom13
          have hr13 := Kd.F_take (m := ((ji10) : Int).toNat) hC13 (by omega)
          have hy13 : y156.length = ((ji10) : Int).toNat := (by rw [Ny156.out, List.length_take]; omega)
          rw [← Ny156.out] at hr13
          rw [← hy13] at hcut13
          have HO160 := Aside0.mk (show Kd.V (Kd.int .u8) 5 _ w.heap.size _ (.slice Ao8 y156.length co8) y156 from Kd.V_mk (by omega) hr13)
          have HC160 := Aside0.mk (show y156.length ≤ co8 from by omega)
          clear hr13 hC13 hroom13 hi013 hsz13
          have KY13 := Aside0.mk hy13
          clear hy13
          replace q13 := eq_true q13
          go_wp2
          go_meet
          case rel => exact ⟨_, (y156), H', ⟨by first | omega | exact Nat.le_refl _⟩, ⟨by (with_reducible repeat (first | apply Kd.V_alloc | apply Kd.V_drewN | apply Kd.V_drew)); exact HO160.out⟩, ⟨by (with_reducible repeat (first | apply Kd.V_alloc | apply Kd.V_drewN | apply Kd.V_drew)); exact HO155.out⟩, ⟨by repeat (first | (with_reducible first | exact HB.out | apply below_alloc | apply pw_below_drewN | apply below_drew1) | exact HB.out)⟩⟩
        · rw [if_neg c12] at H
          exact absurd H (by simp)
      · rw [if_neg c11] at H
        exact absurd H (by simp)
    · rw [if_neg c9] at H
      have c9b0 : (((t150.length : Int) % 2) == 1) = false := beq_eq_false_iff_ne.mpr c9
      have c9b1 : (((t150.length : Int) % 2) != 1) = true := bne_iff_ne.mpr c9
      (first | rw [c9b0] | (simp only [i64_w, i32_w]; rw [c9b0]) | skip)
      have H' := Aside0.mk H
      clear H
      go_wp2
      go_meet
      case rel => exact ⟨_, (t150), H', ⟨by first | omega | exact Nat.le_refl _⟩, ⟨by (with_reducible repeat (first | apply Kd.V_alloc | apply Kd.V_drewN | apply Kd.V_drew)); exact HO152.out⟩, ⟨by (with_reducible repeat (first | apply Kd.V_alloc | apply Kd.V_drewN | apply Kd.V_drew)); exact HO155.out⟩, ⟨by repeat (first | (with_reducible first | exact HB.out | apply below_alloc | apply pw_below_drewN | apply below_drew1) | exact HB.out)⟩⟩
  case rest =>
    clear HC5
    try clear c1
    try clear q1
    try clear p2
    try clear p6
    try clear c7
    try clear c9
    try clear c9b0
    try clear c9b1
    try clear c11
    try clear c11b0
    try clear c11b1
    try clear c12
    try clear c12b0
    try clear c12b1
    try clear q13
    try clear q13
    obtain ⟨kq, x5_4, HA, HJ4, HO_5, HO_6, HB⟩ := hcut
    cases kq with
    | zero => exact absurd HA.out (by simp [mantletlaw02_SumParts.j0])
    | succ kj4 =>
      have H := HA.out
      clear HA
      simp only [mantletlaw02_SumParts.j0] at H
      obtain ⟨y161, hy161⟩ : ∃ y_ : List Int, y_ = (([] : List Int)) := ⟨_, rfl⟩
      replace H : (if y161.length + x5_4.length < 140737488355328 then ((some (y161 ++ x5_4 : List Int)).bind fun y164 => (if y164.length + t153.length < 140737488355328 then ((sum_Add.f kj4 0 x5_4).bind fun t170 => ((sum_Add.f kj4 t170 t153).bind fun t171 => ((sum_Add.f kj4 0 (y164 ++ t153)).bind fun t172 => (if t171 = t172 then (if ((t153.length : Int) % 2) = 1 then (if 0 ≤ (wrap64 ((t153.length : Int) - 1)) then (if (wrap64 ((t153.length : Int) - 1)) ≤ (t153.length : Int) then (mantletlaw02_SumParts.j1 kj4 x5_4 (t153.take ((wrap64 ((t153.length : Int) - 1)) : Int).toNat)) else (none)) else (none)) else (mantletlaw02_SumParts.j1 kj4 x5_4 t153)) else (some false))))) else (none))) else (none)) = some r := by first | (rw [hy161]; with_reducible exact H) | (have H2_ := (Option.bind_some _ _).symm.trans H; rw [hy161]; with_reducible exact H2_) | (have H2_ := (Option.bind_some _ _).symm.trans H; with_reducible exact H2_) | with_reducible exact H | (rw [hy161]; exact H) | exact H
      have Ny161 := Aside0.mk hy161
      clear hy161
      by_cases c14 : y161.length + x5_4.length < 140737488355328
      · rw [if_pos c14] at H
        have LMc14 := Aside0.mk c14
        clear c14
        obtain ⟨y164, hy164⟩ : ∃ y_ : List Int, y_ = (y161 ++ x5_4) := ⟨_, rfl⟩
        replace H : (if y164.length + t153.length < 140737488355328 then ((sum_Add.f kj4 0 x5_4).bind fun t170 => ((sum_Add.f kj4 t170 t153).bind fun t171 => ((sum_Add.f kj4 0 (y164 ++ t153)).bind fun t172 => (if t171 = t172 then (if ((t153.length : Int) % 2) = 1 then (if 0 ≤ (wrap64 ((t153.length : Int) - 1)) then (if (wrap64 ((t153.length : Int) - 1)) ≤ (t153.length : Int) then (mantletlaw02_SumParts.j1 kj4 x5_4 (t153.take ((wrap64 ((t153.length : Int) - 1)) : Int).toNat)) else (none)) else (none)) else (mantletlaw02_SumParts.j1 kj4 x5_4 t153)) else (some false))))) else (none)) = some r := by first | (rw [hy164]; with_reducible exact H) | (have H2_ := (Option.bind_some _ _).symm.trans H; rw [hy164]; with_reducible exact H2_) | (have H2_ := (Option.bind_some _ _).symm.trans H; with_reducible exact H2_) | with_reducible exact H | (rw [hy164]; exact H) | exact H
        have Ny164 := Aside0.mk hy164
        clear hy164
        by_cases c15 : y164.length + t153.length < 140737488355328
        · rw [if_pos c15] at H
          have LMc15 := Aside0.mk c15
          clear c15
          obtain ⟨y167, hy167⟩ : ∃ y_ : List Int, y_ = (y164 ++ t153) := ⟨_, rfl⟩
          replace H : ((sum_Add.f kj4 0 x5_4).bind fun t170 => ((sum_Add.f kj4 t170 t153).bind fun t171 => ((sum_Add.f kj4 0 y167).bind fun t172 => (if t171 = t172 then (if ((t153.length : Int) % 2) = 1 then (if 0 ≤ (wrap64 ((t153.length : Int) - 1)) then (if (wrap64 ((t153.length : Int) - 1)) ≤ (t153.length : Int) then (mantletlaw02_SumParts.j1 kj4 x5_4 (t153.take ((wrap64 ((t153.length : Int) - 1)) : Int).toNat)) else (none)) else (none)) else (mantletlaw02_SumParts.j1 kj4 x5_4 t153)) else (some false))))) = some r := by first | (rw [hy167]; with_reducible exact H) | (have H2_ := (Option.bind_some _ _).symm.trans H; rw [hy167]; with_reducible exact H2_) | (have H2_ := (Option.bind_some _ _).symm.trans H; with_reducible exact H2_) | with_reducible exact H | (rw [hy167]; exact H) | exact H
          have Ny167 := Aside0.mk hy167
          clear hy167
          replace H := Option.bind_eq_some_iff.mp H
          obtain ⟨t170, A160, H⟩ := H
          replace H : ((sum_Add.f kj4 t170 t153).bind fun t171 => ((sum_Add.f kj4 0 y167).bind fun t172 => (if t171 = t172 then (if ((t153.length : Int) % 2) = 1 then (if 0 ≤ (wrap64 ((t153.length : Int) - 1)) then (if (wrap64 ((t153.length : Int) - 1)) ≤ (t153.length : Int) then (mantletlaw02_SumParts.j1 kj4 x5_4 (t153.take ((wrap64 ((t153.length : Int) - 1)) : Int).toNat)) else (none)) else (none)) else (mantletlaw02_SumParts.j1 kj4 x5_4 t153)) else (some false)))) = some r := H
          have A16 := Aside0.mk A160
          clear A160
          replace H := Option.bind_eq_some_iff.mp H
          obtain ⟨t171, A170, H⟩ := H
          replace H : ((sum_Add.f kj4 0 y167).bind fun t172 => (if t171 = t172 then (if ((t153.length : Int) % 2) = 1 then (if 0 ≤ (wrap64 ((t153.length : Int) - 1)) then (if (wrap64 ((t153.length : Int) - 1)) ≤ (t153.length : Int) then (mantletlaw02_SumParts.j1 kj4 x5_4 (t153.take ((wrap64 ((t153.length : Int) - 1)) : Int).toNat)) else (none)) else (none)) else (mantletlaw02_SumParts.j1 kj4 x5_4 t153)) else (some false))) = some r := H
          have A17 := Aside0.mk A170
          clear A170
          replace H := Option.bind_eq_some_iff.mp H
          obtain ⟨t172, A180, H⟩ := H
          replace H : (if t171 = t172 then (if ((t153.length : Int) % 2) = 1 then (if 0 ≤ (wrap64 ((t153.length : Int) - 1)) then (if (wrap64 ((t153.length : Int) - 1)) ≤ (t153.length : Int) then (mantletlaw02_SumParts.j1 kj4 x5_4 (t153.take ((wrap64 ((t153.length : Int) - 1)) : Int).toNat)) else (none)) else (none)) else (mantletlaw02_SumParts.j1 kj4 x5_4 t153)) else (some false)) = some r := H
          have A18 := Aside0.mk A180
          clear A180
          by_cases c19 : t171 = t172
          · rw [if_pos c19] at H
            have c19b0 : (t171 == t172) = true := beq_iff_eq.mpr c19
            have c19b1 : (t171 != t172) = false := bne_eq_false_iff_eq.mpr c19
            clear c19
            have HC20 := Aside0.mk H
            clear H
            go_upto_if 36 with (first | ((with_reducible refine gate_dst (N := 21) rfl ?_); refine Kd.R_lit (Kd.int .u8) _ 5 ?hg (N := 21) ?hd (xs := ([] : List Int)) (inner := []) (ok := fun _ => True) (okp := fun _ => True) ?hr ?hp (fun _ hk => hk) trivial (Below.refl _ _) (Nat.le_refl _) (by simp) ?_; (case hd => rfl); (case hg => rfl); (case hr => first | (go_simp; done) | (go_simp; rfl)); (case hp => exact (Reps.none _ _)); intro v162 w21 ho22 hb hg_ hnew_; clear hg_ hnew_; (first | rw [← Ny161.out] at ho22 | (simp only [Int.reduceToNat] at ho22; rw [← Ny161.out] at ho22)); have n0_ := Aside0.mk (Kd.V_elder' (by (with_reducible repeat (first | apply Kd.V_alloc | apply Kd.V_drewN | apply Kd.V_drew)); exact HO_5.out) (Kd.R_base ho22) hb); have n1_ := Aside0.mk (Kd.V_elder' (by (with_reducible repeat (first | apply Kd.V_alloc | apply Kd.V_drewN | apply Kd.V_drew)); exact HO_6.out) (Kd.R_base ho22) hb); have n2_ := Aside0.mk (Kd.R_lower ho22 (below_size (by repeat (first | (with_reducible first | exact HB.out | apply below_alloc | apply pw_below_drewN | apply below_drew1) | exact HB.out)))); have n3_ := Aside0.mk (below_step (by repeat (first | (with_reducible first | exact HB.out | apply below_alloc | apply pw_below_drewN | apply below_drew1) | exact HB.out)) hb); clear HO_5; clear HO_6; clear HB; have HO_5 := n0_; have HO_6 := n1_; have HO163 := n2_; have HB := n3_; clear n0_ n1_ n2_ n3_; clear hb ho22; obtain ⟨Ao24, co24, eo24⟩ := Kd.V_slice HO_5.out; subst eo24) | ((with_reducible refine gate_builtin (b := .append) (xs := #[.tmp 21, .tmp 22]) rfl ?_); at_builtin; refine Kd.R_append_rows (Kd.int .u8) (w0 := w) w.heap.size rfl (.tmp 21) (.tmp 22) 23 5 (.int .u8 0) 1 rfl Try.underlying23 info5 rfl (by decide) (by omega) v162 y161 x5_4 _ _ _ (fun _ => True) (fun _ => False) rfl rfl ?aO ?aR (fun _ _ h => h) (fun _ h => h.elim) ?aF ?aB ?aS ?aL ?_; (case aR => repeat (first | exact (Kd.V_reads' HO_5.out).2.2 | (with_reducible refine Kd.C_alloc ?_ _) | (with_reducible refine Kd.C_drewN ?_ _) | (with_reducible refine Kd.C_drew ?_))); (case aB => exact (by repeat (first | (with_reducible first | exact HB.out | apply below_alloc | apply pw_below_drewN | apply below_drew1) | exact HB.out))); (case aF => exact (fun _ _ => trivial)); (case aO => exact (by (with_reducible repeat (first | apply Kd.R_alloc | apply Kd.R_drewN | apply Kd.R_drew)); exact HO163.out)); (case aS => exact (below_size (by repeat (first | (with_reducible first | exact HB.out | apply below_alloc | apply pw_below_drewN | apply below_drew1) | exact HB.out)))); (case aL => have := LMc14.out; omega); intro v165 w23 ho hb hg hat; rw [← Ny164.out] at ho; have n0_ := Aside0.mk (Kd.V_afterv (ok := (fun _ => True)) (by (with_reducible repeat (first | apply Kd.V_alloc | apply Kd.V_drewN | apply Kd.V_drew)); exact HO_5.out) hg hat); have n1_ := Aside0.mk (Kd.V_afterv (ok := (fun _ => True)) (by (with_reducible repeat (first | apply Kd.V_alloc | apply Kd.V_drewN | apply Kd.V_drew)); exact HO_6.out) hg hat); have n2_ := Aside0.mk (hb); have n3_ := Aside0.mk (ho); clear HO_5; clear HO_6; clear HB; clear HO163; have HO_5 := n0_; have HO_6 := n1_; have HB := n2_; have HO166 := n3_; clear n0_ n1_ n2_ n3_; clear ho hb hg hat; obtain ⟨Ao26, co26, eo26⟩ := Kd.V_slice HO_6.out; subst eo26) | ((with_reducible refine gate_builtin (b := .append) (xs := #[.tmp 23, .tmp 24]) rfl ?_); at_builtin; refine Kd.R_append_rows (Kd.int .u8) (w0 := w) w.heap.size rfl (.tmp 23) (.tmp 24) 23 5 (.int .u8 0) 1 rfl Try.underlying23 info5 rfl (by decide) (by omega) v165 y164 t153 _ _ _ (fun _ => True) (fun _ => False) rfl rfl ?aO ?aR (fun _ _ h => h) (fun _ h => h.elim) ?aF ?aB ?aS ?aL ?_; (case aR => repeat (first | exact (Kd.V_reads' HO_6.out).2.2 | (with_reducible refine Kd.C_alloc ?_ _) | (with_reducible refine Kd.C_drewN ?_ _) | (with_reducible refine Kd.C_drew ?_))); (case aB => exact (by repeat (first | (with_reducible first | exact HB.out | apply below_alloc | apply pw_below_drewN | apply below_drew1) | exact HB.out))); (case aF => exact (fun _ _ => trivial)); (case aO => exact (by (with_reducible repeat (first | apply Kd.R_alloc | apply Kd.R_drewN | apply Kd.R_drew)); exact HO166.out)); (case aS => exact (below_size (by repeat (first | (with_reducible first | exact HB.out | apply below_alloc | apply pw_below_drewN | apply below_drew1) | exact HB.out)))); (case aL => have := LMc15.out; omega); intro v168 w25 ho hb hg hat; rw [← Ny167.out] at ho; have n0_ := Aside0.mk (Kd.V_afterv (ok := (fun _ => True)) (by (with_reducible repeat (first | apply Kd.V_alloc | apply Kd.V_drewN | apply Kd.V_drew)); exact HO_5.out) hg hat); have n1_ := Aside0.mk (Kd.V_afterv (ok := (fun _ => True)) (by (with_reducible repeat (first | apply Kd.V_alloc | apply Kd.V_drewN | apply Kd.V_drew)); exact HO_6.out) hg hat); have n2_ := Aside0.mk (hb); have n3_ := Aside0.mk (ho); clear HO_5; clear HO_6; clear HB; clear HO166; have HO_5 := n0_; have HO_6 := n1_; have HB := n2_; have HO169 := n3_; clear n0_ n1_ n2_ n3_; clear ho hb hg hat) | ((with_reducible refine gate_callee (f := 14) rfl ?_); refine goesL_ (some 27) rfl rfl Try.func14 (by kernel_rfl) rfl #[.int .u16 0, .slice Ao24 x5_4.length co24] rfl (by (try simp only [List.map_toArray, List.map_cons, List.map_nil]); first | done | rfl | (simp only [List.length_drop, List.length_take]; rfl)) ?_; (with_reducible refine (sum_Add.calls kj4 0 _ _ x5_4 t170 _ ?side1 ?side2 A16.out).mono ?_); (case side1 => repeat (first | exact (Kd.V_reads' HO_5.out).2.2 | (with_reducible refine Kd.C_alloc ?_ _) | (with_reducible refine Kd.C_drewN ?_ _) | (with_reducible refine Kd.C_drew ?_))); (case side2 => exact (Kd.V_reads' HO_5.out).2.1); rintro e w' ⟨rfl, ⟨nd, rfl⟩⟩; refine ⟨_, rfl, ?_⟩) | ((with_reducible refine gate_callee (f := 14) rfl ?_); refine goesL_ (some 29) rfl rfl Try.func14 (by kernel_rfl) rfl #[.int .u16 t170, .slice Ao26 t153.length co26] rfl (by (try simp only [List.map_toArray, List.map_cons, List.map_nil]); first | done | rfl | (simp only [List.length_drop, List.length_take]; rfl)) ?_; (with_reducible refine (sum_Add.calls kj4 t170 _ _ t153 t171 _ ?side1 ?side2 A17.out).mono ?_); (case side1 => repeat (first | exact (Kd.V_reads' HO_6.out).2.2 | (with_reducible refine Kd.C_alloc ?_ _) | (with_reducible refine Kd.C_drewN ?_ _) | (with_reducible refine Kd.C_drew ?_))); (case side2 => exact (Kd.V_reads' HO_6.out).2.1); rintro e w' ⟨rfl, ⟨nd, rfl⟩⟩; refine ⟨_, rfl, ?_⟩; obtain ⟨Ao27, co27, eo27⟩ := Kd.R_slice HO169.out; subst eo27) | ((with_reducible refine gate_callee (f := 14) rfl ?_); refine goesL_ (some 31) rfl rfl Try.func14 (by kernel_rfl) rfl #[.int .u16 0, .slice Ao27 y167.length co27] rfl (by (try simp only [List.map_toArray, List.map_cons, List.map_nil]); first | done | rfl | (simp only [List.length_drop, List.length_take]; rfl)) ?_; (with_reducible refine (sum_Add.calls kj4 0 _ _ y167 t172 _ ?side1 ?side2 A18.out).mono ?_); (case side1 => repeat (first | exact (Kd.R_reads' HO169.out).2.2 | (with_reducible refine Kd.C_alloc ?_ _) | (with_reducible refine Kd.C_drewN ?_ _) | (with_reducible refine Kd.C_drew ?_))); (case side2 => exact (Kd.R_reads' HO169.out).2.1); rintro e w' ⟨rfl, ⟨nd, rfl⟩⟩; refine ⟨_, rfl, ?_⟩))
            (try simp only [Act.put, List.setIfInBounds_toArray, List.set_cons_zero, List.set_cons_succ])
            go_cut [6] (fun v6 wc => ∃ (kq : Nat) (x6_19 : List Int), Aside0 (mantletlaw02_SumParts.j1 kq x5_4 x6_19 = some r) ∧ Aside0 (kq ≤ kj4) ∧ Aside0 (Kd.V (Kd.int .u8) 5 wc w.heap.size (fun _ => True) (.slice Ao24 x5_4.length co24) x5_4) ∧ Aside0 (Kd.V (Kd.int .u8) 5 wc w.heap.size (fun _ => True) v6 x6_19) ∧ Aside0 (Below w.heap.size w wc))
            case first =>
              have H := HC20.out
              clear HC20
              by_cases c28 : ((t153.length : Int) % 2) = 1
              · rw [if_pos c28] at H
                have c28b0 : (((t153.length : Int) % 2) == 1) = true := beq_iff_eq.mpr c28
                have c28b1 : (((t153.length : Int) % 2) != 1) = false := bne_eq_false_iff_eq.mpr c28
                clear c28
                (first | rw [c28b0] | (simp only [i64_w, i32_w]; rw [c28b0]) | skip)
                obtain ⟨ji29, hji29⟩ : ∃ j_ : Int, (wrap64 ((t153.length : Int) - 1)) = j_ := ⟨_, rfl⟩
                replace H : (if 0 ≤ (ji29) then (if (ji29) ≤ (t153.length : Int) then (mantletlaw02_SumParts.j1 kj4 x5_4 (t153.take ((ji29) : Int).toNat)) else (none)) else (none)) = some r := by first | (rw [hji29] at H; exact H) | (simp only [hji29] at H ⊢; exact H)
                have hji29w : (IntKind.i64.wrap ((t153.length : Int) - 1)) = ji29 := (i64_w _).trans hji29
                by_cases c30 : 0 ≤ (ji29)
                · rw [if_pos c30] at H
                  have c30b0 := eq_true c30
                  have c30b1 : decide (0 ≤ (ji29)) = true := decide_eq_true c30
                  clear c30
                  by_cases c31 : (ji29) ≤ (t153.length : Int)
                  · rw [if_pos c31] at H
                    have c31b0 := eq_true c31
                    have c31b1 : decide ((ji29) ≤ (t153.length : Int)) = true := decide_eq_true c31
                    clear c31
                    obtain ⟨y173, hy173⟩ : ∃ y_ : List Int, y_ = (t153.take ((ji29) : Int).toNat) := ⟨_, rfl⟩
                    replace H : (mantletlaw02_SumParts.j1 kj4 x5_4 y173) = some r := by first | (rw [hy173]; with_reducible exact H) | (have H2_ := (Option.bind_some _ _).symm.trans H; rw [hy173]; with_reducible exact H2_) | (have H2_ := (Option.bind_some _ _).symm.trans H; with_reducible exact H2_) | with_reducible exact H | (rw [hy173]; exact H) | exact H
                    have Ny173 := Aside0.mk hy173
                    clear hy173
                    have H' := Aside0.mk H
                    clear H
                    have q32 : ((ji29) : Int) ≤ ((t153.length : Int) : Int) := of_decide_eq_true (by first | (with_reducible assumption) | assumption)
                    obtain ⟨i032, hi032, _, hsz32, _⟩ := info_parts info5
                    have hroom32 : t153.length ≤ co26 := (Kd.V_reads' HO_6.out).2.1
                    have hC32 : Kd.F (Kd.int .u8) _ _ Ao26 t153.length t153 := (Kd.V_at (base := w.heap.size) HO_6.out).2.2
                    have hcut32 := cut_to (P := Try.prog) 23 5 .i64 Try.underlying23 hi032 Ao26 t153.length co26 (ji29) (of_decide_eq_true (by first | (with_reducible assumption) | assumption)) q32 hroom32
                    have hr32 := Kd.F_take (m := ((ji29) : Int).toNat) hC32 (by omega)
                    have hy32 : y173.length = ((ji29) : Int).toNat := (by rw [Ny173.out, List.length_take]; omega)
                    rw [← Ny173.out] at hr32
                    rw [← hy32] at hcut32
                    have HO177 := Aside0.mk (show Kd.V (Kd.int .u8) 5 _ w.heap.size _ (.slice Ao26 y173.length co26) y173 from Kd.V_mk (by omega) hr32)
                    have HC177 := Aside0.mk (show y173.length ≤ co26 from by omega)
                    clear hr32 hC32 hroom32 hi032 hsz32
                    have KY32 := Aside0.mk hy32
                    clear hy32
                    replace q32 := eq_true q32
                    go_wp2
                    go_meet
                    case rel => exact ⟨_, (y173), H', ⟨by have := HJ4.out; first | omega | exact Nat.le_refl _⟩, ⟨by (with_reducible repeat (first | apply Kd.V_alloc | apply Kd.V_drewN | apply Kd.V_drew)); exact Kd.V_mono HO_5.out (fun _ hk => trivial)⟩, ⟨by (with_reducible repeat (first | apply Kd.V_alloc | apply Kd.V_drewN | apply Kd.V_drew)); exact Kd.V_mono HO177.out (fun _ hk => trivial)⟩, ⟨by repeat (first | (with_reducible first | exact HB.out | apply below_alloc | apply pw_below_drewN | apply below_drew1) | exact HB.out)⟩⟩
                  · rw [if_neg c31] at H
                    exact absurd H (by simp)
                · rw [if_neg c30] at H
                  exact absurd H (by simp)
              · rw [if_neg c28] at H
                have c28b0 : (((t153.length : Int) % 2) == 1) = false := beq_eq_false_iff_ne.mpr c28
                have c28b1 : (((t153.length : Int) % 2) != 1) = true := bne_iff_ne.mpr c28
                (first | rw [c28b0] | (simp only [i64_w, i32_w]; rw [c28b0]) | skip)
                have H' := Aside0.mk H
                clear H
                go_wp2
                go_meet
                case rel => exact ⟨_, (t153), H', ⟨by have := HJ4.out; first | omega | exact Nat.le_refl _⟩, ⟨by (with_reducible repeat (first | apply Kd.V_alloc | apply Kd.V_drewN | apply Kd.V_drew)); exact Kd.V_mono HO_5.out (fun _ hk => trivial)⟩, ⟨by (with_reducible repeat (first | apply Kd.V_alloc | apply Kd.V_drewN | apply Kd.V_drew)); exact Kd.V_mono HO_6.out (fun _ hk => trivial)⟩, ⟨by repeat (first | (with_reducible first | exact HB.out | apply below_alloc | apply pw_below_drewN | apply below_drew1) | exact HB.out)⟩⟩
            case rest =>
              clear HC20
              try clear c1
              try clear q1
              try clear c2
              try clear p2
              try clear c3
              try clear q3
              try clear p6
              try clear c7
              try clear c9
              try clear c9b0
              try clear c9b1
              try clear c11
              try clear c11b0
              try clear c11b1
              try clear c12
              try clear c12b0
              try clear c12b1
              try clear q13
              try clear c14
              try clear c15
              try clear c19
              try clear c19b0
              try clear c19b1
              try clear c28
              try clear c28b0
              try clear c28b1
              try clear c30
              try clear c30b0
              try clear c30b1
              try clear c31
              try clear c31b0
              try clear c31b1
              try clear q32
              try clear p2
              try clear p6
              try clear q1
              try clear q13
              try clear q32
              obtain ⟨kq, x6_19, HA, HJ19, HO_5, HO_6, HB⟩ := hcut
              cases kq with
              | zero => exact absurd HA.out (by simp [mantletlaw02_SumParts.j1])
              | succ kj19 =>
                have H := HA.out
                clear HA
                simp only [mantletlaw02_SumParts.j1] at H
                replace H := Option.bind_eq_some_iff.mp H
                obtain ⟨t178, A330, H⟩ := H
                replace H : (if t178 = true then ((sum_Add.f kj19 0 x6_19).bind fun t179 => ((sum_Add.f kj19 t179 x5_4).bind fun t180 => ((sum_Add.f kj19 0 x5_4).bind fun t181 => ((sum_Add.f kj19 t181 x6_19).bind fun t182 => (some (t180 == t182)))))) else (some false)) = some r := H
                have A33 := Aside0.mk A330
                clear A330
                by_cases c34 : t178 = true
                · subst c34
                  have H1 : ((sum_Add.f kj19 0 x6_19).bind fun t179 => ((sum_Add.f kj19 t179 x5_4).bind fun t180 => ((sum_Add.f kj19 0 x5_4).bind fun t181 => ((sum_Add.f kj19 t181 x6_19).bind fun t182 => (some (t180 == t182)))))) = some r := by rw [if_pos rfl] at H; exact H
                  clear H
                  have H := H1
                  clear H1
                  replace H := Option.bind_eq_some_iff.mp H
                  obtain ⟨t179, A350, H⟩ := H
                  replace H : ((sum_Add.f kj19 t179 x5_4).bind fun t180 => ((sum_Add.f kj19 0 x5_4).bind fun t181 => ((sum_Add.f kj19 t181 x6_19).bind fun t182 => (some (t180 == t182))))) = some r := H
                  have A35 := Aside0.mk A350
                  clear A350
                  replace H := Option.bind_eq_some_iff.mp H
                  obtain ⟨t180, A360, H⟩ := H
                  replace H : ((sum_Add.f kj19 0 x5_4).bind fun t181 => ((sum_Add.f kj19 t181 x6_19).bind fun t182 => (some (t180 == t182)))) = some r := H
                  have A36 := Aside0.mk A360
                  clear A360
                  replace H := Option.bind_eq_some_iff.mp H
                  obtain ⟨t181, A370, H⟩ := H
                  replace H : ((sum_Add.f kj19 t181 x6_19).bind fun t182 => (some (t180 == t182))) = some r := H
                  have A37 := Aside0.mk A370
                  clear A370
                  replace H := Option.bind_eq_some_iff.mp H
                  obtain ⟨t182, A380, H⟩ := H
                  replace H : (some (t180 == t182)) = some r := H
                  have A38 := Aside0.mk A380
                  clear A380
                  obtain rfl := Option.some.inj H
                  go_wp2_with (first | ((with_reducible refine gate_callee (f := 13) rfl ?_); refine goesL_ (some 42) rfl rfl Try.func13 (by kernel_rfl) rfl #[] rfl (by (try simp only [List.map_toArray, List.map_cons, List.map_nil]); first | done | rfl | (simp only [List.length_drop, List.length_take]; rfl)) ?_; (with_reducible refine (mantletlaw02_awake.calls kj19  true _ A33.out).mono ?_); rintro e w39 ⟨rfl, hb⟩; refine ⟨_, rfl, ?_⟩; have n0_ := Aside0.mk (Kd.V_below (by (with_reducible repeat (first | apply Kd.V_alloc | apply Kd.V_drewN | apply Kd.V_drew)); exact HO_5.out) hb); have n1_ := Aside0.mk (Kd.V_below (by (with_reducible repeat (first | apply Kd.V_alloc | apply Kd.V_drewN | apply Kd.V_drew)); exact HO_6.out) hb); have n2_ := Aside0.mk (below_step (by repeat (first | (with_reducible first | exact HB.out | apply below_alloc | apply pw_below_drewN | apply below_drew1) | exact HB.out)) hb); clear HO_5; clear HO_6; clear HB; have HO_5 := n0_; have HO_6 := n1_; have HB := n2_; clear n0_ n1_ n2_; (try clear hb); (try clear hb2); (try clear hk); (try clear hi); obtain ⟨Ao40, co40, eo40⟩ := Kd.V_slice HO_6.out; subst eo40) | ((with_reducible refine gate_dst (N := 45) rfl ?_); refine gate_guard (by first | rfl | (go_simp; done)) ?_; dsimp only; (with_reducible refine gate_callee (f := 14) rfl ?_); refine goesL_ (some 45) rfl rfl Try.func14 (by kernel_rfl) rfl #[.int .u16 0, .slice Ao40 x6_19.length co40] rfl (by (try simp only [List.map_toArray, List.map_cons, List.map_nil]); first | done | rfl | (simp only [List.length_drop, List.length_take]; rfl)) ?_; (with_reducible refine (sum_Add.calls kj19 0 _ _ x6_19 t179 _ ?side1 ?side2 A35.out).mono ?_); (case side1 => repeat (first | exact (Kd.V_reads' HO_6.out).2.2 | (with_reducible refine Kd.C_alloc ?_ _) | (with_reducible refine Kd.C_drewN ?_ _) | (with_reducible refine Kd.C_drew ?_))); (case side2 => exact (Kd.V_reads' HO_6.out).2.1); rintro e w' ⟨rfl, ⟨nd, rfl⟩⟩; refine ⟨_, rfl, ?_⟩) | ((with_reducible refine gate_dst (N := 47) rfl ?_); refine gate_guard (by first | rfl | (go_simp; done)) ?_; dsimp only; (with_reducible refine gate_callee (f := 14) rfl ?_); refine goesL_ (some 47) rfl rfl Try.func14 (by kernel_rfl) rfl #[.int .u16 t179, .slice Ao24 x5_4.length co24] rfl (by (try simp only [List.map_toArray, List.map_cons, List.map_nil]); first | done | rfl | (simp only [List.length_drop, List.length_take]; rfl)) ?_; (with_reducible refine (sum_Add.calls kj19 t179 _ _ x5_4 t180 _ ?side1 ?side2 A36.out).mono ?_); (case side1 => repeat (first | exact (Kd.V_reads' HO_5.out).2.2 | (with_reducible refine Kd.C_alloc ?_ _) | (with_reducible refine Kd.C_drewN ?_ _) | (with_reducible refine Kd.C_drew ?_))); (case side2 => exact (Kd.V_reads' HO_5.out).2.1); rintro e w' ⟨rfl, ⟨nd, rfl⟩⟩; refine ⟨_, rfl, ?_⟩) | ((with_reducible refine gate_dst (N := 49) rfl ?_); refine gate_guard (by first | rfl | (go_simp; done)) ?_; dsimp only; (with_reducible refine gate_callee (f := 14) rfl ?_); refine goesL_ (some 49) rfl rfl Try.func14 (by kernel_rfl) rfl #[.int .u16 0, .slice Ao24 x5_4.length co24] rfl (by (try simp only [List.map_toArray, List.map_cons, List.map_nil]); first | done | rfl | (simp only [List.length_drop, List.length_take]; rfl)) ?_; (with_reducible refine (sum_Add.calls kj19 0 _ _ x5_4 t181 _ ?side1 ?side2 A37.out).mono ?_); (case side1 => repeat (first | exact (Kd.V_reads' HO_5.out).2.2 | (with_reducible refine Kd.C_alloc ?_ _) | (with_reducible refine Kd.C_drewN ?_ _) | (with_reducible refine Kd.C_drew ?_))); (case side2 => exact (Kd.V_reads' HO_5.out).2.1); rintro e w' ⟨rfl, ⟨nd, rfl⟩⟩; refine ⟨_, rfl, ?_⟩) | ((with_reducible refine gate_dst (N := 51) rfl ?_); refine gate_guard (by first | rfl | (go_simp; done)) ?_; dsimp only; (with_reducible refine gate_callee (f := 14) rfl ?_); refine goesL_ (some 51) rfl rfl Try.func14 (by kernel_rfl) rfl #[.int .u16 t181, .slice Ao40 x6_19.length co40] rfl (by (try simp only [List.map_toArray, List.map_cons, List.map_nil]); first | done | rfl | (simp only [List.length_drop, List.length_take]; rfl)) ?_; (with_reducible refine (sum_Add.calls kj19 t181 _ _ x6_19 t182 _ ?side1 ?side2 A38.out).mono ?_); (case side1 => repeat (first | exact (Kd.V_reads' HO_6.out).2.2 | (with_reducible refine Kd.C_alloc ?_ _) | (with_reducible refine Kd.C_drewN ?_ _) | (with_reducible refine Kd.C_drew ?_))); (case side2 => exact (Kd.V_reads' HO_6.out).2.1); rintro e w' ⟨rfl, ⟨nd, rfl⟩⟩; refine ⟨_, rfl, ?_⟩))
                  go_ret
                  exact ⟨by first | rfl | (simp [errW_none, errW_some] <;> rfl) | (simp [*, errW_none, errW_some] <;> rfl), by repeat (first | (with_reducible first | exact HB.out | apply below_alloc | apply pw_below_drewN | apply below_drew1) | exact HB.out)⟩
                · replace c34 := Bool.eq_false_iff.mpr c34
                  subst c34
                  have H1 : (some false) = some r := by rw [if_neg (show ¬ (false = true) by decide)] at H; exact H
                  clear H
                  have H := H1
                  clear H1
                  obtain rfl := Option.some.inj H
                  go_wp2_with (first | ((with_reducible refine gate_callee (f := 13) rfl ?_); refine goesL_ (some 42) rfl rfl Try.func13 (by kernel_rfl) rfl #[] rfl (by (try simp only [List.map_toArray, List.map_cons, List.map_nil]); first | done | rfl | (simp only [List.length_drop, List.length_take]; rfl)) ?_; (with_reducible refine (mantletlaw02_awake.calls kj19  false _ A33.out).mono ?_); rintro e w41 ⟨rfl, hb⟩; refine ⟨_, rfl, ?_⟩; have n0_ := Aside0.mk (Kd.V_below (by (with_reducible repeat (first | apply Kd.V_alloc | apply Kd.V_drewN | apply Kd.V_drew)); exact HO_5.out) hb); have n1_ := Aside0.mk (Kd.V_below (by (with_reducible repeat (first | apply Kd.V_alloc | apply Kd.V_drewN | apply Kd.V_drew)); exact HO_6.out) hb); have n2_ := Aside0.mk (below_step (by repeat (first | (with_reducible first | exact HB.out | apply below_alloc | apply pw_below_drewN | apply below_drew1) | exact HB.out)) hb); clear HO_5; clear HO_6; clear HB; have HO_5 := n0_; have HO_6 := n1_; have HB := n2_; clear n0_ n1_ n2_; (try clear hb); (try clear hb2); (try clear hk); (try clear hi)))
                  go_ret
                  exact ⟨by first | rfl | (simp [errW_none, errW_some] <;> rfl) | (simp [*, errW_none, errW_some] <;> rfl), by repeat (first | (with_reducible first | exact HB.out | apply below_alloc | apply pw_below_drewN | apply below_drew1) | exact HB.out)⟩
          · rw [if_neg c19] at H
            have c19b0 : (t171 == t172) = false := beq_eq_false_iff_ne.mpr c19
            have c19b1 : (t171 != t172) = true := bne_iff_ne.mpr c19
            obtain rfl := Option.some.inj H
            go_wp2_with (first | ((with_reducible refine gate_dst (N := 21) rfl ?_); refine Kd.R_lit (Kd.int .u8) _ 5 ?hg (N := 21) ?hd (xs := ([] : List Int)) (inner := []) (ok := fun _ => True) (okp := fun _ => True) ?hr ?hp (fun _ hk => hk) trivial (Below.refl _ _) (Nat.le_refl _) (by simp) ?_; (case hd => rfl); (case hg => rfl); (case hr => first | (go_simp; done) | (go_simp; rfl)); (case hp => exact (Reps.none _ _)); intro v162 w42 ho43 hb hg_ hnew_; clear hg_ hnew_; (first | rw [← Ny161.out] at ho43 | (simp only [Int.reduceToNat] at ho43; rw [← Ny161.out] at ho43)); have n0_ := Aside0.mk (Kd.V_elder' (by (with_reducible repeat (first | apply Kd.V_alloc | apply Kd.V_drewN | apply Kd.V_drew)); exact HO_5.out) (Kd.R_base ho43) hb); have n1_ := Aside0.mk (Kd.V_elder' (by (with_reducible repeat (first | apply Kd.V_alloc | apply Kd.V_drewN | apply Kd.V_drew)); exact HO_6.out) (Kd.R_base ho43) hb); have n2_ := Aside0.mk (Kd.R_lower ho43 (below_size (by repeat (first | (with_reducible first | exact HB.out | apply below_alloc | apply pw_below_drewN | apply below_drew1) | exact HB.out)))); have n3_ := Aside0.mk (below_step (by repeat (first | (with_reducible first | exact HB.out | apply below_alloc | apply pw_below_drewN | apply below_drew1) | exact HB.out)) hb); clear HO_5; clear HO_6; clear HB; have HO_5 := n0_; have HO_6 := n1_; have HO163 := n2_; have HB := n3_; clear n0_ n1_ n2_ n3_; clear hb ho43; obtain ⟨Ao45, co45, eo45⟩ := Kd.V_slice HO_5.out; subst eo45) | ((with_reducible refine gate_builtin (b := .append) (xs := #[.tmp 21, .tmp 22]) rfl ?_); at_builtin; refine Kd.R_append_rows (Kd.int .u8) (w0 := w) w.heap.size rfl (.tmp 21) (.tmp 22) 23 5 (.int .u8 0) 1 rfl Try.underlying23 info5 rfl (by decide) (by omega) v162 y161 x5_4 _ _ _ (fun _ => True) (fun _ => False) rfl rfl ?aO ?aR (fun _ _ h => h) (fun _ h => h.elim) ?aF ?aB ?aS ?aL ?_; (case aR => repeat (first | exact (Kd.V_reads' HO_5.out).2.2 | (with_reducible refine Kd.C_alloc ?_ _) | (with_reducible refine Kd.C_drewN ?_ _) | (with_reducible refine Kd.C_drew ?_))); (case aB => exact (by repeat (first | (with_reducible first | exact HB.out | apply below_alloc | apply pw_below_drewN | apply below_drew1) | exact HB.out))); (case aF => exact (fun _ _ => trivial)); (case aO => exact (by (with_reducible repeat (first | apply Kd.R_alloc | apply Kd.R_drewN | apply Kd.R_drew)); exact HO163.out)); (case aS => exact (below_size (by repeat (first | (with_reducible first | exact HB.out | apply below_alloc | apply pw_below_drewN | apply below_drew1) | exact HB.out)))); (case aL => have := LMc14.out; omega); intro v165 w44 ho hb hg hat; rw [← Ny164.out] at ho; have n0_ := Aside0.mk (Kd.V_afterv (ok := (fun _ => True)) (by (with_reducible repeat (first | apply Kd.V_alloc | apply Kd.V_drewN | apply Kd.V_drew)); exact HO_5.out) hg hat); have n1_ := Aside0.mk (Kd.V_afterv (ok := (fun _ => True)) (by (with_reducible repeat (first | apply Kd.V_alloc | apply Kd.V_drewN | apply Kd.V_drew)); exact HO_6.out) hg hat); have n2_ := Aside0.mk (hb); have n3_ := Aside0.mk (ho); clear HO_5; clear HO_6; clear HB; clear HO163; have HO_5 := n0_; have HO_6 := n1_; have HB := n2_; have HO166 := n3_; clear n0_ n1_ n2_ n3_; clear ho hb hg hat; obtain ⟨Ao47, co47, eo47⟩ := Kd.V_slice HO_6.out; subst eo47) | ((with_reducible refine gate_builtin (b := .append) (xs := #[.tmp 23, .tmp 24]) rfl ?_); at_builtin; refine Kd.R_append_rows (Kd.int .u8) (w0 := w) w.heap.size rfl (.tmp 23) (.tmp 24) 23 5 (.int .u8 0) 1 rfl Try.underlying23 info5 rfl (by decide) (by omega) v165 y164 t153 _ _ _ (fun _ => True) (fun _ => False) rfl rfl ?aO ?aR (fun _ _ h => h) (fun _ h => h.elim) ?aF ?aB ?aS ?aL ?_; (case aR => repeat (first | exact (Kd.V_reads' HO_6.out).2.2 | (with_reducible refine Kd.C_alloc ?_ _) | (with_reducible refine Kd.C_drewN ?_ _) | (with_reducible refine Kd.C_drew ?_))); (case aB => exact (by repeat (first | (with_reducible first | exact HB.out | apply below_alloc | apply pw_below_drewN | apply below_drew1) | exact HB.out))); (case aF => exact (fun _ _ => trivial)); (case aO => exact (by (with_reducible repeat (first | apply Kd.R_alloc | apply Kd.R_drewN | apply Kd.R_drew)); exact HO166.out)); (case aS => exact (below_size (by repeat (first | (with_reducible first | exact HB.out | apply below_alloc | apply pw_below_drewN | apply below_drew1) | exact HB.out)))); (case aL => have := LMc15.out; omega); intro v168 w46 ho hb hg hat; rw [← Ny167.out] at ho; have n0_ := Aside0.mk (Kd.V_afterv (ok := (fun _ => True)) (by (with_reducible repeat (first | apply Kd.V_alloc | apply Kd.V_drewN | apply Kd.V_drew)); exact HO_5.out) hg hat); have n1_ := Aside0.mk (Kd.V_afterv (ok := (fun _ => True)) (by (with_reducible repeat (first | apply Kd.V_alloc | apply Kd.V_drewN | apply Kd.V_drew)); exact HO_6.out) hg hat); have n2_ := Aside0.mk (hb); have n3_ := Aside0.mk (ho); clear HO_5; clear HO_6; clear HB; clear HO166; have HO_5 := n0_; have HO_6 := n1_; have HB := n2_; have HO169 := n3_; clear n0_ n1_ n2_ n3_; clear ho hb hg hat) | ((with_reducible refine gate_callee (f := 14) rfl ?_); refine goesL_ (some 27) rfl rfl Try.func14 (by kernel_rfl) rfl #[.int .u16 0, .slice Ao45 x5_4.length co45] rfl (by (try simp only [List.map_toArray, List.map_cons, List.map_nil]); first | done | rfl | (simp only [List.length_drop, List.length_take]; rfl)) ?_; (with_reducible refine (sum_Add.calls kj4 0 _ _ x5_4 t170 _ ?side1 ?side2 A16.out).mono ?_); (case side1 => repeat (first | exact (Kd.V_reads' HO_5.out).2.2 | (with_reducible refine Kd.C_alloc ?_ _) | (with_reducible refine Kd.C_drewN ?_ _) | (with_reducible refine Kd.C_drew ?_))); (case side2 => exact (Kd.V_reads' HO_5.out).2.1); rintro e w' ⟨rfl, ⟨nd, rfl⟩⟩; refine ⟨_, rfl, ?_⟩) | ((with_reducible refine gate_callee (f := 14) rfl ?_); refine goesL_ (some 29) rfl rfl Try.func14 (by kernel_rfl) rfl #[.int .u16 t170, .slice Ao47 t153.length co47] rfl (by (try simp only [List.map_toArray, List.map_cons, List.map_nil]); first | done | rfl | (simp only [List.length_drop, List.length_take]; rfl)) ?_; (with_reducible refine (sum_Add.calls kj4 t170 _ _ t153 t171 _ ?side1 ?side2 A17.out).mono ?_); (case side1 => repeat (first | exact (Kd.V_reads' HO_6.out).2.2 | (with_reducible refine Kd.C_alloc ?_ _) | (with_reducible refine Kd.C_drewN ?_ _) | (with_reducible refine Kd.C_drew ?_))); (case side2 => exact (Kd.V_reads' HO_6.out).2.1); rintro e w' ⟨rfl, ⟨nd, rfl⟩⟩; refine ⟨_, rfl, ?_⟩; obtain ⟨Ao48, co48, eo48⟩ := Kd.R_slice HO169.out; subst eo48) | ((with_reducible refine gate_callee (f := 14) rfl ?_); refine goesL_ (some 31) rfl rfl Try.func14 (by kernel_rfl) rfl #[.int .u16 0, .slice Ao48 y167.length co48] rfl (by (try simp only [List.map_toArray, List.map_cons, List.map_nil]); first | done | rfl | (simp only [List.length_drop, List.length_take]; rfl)) ?_; (with_reducible refine (sum_Add.calls kj4 0 _ _ y167 t172 _ ?side1 ?side2 A18.out).mono ?_); (case side1 => repeat (first | exact (Kd.R_reads' HO169.out).2.2 | (with_reducible refine Kd.C_alloc ?_ _) | (with_reducible refine Kd.C_drewN ?_ _) | (with_reducible refine Kd.C_drew ?_))); (case side2 => exact (Kd.R_reads' HO169.out).2.1); rintro e w' ⟨rfl, ⟨nd, rfl⟩⟩; refine ⟨_, rfl, ?_⟩))
            go_ret
            exact ⟨by first | rfl | (simp [errW_none, errW_some] <;> rfl) | (simp [*, errW_none, errW_some] <;> rfl), by repeat (first | (with_reducible first | exact HB.out | apply below_alloc | apply pw_below_drewN | apply below_drew1) | exact HB.out)⟩
        · rw [if_neg c15] at H
          exact absurd H (by simp)
      · rw [if_neg c14] at H
        exact absurd H (by simp)

/-- THE ONE PURE STATEMENT of mantletlaw02_SumParts: yours. -/
def mantletlaw02_SumParts.Pure : Prop := ∀ (l0 : List Int) (l1 : List Int), l0.length ≤ maxLen → l0.length * 1 ≤ 140737488351232 → (∀ x ∈ l0, (Lit.int .u8 x).wf = true) → l1.length ≤ maxLen → l1.length * 1 ≤ 140737488351232 → (∀ x ∈ l1, (Lit.int .u8 x).wf = true) → ∃ k, mantletlaw02_SumParts.f k l0 l1 = some true
theorem mantletlaw02_SumParts.walk (P : mantletlaw02_SumParts.Pure) (a0 : Option Addr) (len0 cap0 : Nat) (z0 : List Int) (a1 : Option Addr) (len1 cap1 : Nat) (z1 : List Int) (w : World) (w0 : (a0 = none ∧ len0 = 0 ∧ cap0 = 0 ∧ z0 = []) ∨ ∃ x, a0 = some x ∧ len0 ≤ cap0 ∧ cap0 ≤ maxLen ∧ z0.length = cap0 ∧ (∀ i, i < z0.length → w.cell? (x.add i) = some (.int .u8 (z0.getD i 0))) ∧ ∀ n ∈ z0, (Lit.int .u8 n).wf = true) (y0 : len0 * 1 ≤ 140737488351232) (w1 : (a1 = none ∧ len1 = 0 ∧ cap1 = 0 ∧ z1 = []) ∨ ∃ x, a1 = some x ∧ len1 ≤ cap1 ∧ cap1 ≤ maxLen ∧ z1.length = cap1 ∧ (∀ i, i < z1.length → w.cell? (x.add i) = some (.int .u8 (z1.getD i 0))) ∧ ∀ n ∈ z1, (Lit.int .u8 n).wf = true) (y1 : len1 * 1 ≤ 140737488351232) :
    Calls Try.prog 7 #[.slice a0 len0 cap0, .slice a1 len1 cap1] w fun e w' => e = .returned (.bool true) ∧ Below w.heap.size w w' := by
  obtain ⟨l0, rfl, hr0, hm0, hw0, hc0⟩ := ReadsInt.ofRowC w0
  obtain ⟨l1, rfl, hr1, hm1, hw1, hc1⟩ := ReadsInt.ofRowC w1
  obtain ⟨k, h⟩ := P l0 l1 hm0 y0 hw0 hm1 y1 hw1
  refine (mantletlaw02_SumParts.calls k _ _ l0 _ _ l1 true w (Kd.C_of_reads (d := (0 : Int)) (h1 := fun _ => rfl) hr0) hc0 (Kd.C_of_reads (d := (0 : Int)) (h1 := fun _ => rfl) hr1) hc1 h).mono ?_
  rintro e w' ⟨rfl, hd⟩
  exact ⟨rfl, hd⟩

end Go.Proofs.Ytjmdidbhocmhgaa.Sum
