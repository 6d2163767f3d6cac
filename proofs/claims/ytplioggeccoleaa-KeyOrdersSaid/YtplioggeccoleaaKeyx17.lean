-- Made by a program of this workplace (wip/pr.sh) out of Lean's print of the translation; Lean checks it.
import Derived.Test.YtplioggeccoleaaKeyx0
import Derived.Test.YtplioggeccoleaaKeyx13
import Derived.Test.YtplioggeccoleaaKeyx16
namespace Go.Proofs.Ytplioggeccoleaa.Key
open Go.Proofs.Ytplioggeccoleaa.Ext
open Go.RowKit Go.Proofs.YtplioggeccoleaaW.PrintWords Go.Proofs.YtplioggeccoleaaW.PrintLast Go.Proofs.YtplioggeccoleaaW.PrintMore
attribute [local go_sem] max2_int min2_int max_two min_two max_three min_three max_four min_four   -- for this text's walks alone
set_option linter.unusedVariables false
set_option linter.unusedSimpArgs false

/-! ### key_Stripe: function 13 -/
def key_Stripe.j0 : Nat → Int → Bool → Int → Int → Int → Int → Int → Option (Int)
  | 0, _, _, _, _, _, _, _ => none
  | k + 1, x1, x16, x162000, x162001, x162002, x162003, x162004 => if x16 = true then (some 0) else ((key_Hash.f k x162000 x162001 x162002 x162003 x162004).bind fun t163 => (some (Go.bits .and .i64 (wrap64 (t163)) (wrap64 (x1 - 1)))))
def key_Stripe.f (k : Nat) (a0_0 : Int) (a0_1 : Int) (a0_2 : Int) (a0_3 : Int) (a0_4 : Int) (a1 : Int) : Option (Int) := if a1 < 1 then (key_Stripe.j0 k a1 true a0_0 a0_1 a0_2 a0_3 a0_4) else (if a1 > 4096 then (key_Stripe.j0 k a1 true a0_0 a0_1 a0_2 a0_3 a0_4) else ((bits_OnesCount.f (IntKind.u64.wrap (a1))).bind fun t162 => (key_Stripe.j0 k a1 (t162 != 1) a0_0 a0_1 a0_2 a0_3 a0_4)))
theorem key_Stripe.mono_l : ∀ k, (∀ y0 y1 y2 y3 y4 y5 y6, LeO (key_Stripe.j0 k y0 y1 y2 y3 y4 y5 y6) (key_Stripe.j0 (k + 1) y0 y1 y2 y3 y4 y5 y6))
  | 0 => fun _ _ _ _ _ _ _ r h => by simp [key_Stripe.j0] at h
  | k + 1 => by
    have ih0 := key_Stripe.mono_l k
    · intro y0 y1 y2 y3 y4 y5 y6
      unfold key_Stripe.j0
      repeat' first
      | (with_reducible exact ih0 _ _ _ _ _ _ _)
      | (with_reducible exact key_Hash.mono _ _ _ _ _ _)
      | (with_reducible exact LeO.refl _)
      | (with_reducible exact LeO.none _)
      | (with_reducible refine LeO.ite ?_ ?_)
      | (with_reducible refine LeO.bind ?_ (fun _ => ?_))
      | exact ih0 _ _ _ _ _ _ _
      | exact key_Hash.mono _ _ _ _ _ _
      | exact LeO.none _
      | refine LeO.ite ?_ ?_
      | refine LeO.bind ?_ (fun _ => ?_)
theorem key_Stripe.mono : ∀ a0 a1 a2 a3 a4 a5 k, LeO (key_Stripe.f k a0 a1 a2 a3 a4 a5) (key_Stripe.f (k + 1) a0 a1 a2 a3 a4 a5) := by
  intro a0 a1 a2 a3 a4 a5 k
  have ih0 := key_Stripe.mono_l k
  unfold key_Stripe.f
  repeat' first
      | (with_reducible exact ih0 _ _ _ _ _ _ _)
      | (with_reducible exact key_Hash.mono _ _ _ _ _ _)
      | (with_reducible exact LeO.refl _)
      | (with_reducible exact LeO.none _)
      | (with_reducible refine LeO.ite ?_ ?_)
      | (with_reducible refine LeO.bind ?_ (fun _ => ?_))
      | exact ih0 _ _ _ _ _ _ _
      | exact key_Hash.mono _ _ _ _ _ _
      | exact LeO.none _
      | refine LeO.ite ?_ ?_
      | refine LeO.bind ?_ (fun _ => ?_)
set_option maxHeartbeats 8000000 in
set_option maxRecDepth 100000 in
theorem key_Stripe.calls (k : Nat) (a0_0 : Int) (a0_1 : Int) (a0_2 : Int) (a0_3 : Int) (a0_4 : Int) (a1 : Int) (r : Int) (w : World) (h : key_Stripe.f k a0_0 a0_1 a0_2 a0_3 a0_4 a1 = some r) :
    Calls Try.prog 13 #[.agg #[.int .u32 a0_0, .int .u32 a0_1, .int .u16 a0_2, .int .u16 a0_3, .int .u8 a0_4], .int .i64 a1] w fun e w' => e = .returned (.int .i64 r) ∧ Below w.heap.size w w' := by
  have hu29 := Try.underlying29
  have HB := Aside0.mk (Below.refl w.heap.size w)
  have H : (if a1 < 1 then (key_Stripe.j0 k a1 true a0_0 a0_1 a0_2 a0_3 a0_4) else (if a1 > 4096 then (key_Stripe.j0 k a1 true a0_0 a0_1 a0_2 a0_3 a0_4) else ((bits_OnesCount.f (IntKind.u64.wrap (a1))).bind fun t162 => (key_Stripe.j0 k a1 (t162 != 1) a0_0 a0_1 a0_2 a0_3 a0_4)))) = some r := h
  clear h
  have HC3 := Aside0.mk H
  clear H
  go_enter Try.func13, Try.ntmps13
  go_upto_region 1 with (first | ((with_reducible refine gate_dst (N := 2) rfl ?_); refine box_event ?hg (N := 2) ?hd (cs := #[.int .u32 a0_0, .int .u32 a0_1, .int .u16 a0_2, .int .u16 a0_3, .int .u8 a0_4]) (t := 29) ?hr ?_; (case hd => rfl); (case hg => rfl); (case hr => first | (go_simp; done) | (go_simp; rfl)); intro gb161 hg w4 hbox hb; have n0_ := Aside0.mk (below_step (by repeat first | (with_reducible first | exact HB.out | apply below_alloc | apply pw_below_drewN | apply below_drew1) | exact HB.out) hb); have n1_ := Aside0.mk (hbox); have n2_ := Aside0.mk ((by rw [hg]; exact (below_size (by repeat first | (with_reducible first | exact HB.out | apply below_alloc | apply pw_below_drewN | apply below_drew1) | exact HB.out)) : w.heap.size ≤ gb161)); have n3_ := Aside0.mk ((by rw [hg]; exact (below_size (by repeat first | (with_reducible first | exact HB.out | apply below_alloc | apply pw_below_drewN | apply below_drew1) | exact HB.out)) : w.heap.size ≤ gb161)); clear HB; have HB := n0_; have BK161 := n1_; have GW161 := n2_; have GE161 := n3_; clear n0_ n1_ n2_ n3_; clear hb hbox hg))
  (try simp only [Act.put, List.setIfInBounds_toArray, List.set_cons_zero, List.set_cons_succ])
  go_cut [16] (fun v16 wc => ∃ (kq : Nat) (x16_2 : Bool), v16 = .bool x16_2 ∧ Aside0 (key_Stripe.j0 kq a1 x16_2 a0_0 a0_1 a0_2 a0_3 a0_4 = some r) ∧ Aside0 (kq ≤ k) ∧ Aside0 (wc.heap[gb161]? = some (.cells #[.int .u32 a0_0, .int .u32 a0_1, .int .u16 a0_2, .int .u16 a0_3, .int .u8 a0_4] 29 (0, 0))) ∧ Aside0 (Below w.heap.size w wc))
  case first =>
    have H := HC3.out
    clear HC3
    by_cases c5 : a1 < 1
    · rw [if_pos c5] at H
      have c5b0 : decide (a1 < 1) = true := decide_eq_true c5
      clear c5
      (first | rw [c5b0] | (simp only [i64_w, i32_w]; rw [c5b0]) | skip)
      have H' := Aside0.mk H
      clear H
      go_wp2
      go_meet
      case rel => exact ⟨_, (true), (by first | rfl | (simp; done) | (simp [*]; done)), H', ⟨by first | omega | exact Nat.le_refl _⟩, ⟨by (with_reducible repeat first | apply blk_drewN | apply blk_drew | apply blk_alloc); exact BK161.out⟩, ⟨by repeat first | (with_reducible first | exact HB.out | apply below_alloc | apply pw_below_drewN | apply below_drew1 | refine below_set ?_ GE161.out) | exact HB.out⟩⟩
    · rw [if_neg c5] at H
      have c5b0 : decide (a1 < 1) = false := decide_eq_false c5
      clear c5
      (first | rw [c5b0] | (simp only [i64_w, i32_w]; rw [c5b0]) | skip)
      by_cases c6 : a1 > 4096
      · rw [if_pos c6] at H
        have c6b0 : decide (4096 < a1) = true := decide_eq_true c6
        clear c6
        have H' := Aside0.mk H
        clear H
        go_wp2
        go_meet
        case rel => exact ⟨_, (true), (by first | rfl | (simp; done) | (simp [*]; done)), H', ⟨by first | omega | exact Nat.le_refl _⟩, ⟨by (with_reducible repeat first | apply blk_drewN | apply blk_drew | apply blk_alloc); exact BK161.out⟩, ⟨by repeat first | (with_reducible first | exact HB.out | apply below_alloc | apply pw_below_drewN | apply below_drew1 | refine below_set ?_ GE161.out) | exact HB.out⟩⟩
      · rw [if_neg c6] at H
        have c6b0 : decide (4096 < a1) = false := decide_eq_false c6
        clear c6
        replace H := Option.bind_eq_some_iff.mp H
        obtain ⟨t162, A70, H⟩ := H
        replace H : (key_Stripe.j0 k a1 (t162 != 1) a0_0 a0_1 a0_2 a0_3 a0_4) = some r := H
        have A7 := Aside0.mk A70
        clear A70
        have H' := Aside0.mk H
        clear H
        go_wp2_with (first | ((with_reducible refine gate_dst (N := 14) rfl ?_); refine gate_guard (by first | rfl | (go_simp; done)) ?_; dsimp only; (with_reducible refine gate_callee (f := 24) rfl ?_); refine goesL_ (some 14) rfl rfl Try.func24 (by kernel_rfl) rfl #[.int .u64 (IntKind.u64.wrap (a1))] rfl (by (try simp only [List.map_toArray, List.map_cons, List.map_nil]); first | done | rfl) ?_; (with_reducible refine (bits_OnesCount.calls (IntKind.u64.wrap (a1)) t162 _ A7.out).mono ?_); rintro e w' ⟨rfl, ⟨nd, rfl⟩⟩; refine ⟨_, rfl, ?_⟩))
        go_meet
        case rel => exact ⟨_, ((t162 != 1)), (by first | rfl | (simp; done) | (simp [*]; done)), H', ⟨by first | omega | exact Nat.le_refl _⟩, ⟨by (with_reducible repeat first | apply blk_drewN | apply blk_drew | apply blk_alloc); exact BK161.out⟩, ⟨by repeat first | (with_reducible first | exact HB.out | apply below_alloc | apply pw_below_drewN | apply below_drew1 | refine below_set ?_ GE161.out) | exact HB.out⟩⟩
  case rest =>
    clear HC3
    try clear c1
    try clear c2
    try clear p2
    try clear c5
    try clear c5b0
    try clear c6
    try clear c6b0
    obtain ⟨kq, x16_2, rfl, HA, HJ2, BK161, HB⟩ := hcut
    cases kq with
    | zero => exact absurd HA.out (by simp [key_Stripe.j0])
    | succ kj2 =>
      have H := HA.out
      clear HA
      simp only [key_Stripe.j0] at H
      by_cases c8 : x16_2 = true
      · subst c8
        have H1 : (some 0) = some r := by rw [if_pos rfl] at H; exact H
        clear H
        have H := H1
        clear H1
        obtain rfl := Option.some.inj H
        go_wp2
        go_ret
        exact ⟨by first | rfl | (simp [errW_none, errW_some] <;> rfl) | (simp [*, errW_none, errW_some] <;> rfl), by repeat first | (with_reducible first | exact HB.out | apply below_alloc | apply pw_below_drewN | apply below_drew1 | refine below_set ?_ GE161.out) | exact HB.out⟩
      · replace c8 := Bool.eq_false_iff.mpr c8
        subst c8
        have H1 : ((key_Hash.f kj2 a0_0 a0_1 a0_2 a0_3 a0_4).bind fun t163 => (some (Go.bits .and .i64 (wrap64 (t163)) (wrap64 (a1 - 1))))) = some r := by rw [if_neg (show ¬ (false = true) by decide)] at H; exact H
        clear H
        have H := H1
        clear H1
        replace H := Option.bind_eq_some_iff.mp H
        obtain ⟨t163, A90, H⟩ := H
        replace H : (some (Go.bits .and .i64 (wrap64 (t163)) (wrap64 (a1 - 1)))) = some r := H
        have A9 := Aside0.mk A90
        clear A90
        obtain rfl := Option.some.inj H
        have hcz10_0 : wc.cell? ⟨gb161, 0, none⟩ = some (.int .u32 a0_0) := (blk_cell BK161.out 0).trans rfl
        have hcz10_1 : wc.cell? ⟨gb161, 1, none⟩ = some (.int .u32 a0_1) := (blk_cell BK161.out 1).trans rfl
        have hcz10_2 : wc.cell? ⟨gb161, 2, none⟩ = some (.int .u16 a0_2) := (blk_cell BK161.out 2).trans rfl
        have hcz10_3 : wc.cell? ⟨gb161, 3, none⟩ = some (.int .u16 a0_3) := (blk_cell BK161.out 3).trans rfl
        have hcz10_4 : wc.cell? ⟨gb161, 4, none⟩ = some (.int .u8 a0_4) := (blk_cell BK161.out 4).trans rfl
        have hfz10_0 := blk_frozen BK161.out 0
        have hfz10_1 := blk_frozen BK161.out 1
        have hfz10_2 := blk_frozen BK161.out 2
        have hfz10_3 := blk_frozen BK161.out 3
        have hfz10_4 := blk_frozen BK161.out 4
        go_wp2_with (first | ((with_reducible refine gate_callee (f := 11) rfl ?_); refine goesL_ (some 18) rfl rfl Try.func11 (by kernel_rfl) rfl #[.agg #[.int .u32 a0_0, .int .u32 a0_1, .int .u16 a0_2, .int .u16 a0_3, .int .u8 a0_4]] rfl (by (try simp only [List.map_toArray, List.map_cons, List.map_nil]); first | done | rfl) ?_; (with_reducible refine (key_Hash.calls kj2 a0_0 a0_1 a0_2 a0_3 a0_4 t163 _ A9.out).mono ?_); rintro e w11 ⟨rfl, hb⟩; refine ⟨_, rfl, ?_⟩; have n0_ := Aside0.mk (blk_below (g := gb161) (o := .cells #[.int .u32 a0_0, .int .u32 a0_1, .int .u16 a0_2, .int .u16 a0_3, .int .u8 a0_4] 29 (0, 0)) (by (with_reducible repeat first | apply blk_drewN | apply blk_drew | apply blk_alloc); exact BK161.out) hb); have n1_ := Aside0.mk (below_step (by repeat first | (with_reducible first | exact HB.out | apply below_alloc | apply pw_below_drewN | apply below_drew1 | refine below_set ?_ GE161.out) | exact HB.out) hb); clear BK161; clear HB; have BK161 := n0_; have HB := n1_; clear n0_ n1_; (try clear hb); (try clear hb2); (try clear hk); (try clear hi)))
        go_ret
        exact ⟨by first | rfl | (simp [errW_none, errW_some] <;> rfl) | (simp [*, errW_none, errW_some] <;> rfl), by repeat first | (with_reducible first | exact HB.out | apply below_alloc | apply pw_below_drewN | apply below_drew1 | refine below_set ?_ GE161.out) | exact HB.out⟩

end Go.Proofs.Ytplioggeccoleaa.Key
