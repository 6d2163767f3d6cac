-- Made by a program of this workplace (wip/pr.sh) out of Lean's print of the translation; Lean checks it.
import Derived.Test.YtplioggeccoleaaKeyx0
import Derived.Test.YtplioggeccoleaaKeyx24
namespace Go.Proofs.Ytplioggeccoleaa.Key
open Go.Proofs.Ytplioggeccoleaa.Ext
open Go.RowKit Go.Proofs.YtplioggeccoleaaW.PrintWords Go.Proofs.YtplioggeccoleaaW.PrintLast Go.Proofs.YtplioggeccoleaaW.PrintMore
attribute [local go_sem] max2_int min2_int max_two min_two max_three min_three max_four min_four   -- for this text's walks alone
set_option linter.unusedVariables false
set_option linter.unusedSimpArgs false

/-! ### mantletref10_Stripe: function 14 -/
def mantletref10_Stripe.l0 : Nat → Int → Int → Int → Int → Int → Int → Int → Option (Int)
  | 0, _, _, _, _, _, _, _ => none
  | k + 1, x1, x5, x225000, x225001, x225002, x225003, x225004 => if x5 ≤ 4096 then (if x5 = x1 then ((mantletref10_Hash.f x225000 x225001 x225002 x225003 x225004).bind fun t225 => (if x5 = 0 then (none) else (some (Int.tmod (wrap64 (t225)) x5)))) else (mantletref10_Stripe.l0 k x1 (wrap64 (x5 * 2)) x225000 x225001 x225002 x225003 x225004)) else (some 0)
def mantletref10_Stripe.f (k : Nat) (a0_0 : Int) (a0_1 : Int) (a0_2 : Int) (a0_3 : Int) (a0_4 : Int) (a1 : Int) : Option (Int) := mantletref10_Stripe.l0 k a1 1 a0_0 a0_1 a0_2 a0_3 a0_4
theorem mantletref10_Stripe.mono_l : ∀ k, (∀ y0 y1 y2 y3 y4 y5 y6, LeO (mantletref10_Stripe.l0 k y0 y1 y2 y3 y4 y5 y6) (mantletref10_Stripe.l0 (k + 1) y0 y1 y2 y3 y4 y5 y6))
  | 0 => fun _ _ _ _ _ _ _ r h => by simp [mantletref10_Stripe.l0] at h
  | k + 1 => by
    have ih0 := mantletref10_Stripe.mono_l k
    · intro y0 y1 y2 y3 y4 y5 y6
      unfold mantletref10_Stripe.l0
      repeat' first
      | (with_reducible exact ih0 _ _ _ _ _ _ _)
      | (with_reducible exact LeO.refl _)
      | (with_reducible exact LeO.none _)
      | (with_reducible refine LeO.ite ?_ ?_)
      | (with_reducible refine LeO.bind ?_ (fun _ => ?_))
      | exact ih0 _ _ _ _ _ _ _
      | exact LeO.none _
      | refine LeO.ite ?_ ?_
      | refine LeO.bind ?_ (fun _ => ?_)
theorem mantletref10_Stripe.mono : ∀ a0 a1 a2 a3 a4 a5 k, LeO (mantletref10_Stripe.f k a0 a1 a2 a3 a4 a5) (mantletref10_Stripe.f (k + 1) a0 a1 a2 a3 a4 a5) := by
  intro a0 a1 a2 a3 a4 a5 k
  have ih0 := mantletref10_Stripe.mono_l k
  unfold mantletref10_Stripe.f
  repeat' first
      | (with_reducible exact ih0 _ _ _ _ _ _ _)
      | (with_reducible exact LeO.refl _)
      | (with_reducible exact LeO.none _)
      | (with_reducible refine LeO.ite ?_ ?_)
      | (with_reducible refine LeO.bind ?_ (fun _ => ?_))
      | exact ih0 _ _ _ _ _ _ _
      | exact LeO.none _
      | refine LeO.ite ?_ ?_
      | refine LeO.bind ?_ (fun _ => ?_)
set_option maxHeartbeats 8000000 in
set_option maxRecDepth 100000 in
theorem mantletref10_Stripe.calls (k : Nat) (a0_0 : Int) (a0_1 : Int) (a0_2 : Int) (a0_3 : Int) (a0_4 : Int) (a1 : Int) (r : Int) (w : World) (h : mantletref10_Stripe.f k a0_0 a0_1 a0_2 a0_3 a0_4 a1 = some r) :
    Calls Try.prog 14 #[.agg #[.int .u32 a0_0, .int .u32 a0_1, .int .u16 a0_2, .int .u16 a0_3, .int .u8 a0_4], .int .i64 a1] w fun e w' => e = .returned (.int .i64 r) ∧ Below w.heap.size w w' := by
  have hu29 := Try.underlying29
  have HB := Aside0.mk (Below.refl w.heap.size w)
  have H : (mantletref10_Stripe.l0 k a1 1 a0_0 a0_1 a0_2 a0_3 a0_4) = some r := h
  clear h
  have H' := Aside0.mk H
  clear H
  go_enter Try.func14, Try.ntmps14
  go_wp2_with (first | ((with_reducible refine gate_dst (N := 2) rfl ?_); refine box_event ?hg (N := 2) ?hd (cs := #[.int .u32 a0_0, .int .u32 a0_1, .int .u16 a0_2, .int .u16 a0_3, .int .u8 a0_4]) (t := 29) ?hr ?_; (case hd => rfl); (case hg => rfl); (case hr => first | (go_simp; done) | (go_simp; rfl)); intro gb224 hg w3 hbox hb; have n0_ := Aside0.mk (below_step (by repeat first | (with_reducible first | exact HB.out | apply below_alloc | apply pw_below_drewN | apply below_drew1) | exact HB.out) hb); have n1_ := Aside0.mk (hbox); have n2_ := Aside0.mk ((by rw [hg]; exact (below_size (by repeat first | (with_reducible first | exact HB.out | apply below_alloc | apply pw_below_drewN | apply below_drew1) | exact HB.out)) : w.heap.size ≤ gb224)); have n3_ := Aside0.mk ((by rw [hg]; exact (below_size (by repeat first | (with_reducible first | exact HB.out | apply below_alloc | apply pw_below_drewN | apply below_drew1) | exact HB.out)) : w.heap.size ≤ gb224)); clear HB; have HB := n0_; have BK224 := n1_; have GW224 := n2_; have GE224 := n3_; clear n0_ n1_ n2_ n3_; clear hb hbox hg))
  go_loopg [5] k (fun kq v5 w' => ∃ (x5_1 : Int), v5 = .int .i64 x5_1 ∧ Aside0 (mantletref10_Stripe.l0 kq a1 x5_1 a0_0 a0_1 a0_2 a0_3 a0_4 = some r) ∧ Aside0 (kq ≤ k) ∧ Aside0 (w'.heap[gb224]? = some (.cells #[.int .u32 a0_0, .int .u32 a0_1, .int .u16 a0_2, .int .u16 a0_3, .int .u8 a0_4] 29 (0, 0))) ∧ Aside0 (Below w.heap.size w w'))
  case atStart => exact ⟨(1), (by first | rfl | (simp; done) | (simp [*]; done)), H', ⟨Nat.le_refl _⟩, ⟨by (with_reducible repeat first | apply blk_drewN | apply blk_drew | apply blk_alloc); exact BK224.out⟩, ⟨by repeat first | (with_reducible first | exact HB.out | apply below_alloc | apply pw_below_drewN | apply below_drew1 | refine below_set ?_ GE224.out) | exact HB.out⟩⟩
  case round =>
    clear H'
    try clear c1
    try clear p2
    obtain ⟨x5_1, rfl, HA, HK1, BK224, HB⟩ := hrel
    cases gk with
    | zero => exact absurd HA.out (by simp [mantletref10_Stripe.l0])
    | succ k1 =>
      have H := HA.out
      clear HA
      simp only [mantletref10_Stripe.l0] at H
      by_cases c4 : x5_1 ≤ 4096
      · rw [if_pos c4] at H
        have c4b0 : decide (x5_1 ≤ 4096) = true := decide_eq_true c4
        clear c4
        by_cases c5 : x5_1 = a1
        · rw [if_pos c5] at H
          have c5b0 : (x5_1 == a1) = true := beq_iff_eq.mpr c5
          have c5b1 : (x5_1 != a1) = false := bne_eq_false_iff_eq.mpr c5
          clear c5
          replace H := Option.bind_eq_some_iff.mp H
          obtain ⟨t225, A60, H⟩ := H
          replace H : (if x5_1 = 0 then (none) else (some (Int.tmod (wrap64 (t225)) x5_1))) = some r := H
          have A6 := Aside0.mk A60
          clear A60
          by_cases c7 : x5_1 = 0
          · rw [if_pos c7] at H
            exact absurd H (by simp)
          · rw [if_neg c7] at H
            have c7b0 : (x5_1 == 0) = false := beq_eq_false_iff_ne.mpr c7
            have c7b1 : (x5_1 != 0) = true := bne_iff_ne.mpr c7
            obtain rfl := Option.some.inj H
            have hcz8_0 : wr.cell? ⟨gb224, 0, none⟩ = some (.int .u32 a0_0) := (blk_cell BK224.out 0).trans rfl
            have hcz8_1 : wr.cell? ⟨gb224, 1, none⟩ = some (.int .u32 a0_1) := (blk_cell BK224.out 1).trans rfl
            have hcz8_2 : wr.cell? ⟨gb224, 2, none⟩ = some (.int .u16 a0_2) := (blk_cell BK224.out 2).trans rfl
            have hcz8_3 : wr.cell? ⟨gb224, 3, none⟩ = some (.int .u16 a0_3) := (blk_cell BK224.out 3).trans rfl
            have hcz8_4 : wr.cell? ⟨gb224, 4, none⟩ = some (.int .u8 a0_4) := (blk_cell BK224.out 4).trans rfl
            have hfz8_0 := blk_frozen BK224.out 0
            have hfz8_1 := blk_frozen BK224.out 1
            have hfz8_2 := blk_frozen BK224.out 2
            have hfz8_3 := blk_frozen BK224.out 3
            have hfz8_4 := blk_frozen BK224.out 4
            go_wp2_with (first | ((with_reducible refine gate_callee (f := 12) rfl ?_); refine goesL_ (some 14) rfl rfl Try.func12 (by kernel_rfl) rfl #[.agg #[.int .u32 a0_0, .int .u32 a0_1, .int .u16 a0_2, .int .u16 a0_3, .int .u8 a0_4]] rfl (by (try simp only [List.map_toArray, List.map_cons, List.map_nil]); first | done | rfl) ?_; (with_reducible refine (mantletref10_Hash.calls a0_0 a0_1 a0_2 a0_3 a0_4 t225 _ A6.out).mono ?_); rintro e w9 ⟨rfl, hb⟩; refine ⟨_, rfl, ?_⟩; have n0_ := Aside0.mk (blk_below (g := gb224) (o := .cells #[.int .u32 a0_0, .int .u32 a0_1, .int .u16 a0_2, .int .u16 a0_3, .int .u8 a0_4] 29 (0, 0)) (by (with_reducible repeat first | apply blk_drewN | apply blk_drew | apply blk_alloc); exact BK224.out) hb); have n1_ := Aside0.mk (below_step (by repeat first | (with_reducible first | exact HB.out | apply below_alloc | apply pw_below_drewN | apply below_drew1 | refine below_set ?_ GE224.out) | exact HB.out) hb); clear BK224; clear HB; have BK224 := n0_; have HB := n1_; clear n0_ n1_; (try clear hb); (try clear hb2); (try clear hk); (try clear hi)))
            go_ret
            exact ⟨by first | rfl | (simp [errW_none, errW_some] <;> rfl) | (simp [*, errW_none, errW_some] <;> rfl), by repeat first | (with_reducible first | exact HB.out | apply below_alloc | apply pw_below_drewN | apply below_drew1 | refine below_set ?_ GE224.out) | exact HB.out⟩
        · rw [if_neg c5] at H
          have c5b0 : (x5_1 == a1) = false := beq_eq_false_iff_ne.mpr c5
          have c5b1 : (x5_1 != a1) = true := bne_iff_ne.mpr c5
          have H' := Aside0.mk H
          clear H
          go_wp2
          go_roundg k1
          case measure => have := HK1.out; omega
          case rel => exact ⟨(wrap64 (x5_1 * 2)), (by first | rfl | (simp; done) | (simp [*]; done)), H', ⟨by have := HK1.out; omega⟩, ⟨by (with_reducible repeat first | apply blk_drewN | apply blk_drew | apply blk_alloc); exact BK224.out⟩, ⟨by repeat first | (with_reducible first | exact HB.out | apply below_alloc | apply pw_below_drewN | apply below_drew1 | refine below_set ?_ GE224.out) | exact HB.out⟩⟩
      · rw [if_neg c4] at H
        have c4b0 : decide (x5_1 ≤ 4096) = false := decide_eq_false c4
        clear c4
        obtain rfl := Option.some.inj H
        go_wp2
        go_ret
        exact ⟨by first | rfl | (simp [errW_none, errW_some] <;> rfl) | (simp [*, errW_none, errW_some] <;> rfl), by repeat first | (with_reducible first | exact HB.out | apply below_alloc | apply pw_below_drewN | apply below_drew1 | refine below_set ?_ GE224.out) | exact HB.out⟩

end Go.Proofs.Ytplioggeccoleaa.Key
