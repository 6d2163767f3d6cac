-- Made by a program of this workplace (wip/pr.sh) out of Lean's print of the translation; Lean checks it.
import Derived.Test.YtbdgjcmljjfomaaMatx0
import Derived.Test.YtbdgjcmljjfomaaMatx5
namespace Go.Proofs.Ytbdgjcmljjfomaa.Mat
open Go.RowKit Go.Proofs.YtbdgjcmljjfomaaW.PrintWords Go.Proofs.YtbdgjcmljjfomaaW.PrintLast Go.Proofs.YtbdgjcmljjfomaaW.PrintMore
attribute [local go_sem] max2_int min2_int max_two min_two max_three min_three max_four min_four   -- for this text's walks alone
set_option linter.unusedVariables false
set_option linter.unusedSimpArgs false

/-! ### mantletref13_Matches: function 19 -/
mutual
def mantletref13_Matches.j0 : Nat → Bool → Bool → Int → Int → Int → Int → Int → Int → Int → Int → Int → Int → Int → Int → Int → Int → Int → Int → Option (Bool)
  | 0, _, _, _, _, _, _, _, _, _, _, _, _, _, _, _, _, _, _ => none
  | k + 1, x14, x112000, x112001, x112002, x112003, x112004, x112005, x112006, x112007, x112008, x112009, x113000, x113001, x113002, x113003, x113004, x113005, x113006 => if x14 = true then (some false) else ((mantletref03_Has.f k x112002 x112003 x113001).bind fun t113 => (if t113 = true then ((mantletref03_Has.f k x112004 x112005 x113002).bind fun t114 => (mantletref13_Matches.j1 k (!t114) x112000 x112001 x112002 x112003 x112004 x112005 x112006 x112007 x112008 x112009 x113000 x113001 x113002 x113003 x113004 x113005 x113006)) else (mantletref13_Matches.j1 k true x112000 x112001 x112002 x112003 x112004 x112005 x112006 x112007 x112008 x112009 x113000 x113001 x113002 x113003 x113004 x113005 x113006)))
def mantletref13_Matches.j1 : Nat → Bool → Bool → Int → Int → Int → Int → Int → Int → Int → Int → Int → Int → Int → Int → Int → Int → Int → Int → Option (Bool)
  | 0, _, _, _, _, _, _, _, _, _, _, _, _, _, _, _, _, _, _ => none
  | k + 1, x28, x112000, x112001, x112002, x112003, x112004, x112005, x112006, x112007, x112008, x112009, x113000, x113001, x113002, x113003, x113004, x113005, x113006 => if x28 = true then (some false) else (if x113003 ≥ x112006 then (if x113003 ≤ x112007 then (if x113004 ≥ x112008 then (some (decide (x113004 ≤ x112009))) else (some false)) else (some false)) else (some false))
end
def mantletref13_Matches.f (k : Nat) (a0_0 : Bool) (a0_1 : Int) (a0_2 : Int) (a0_3 : Int) (a0_4 : Int) (a0_5 : Int) (a0_6 : Int) (a0_7 : Int) (a0_8 : Int) (a0_9 : Int) (a1_0 : Int) (a1_1 : Int) (a1_2 : Int) (a1_3 : Int) (a1_4 : Int) (a1_5 : Int) (a1_6 : Int) : Option (Bool) := if a0_1 = 0 then (mantletref13_Matches.j0 k false a0_0 a0_1 a0_2 a0_3 a0_4 a0_5 a0_6 a0_7 a0_8 a0_9 a1_0 a1_1 a1_2 a1_3 a1_4 a1_5 a1_6) else (mantletref13_Matches.j0 k (a0_1 != a1_0) a0_0 a0_1 a0_2 a0_3 a0_4 a0_5 a0_6 a0_7 a0_8 a0_9 a1_0 a1_1 a1_2 a1_3 a1_4 a1_5 a1_6)
theorem mantletref13_Matches.mono_l : ∀ k, (∀ y0 y1 y2 y3 y4 y5 y6 y7 y8 y9 y10 y11 y12 y13 y14 y15 y16 y17, LeO (mantletref13_Matches.j0 k y0 y1 y2 y3 y4 y5 y6 y7 y8 y9 y10 y11 y12 y13 y14 y15 y16 y17) (mantletref13_Matches.j0 (k + 1) y0 y1 y2 y3 y4 y5 y6 y7 y8 y9 y10 y11 y12 y13 y14 y15 y16 y17)) ∧ (∀ y0 y1 y2 y3 y4 y5 y6 y7 y8 y9 y10 y11 y12 y13 y14 y15 y16 y17, LeO (mantletref13_Matches.j1 k y0 y1 y2 y3 y4 y5 y6 y7 y8 y9 y10 y11 y12 y13 y14 y15 y16 y17) (mantletref13_Matches.j1 (k + 1) y0 y1 y2 y3 y4 y5 y6 y7 y8 y9 y10 y11 y12 y13 y14 y15 y16 y17))
  | 0 => ⟨fun _ _ _ _ _ _ _ _ _ _ _ _ _ _ _ _ _ _ r h => by simp [mantletref13_Matches.j0] at h, fun _ _ _ _ _ _ _ _ _ _ _ _ _ _ _ _ _ _ r h => by simp [mantletref13_Matches.j1] at h⟩
  | k + 1 => by
    obtain ⟨ih0, ih1⟩ := mantletref13_Matches.mono_l k
    refine ⟨?_, ?_⟩
    · intro y0 y1 y2 y3 y4 y5 y6 y7 y8 y9 y10 y11 y12 y13 y14 y15 y16 y17
      unfold mantletref13_Matches.j0
      repeat' first
      | (with_reducible exact ih0 _ _ _ _ _ _ _ _ _ _ _ _ _ _ _ _ _ _)
      | (with_reducible exact ih1 _ _ _ _ _ _ _ _ _ _ _ _ _ _ _ _ _ _)
      | (with_reducible exact mantletref03_Has.mono _ _ _ _)
      | (with_reducible exact LeO.refl _)
      | (with_reducible exact LeO.none _)
      | (with_reducible refine LeO.ite ?_ ?_)
      | (with_reducible refine LeO.bind ?_ (fun _ => ?_))
      | exact ih0 _ _ _ _ _ _ _ _ _ _ _ _ _ _ _ _ _ _
      | exact ih1 _ _ _ _ _ _ _ _ _ _ _ _ _ _ _ _ _ _
      | exact mantletref03_Has.mono _ _ _ _
      | exact LeO.none _
      | refine LeO.ite ?_ ?_
      | refine LeO.bind ?_ (fun _ => ?_)
    · intro y0 y1 y2 y3 y4 y5 y6 y7 y8 y9 y10 y11 y12 y13 y14 y15 y16 y17
      unfold mantletref13_Matches.j1
      repeat' first
      | (with_reducible exact ih0 _ _ _ _ _ _ _ _ _ _ _ _ _ _ _ _ _ _)
      | (with_reducible exact ih1 _ _ _ _ _ _ _ _ _ _ _ _ _ _ _ _ _ _)
      | (with_reducible exact mantletref03_Has.mono _ _ _ _)
      | (with_reducible exact LeO.refl _)
      | (with_reducible exact LeO.none _)
      | (with_reducible refine LeO.ite ?_ ?_)
      | (with_reducible refine LeO.bind ?_ (fun _ => ?_))
      | exact ih0 _ _ _ _ _ _ _ _ _ _ _ _ _ _ _ _ _ _
      | exact ih1 _ _ _ _ _ _ _ _ _ _ _ _ _ _ _ _ _ _
      | exact mantletref03_Has.mono _ _ _ _
      | exact LeO.none _
      | refine LeO.ite ?_ ?_
      | refine LeO.bind ?_ (fun _ => ?_)
theorem mantletref13_Matches.mono : ∀ a0 a1 a2 a3 a4 a5 a6 a7 a8 a9 a10 a11 a12 a13 a14 a15 a16 k, LeO (mantletref13_Matches.f k a0 a1 a2 a3 a4 a5 a6 a7 a8 a9 a10 a11 a12 a13 a14 a15 a16) (mantletref13_Matches.f (k + 1) a0 a1 a2 a3 a4 a5 a6 a7 a8 a9 a10 a11 a12 a13 a14 a15 a16) := by
  intro a0 a1 a2 a3 a4 a5 a6 a7 a8 a9 a10 a11 a12 a13 a14 a15 a16 k
  obtain ⟨ih0, ih1⟩ := mantletref13_Matches.mono_l k
  unfold mantletref13_Matches.f
  repeat' first
      | (with_reducible exact ih0 _ _ _ _ _ _ _ _ _ _ _ _ _ _ _ _ _ _)
      | (with_reducible exact ih1 _ _ _ _ _ _ _ _ _ _ _ _ _ _ _ _ _ _)
      | (with_reducible exact mantletref03_Has.mono _ _ _ _)
      | (with_reducible exact LeO.refl _)
      | (with_reducible exact LeO.none _)
      | (with_reducible refine LeO.ite ?_ ?_)
      | (with_reducible refine LeO.bind ?_ (fun _ => ?_))
      | exact ih0 _ _ _ _ _ _ _ _ _ _ _ _ _ _ _ _ _ _
      | exact ih1 _ _ _ _ _ _ _ _ _ _ _ _ _ _ _ _ _ _
      | exact mantletref03_Has.mono _ _ _ _
      | exact LeO.none _
      | refine LeO.ite ?_ ?_
      | refine LeO.bind ?_ (fun _ => ?_)
set_option maxHeartbeats 8000000 in
set_option maxRecDepth 100000 in
theorem mantletref13_Matches.calls (k : Nat) (a0_0 : Bool) (a0_1 : Int) (a0_2 : Int) (a0_3 : Int) (a0_4 : Int) (a0_5 : Int) (a0_6 : Int) (a0_7 : Int) (a0_8 : Int) (a0_9 : Int) (a1_0 : Int) (a1_1 : Int) (a1_2 : Int) (a1_3 : Int) (a1_4 : Int) (a1_5 : Int) (a1_6 : Int) (r : Bool) (w : World) (h : mantletref13_Matches.f k a0_0 a0_1 a0_2 a0_3 a0_4 a0_5 a0_6 a0_7 a0_8 a0_9 a1_0 a1_1 a1_2 a1_3 a1_4 a1_5 a1_6 = some r) :
    Calls Try.prog 19 #[.agg #[.bool a0_0, .int .u8 a0_1, .int .u32 a0_2, .int .i64 a0_3, .int .u32 a0_4, .int .i64 a0_5, .int .u16 a0_6, .int .u16 a0_7, .int .u16 a0_8, .int .u16 a0_9], .agg #[.int .u8 a1_0, .int .u32 a1_1, .int .u32 a1_2, .int .u16 a1_3, .int .u16 a1_4, .int .u8 a1_5, .int .u8 a1_6]] w fun e w' => e = .returned (.bool r) ∧ Below w.heap.size w w' := by
  have hu32 := Try.underlying32
  have hu26 := Try.underlying26
  have hu28 := Try.underlying28
  have HB := Aside0.mk (Below.refl w.heap.size w)
  have H : (if a0_1 = 0 then (mantletref13_Matches.j0 k false a0_0 a0_1 a0_2 a0_3 a0_4 a0_5 a0_6 a0_7 a0_8 a0_9 a1_0 a1_1 a1_2 a1_3 a1_4 a1_5 a1_6) else (mantletref13_Matches.j0 k (a0_1 != a1_0) a0_0 a0_1 a0_2 a0_3 a0_4 a0_5 a0_6 a0_7 a0_8 a0_9 a1_0 a1_1 a1_2 a1_3 a1_4 a1_5 a1_6)) = some r := h
  clear h
  have HC3 := Aside0.mk H
  clear H
  go_enter Try.func19, Try.ntmps19
  go_upto_region 1 with (first | ((with_reducible refine gate_dst (N := 2) rfl ?_); refine box_event ?hg (N := 2) ?hd (cs := #[.bool a0_0, .int .u8 a0_1, .int .u32 a0_2, .int .i64 a0_3, .int .u32 a0_4, .int .i64 a0_5, .int .u16 a0_6, .int .u16 a0_7, .int .u16 a0_8, .int .u16 a0_9]) (t := 32) ?hr ?_; (case hd => rfl); (case hg => rfl); (case hr => first | (go_simp; done) | (go_simp; rfl)); intro gb111 hg w4 hbox hb; have n0_ := Aside0.mk (below_step (by repeat first | (with_reducible first | exact HB.out | apply below_alloc | apply pw_below_drewN | apply below_drew1) | exact HB.out) hb); have n1_ := Aside0.mk (hbox); have n2_ := Aside0.mk ((by rw [hg]; exact (below_size (by repeat first | (with_reducible first | exact HB.out | apply below_alloc | apply pw_below_drewN | apply below_drew1) | exact HB.out)) : w.heap.size ≤ gb111)); have n3_ := Aside0.mk ((by rw [hg]; exact (below_size (by repeat first | (with_reducible first | exact HB.out | apply below_alloc | apply pw_below_drewN | apply below_drew1) | exact HB.out)) : w.heap.size ≤ gb111)); clear HB; have HB := n0_; have BK111 := n1_; have GW111 := n2_; have GE111 := n3_; clear n0_ n1_ n2_ n3_; clear hb hbox hg) | ((with_reducible refine gate_dst (N := 3) rfl ?_); refine box_event ?hg (N := 3) ?hd (cs := #[.int .u8 a1_0, .int .u32 a1_1, .int .u32 a1_2, .int .u16 a1_3, .int .u16 a1_4, .int .u8 a1_5, .int .u8 a1_6]) (t := 26) ?hr ?_; (case hd => rfl); (case hg => rfl); (case hr => first | (go_simp; done) | (go_simp; rfl)); intro gb112 hg w5 hbox hb; have n0_ := Aside0.mk (blk_below (g := gb111) (o := .cells #[.bool a0_0, .int .u8 a0_1, .int .u32 a0_2, .int .i64 a0_3, .int .u32 a0_4, .int .i64 a0_5, .int .u16 a0_6, .int .u16 a0_7, .int .u16 a0_8, .int .u16 a0_9] 32 (0, 0)) (by (with_reducible repeat first | apply blk_drewN | apply blk_drew | apply blk_alloc); exact BK111.out) hb); have n1_ := Aside0.mk (below_step (by repeat first | (with_reducible first | exact HB.out | apply below_alloc | apply pw_below_drewN | apply below_drew1 | refine below_set ?_ GE111.out) | exact HB.out) hb); have n2_ := Aside0.mk (hbox); have n3_ := Aside0.mk ((by rw [hg]; exact (below_size (by repeat first | (with_reducible first | exact HB.out | apply below_alloc | apply pw_below_drewN | apply below_drew1 | refine below_set ?_ GE111.out) | exact HB.out)) : w.heap.size ≤ gb112)); have n4_ := Aside0.mk ((by rw [hg]; exact (below_size (by repeat first | (with_reducible first | exact HB.out | apply below_alloc | apply pw_below_drewN | apply below_drew1 | refine below_set ?_ GE111.out) | exact HB.out)) : w.heap.size ≤ gb112)); have n5_ := Aside0.mk ((by rw [hg]; exact Nat.ne_of_lt (blk_lt (g := gb111) (o := .cells #[.bool a0_0, .int .u8 a0_1, .int .u32 a0_2, .int .i64 a0_3, .int .u32 a0_4, .int .i64 a0_5, .int .u16 a0_6, .int .u16 a0_7, .int .u16 a0_8, .int .u16 a0_9] 32 (0, 0)) (by (with_reducible repeat first | apply blk_drewN | apply blk_drew | apply blk_alloc); exact BK111.out)) : gb111 ≠ gb112)); have n6_ := Aside0.mk ((by rw [hg]; exact Nat.ne_of_gt (blk_lt (g := gb111) (o := .cells #[.bool a0_0, .int .u8 a0_1, .int .u32 a0_2, .int .i64 a0_3, .int .u32 a0_4, .int .i64 a0_5, .int .u16 a0_6, .int .u16 a0_7, .int .u16 a0_8, .int .u16 a0_9] 32 (0, 0)) (by (with_reducible repeat first | apply blk_drewN | apply blk_drew | apply blk_alloc); exact BK111.out)) : gb112 ≠ gb111)); clear BK111; clear HB; have BK111 := n0_; have HB := n1_; have BK112 := n2_; have GW112 := n3_; have GE112 := n4_; have NB111_112 := n5_; have NB112_111 := n6_; clear n0_ n1_ n2_ n3_ n4_ n5_ n6_; clear hb hbox hg))
  (try simp only [Act.put, List.setIfInBounds_toArray, List.set_cons_zero, List.set_cons_succ])
  go_cut [14] (fun v14 wc => ∃ (kq : Nat) (x14_2 : Bool), v14 = .bool x14_2 ∧ Aside0 (mantletref13_Matches.j0 kq x14_2 a0_0 a0_1 a0_2 a0_3 a0_4 a0_5 a0_6 a0_7 a0_8 a0_9 a1_0 a1_1 a1_2 a1_3 a1_4 a1_5 a1_6 = some r) ∧ Aside0 (kq ≤ k) ∧ Aside0 (wc.heap[gb111]? = some (.cells #[.bool a0_0, .int .u8 a0_1, .int .u32 a0_2, .int .i64 a0_3, .int .u32 a0_4, .int .i64 a0_5, .int .u16 a0_6, .int .u16 a0_7, .int .u16 a0_8, .int .u16 a0_9] 32 (0, 0))) ∧ Aside0 (wc.heap[gb112]? = some (.cells #[.int .u8 a1_0, .int .u32 a1_1, .int .u32 a1_2, .int .u16 a1_3, .int .u16 a1_4, .int .u8 a1_5, .int .u8 a1_6] 26 (0, 0))) ∧ Aside0 (Below w.heap.size w wc))
  case first =>
    have H := HC3.out
    clear HC3
    by_cases c6 : a0_1 = 0
    · rw [if_pos c6] at H
      have c6b0 : (a0_1 == 0) = true := beq_iff_eq.mpr c6
      have c6b1 : (a0_1 != 0) = false := bne_eq_false_iff_eq.mpr c6
      clear c6
      (first | rw [c6b0] | (simp only [i64_w, i32_w]; rw [c6b0]) | skip)
      have H' := Aside0.mk H
      clear H
      have hnb7 := NB111_112.out
      have hnc7 := NB112_111.out
      have hcz8_0 : w5.cell? ⟨gb111, 0, none⟩ = some (.bool a0_0) := (blk_cell BK111.out 0).trans rfl
      have hcz8_1 : w5.cell? ⟨gb111, 1, none⟩ = some (.int .u8 a0_1) := (blk_cell BK111.out 1).trans rfl
      have hcz8_2 : w5.cell? ⟨gb111, 2, none⟩ = some (.int .u32 a0_2) := (blk_cell BK111.out 2).trans rfl
      have hcz8_3 : w5.cell? ⟨gb111, 3, none⟩ = some (.int .i64 a0_3) := (blk_cell BK111.out 3).trans rfl
      have hcz8_4 : w5.cell? ⟨gb111, 4, none⟩ = some (.int .u32 a0_4) := (blk_cell BK111.out 4).trans rfl
      have hcz8_5 : w5.cell? ⟨gb111, 5, none⟩ = some (.int .i64 a0_5) := (blk_cell BK111.out 5).trans rfl
      have hcz8_6 : w5.cell? ⟨gb111, 6, none⟩ = some (.int .u16 a0_6) := (blk_cell BK111.out 6).trans rfl
      have hcz8_7 : w5.cell? ⟨gb111, 7, none⟩ = some (.int .u16 a0_7) := (blk_cell BK111.out 7).trans rfl
      have hcz8_8 : w5.cell? ⟨gb111, 8, none⟩ = some (.int .u16 a0_8) := (blk_cell BK111.out 8).trans rfl
      have hcz8_9 : w5.cell? ⟨gb111, 9, none⟩ = some (.int .u16 a0_9) := (blk_cell BK111.out 9).trans rfl
      have hfz8_0 := blk_frozen BK111.out 0
      have hfz8_1 := blk_frozen BK111.out 1
      have hfz8_2 := blk_frozen BK111.out 2
      have hfz8_3 := blk_frozen BK111.out 3
      have hfz8_4 := blk_frozen BK111.out 4
      have hfz8_5 := blk_frozen BK111.out 5
      have hfz8_6 := blk_frozen BK111.out 6
      have hfz8_7 := blk_frozen BK111.out 7
      have hfz8_8 := blk_frozen BK111.out 8
      have hfz8_9 := blk_frozen BK111.out 9
      go_wp2
      go_meet
      case rel => exact ⟨_, (false), (by first | rfl | (simp; done) | (simp [*]; done)), H', ⟨by first | omega | exact Nat.le_refl _⟩, ⟨by (with_reducible repeat first | apply blk_drewN | apply blk_drew | apply blk_alloc); exact BK111.out⟩, ⟨by (with_reducible repeat first | apply blk_drewN | apply blk_drew | apply blk_alloc); exact BK112.out⟩, ⟨by repeat first | (with_reducible first | exact HB.out | apply below_alloc | apply pw_below_drewN | apply below_drew1 | refine below_set ?_ GE111.out | refine below_set ?_ GE112.out) | exact HB.out⟩⟩
    · rw [if_neg c6] at H
      have c6b0 : (a0_1 == 0) = false := beq_eq_false_iff_ne.mpr c6
      have c6b1 : (a0_1 != 0) = true := bne_iff_ne.mpr c6
      (first | rw [c6b0] | (simp only [i64_w, i32_w]; rw [c6b0]) | skip)
      have H' := Aside0.mk H
      clear H
      have hnb9 := NB111_112.out
      have hnc9 := NB112_111.out
      have hcz10_0 : w5.cell? ⟨gb111, 0, none⟩ = some (.bool a0_0) := (blk_cell BK111.out 0).trans rfl
      have hcz10_1 : w5.cell? ⟨gb111, 1, none⟩ = some (.int .u8 a0_1) := (blk_cell BK111.out 1).trans rfl
      have hcz10_2 : w5.cell? ⟨gb111, 2, none⟩ = some (.int .u32 a0_2) := (blk_cell BK111.out 2).trans rfl
      have hcz10_3 : w5.cell? ⟨gb111, 3, none⟩ = some (.int .i64 a0_3) := (blk_cell BK111.out 3).trans rfl
      have hcz10_4 : w5.cell? ⟨gb111, 4, none⟩ = some (.int .u32 a0_4) := (blk_cell BK111.out 4).trans rfl
      have hcz10_5 : w5.cell? ⟨gb111, 5, none⟩ = some (.int .i64 a0_5) := (blk_cell BK111.out 5).trans rfl
      have hcz10_6 : w5.cell? ⟨gb111, 6, none⟩ = some (.int .u16 a0_6) := (blk_cell BK111.out 6).trans rfl
      have hcz10_7 : w5.cell? ⟨gb111, 7, none⟩ = some (.int .u16 a0_7) := (blk_cell BK111.out 7).trans rfl
      have hcz10_8 : w5.cell? ⟨gb111, 8, none⟩ = some (.int .u16 a0_8) := (blk_cell BK111.out 8).trans rfl
      have hcz10_9 : w5.cell? ⟨gb111, 9, none⟩ = some (.int .u16 a0_9) := (blk_cell BK111.out 9).trans rfl
      have hfz10_0 := blk_frozen BK111.out 0
      have hfz10_1 := blk_frozen BK111.out 1
      have hfz10_2 := blk_frozen BK111.out 2
      have hfz10_3 := blk_frozen BK111.out 3
      have hfz10_4 := blk_frozen BK111.out 4
      have hfz10_5 := blk_frozen BK111.out 5
      have hfz10_6 := blk_frozen BK111.out 6
      have hfz10_7 := blk_frozen BK111.out 7
      have hfz10_8 := blk_frozen BK111.out 8
      have hfz10_9 := blk_frozen BK111.out 9
      have hcz11_0 : w5.cell? ⟨gb112, 0, none⟩ = some (.int .u8 a1_0) := (blk_cell BK112.out 0).trans rfl
      have hcz11_1 : w5.cell? ⟨gb112, 1, none⟩ = some (.int .u32 a1_1) := (blk_cell BK112.out 1).trans rfl
      have hcz11_2 : w5.cell? ⟨gb112, 2, none⟩ = some (.int .u32 a1_2) := (blk_cell BK112.out 2).trans rfl
      have hcz11_3 : w5.cell? ⟨gb112, 3, none⟩ = some (.int .u16 a1_3) := (blk_cell BK112.out 3).trans rfl
      have hcz11_4 : w5.cell? ⟨gb112, 4, none⟩ = some (.int .u16 a1_4) := (blk_cell BK112.out 4).trans rfl
      have hcz11_5 : w5.cell? ⟨gb112, 5, none⟩ = some (.int .u8 a1_5) := (blk_cell BK112.out 5).trans rfl
      have hcz11_6 : w5.cell? ⟨gb112, 6, none⟩ = some (.int .u8 a1_6) := (blk_cell BK112.out 6).trans rfl
      have hfz11_0 := blk_frozen BK112.out 0
      have hfz11_1 := blk_frozen BK112.out 1
      have hfz11_2 := blk_frozen BK112.out 2
      have hfz11_3 := blk_frozen BK112.out 3
      have hfz11_4 := blk_frozen BK112.out 4
      have hfz11_5 := blk_frozen BK112.out 5
      have hfz11_6 := blk_frozen BK112.out 6
      go_wp2
      go_meet
      case rel => exact ⟨_, ((a0_1 != a1_0)), (by first | rfl | (simp; done) | (simp [*]; done)), H', ⟨by first | omega | exact Nat.le_refl _⟩, ⟨by (with_reducible repeat first | apply blk_drewN | apply blk_drew | apply blk_alloc); exact BK111.out⟩, ⟨by (with_reducible repeat first | apply blk_drewN | apply blk_drew | apply blk_alloc); exact BK112.out⟩, ⟨by repeat first | (with_reducible first | exact HB.out | apply below_alloc | apply pw_below_drewN | apply below_drew1 | refine below_set ?_ GE111.out | refine below_set ?_ GE112.out) | exact HB.out⟩⟩
  case rest =>
    clear HC3
    try clear c1
    try clear p2
    try clear c6
    try clear c6b0
    try clear c6b1
    try clear c7
    try clear c9
    try clear hcz10_0
    try clear hcz10_1
    try clear hcz10_2
    try clear hcz10_3
    try clear hcz10_4
    try clear hcz10_5
    try clear hcz10_6
    try clear hcz10_7
    try clear hcz10_8
    try clear hcz10_9
    try clear hcz11_0
    try clear hcz11_1
    try clear hcz11_2
    try clear hcz11_3
    try clear hcz11_4
    try clear hcz11_5
    try clear hcz11_6
    try clear hcz8_0
    try clear hcz8_1
    try clear hcz8_2
    try clear hcz8_3
    try clear hcz8_4
    try clear hcz8_5
    try clear hcz8_6
    try clear hcz8_7
    try clear hcz8_8
    try clear hcz8_9
    try clear hfz10_0
    try clear hfz10_1
    try clear hfz10_2
    try clear hfz10_3
    try clear hfz10_4
    try clear hfz10_5
    try clear hfz10_6
    try clear hfz10_7
    try clear hfz10_8
    try clear hfz10_9
    try clear hfz11_0
    try clear hfz11_1
    try clear hfz11_2
    try clear hfz11_3
    try clear hfz11_4
    try clear hfz11_5
    try clear hfz11_6
    try clear hfz8_0
    try clear hfz8_1
    try clear hfz8_2
    try clear hfz8_3
    try clear hfz8_4
    try clear hfz8_5
    try clear hfz8_6
    try clear hfz8_7
    try clear hfz8_8
    try clear hfz8_9
    obtain ⟨kq, x14_2, rfl, HA, HJ2, BK111, BK112, HB⟩ := hcut
    cases kq with
    | zero => exact absurd HA.out (by simp [mantletref13_Matches.j0])
    | succ kj2 =>
      have H := HA.out
      clear HA
      simp only [mantletref13_Matches.j0] at H
      by_cases c12 : x14_2 = true
      · subst c12
        have H1 : (some false) = some r := by rw [if_pos rfl] at H; exact H
        clear H
        have H := H1
        clear H1
        obtain rfl := Option.some.inj H
        go_wp2
        go_ret
        exact ⟨by first | rfl | (simp [errW_none, errW_some] <;> rfl) | (simp [*, errW_none, errW_some] <;> rfl), by repeat first | (with_reducible first | exact HB.out | apply below_alloc | apply pw_below_drewN | apply below_drew1 | refine below_set ?_ GE111.out | refine below_set ?_ GE112.out) | exact HB.out⟩
      · replace c12 := Bool.eq_false_iff.mpr c12
        subst c12
        have H1 : ((mantletref03_Has.f kj2 a0_2 a0_3 a1_1).bind fun t113 => (if t113 = true then ((mantletref03_Has.f kj2 a0_4 a0_5 a1_2).bind fun t114 => (mantletref13_Matches.j1 kj2 (!t114) a0_0 a0_1 a0_2 a0_3 a0_4 a0_5 a0_6 a0_7 a0_8 a0_9 a1_0 a1_1 a1_2 a1_3 a1_4 a1_5 a1_6)) else (mantletref13_Matches.j1 kj2 true a0_0 a0_1 a0_2 a0_3 a0_4 a0_5 a0_6 a0_7 a0_8 a0_9 a1_0 a1_1 a1_2 a1_3 a1_4 a1_5 a1_6))) = some r := by rw [if_neg (show ¬ (false = true) by decide)] at H; exact H
        clear H
        have H := H1
        clear H1
        have HC13 := Aside0.mk H
        clear H
        go_upto_region 3 with (fail)
        go_cut [28] (fun v28 wc => ∃ (kq : Nat) (x28_12 : Bool), v28 = .bool x28_12 ∧ Aside0 (mantletref13_Matches.j1 kq x28_12 a0_0 a0_1 a0_2 a0_3 a0_4 a0_5 a0_6 a0_7 a0_8 a0_9 a1_0 a1_1 a1_2 a1_3 a1_4 a1_5 a1_6 = some r) ∧ Aside0 (kq ≤ kj2) ∧ Aside0 (wc.heap[gb111]? = some (.cells #[.bool a0_0, .int .u8 a0_1, .int .u32 a0_2, .int .i64 a0_3, .int .u32 a0_4, .int .i64 a0_5, .int .u16 a0_6, .int .u16 a0_7, .int .u16 a0_8, .int .u16 a0_9] 32 (0, 0))) ∧ Aside0 (wc.heap[gb112]? = some (.cells #[.int .u8 a1_0, .int .u32 a1_1, .int .u32 a1_2, .int .u16 a1_3, .int .u16 a1_4, .int .u8 a1_5, .int .u8 a1_6] 26 (0, 0))) ∧ Aside0 (Below w.heap.size w wc))
        case first =>
          have H := HC13.out
          clear HC13
          replace H := Option.bind_eq_some_iff.mp H
          obtain ⟨t113, A140, H⟩ := H
          replace H : (if t113 = true then ((mantletref03_Has.f kj2 a0_4 a0_5 a1_2).bind fun t114 => (mantletref13_Matches.j1 kj2 (!t114) a0_0 a0_1 a0_2 a0_3 a0_4 a0_5 a0_6 a0_7 a0_8 a0_9 a1_0 a1_1 a1_2 a1_3 a1_4 a1_5 a1_6)) else (mantletref13_Matches.j1 kj2 true a0_0 a0_1 a0_2 a0_3 a0_4 a0_5 a0_6 a0_7 a0_8 a0_9 a1_0 a1_1 a1_2 a1_3 a1_4 a1_5 a1_6)) = some r := H
          have A14 := Aside0.mk A140
          clear A140
          by_cases c15 : t113 = true
          · subst c15
            have H1 : ((mantletref03_Has.f kj2 a0_4 a0_5 a1_2).bind fun t114 => (mantletref13_Matches.j1 kj2 (!t114) a0_0 a0_1 a0_2 a0_3 a0_4 a0_5 a0_6 a0_7 a0_8 a0_9 a1_0 a1_1 a1_2 a1_3 a1_4 a1_5 a1_6)) = some r := by rw [if_pos rfl] at H; exact H
            clear H
            have H := H1
            clear H1
            replace H := Option.bind_eq_some_iff.mp H
            obtain ⟨t114, A160, H⟩ := H
            replace H : (mantletref13_Matches.j1 kj2 (!t114) a0_0 a0_1 a0_2 a0_3 a0_4 a0_5 a0_6 a0_7 a0_8 a0_9 a1_0 a1_1 a1_2 a1_3 a1_4 a1_5 a1_6) = some r := H
            have A16 := Aside0.mk A160
            clear A160
            have H' := Aside0.mk H
            clear H
            have hnb17 := NB111_112.out
            have hnc17 := NB112_111.out
            have hcz18_0 : wc.cell? ⟨gb111, 0, none⟩ = some (.bool a0_0) := (blk_cell BK111.out 0).trans rfl
            have hcz18_1 : wc.cell? ⟨gb111, 1, none⟩ = some (.int .u8 a0_1) := (blk_cell BK111.out 1).trans rfl
            have hcz18_2 : wc.cell? ⟨gb111, 2, none⟩ = some (.int .u32 a0_2) := (blk_cell BK111.out 2).trans rfl
            have hcz18_3 : wc.cell? ⟨gb111, 3, none⟩ = some (.int .i64 a0_3) := (blk_cell BK111.out 3).trans rfl
            have hcz18_4 : wc.cell? ⟨gb111, 4, none⟩ = some (.int .u32 a0_4) := (blk_cell BK111.out 4).trans rfl
            have hcz18_5 : wc.cell? ⟨gb111, 5, none⟩ = some (.int .i64 a0_5) := (blk_cell BK111.out 5).trans rfl
            have hcz18_6 : wc.cell? ⟨gb111, 6, none⟩ = some (.int .u16 a0_6) := (blk_cell BK111.out 6).trans rfl
            have hcz18_7 : wc.cell? ⟨gb111, 7, none⟩ = some (.int .u16 a0_7) := (blk_cell BK111.out 7).trans rfl
            have hcz18_8 : wc.cell? ⟨gb111, 8, none⟩ = some (.int .u16 a0_8) := (blk_cell BK111.out 8).trans rfl
            have hcz18_9 : wc.cell? ⟨gb111, 9, none⟩ = some (.int .u16 a0_9) := (blk_cell BK111.out 9).trans rfl
            have hfz18_0 := blk_frozen BK111.out 0
            have hfz18_1 := blk_frozen BK111.out 1
            have hfz18_2 := blk_frozen BK111.out 2
            have hfz18_3 := blk_frozen BK111.out 3
            have hfz18_4 := blk_frozen BK111.out 4
            have hfz18_5 := blk_frozen BK111.out 5
            have hfz18_6 := blk_frozen BK111.out 6
            have hfz18_7 := blk_frozen BK111.out 7
            have hfz18_8 := blk_frozen BK111.out 8
            have hfz18_9 := blk_frozen BK111.out 9
            have hcz19_0 : wc.cell? ⟨gb112, 0, none⟩ = some (.int .u8 a1_0) := (blk_cell BK112.out 0).trans rfl
            have hcz19_1 : wc.cell? ⟨gb112, 1, none⟩ = some (.int .u32 a1_1) := (blk_cell BK112.out 1).trans rfl
            have hcz19_2 : wc.cell? ⟨gb112, 2, none⟩ = some (.int .u32 a1_2) := (blk_cell BK112.out 2).trans rfl
            have hcz19_3 : wc.cell? ⟨gb112, 3, none⟩ = some (.int .u16 a1_3) := (blk_cell BK112.out 3).trans rfl
            have hcz19_4 : wc.cell? ⟨gb112, 4, none⟩ = some (.int .u16 a1_4) := (blk_cell BK112.out 4).trans rfl
            have hcz19_5 : wc.cell? ⟨gb112, 5, none⟩ = some (.int .u8 a1_5) := (blk_cell BK112.out 5).trans rfl
            have hcz19_6 : wc.cell? ⟨gb112, 6, none⟩ = some (.int .u8 a1_6) := (blk_cell BK112.out 6).trans rfl
            have hfz19_0 := blk_frozen BK112.out 0
            have hfz19_1 := blk_frozen BK112.out 1
            have hfz19_2 := blk_frozen BK112.out 2
            have hfz19_3 := blk_frozen BK112.out 3
            have hfz19_4 := blk_frozen BK112.out 4
            have hfz19_5 := blk_frozen BK112.out 5
            have hfz19_6 := blk_frozen BK112.out 6
            go_wp2_with (first | ((with_reducible refine gate_callee (f := 46) rfl ?_); refine goesL_ (some 19) rfl rfl Try.func46 (by kernel_rfl) rfl #[.agg #[.int .u32 a0_2, .int .i64 a0_3], .int .u32 a1_1] rfl (by (try simp only [List.map_toArray, List.map_cons, List.map_nil]); first | done | rfl) ?_; (with_reducible refine (mantletref03_Has.calls kj2 a0_2 a0_3 a1_1 true _ A14.out).mono ?_); rintro e w20 ⟨rfl, hb⟩; refine ⟨_, rfl, ?_⟩; have n0_ := Aside0.mk (blk_below (g := gb111) (o := .cells #[.bool a0_0, .int .u8 a0_1, .int .u32 a0_2, .int .i64 a0_3, .int .u32 a0_4, .int .i64 a0_5, .int .u16 a0_6, .int .u16 a0_7, .int .u16 a0_8, .int .u16 a0_9] 32 (0, 0)) (by (with_reducible repeat first | apply blk_drewN | apply blk_drew | apply blk_alloc); exact BK111.out) hb); have n1_ := Aside0.mk (blk_below (g := gb112) (o := .cells #[.int .u8 a1_0, .int .u32 a1_1, .int .u32 a1_2, .int .u16 a1_3, .int .u16 a1_4, .int .u8 a1_5, .int .u8 a1_6] 26 (0, 0)) (by (with_reducible repeat first | apply blk_drewN | apply blk_drew | apply blk_alloc); exact BK112.out) hb); have n2_ := Aside0.mk (below_step (by repeat first | (with_reducible first | exact HB.out | apply below_alloc | apply pw_below_drewN | apply below_drew1 | refine below_set ?_ GE111.out | refine below_set ?_ GE112.out) | exact HB.out) hb); clear BK111; clear BK112; clear HB; have BK111 := n0_; have BK112 := n1_; have HB := n2_; clear n0_ n1_ n2_; (try clear hb); (try clear hb2); (try clear hk); (try clear hi); have hcz21_0 : w20.cell? ⟨gb111, 0, none⟩ = some (.bool a0_0) := (blk_cell BK111.out 0).trans rfl; have hcz21_1 : w20.cell? ⟨gb111, 1, none⟩ = some (.int .u8 a0_1) := (blk_cell BK111.out 1).trans rfl; have hcz21_2 : w20.cell? ⟨gb111, 2, none⟩ = some (.int .u32 a0_2) := (blk_cell BK111.out 2).trans rfl; have hcz21_3 : w20.cell? ⟨gb111, 3, none⟩ = some (.int .i64 a0_3) := (blk_cell BK111.out 3).trans rfl; have hcz21_4 : w20.cell? ⟨gb111, 4, none⟩ = some (.int .u32 a0_4) := (blk_cell BK111.out 4).trans rfl; have hcz21_5 : w20.cell? ⟨gb111, 5, none⟩ = some (.int .i64 a0_5) := (blk_cell BK111.out 5).trans rfl; have hcz21_6 : w20.cell? ⟨gb111, 6, none⟩ = some (.int .u16 a0_6) := (blk_cell BK111.out 6).trans rfl; have hcz21_7 : w20.cell? ⟨gb111, 7, none⟩ = some (.int .u16 a0_7) := (blk_cell BK111.out 7).trans rfl; have hcz21_8 : w20.cell? ⟨gb111, 8, none⟩ = some (.int .u16 a0_8) := (blk_cell BK111.out 8).trans rfl; have hcz21_9 : w20.cell? ⟨gb111, 9, none⟩ = some (.int .u16 a0_9) := (blk_cell BK111.out 9).trans rfl; have hfz21_0 := blk_frozen BK111.out 0; have hfz21_1 := blk_frozen BK111.out 1; have hfz21_2 := blk_frozen BK111.out 2; have hfz21_3 := blk_frozen BK111.out 3; have hfz21_4 := blk_frozen BK111.out 4; have hfz21_5 := blk_frozen BK111.out 5; have hfz21_6 := blk_frozen BK111.out 6; have hfz21_7 := blk_frozen BK111.out 7; have hfz21_8 := blk_frozen BK111.out 8; have hfz21_9 := blk_frozen BK111.out 9; have hcz22_0 : w20.cell? ⟨gb112, 0, none⟩ = some (.int .u8 a1_0) := (blk_cell BK112.out 0).trans rfl; have hcz22_1 : w20.cell? ⟨gb112, 1, none⟩ = some (.int .u32 a1_1) := (blk_cell BK112.out 1).trans rfl; have hcz22_2 : w20.cell? ⟨gb112, 2, none⟩ = some (.int .u32 a1_2) := (blk_cell BK112.out 2).trans rfl; have hcz22_3 : w20.cell? ⟨gb112, 3, none⟩ = some (.int .u16 a1_3) := (blk_cell BK112.out 3).trans rfl; have hcz22_4 : w20.cell? ⟨gb112, 4, none⟩ = some (.int .u16 a1_4) := (blk_cell BK112.out 4).trans rfl; have hcz22_5 : w20.cell? ⟨gb112, 5, none⟩ = some (.int .u8 a1_5) := (blk_cell BK112.out 5).trans rfl; have hcz22_6 : w20.cell? ⟨gb112, 6, none⟩ = some (.int .u8 a1_6) := (blk_cell BK112.out 6).trans rfl; have hfz22_0 := blk_frozen BK112.out 0; have hfz22_1 := blk_frozen BK112.out 1; have hfz22_2 := blk_frozen BK112.out 2; have hfz22_3 := blk_frozen BK112.out 3; have hfz22_4 := blk_frozen BK112.out 4; have hfz22_5 := blk_frozen BK112.out 5; have hfz22_6 := blk_frozen BK112.out 6) | ((with_reducible refine gate_dst (N := 26) rfl ?_); refine gate_guard (by first | rfl | (go_simp; done)) ?_; dsimp only; (with_reducible refine gate_callee (f := 46) rfl ?_); refine goesL_ (some 26) rfl rfl Try.func46 (by kernel_rfl) rfl #[.agg #[.int .u32 a0_4, .int .i64 a0_5], .int .u32 a1_2] rfl (by (try simp only [List.map_toArray, List.map_cons, List.map_nil]); first | done | rfl) ?_; (with_reducible refine (mantletref03_Has.calls kj2 a0_4 a0_5 a1_2 t114 _ A16.out).mono ?_); rintro e w23 ⟨rfl, hb⟩; refine ⟨_, rfl, ?_⟩; have n0_ := Aside0.mk (blk_below (g := gb111) (o := .cells #[.bool a0_0, .int .u8 a0_1, .int .u32 a0_2, .int .i64 a0_3, .int .u32 a0_4, .int .i64 a0_5, .int .u16 a0_6, .int .u16 a0_7, .int .u16 a0_8, .int .u16 a0_9] 32 (0, 0)) (by (with_reducible repeat first | apply blk_drewN | apply blk_drew | apply blk_alloc); exact BK111.out) hb); have n1_ := Aside0.mk (blk_below (g := gb112) (o := .cells #[.int .u8 a1_0, .int .u32 a1_1, .int .u32 a1_2, .int .u16 a1_3, .int .u16 a1_4, .int .u8 a1_5, .int .u8 a1_6] 26 (0, 0)) (by (with_reducible repeat first | apply blk_drewN | apply blk_drew | apply blk_alloc); exact BK112.out) hb); have n2_ := Aside0.mk (below_step (by repeat first | (with_reducible first | exact HB.out | apply below_alloc | apply pw_below_drewN | apply below_drew1 | refine below_set ?_ GE111.out | refine below_set ?_ GE112.out) | exact HB.out) hb); clear BK111; clear BK112; clear HB; have BK111 := n0_; have BK112 := n1_; have HB := n2_; clear n0_ n1_ n2_; (try clear hb); (try clear hb2); (try clear hk); (try clear hi)))
            go_meet
            case rel => exact ⟨_, (!t114), (by first | rfl | (simp; done) | (simp [*]; done)), H', ⟨by have := HJ2.out; first | omega | exact Nat.le_refl _⟩, ⟨by (with_reducible repeat first | apply blk_drewN | apply blk_drew | apply blk_alloc); exact BK111.out⟩, ⟨by (with_reducible repeat first | apply blk_drewN | apply blk_drew | apply blk_alloc); exact BK112.out⟩, ⟨by repeat first | (with_reducible first | exact HB.out | apply below_alloc | apply pw_below_drewN | apply below_drew1 | refine below_set ?_ GE111.out | refine below_set ?_ GE112.out) | exact HB.out⟩⟩
          · replace c15 := Bool.eq_false_iff.mpr c15
            subst c15
            have H1 : (mantletref13_Matches.j1 kj2 true a0_0 a0_1 a0_2 a0_3 a0_4 a0_5 a0_6 a0_7 a0_8 a0_9 a1_0 a1_1 a1_2 a1_3 a1_4 a1_5 a1_6) = some r := by rw [if_neg (show ¬ (false = true) by decide)] at H; exact H
            clear H
            have H := H1
            clear H1
            have H' := Aside0.mk H
            clear H
            have hnb24 := NB111_112.out
            have hnc24 := NB112_111.out
            have hcz25_0 : wc.cell? ⟨gb111, 0, none⟩ = some (.bool a0_0) := (blk_cell BK111.out 0).trans rfl
            have hcz25_1 : wc.cell? ⟨gb111, 1, none⟩ = some (.int .u8 a0_1) := (blk_cell BK111.out 1).trans rfl
            have hcz25_2 : wc.cell? ⟨gb111, 2, none⟩ = some (.int .u32 a0_2) := (blk_cell BK111.out 2).trans rfl
            have hcz25_3 : wc.cell? ⟨gb111, 3, none⟩ = some (.int .i64 a0_3) := (blk_cell BK111.out 3).trans rfl
            have hcz25_4 : wc.cell? ⟨gb111, 4, none⟩ = some (.int .u32 a0_4) := (blk_cell BK111.out 4).trans rfl
            have hcz25_5 : wc.cell? ⟨gb111, 5, none⟩ = some (.int .i64 a0_5) := (blk_cell BK111.out 5).trans rfl
            have hcz25_6 : wc.cell? ⟨gb111, 6, none⟩ = some (.int .u16 a0_6) := (blk_cell BK111.out 6).trans rfl
            have hcz25_7 : wc.cell? ⟨gb111, 7, none⟩ = some (.int .u16 a0_7) := (blk_cell BK111.out 7).trans rfl
            have hcz25_8 : wc.cell? ⟨gb111, 8, none⟩ = some (.int .u16 a0_8) := (blk_cell BK111.out 8).trans rfl
            have hcz25_9 : wc.cell? ⟨gb111, 9, none⟩ = some (.int .u16 a0_9) := (blk_cell BK111.out 9).trans rfl
            have hfz25_0 := blk_frozen BK111.out 0
            have hfz25_1 := blk_frozen BK111.out 1
            have hfz25_2 := blk_frozen BK111.out 2
            have hfz25_3 := blk_frozen BK111.out 3
            have hfz25_4 := blk_frozen BK111.out 4
            have hfz25_5 := blk_frozen BK111.out 5
            have hfz25_6 := blk_frozen BK111.out 6
            have hfz25_7 := blk_frozen BK111.out 7
            have hfz25_8 := blk_frozen BK111.out 8
            have hfz25_9 := blk_frozen BK111.out 9
            have hcz26_0 : wc.cell? ⟨gb112, 0, none⟩ = some (.int .u8 a1_0) := (blk_cell BK112.out 0).trans rfl
            have hcz26_1 : wc.cell? ⟨gb112, 1, none⟩ = some (.int .u32 a1_1) := (blk_cell BK112.out 1).trans rfl
            have hcz26_2 : wc.cell? ⟨gb112, 2, none⟩ = some (.int .u32 a1_2) := (blk_cell BK112.out 2).trans rfl
            have hcz26_3 : wc.cell? ⟨gb112, 3, none⟩ = some (.int .u16 a1_3) := (blk_cell BK112.out 3).trans rfl
            have hcz26_4 : wc.cell? ⟨gb112, 4, none⟩ = some (.int .u16 a1_4) := (blk_cell BK112.out 4).trans rfl
            have hcz26_5 : wc.cell? ⟨gb112, 5, none⟩ = some (.int .u8 a1_5) := (blk_cell BK112.out 5).trans rfl
            have hcz26_6 : wc.cell? ⟨gb112, 6, none⟩ = some (.int .u8 a1_6) := (blk_cell BK112.out 6).trans rfl
            have hfz26_0 := blk_frozen BK112.out 0
            have hfz26_1 := blk_frozen BK112.out 1
            have hfz26_2 := blk_frozen BK112.out 2
            have hfz26_3 := blk_frozen BK112.out 3
            have hfz26_4 := blk_frozen BK112.out 4
            have hfz26_5 := blk_frozen BK112.out 5
            have hfz26_6 := blk_frozen BK112.out 6
            go_wp2_with (first | ((with_reducible refine gate_callee (f := 46) rfl ?_); refine goesL_ (some 19) rfl rfl Try.func46 (by kernel_rfl) rfl #[.agg #[.int .u32 a0_2, .int .i64 a0_3], .int .u32 a1_1] rfl (by (try simp only [List.map_toArray, List.map_cons, List.map_nil]); first | done | rfl) ?_; (with_reducible refine (mantletref03_Has.calls kj2 a0_2 a0_3 a1_1 false _ A14.out).mono ?_); rintro e w27 ⟨rfl, hb⟩; refine ⟨_, rfl, ?_⟩; have n0_ := Aside0.mk (blk_below (g := gb111) (o := .cells #[.bool a0_0, .int .u8 a0_1, .int .u32 a0_2, .int .i64 a0_3, .int .u32 a0_4, .int .i64 a0_5, .int .u16 a0_6, .int .u16 a0_7, .int .u16 a0_8, .int .u16 a0_9] 32 (0, 0)) (by (with_reducible repeat first | apply blk_drewN | apply blk_drew | apply blk_alloc); exact BK111.out) hb); have n1_ := Aside0.mk (blk_below (g := gb112) (o := .cells #[.int .u8 a1_0, .int .u32 a1_1, .int .u32 a1_2, .int .u16 a1_3, .int .u16 a1_4, .int .u8 a1_5, .int .u8 a1_6] 26 (0, 0)) (by (with_reducible repeat first | apply blk_drewN | apply blk_drew | apply blk_alloc); exact BK112.out) hb); have n2_ := Aside0.mk (below_step (by repeat first | (with_reducible first | exact HB.out | apply below_alloc | apply pw_below_drewN | apply below_drew1 | refine below_set ?_ GE111.out | refine below_set ?_ GE112.out) | exact HB.out) hb); clear BK111; clear BK112; clear HB; have BK111 := n0_; have BK112 := n1_; have HB := n2_; clear n0_ n1_ n2_; (try clear hb); (try clear hb2); (try clear hk); (try clear hi)))
            go_meet
            case rel => exact ⟨_, (true), (by first | rfl | (simp; done) | (simp [*]; done)), H', ⟨by have := HJ2.out; first | omega | exact Nat.le_refl _⟩, ⟨by (with_reducible repeat first | apply blk_drewN | apply blk_drew | apply blk_alloc); exact BK111.out⟩, ⟨by (with_reducible repeat first | apply blk_drewN | apply blk_drew | apply blk_alloc); exact BK112.out⟩, ⟨by repeat first | (with_reducible first | exact HB.out | apply below_alloc | apply pw_below_drewN | apply below_drew1 | refine below_set ?_ GE111.out | refine below_set ?_ GE112.out) | exact HB.out⟩⟩
        case rest =>
          clear HC13
          try clear c1
          try clear c2
          try clear p2
          try clear c4
          try clear c6
          try clear c6b0
          try clear c6b1
          try clear c7
          try clear c9
          try clear c12
          try clear c15
          try clear c17
          try clear c19
          try clear c24
          try clear hcz10_0
          try clear hcz10_1
          try clear hcz10_2
          try clear hcz10_3
          try clear hcz10_4
          try clear hcz10_5
          try clear hcz10_6
          try clear hcz10_7
          try clear hcz10_8
          try clear hcz10_9
          try clear hcz11_0
          try clear hcz11_1
          try clear hcz11_2
          try clear hcz11_3
          try clear hcz11_4
          try clear hcz11_5
          try clear hcz11_6
          try clear hcz18_0
          try clear hcz18_1
          try clear hcz18_2
          try clear hcz18_3
          try clear hcz18_4
          try clear hcz18_5
          try clear hcz18_6
          try clear hcz18_7
          try clear hcz18_8
          try clear hcz18_9
          try clear hcz19_0
          try clear hcz19_1
          try clear hcz19_2
          try clear hcz19_3
          try clear hcz19_4
          try clear hcz19_5
          try clear hcz19_6
          try clear hcz21_0
          try clear hcz21_1
          try clear hcz21_2
          try clear hcz21_3
          try clear hcz21_4
          try clear hcz21_5
          try clear hcz21_6
          try clear hcz21_7
          try clear hcz21_8
          try clear hcz21_9
          try clear hcz22_0
          try clear hcz22_1
          try clear hcz22_2
          try clear hcz22_3
          try clear hcz22_4
          try clear hcz22_5
          try clear hcz22_6
          try clear hcz25_0
          try clear hcz25_1
          try clear hcz25_2
          try clear hcz25_3
          try clear hcz25_4
          try clear hcz25_5
          try clear hcz25_6
          try clear hcz25_7
          try clear hcz25_8
          try clear hcz25_9
          try clear hcz26_0
          try clear hcz26_1
          try clear hcz26_2
          try clear hcz26_3
          try clear hcz26_4
          try clear hcz26_5
          try clear hcz26_6
          try clear hcz8_0
          try clear hcz8_1
          try clear hcz8_2
          try clear hcz8_3
          try clear hcz8_4
          try clear hcz8_5
          try clear hcz8_6
          try clear hcz8_7
          try clear hcz8_8
          try clear hcz8_9
          try clear hfz10_0
          try clear hfz10_1
          try clear hfz10_2
          try clear hfz10_3
          try clear hfz10_4
          try clear hfz10_5
          try clear hfz10_6
          try clear hfz10_7
          try clear hfz10_8
          try clear hfz10_9
          try clear hfz11_0
          try clear hfz11_1
          try clear hfz11_2
          try clear hfz11_3
          try clear hfz11_4
          try clear hfz11_5
          try clear hfz11_6
          try clear hfz18_0
          try clear hfz18_1
          try clear hfz18_2
          try clear hfz18_3
          try clear hfz18_4
          try clear hfz18_5
          try clear hfz18_6
          try clear hfz18_7
          try clear hfz18_8
          try clear hfz18_9
          try clear hfz19_0
          try clear hfz19_1
          try clear hfz19_2
          try clear hfz19_3
          try clear hfz19_4
          try clear hfz19_5
          try clear hfz19_6
          try clear hfz21_0
          try clear hfz21_1
          try clear hfz21_2
          try clear hfz21_3
          try clear hfz21_4
          try clear hfz21_5
          try clear hfz21_6
          try clear hfz21_7
          try clear hfz21_8
          try clear hfz21_9
          try clear hfz22_0
          try clear hfz22_1
          try clear hfz22_2
          try clear hfz22_3
          try clear hfz22_4
          try clear hfz22_5
          try clear hfz22_6
          try clear hfz25_0
          try clear hfz25_1
          try clear hfz25_2
          try clear hfz25_3
          try clear hfz25_4
          try clear hfz25_5
          try clear hfz25_6
          try clear hfz25_7
          try clear hfz25_8
          try clear hfz25_9
          try clear hfz26_0
          try clear hfz26_1
          try clear hfz26_2
          try clear hfz26_3
          try clear hfz26_4
          try clear hfz26_5
          try clear hfz26_6
          try clear hfz8_0
          try clear hfz8_1
          try clear hfz8_2
          try clear hfz8_3
          try clear hfz8_4
          try clear hfz8_5
          try clear hfz8_6
          try clear hfz8_7
          try clear hfz8_8
          try clear hfz8_9
          try clear p2
          obtain ⟨kq, x28_12, rfl, HA, HJ12, BK111, BK112, HB⟩ := hcut
          cases kq with
          | zero => exact absurd HA.out (by simp [mantletref13_Matches.j1])
          | succ kj12 =>
            have H := HA.out
            clear HA
            simp only [mantletref13_Matches.j1] at H
            by_cases c28 : x28_12 = true
            · subst c28
              have H1 : (some false) = some r := by rw [if_pos rfl] at H; exact H
              clear H
              have H := H1
              clear H1
              obtain rfl := Option.some.inj H
              go_wp2
              go_ret
              exact ⟨by first | rfl | (simp [errW_none, errW_some] <;> rfl) | (simp [*, errW_none, errW_some] <;> rfl), by repeat first | (with_reducible first | exact HB.out | apply below_alloc | apply pw_below_drewN | apply below_drew1 | refine below_set ?_ GE111.out | refine below_set ?_ GE112.out) | exact HB.out⟩
            · replace c28 := Bool.eq_false_iff.mpr c28
              subst c28
              have H1 : (if a1_3 ≥ a0_6 then (if a1_3 ≤ a0_7 then (if a1_4 ≥ a0_8 then (some (decide (a1_4 ≤ a0_9))) else (some false)) else (some false)) else (some false)) = some r := by rw [if_neg (show ¬ (false = true) by decide)] at H; exact H
              clear H
              have H := H1
              clear H1
              by_cases c29 : a1_3 ≥ a0_6
              · rw [if_pos c29] at H
                have c29b0 : decide (a0_6 ≤ a1_3) = true := decide_eq_true c29
                clear c29
                by_cases c30 : a1_3 ≤ a0_7
                · rw [if_pos c30] at H
                  have c30b0 : decide (a1_3 ≤ a0_7) = true := decide_eq_true c30
                  clear c30
                  by_cases c31 : a1_4 ≥ a0_8
                  · rw [if_pos c31] at H
                    have c31b0 : decide (a0_8 ≤ a1_4) = true := decide_eq_true c31
                    clear c31
                    obtain rfl := Option.some.inj H
                    have hnb32 := NB112_111.out
                    have hnc32 := NB111_112.out
                    have hcz33_0 : wc.cell? ⟨gb112, 0, none⟩ = some (.int .u8 a1_0) := (blk_cell BK112.out 0).trans rfl
                    have hcz33_1 : wc.cell? ⟨gb112, 1, none⟩ = some (.int .u32 a1_1) := (blk_cell BK112.out 1).trans rfl
                    have hcz33_2 : wc.cell? ⟨gb112, 2, none⟩ = some (.int .u32 a1_2) := (blk_cell BK112.out 2).trans rfl
                    have hcz33_3 : wc.cell? ⟨gb112, 3, none⟩ = some (.int .u16 a1_3) := (blk_cell BK112.out 3).trans rfl
                    have hcz33_4 : wc.cell? ⟨gb112, 4, none⟩ = some (.int .u16 a1_4) := (blk_cell BK112.out 4).trans rfl
                    have hcz33_5 : wc.cell? ⟨gb112, 5, none⟩ = some (.int .u8 a1_5) := (blk_cell BK112.out 5).trans rfl
                    have hcz33_6 : wc.cell? ⟨gb112, 6, none⟩ = some (.int .u8 a1_6) := (blk_cell BK112.out 6).trans rfl
                    have hfz33_0 := blk_frozen BK112.out 0
                    have hfz33_1 := blk_frozen BK112.out 1
                    have hfz33_2 := blk_frozen BK112.out 2
                    have hfz33_3 := blk_frozen BK112.out 3
                    have hfz33_4 := blk_frozen BK112.out 4
                    have hfz33_5 := blk_frozen BK112.out 5
                    have hfz33_6 := blk_frozen BK112.out 6
                    have hcz34_0 : wc.cell? ⟨gb111, 0, none⟩ = some (.bool a0_0) := (blk_cell BK111.out 0).trans rfl
                    have hcz34_1 : wc.cell? ⟨gb111, 1, none⟩ = some (.int .u8 a0_1) := (blk_cell BK111.out 1).trans rfl
                    have hcz34_2 : wc.cell? ⟨gb111, 2, none⟩ = some (.int .u32 a0_2) := (blk_cell BK111.out 2).trans rfl
                    have hcz34_3 : wc.cell? ⟨gb111, 3, none⟩ = some (.int .i64 a0_3) := (blk_cell BK111.out 3).trans rfl
                    have hcz34_4 : wc.cell? ⟨gb111, 4, none⟩ = some (.int .u32 a0_4) := (blk_cell BK111.out 4).trans rfl
                    have hcz34_5 : wc.cell? ⟨gb111, 5, none⟩ = some (.int .i64 a0_5) := (blk_cell BK111.out 5).trans rfl
                    have hcz34_6 : wc.cell? ⟨gb111, 6, none⟩ = some (.int .u16 a0_6) := (blk_cell BK111.out 6).trans rfl
                    have hcz34_7 : wc.cell? ⟨gb111, 7, none⟩ = some (.int .u16 a0_7) := (blk_cell BK111.out 7).trans rfl
                    have hcz34_8 : wc.cell? ⟨gb111, 8, none⟩ = some (.int .u16 a0_8) := (blk_cell BK111.out 8).trans rfl
                    have hcz34_9 : wc.cell? ⟨gb111, 9, none⟩ = some (.int .u16 a0_9) := (blk_cell BK111.out 9).trans rfl
                    have hfz34_0 := blk_frozen BK111.out 0
                    have hfz34_1 := blk_frozen BK111.out 1
                    have hfz34_2 := blk_frozen BK111.out 2
                    have hfz34_3 := blk_frozen BK111.out 3
                    have hfz34_4 := blk_frozen BK111.out 4
                    have hfz34_5 := blk_frozen BK111.out 5
                    have hfz34_6 := blk_frozen BK111.out 6
                    have hfz34_7 := blk_frozen BK111.out 7
                    have hfz34_8 := blk_frozen BK111.out 8
                    have hfz34_9 := blk_frozen BK111.out 9
                    go_wp2
                    go_ret
                    exact ⟨by first | rfl | (simp [errW_none, errW_some] <;> rfl) | (simp [*, errW_none, errW_some] <;> rfl), by repeat first | (with_reducible first | exact HB.out | apply below_alloc | apply pw_below_drewN | apply below_drew1 | refine below_set ?_ GE111.out | refine below_set ?_ GE112.out) | exact HB.out⟩
                  · rw [if_neg c31] at H
                    have c31b0 : decide (a0_8 ≤ a1_4) = false := decide_eq_false c31
                    clear c31
                    obtain rfl := Option.some.inj H
                    have hnb35 := NB112_111.out
                    have hnc35 := NB111_112.out
                    have hcz36_0 : wc.cell? ⟨gb112, 0, none⟩ = some (.int .u8 a1_0) := (blk_cell BK112.out 0).trans rfl
                    have hcz36_1 : wc.cell? ⟨gb112, 1, none⟩ = some (.int .u32 a1_1) := (blk_cell BK112.out 1).trans rfl
                    have hcz36_2 : wc.cell? ⟨gb112, 2, none⟩ = some (.int .u32 a1_2) := (blk_cell BK112.out 2).trans rfl
                    have hcz36_3 : wc.cell? ⟨gb112, 3, none⟩ = some (.int .u16 a1_3) := (blk_cell BK112.out 3).trans rfl
                    have hcz36_4 : wc.cell? ⟨gb112, 4, none⟩ = some (.int .u16 a1_4) := (blk_cell BK112.out 4).trans rfl
                    have hcz36_5 : wc.cell? ⟨gb112, 5, none⟩ = some (.int .u8 a1_5) := (blk_cell BK112.out 5).trans rfl
                    have hcz36_6 : wc.cell? ⟨gb112, 6, none⟩ = some (.int .u8 a1_6) := (blk_cell BK112.out 6).trans rfl
                    have hfz36_0 := blk_frozen BK112.out 0
                    have hfz36_1 := blk_frozen BK112.out 1
                    have hfz36_2 := blk_frozen BK112.out 2
                    have hfz36_3 := blk_frozen BK112.out 3
                    have hfz36_4 := blk_frozen BK112.out 4
                    have hfz36_5 := blk_frozen BK112.out 5
                    have hfz36_6 := blk_frozen BK112.out 6
                    have hcz37_0 : wc.cell? ⟨gb111, 0, none⟩ = some (.bool a0_0) := (blk_cell BK111.out 0).trans rfl
                    have hcz37_1 : wc.cell? ⟨gb111, 1, none⟩ = some (.int .u8 a0_1) := (blk_cell BK111.out 1).trans rfl
                    have hcz37_2 : wc.cell? ⟨gb111, 2, none⟩ = some (.int .u32 a0_2) := (blk_cell BK111.out 2).trans rfl
                    have hcz37_3 : wc.cell? ⟨gb111, 3, none⟩ = some (.int .i64 a0_3) := (blk_cell BK111.out 3).trans rfl
                    have hcz37_4 : wc.cell? ⟨gb111, 4, none⟩ = some (.int .u32 a0_4) := (blk_cell BK111.out 4).trans rfl
                    have hcz37_5 : wc.cell? ⟨gb111, 5, none⟩ = some (.int .i64 a0_5) := (blk_cell BK111.out 5).trans rfl
                    have hcz37_6 : wc.cell? ⟨gb111, 6, none⟩ = some (.int .u16 a0_6) := (blk_cell BK111.out 6).trans rfl
                    have hcz37_7 : wc.cell? ⟨gb111, 7, none⟩ = some (.int .u16 a0_7) := (blk_cell BK111.out 7).trans rfl
                    have hcz37_8 : wc.cell? ⟨gb111, 8, none⟩ = some (.int .u16 a0_8) := (blk_cell BK111.out 8).trans rfl
                    have hcz37_9 : wc.cell? ⟨gb111, 9, none⟩ = some (.int .u16 a0_9) := (blk_cell BK111.out 9).trans rfl
                    have hfz37_0 := blk_frozen BK111.out 0
                    have hfz37_1 := blk_frozen BK111.out 1
                    have hfz37_2 := blk_frozen BK111.out 2
                    have hfz37_3 := blk_frozen BK111.out 3
                    have hfz37_4 := blk_frozen BK111.out 4
                    have hfz37_5 := blk_frozen BK111.out 5
                    have hfz37_6 := blk_frozen BK111.out 6
                    have hfz37_7 := blk_frozen BK111.out 7
                    have hfz37_8 := blk_frozen BK111.out 8
                    have hfz37_9 := blk_frozen BK111.out 9
                    go_wp2
                    go_ret
                    exact ⟨by first | rfl | (simp [errW_none, errW_some] <;> rfl) | (simp [*, errW_none, errW_some] <;> rfl), by repeat first | (with_reducible first | exact HB.out | apply below_alloc | apply pw_below_drewN | apply below_drew1 | refine below_set ?_ GE111.out | refine below_set ?_ GE112.out) | exact HB.out⟩
                · rw [if_neg c30] at H
                  have c30b0 : decide (a1_3 ≤ a0_7) = false := decide_eq_false c30
                  clear c30
                  obtain rfl := Option.some.inj H
                  have hnb38 := NB112_111.out
                  have hnc38 := NB111_112.out
                  have hcz39_0 : wc.cell? ⟨gb112, 0, none⟩ = some (.int .u8 a1_0) := (blk_cell BK112.out 0).trans rfl
                  have hcz39_1 : wc.cell? ⟨gb112, 1, none⟩ = some (.int .u32 a1_1) := (blk_cell BK112.out 1).trans rfl
                  have hcz39_2 : wc.cell? ⟨gb112, 2, none⟩ = some (.int .u32 a1_2) := (blk_cell BK112.out 2).trans rfl
                  have hcz39_3 : wc.cell? ⟨gb112, 3, none⟩ = some (.int .u16 a1_3) := (blk_cell BK112.out 3).trans rfl
                  have hcz39_4 : wc.cell? ⟨gb112, 4, none⟩ = some (.int .u16 a1_4) := (blk_cell BK112.out 4).trans rfl
                  have hcz39_5 : wc.cell? ⟨gb112, 5, none⟩ = some (.int .u8 a1_5) := (blk_cell BK112.out 5).trans rfl
                  have hcz39_6 : wc.cell? ⟨gb112, 6, none⟩ = some (.int .u8 a1_6) := (blk_cell BK112.out 6).trans rfl
                  have hfz39_0 := blk_frozen BK112.out 0
                  have hfz39_1 := blk_frozen BK112.out 1
                  have hfz39_2 := blk_frozen BK112.out 2
                  have hfz39_3 := blk_frozen BK112.out 3
                  have hfz39_4 := blk_frozen BK112.out 4
                  have hfz39_5 := blk_frozen BK112.out 5
                  have hfz39_6 := blk_frozen BK112.out 6
                  have hcz40_0 : wc.cell? ⟨gb111, 0, none⟩ = some (.bool a0_0) := (blk_cell BK111.out 0).trans rfl
                  have hcz40_1 : wc.cell? ⟨gb111, 1, none⟩ = some (.int .u8 a0_1) := (blk_cell BK111.out 1).trans rfl
                  have hcz40_2 : wc.cell? ⟨gb111, 2, none⟩ = some (.int .u32 a0_2) := (blk_cell BK111.out 2).trans rfl
                  have hcz40_3 : wc.cell? ⟨gb111, 3, none⟩ = some (.int .i64 a0_3) := (blk_cell BK111.out 3).trans rfl
                  have hcz40_4 : wc.cell? ⟨gb111, 4, none⟩ = some (.int .u32 a0_4) := (blk_cell BK111.out 4).trans rfl
                  have hcz40_5 : wc.cell? ⟨gb111, 5, none⟩ = some (.int .i64 a0_5) := (blk_cell BK111.out 5).trans rfl
                  have hcz40_6 : wc.cell? ⟨gb111, 6, none⟩ = some (.int .u16 a0_6) := (blk_cell BK111.out 6).trans rfl
                  have hcz40_7 : wc.cell? ⟨gb111, 7, none⟩ = some (.int .u16 a0_7) := (blk_cell BK111.out 7).trans rfl
                  have hcz40_8 : wc.cell? ⟨gb111, 8, none⟩ = some (.int .u16 a0_8) := (blk_cell BK111.out 8).trans rfl
                  have hcz40_9 : wc.cell? ⟨gb111, 9, none⟩ = some (.int .u16 a0_9) := (blk_cell BK111.out 9).trans rfl
                  have hfz40_0 := blk_frozen BK111.out 0
                  have hfz40_1 := blk_frozen BK111.out 1
                  have hfz40_2 := blk_frozen BK111.out 2
                  have hfz40_3 := blk_frozen BK111.out 3
                  have hfz40_4 := blk_frozen BK111.out 4
                  have hfz40_5 := blk_frozen BK111.out 5
                  have hfz40_6 := blk_frozen BK111.out 6
                  have hfz40_7 := blk_frozen BK111.out 7
                  have hfz40_8 := blk_frozen BK111.out 8
                  have hfz40_9 := blk_frozen BK111.out 9
                  go_wp2
                  go_ret
                  exact ⟨by first | rfl | (simp [errW_none, errW_some] <;> rfl) | (simp [*, errW_none, errW_some] <;> rfl), by repeat first | (with_reducible first | exact HB.out | apply below_alloc | apply pw_below_drewN | apply below_drew1 | refine below_set ?_ GE111.out | refine below_set ?_ GE112.out) | exact HB.out⟩
              · rw [if_neg c29] at H
                have c29b0 : decide (a0_6 ≤ a1_3) = false := decide_eq_false c29
                clear c29
                obtain rfl := Option.some.inj H
                have hnb41 := NB112_111.out
                have hnc41 := NB111_112.out
                have hcz42_0 : wc.cell? ⟨gb112, 0, none⟩ = some (.int .u8 a1_0) := (blk_cell BK112.out 0).trans rfl
                have hcz42_1 : wc.cell? ⟨gb112, 1, none⟩ = some (.int .u32 a1_1) := (blk_cell BK112.out 1).trans rfl
                have hcz42_2 : wc.cell? ⟨gb112, 2, none⟩ = some (.int .u32 a1_2) := (blk_cell BK112.out 2).trans rfl
                have hcz42_3 : wc.cell? ⟨gb112, 3, none⟩ = some (.int .u16 a1_3) := (blk_cell BK112.out 3).trans rfl
                have hcz42_4 : wc.cell? ⟨gb112, 4, none⟩ = some (.int .u16 a1_4) := (blk_cell BK112.out 4).trans rfl
                have hcz42_5 : wc.cell? ⟨gb112, 5, none⟩ = some (.int .u8 a1_5) := (blk_cell BK112.out 5).trans rfl
                have hcz42_6 : wc.cell? ⟨gb112, 6, none⟩ = some (.int .u8 a1_6) := (blk_cell BK112.out 6).trans rfl
                have hfz42_0 := blk_frozen BK112.out 0
                have hfz42_1 := blk_frozen BK112.out 1
                have hfz42_2 := blk_frozen BK112.out 2
                have hfz42_3 := blk_frozen BK112.out 3
                have hfz42_4 := blk_frozen BK112.out 4
                have hfz42_5 := blk_frozen BK112.out 5
                have hfz42_6 := blk_frozen BK112.out 6
                have hcz43_0 : wc.cell? ⟨gb111, 0, none⟩ = some (.bool a0_0) := (blk_cell BK111.out 0).trans rfl
                have hcz43_1 : wc.cell? ⟨gb111, 1, none⟩ = some (.int .u8 a0_1) := (blk_cell BK111.out 1).trans rfl
                have hcz43_2 : wc.cell? ⟨gb111, 2, none⟩ = some (.int .u32 a0_2) := (blk_cell BK111.out 2).trans rfl
                have hcz43_3 : wc.cell? ⟨gb111, 3, none⟩ = some (.int .i64 a0_3) := (blk_cell BK111.out 3).trans rfl
                have hcz43_4 : wc.cell? ⟨gb111, 4, none⟩ = some (.int .u32 a0_4) := (blk_cell BK111.out 4).trans rfl
                have hcz43_5 : wc.cell? ⟨gb111, 5, none⟩ = some (.int .i64 a0_5) := (blk_cell BK111.out 5).trans rfl
                have hcz43_6 : wc.cell? ⟨gb111, 6, none⟩ = some (.int .u16 a0_6) := (blk_cell BK111.out 6).trans rfl
                have hcz43_7 : wc.cell? ⟨gb111, 7, none⟩ = some (.int .u16 a0_7) := (blk_cell BK111.out 7).trans rfl
                have hcz43_8 : wc.cell? ⟨gb111, 8, none⟩ = some (.int .u16 a0_8) := (blk_cell BK111.out 8).trans rfl
                have hcz43_9 : wc.cell? ⟨gb111, 9, none⟩ = some (.int .u16 a0_9) := (blk_cell BK111.out 9).trans rfl
                have hfz43_0 := blk_frozen BK111.out 0
                have hfz43_1 := blk_frozen BK111.out 1
                have hfz43_2 := blk_frozen BK111.out 2
                have hfz43_3 := blk_frozen BK111.out 3
                have hfz43_4 := blk_frozen BK111.out 4
                have hfz43_5 := blk_frozen BK111.out 5
                have hfz43_6 := blk_frozen BK111.out 6
                have hfz43_7 := blk_frozen BK111.out 7
                have hfz43_8 := blk_frozen BK111.out 8
                have hfz43_9 := blk_frozen BK111.out 9
                go_wp2
                go_ret
                exact ⟨by first | rfl | (simp [errW_none, errW_some] <;> rfl) | (simp [*, errW_none, errW_some] <;> rfl), by repeat first | (with_reducible first | exact HB.out | apply below_alloc | apply pw_below_drewN | apply below_drew1 | refine below_set ?_ GE111.out | refine below_set ?_ GE112.out) | exact HB.out⟩

end Go.Proofs.Ytbdgjcmljjfomaa.Mat
