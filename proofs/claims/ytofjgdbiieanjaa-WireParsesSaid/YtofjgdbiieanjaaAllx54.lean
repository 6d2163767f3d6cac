-- Made by a program of this workplace (wip/pr.sh) out of Lean's print of the translation; Lean checks it.
import Derived.Test.YtofjgdbiieanjaaAllx0
import Derived.Test.YtofjgdbiieanjaaAllx53
namespace Go.Proofs.Ytofjgdbiieanjaa.All
open Go.Proofs.Ytofjgdbiieanjaa.Ext
open Go.RowKit Go.Proofs.YtofjgdbiieanjaaW.PrintWords Go.Proofs.YtofjgdbiieanjaaW.PrintLast Go.Proofs.YtofjgdbiieanjaaW.PrintMore
attribute [local go_sem] max2_int min2_int max_two min_two max_three min_three max_four min_four   -- for this text's walks alone
set_option linter.unusedVariables false
set_option linter.unusedSimpArgs false

/-! ### mantletref04_Parse: function 48 -/
private abbrev Z_61 : Obj := .cells #[.int .u8 0, .int .u32 0, .int .u32 0, .int .i64 0, .int .i64 0, .int .u8 0, .int .u16 0] 61 (0, 0)
def mantletref04_Parse.j0 : Nat → List Int → Int → Int → Bool → Int → Int → Int → Int → Int → Int → Int → Option (Int × Int × Int × Int × Int × Int × Int × List Int × Int)
  | 0, _, _, _, _, _, _, _, _, _, _, _ => none
  | k + 1, x0, x6, x7, x48, x691000, x691001, x691002, x691003, x691004, x691005, x691006 => if x48 = true then (some (x691000, x691001, x691002, x691003, x691004, x691005, x691006, ([] : List Int), 4)) else (if 0 ≤ x6 then (if x6 ≤ (x0.length : Int) then ((mantletref02_Add.f k 0 (x0.take (x6 : Int).toNat)).bind fun t695 => (if t695 = 65535 then ((mantletref04_Two.f x0 6).bind fun t696 => (if (Int.tmod t696 16384) = 0 then (if 9 < (x0.length : Int) then ((mantletref04_Four.f x0 12).bind fun t698 => ((mantletref04_Four.f x0 16).bind fun t699 => (if 8 < (x0.length : Int) then ((mantletref04_Two.f x0 4).bind fun t701 => ((some (([] : List Int) : List Int)).bind fun y702 => (if x6 ≤ x7 then (if x7 ≤ (x0.length : Int) then ((some ((x0.take (x7 : Int).toNat).drop (x6 : Int).toNat : List Int)).bind fun y705 => (if y702.length + y705.length < 140737488355328 then (some (rd x0 9, t698, t699, x6, x7, rd x0 8, IntKind.u16.wrap (t701), (y702 ++ y705), 0)) else (none))) else (none)) else (none)))) else (none)))) else (none)) else (some (x691000, x691001, x691002, x691003, x691004, x691005, x691006, ([] : List Int), 8)))) else (some (x691000, x691001, x691002, x691003, x691004, x691005, x691006, ([] : List Int), 7)))) else (none)) else (none))
def mantletref04_Parse.f (k : Nat) (l0 : List Int) : Option (Int × Int × Int × Int × Int × Int × Int × List Int × Int) := if (l0.length : Int) > 1500 then (some (0, 0, 0, 0, 0, 0, 0, ([] : List Int), 2)) else (if (l0.length : Int) < 20 then (some (0, 0, 0, 0, 0, 0, 0, ([] : List Int), 4)) else (if 0 < (l0.length : Int) then (if ((Int.tdiv (rd l0 0) 16) % 256) = 4 then (if (wrap64 (4 * (wrap64 (Int.tmod (rd l0 0) 16)))) < 20 then (some (0, 0, 0, 0, 0, 0, 0, ([] : List Int), 6)) else ((mantletref04_Two.f l0 2).bind fun t693 => (if (wrap64 (4 * (wrap64 (Int.tmod (rd l0 0) 16)))) > (l0.length : Int) then (mantletref04_Parse.j0 k l0 (wrap64 (4 * (wrap64 (Int.tmod (rd l0 0) 16)))) t693 true 0 0 0 0 0 0 0) else (if t693 < (wrap64 (4 * (wrap64 (Int.tmod (rd l0 0) 16)))) then (mantletref04_Parse.j0 k l0 (wrap64 (4 * (wrap64 (Int.tmod (rd l0 0) 16)))) t693 true 0 0 0 0 0 0 0) else (mantletref04_Parse.j0 k l0 (wrap64 (4 * (wrap64 (Int.tmod (rd l0 0) 16)))) t693 (decide (t693 > (l0.length : Int))) 0 0 0 0 0 0 0))))) else (some (0, 0, 0, 0, 0, 0, 0, ([] : List Int), 5))) else (none)))
theorem mantletref04_Parse.mono_l : ∀ k, (∀ y0 y1 y2 y3 y4 y5 y6 y7 y8 y9 y10, LeO (mantletref04_Parse.j0 k y0 y1 y2 y3 y4 y5 y6 y7 y8 y9 y10) (mantletref04_Parse.j0 (k + 1) y0 y1 y2 y3 y4 y5 y6 y7 y8 y9 y10))
  | 0 => fun _ _ _ _ _ _ _ _ _ _ _ r h => by simp [mantletref04_Parse.j0] at h
  | k + 1 => by
    have ih0 := mantletref04_Parse.mono_l k
    · intro y0 y1 y2 y3 y4 y5 y6 y7 y8 y9 y10
      unfold mantletref04_Parse.j0
      repeat' first
      | (with_reducible exact ih0 _ _ _ _ _ _ _ _ _ _ _)
      | (with_reducible exact mantletref02_Add.mono _ _ _)
      | (with_reducible exact LeO.refl _)
      | (with_reducible exact LeO.none _)
      | (with_reducible refine LeO.ite ?_ ?_)
      | (with_reducible refine LeO.bind ?_ (fun _ => ?_))
      | exact ih0 _ _ _ _ _ _ _ _ _ _ _
      | exact mantletref02_Add.mono _ _ _
      | exact LeO.none _
      | refine LeO.ite ?_ ?_
      | refine LeO.bind ?_ (fun _ => ?_)
theorem mantletref04_Parse.mono : ∀ a0 k, LeO (mantletref04_Parse.f k a0) (mantletref04_Parse.f (k + 1) a0) := by
  intro a0 k
  have ih0 := mantletref04_Parse.mono_l k
  unfold mantletref04_Parse.f
  repeat' first
      | (with_reducible exact ih0 _ _ _ _ _ _ _ _ _ _ _)
      | (with_reducible exact mantletref02_Add.mono _ _ _)
      | (with_reducible exact LeO.refl _)
      | (with_reducible exact LeO.none _)
      | (with_reducible refine LeO.ite ?_ ?_)
      | (with_reducible refine LeO.bind ?_ (fun _ => ?_))
      | exact ih0 _ _ _ _ _ _ _ _ _ _ _
      | exact mantletref02_Add.mono _ _ _
      | exact LeO.none _
      | refine LeO.ite ?_ ?_
      | refine LeO.bind ?_ (fun _ => ?_)
def mantletref04_Parse.T18 : Bool × List (List Nat × List Nat) := (true, [([], []), ([0], [0]), ([1], [1]), ([], []), ([3], [3]), ([], []), ([5, 4], [5]), ([], []), ([], []), ([], []), ([9], [9]), ([10], [10]), ([], []), ([12, 6], [12]), ([13], [13]), ([2, 4, 6, 7, 8, 11, 14], [2, 4, 6, 7, 8, 11, 14]), ([], []), ([], []), ([], []), ([], []), ([17, 18, 19], [17, 18, 19]), ([16, 20, 13], [16, 20]), ([15, 21, 0, 1, 2, 3, 4, 5, 6, 7, 8, 9, 10, 11, 12, 13, 14, 15], [15]), ([21, 22, 0, 1, 2, 3, 4, 5, 6, 7, 8, 9, 10, 11, 12, 13, 14, 15, 16, 17, 18, 19, 20, 21, 22], [21]), ([23, 0, 1, 2, 3, 4, 5, 6, 7, 8, 9, 10, 11, 12, 13, 14, 15, 16, 17, 18, 19, 20, 21, 22, 23], [])])
def mantletref04_Parse.B18 : List Nat := [0, 1, 3, 0, 8, 0, 56, 0, 0, 0, 512, 1536, 0, 4216, 12408, 32767, 0, 0, 0, 0, 917504, 2044024, 4194303, 8388607, 16777215]
theorem mantletref04_Parse.tab18 : rtab .any (opsOf Try.f48 18) = mantletref04_Parse.T18 := by kernel_rfl
theorem mantletref04_Parse.bits18 : waitsOk mantletref04_Parse.T18.2 mantletref04_Parse.B18 = true := by kernel_rfl
set_option maxHeartbeats 8000000 in
set_option maxRecDepth 100000 in
theorem mantletref04_Parse.calls (k : Nat) (A0 : Option Addr) (c0 : Nat) (l0 : List Int) (r1 : Int) (r2 : Int) (r3 : Int) (r4 : Int) (r5 : Int) (r6 : Int) (r7 : Int) (r8 : List Int) (r9 : Int) (w : World) (hr0 : Kd.C (Kd.int .u8) w A0 l0.length l0) (hc0 : l0.length ≤ c0) (h : mantletref04_Parse.f k l0 = some (r1, r2, r3, r4, r5, r6, r7, r8, r9)) :
    Calls Try.prog 48 #[.slice A0 l0.length c0] w fun e w' => ∃ v7_ : Value, e = .returned (.tuple #[.agg #[.int .u8 r1, .int .u32 r2, .int .u32 r3, .int .i64 r4, .int .i64 r5, .int .u8 r6, .int .u16 r7], v7_, .int .i64 r9]) ∧ Kd.R (Kd.int .u8) 5 w' w.heap.size (fun _ => True) v7_ r8 ∧ Below w.heap.size w w' := by
 have hu61 := Try.underlying61
 have HR0 := Aside0.mk hr0
 have HC0 := Aside0.mk hc0
 clear hr0 hc0
 have HB := Aside0.mk (Below.refl w.heap.size w)
 have H : (if (l0.length : Int) > 1500 then (some (0, 0, 0, 0, 0, 0, 0, ([] : List Int), 2)) else (if (l0.length : Int) < 20 then (some (0, 0, 0, 0, 0, 0, 0, ([] : List Int), 4)) else (if 0 < (l0.length : Int) then (if ((Int.tdiv (rd l0 0) 16) % 256) = 4 then (if (wrap64 (4 * (wrap64 (Int.tmod (rd l0 0) 16)))) < 20 then (some (0, 0, 0, 0, 0, 0, 0, ([] : List Int), 6)) else ((mantletref04_Two.f l0 2).bind fun t693 => (if (wrap64 (4 * (wrap64 (Int.tmod (rd l0 0) 16)))) > (l0.length : Int) then (mantletref04_Parse.j0 k l0 (wrap64 (4 * (wrap64 (Int.tmod (rd l0 0) 16)))) t693 true 0 0 0 0 0 0 0) else (if t693 < (wrap64 (4 * (wrap64 (Int.tmod (rd l0 0) 16)))) then (mantletref04_Parse.j0 k l0 (wrap64 (4 * (wrap64 (Int.tmod (rd l0 0) 16)))) t693 true 0 0 0 0 0 0 0) else (mantletref04_Parse.j0 k l0 (wrap64 (4 * (wrap64 (Int.tmod (rd l0 0) 16)))) t693 (decide (t693 > (l0.length : Int))) 0 0 0 0 0 0 0))))) else (some (0, 0, 0, 0, 0, 0, 0, ([] : List Int), 5))) else (none)))) = some (r1, r2, r3, r4, r5, r6, r7, r8, r9) := h
 clear h
 by_cases c2 : (l0.length : Int) > 1500
 ·rw [if_pos c2] at H
  have c2b0 : decide (1500 < (l0.length : Int)) = true := decide_eq_true c2
  have c2b1 : decide (1500 < l0.length) = true := decide_eq_true (by omega)
  clear c2
  simp only [Option.some.injEq, Prod.mk.injEq] at H
  obtain ⟨rfl, rfl, rfl, rfl, rfl, rfl, rfl, rfl, rfl⟩ := H
  go_enter Try.func48, Try.ntmps48
  go_wp2_with (first | ((with_reducible refine gate_dst (N := 2) rfl ?_); (try (refine gate_guard (by rfl) ?_; dsimp only)); refine box_event ?hg (N := 2) ?hd (cs := #[.int .u8 0, .int .u32 0, .int .u32 0, .int .i64 0, .int .i64 0, .int .u8 0, .int .u16 0]) (t := 61) ?hr ?_; (case hd => rfl); (case hg => rfl); (case hr => first | (go_simp; done) | (go_simp; rfl)); intro gb689 hg w3 hbox hb; have n0_ := Aside0.mk (below_step (by repeat first | (with_reducible first | exact HB.out | apply below_alloc | apply pw_below_drewN | apply below_drew1) | exact HB.out) hb); have n1_ := Aside0.mk (hbox); have n2_ := Aside0.mk ((by rw [hg]; exact (below_size (by repeat first | (with_reducible first | exact HB.out | apply below_alloc | apply pw_below_drewN | apply below_drew1) | exact HB.out)) : w.heap.size ≤ gb689)); have n3_ := Aside0.mk ((by rw [hg]; exact (below_size (by repeat first | (with_reducible first | exact HB.out | apply below_alloc | apply pw_below_drewN | apply below_drew1) | exact HB.out)) : w.heap.size ≤ gb689)); clear HB; have HB := n0_; have BK689 := n1_; have GW689 := n2_; have GE689 := n3_; clear n0_ n1_ n2_ n3_; clear hb hbox hg) | ((with_reducible refine gate_dst (N := 5) rfl ?_); (try (refine gate_guard (by rfl) ?_; dsimp only)); refine box_event ?hg (N := 5) ?hd (cs := #[.int .u8 0, .int .u32 0, .int .u32 0, .int .i64 0, .int .i64 0, .int .u8 0, .int .u16 0]) (t := 61) ?hr ?_; (case hd => rfl); (case hg => rfl); (case hr => first | (go_simp; done) | (go_simp; rfl)); intro gb690 hg w4 hbox hb; have n0_ := Aside0.mk (blk_below (g := gb689) (o := Z_61) (by (with_reducible repeat first | apply blk_drewN | apply blk_drew | apply blk_alloc); exact BK689.out) hb); have n1_ := Aside0.mk (below_step (by repeat first | (with_reducible first | exact HB.out | apply below_alloc | apply pw_below_drewN | apply below_drew1 | refine below_set ?_ GE689.out) | exact HB.out) hb); have n2_ := Aside0.mk (hbox); have n3_ := Aside0.mk ((by rw [hg]; exact (below_size (by repeat first | (with_reducible first | exact HB.out | apply below_alloc | apply pw_below_drewN | apply below_drew1 | refine below_set ?_ GE689.out) | exact HB.out)) : w.heap.size ≤ gb690)); have n4_ := Aside0.mk ((by rw [hg]; exact (below_size (by repeat first | (with_reducible first | exact HB.out | apply below_alloc | apply pw_below_drewN | apply below_drew1 | refine below_set ?_ GE689.out) | exact HB.out)) : w.heap.size ≤ gb690)); have n5_ := Aside0.mk ((by rw [hg]; exact Nat.ne_of_lt (blk_lt (g := gb689) (o := Z_61) (by (with_reducible repeat first | apply blk_drewN | apply blk_drew | apply blk_alloc); exact BK689.out)) : gb689 ≠ gb690)); have n6_ := Aside0.mk ((by rw [hg]; exact Nat.ne_of_gt (blk_lt (g := gb689) (o := Z_61) (by (with_reducible repeat first | apply blk_drewN | apply blk_drew | apply blk_alloc); exact BK689.out)) : gb690 ≠ gb689)); clear BK689; clear HB; have BK689 := n0_; have HB := n1_; have BK690 := n2_; have GW690 := n3_; have GE690 := n4_; have NB689_690 := n5_; have NB690_689 := n6_; clear n0_ n1_ n2_ n3_ n4_ n5_ n6_; clear hb hbox hg; have hnb5 := NB690_689.out; have hnc5 := NB689_690.out; have hcz6_0 : w4.cell? ⟨gb690, 0, none⟩ = some (.int .u8 0) := (blk_cell BK690.out 0).trans rfl; have hcz6_1 : w4.cell? ⟨gb690, 1, none⟩ = some (.int .u32 0) := (blk_cell BK690.out 1).trans rfl; have hcz6_2 : w4.cell? ⟨gb690, 2, none⟩ = some (.int .u32 0) := (blk_cell BK690.out 2).trans rfl; have hcz6_3 : w4.cell? ⟨gb690, 3, none⟩ = some (.int .i64 0) := (blk_cell BK690.out 3).trans rfl; have hcz6_4 : w4.cell? ⟨gb690, 4, none⟩ = some (.int .i64 0) := (blk_cell BK690.out 4).trans rfl; have hcz6_5 : w4.cell? ⟨gb690, 5, none⟩ = some (.int .u8 0) := (blk_cell BK690.out 5).trans rfl; have hcz6_6 : w4.cell? ⟨gb690, 6, none⟩ = some (.int .u16 0) := (blk_cell BK690.out 6).trans rfl; have hfz6_0 := blk_frozen BK690.out 0; have hfz6_1 := blk_frozen BK690.out 1; have hfz6_2 := blk_frozen BK690.out 2; have hfz6_3 := blk_frozen BK690.out 3; have hfz6_4 := blk_frozen BK690.out 4; have hfz6_5 := blk_frozen BK690.out 5; have hfz6_6 := blk_frozen BK690.out 6) | ((with_reducible refine gate_store (t := 61) (p := 5) rfl ?_); refine store_event (t := 61) (p := 5) (v := ?vo_w7) (w1 := (((((((w4.setCell ⟨gb690, 0, none⟩ (.int .u8 0)).setCell ⟨gb690, 1, none⟩ (.int .u32 0)).setCell ⟨gb690, 2, none⟩ (.int .u32 0)).setCell ⟨gb690, 3, none⟩ (.int .i64 0)).setCell ⟨gb690, 4, none⟩ (.int .i64 0)).setCell ⟨gb690, 5, none⟩ (.int .u8 0)).setCell ⟨gb690, 6, none⟩ (.int .u16 0))) ?hg ?ho ?hn ?hr ?_; (case ho => rfl); (case hg => rfl); (case hn => rfl); (case hr => first | (go_simp; done) | (go_simp; rfl)); intro w7 hw; have n0_ : Aside0 (w7.heap[gb689]? = some (.cells #[.int .u8 0, .int .u32 0, .int .u32 0, .int .i64 0, .int .i64 0, .int .u8 0, .int .u16 0] 61 (0, 0))) := ⟨(by rw [hw]; exact (by (with_reducible repeat first | apply blk_drewN | apply blk_drew | apply blk_alloc); refine blk_far ?_ NB689_690.out _; (with_reducible repeat first | apply blk_drewN | apply blk_drew | apply blk_alloc); refine blk_far ?_ NB689_690.out _; (with_reducible repeat first | apply blk_drewN | apply blk_drew | apply blk_alloc); refine blk_far ?_ NB689_690.out _; (with_reducible repeat first | apply blk_drewN | apply blk_drew | apply blk_alloc); refine blk_far ?_ NB689_690.out _; (with_reducible repeat first | apply blk_drewN | apply blk_drew | apply blk_alloc); refine blk_far ?_ NB689_690.out _; (with_reducible repeat first | apply blk_drewN | apply blk_drew | apply blk_alloc); refine blk_far ?_ NB689_690.out _; (with_reducible repeat first | apply blk_drewN | apply blk_drew | apply blk_alloc); refine blk_far ?_ NB689_690.out _; (with_reducible repeat first | apply blk_drewN | apply blk_drew | apply blk_alloc); exact BK689.out))⟩; have n1_ : Aside0 (w7.heap[gb690]? = some (.cells #[.int .u8 0, .int .u32 0, .int .u32 0, .int .i64 0, .int .i64 0, .int .u8 0, .int .u16 0] 61 (0, 0))) := ⟨(by rw [hw]; exact (by (with_reducible repeat first | apply blk_drewN | apply blk_drew | apply blk_alloc); refine blk_put (cs := #[.int .u8 0, .int .u32 0, .int .u32 0, .int .i64 0, .int .i64 0, .int .u8 0, .int .u16 0]) ?_ 6 _ rfl; (with_reducible repeat first | apply blk_drewN | apply blk_drew | apply blk_alloc); refine blk_put (cs := #[.int .u8 0, .int .u32 0, .int .u32 0, .int .i64 0, .int .i64 0, .int .u8 0, .int .u16 0]) ?_ 5 _ rfl; (with_reducible repeat first | apply blk_drewN | apply blk_drew | apply blk_alloc); refine blk_put (cs := #[.int .u8 0, .int .u32 0, .int .u32 0, .int .i64 0, .int .i64 0, .int .u8 0, .int .u16 0]) ?_ 4 _ rfl; (with_reducible repeat first | apply blk_drewN | apply blk_drew | apply blk_alloc); refine blk_put (cs := #[.int .u8 0, .int .u32 0, .int .u32 0, .int .i64 0, .int .i64 0, .int .u8 0, .int .u16 0]) ?_ 3 _ rfl; (with_reducible repeat first | apply blk_drewN | apply blk_drew | apply blk_alloc); refine blk_put (cs := #[.int .u8 0, .int .u32 0, .int .u32 0, .int .i64 0, .int .i64 0, .int .u8 0, .int .u16 0]) ?_ 2 _ rfl; (with_reducible repeat first | apply blk_drewN | apply blk_drew | apply blk_alloc); refine blk_put (cs := #[.int .u8 0, .int .u32 0, .int .u32 0, .int .i64 0, .int .i64 0, .int .u8 0, .int .u16 0]) ?_ 1 _ rfl; (with_reducible repeat first | apply blk_drewN | apply blk_drew | apply blk_alloc); refine blk_put (cs := #[.int .u8 0, .int .u32 0, .int .u32 0, .int .i64 0, .int .i64 0, .int .u8 0, .int .u16 0]) ?_ 0 _ rfl; (with_reducible repeat first | apply blk_drewN | apply blk_drew | apply blk_alloc); exact BK690.out))⟩; have n2_ : Aside0 (Below w.heap.size w w7) := ⟨(by rw [hw]; exact (by repeat first | (with_reducible first | exact HB.out | apply below_alloc | apply pw_below_drewN | apply below_drew1 | refine below_set ?_ GE689.out | refine below_set ?_ GE690.out) | exact HB.out))⟩; clear hw; clear BK689; clear BK690; clear HB; have BK689 := n0_; have BK690 := n1_; have HB := n2_; clear n0_ n1_ n2_; have hcz8_0 : w7.cell? ⟨gb690, 0, none⟩ = some (.int .u8 0) := (blk_cell BK690.out 0).trans rfl; have hcz8_1 : w7.cell? ⟨gb690, 1, none⟩ = some (.int .u32 0) := (blk_cell BK690.out 1).trans rfl; have hcz8_2 : w7.cell? ⟨gb690, 2, none⟩ = some (.int .u32 0) := (blk_cell BK690.out 2).trans rfl; have hcz8_3 : w7.cell? ⟨gb690, 3, none⟩ = some (.int .i64 0) := (blk_cell BK690.out 3).trans rfl; have hcz8_4 : w7.cell? ⟨gb690, 4, none⟩ = some (.int .i64 0) := (blk_cell BK690.out 4).trans rfl; have hcz8_5 : w7.cell? ⟨gb690, 5, none⟩ = some (.int .u8 0) := (blk_cell BK690.out 5).trans rfl; have hcz8_6 : w7.cell? ⟨gb690, 6, none⟩ = some (.int .u16 0) := (blk_cell BK690.out 6).trans rfl; have hfz8_0 := blk_frozen BK690.out 0; have hfz8_1 := blk_frozen BK690.out 1; have hfz8_2 := blk_frozen BK690.out 2; have hfz8_3 := blk_frozen BK690.out 3; have hfz8_4 := blk_frozen BK690.out 4; have hfz8_5 := blk_frozen BK690.out 5; have hfz8_6 := blk_frozen BK690.out 6; have hcz9_0 : w7.cell? ⟨gb689, 0, none⟩ = some (.int .u8 0) := (blk_cell BK689.out 0).trans rfl; have hcz9_1 : w7.cell? ⟨gb689, 1, none⟩ = some (.int .u32 0) := (blk_cell BK689.out 1).trans rfl; have hcz9_2 : w7.cell? ⟨gb689, 2, none⟩ = some (.int .u32 0) := (blk_cell BK689.out 2).trans rfl; have hcz9_3 : w7.cell? ⟨gb689, 3, none⟩ = some (.int .i64 0) := (blk_cell BK689.out 3).trans rfl; have hcz9_4 : w7.cell? ⟨gb689, 4, none⟩ = some (.int .i64 0) := (blk_cell BK689.out 4).trans rfl; have hcz9_5 : w7.cell? ⟨gb689, 5, none⟩ = some (.int .u8 0) := (blk_cell BK689.out 5).trans rfl; have hcz9_6 : w7.cell? ⟨gb689, 6, none⟩ = some (.int .u16 0) := (blk_cell BK689.out 6).trans rfl; have hfz9_0 := blk_frozen BK689.out 0; have hfz9_1 := blk_frozen BK689.out 1; have hfz9_2 := blk_frozen BK689.out 2; have hfz9_3 := blk_frozen BK689.out 3; have hfz9_4 := blk_frozen BK689.out 4; have hfz9_5 := blk_frozen BK689.out 5; have hfz9_6 := blk_frozen BK689.out 6) | ((with_reducible refine gate_store (t := 61) (p := 2) rfl ?_); refine store_event (t := 61) (p := 2) (v := ?vo_w10) (w1 := (((((((w7.setCell ⟨gb689, 0, none⟩ (.int .u8 0)).setCell ⟨gb689, 1, none⟩ (.int .u32 0)).setCell ⟨gb689, 2, none⟩ (.int .u32 0)).setCell ⟨gb689, 3, none⟩ (.int .i64 0)).setCell ⟨gb689, 4, none⟩ (.int .i64 0)).setCell ⟨gb689, 5, none⟩ (.int .u8 0)).setCell ⟨gb689, 6, none⟩ (.int .u16 0))) ?hg ?ho ?hn ?hr ?_; (case ho => rfl); (case hg => rfl); (case hn => rfl); (case hr => first | (go_simp; done) | (go_simp; rfl)); intro w10 hw; have n0_ : Aside0 (w10.heap[gb689]? = some (.cells #[.int .u8 0, .int .u32 0, .int .u32 0, .int .i64 0, .int .i64 0, .int .u8 0, .int .u16 0] 61 (0, 0))) := ⟨(by rw [hw]; exact (by (with_reducible repeat first | apply blk_drewN | apply blk_drew | apply blk_alloc); refine blk_put (cs := #[.int .u8 0, .int .u32 0, .int .u32 0, .int .i64 0, .int .i64 0, .int .u8 0, .int .u16 0]) ?_ 6 _ rfl; (with_reducible repeat first | apply blk_drewN | apply blk_drew | apply blk_alloc); refine blk_put (cs := #[.int .u8 0, .int .u32 0, .int .u32 0, .int .i64 0, .int .i64 0, .int .u8 0, .int .u16 0]) ?_ 5 _ rfl; (with_reducible repeat first | apply blk_drewN | apply blk_drew | apply blk_alloc); refine blk_put (cs := #[.int .u8 0, .int .u32 0, .int .u32 0, .int .i64 0, .int .i64 0, .int .u8 0, .int .u16 0]) ?_ 4 _ rfl; (with_reducible repeat first | apply blk_drewN | apply blk_drew | apply blk_alloc); refine blk_put (cs := #[.int .u8 0, .int .u32 0, .int .u32 0, .int .i64 0, .int .i64 0, .int .u8 0, .int .u16 0]) ?_ 3 _ rfl; (with_reducible repeat first | apply blk_drewN | apply blk_drew | apply blk_alloc); refine blk_put (cs := #[.int .u8 0, .int .u32 0, .int .u32 0, .int .i64 0, .int .i64 0, .int .u8 0, .int .u16 0]) ?_ 2 _ rfl; (with_reducible repeat first | apply blk_drewN | apply blk_drew | apply blk_alloc); refine blk_put (cs := #[.int .u8 0, .int .u32 0, .int .u32 0, .int .i64 0, .int .i64 0, .int .u8 0, .int .u16 0]) ?_ 1 _ rfl; (with_reducible repeat first | apply blk_drewN | apply blk_drew | apply blk_alloc); refine blk_put (cs := #[.int .u8 0, .int .u32 0, .int .u32 0, .int .i64 0, .int .i64 0, .int .u8 0, .int .u16 0]) ?_ 0 _ rfl; (with_reducible repeat first | apply blk_drewN | apply blk_drew | apply blk_alloc); exact BK689.out))⟩; have n1_ : Aside0 (w10.heap[gb690]? = some (.cells #[.int .u8 0, .int .u32 0, .int .u32 0, .int .i64 0, .int .i64 0, .int .u8 0, .int .u16 0] 61 (0, 0))) := ⟨(by rw [hw]; exact (by (with_reducible repeat first | apply blk_drewN | apply blk_drew | apply blk_alloc); refine blk_far ?_ NB690_689.out _; (with_reducible repeat first | apply blk_drewN | apply blk_drew | apply blk_alloc); refine blk_far ?_ NB690_689.out _; (with_reducible repeat first | apply blk_drewN | apply blk_drew | apply blk_alloc); refine blk_far ?_ NB690_689.out _; (with_reducible repeat first | apply blk_drewN | apply blk_drew | apply blk_alloc); refine blk_far ?_ NB690_689.out _; (with_reducible repeat first | apply blk_drewN | apply blk_drew | apply blk_alloc); refine blk_far ?_ NB690_689.out _; (with_reducible repeat first | apply blk_drewN | apply blk_drew | apply blk_alloc); refine blk_far ?_ NB690_689.out _; (with_reducible repeat first | apply blk_drewN | apply blk_drew | apply blk_alloc); refine blk_far ?_ NB690_689.out _; (with_reducible repeat first | apply blk_drewN | apply blk_drew | apply blk_alloc); exact BK690.out))⟩; have n2_ : Aside0 (Below w.heap.size w w10) := ⟨(by rw [hw]; exact (by repeat first | (with_reducible first | exact HB.out | apply below_alloc | apply pw_below_drewN | apply below_drew1 | refine below_set ?_ GE689.out | refine below_set ?_ GE690.out) | exact HB.out))⟩; clear hw; clear BK689; clear BK690; clear HB; have BK689 := n0_; have BK690 := n1_; have HB := n2_; clear n0_ n1_ n2_))
  refine bodyPost_ret (results_ctt rfl _ _ gb689 61 #[.int .u8 0, .int .u32 0, .int .u32 0, .int .i64 0, .int .i64 0, .int .u8 0, .int .u16 0] (0, 0) _ rfl (by (with_reducible repeat first | apply blk_drewN | apply blk_drew | apply blk_alloc); exact BK689.out) Try.underlying61 rfl (by kernel_rfl)) rfl ?_
  exact ⟨_, by first | rfl | (simp [errW_none, errW_some] <;> rfl) | (simp [*, errW_none, errW_some] <;> rfl), by first | exact Kd.R_nil _ _ _ _ _ | exact Kd.N_nil _ _ _ _ _ | exact Kd.V_nil _ _ _ _ _ | exact Kd.Q_nil _ _ _ _ _ | exact Kd.S_nil _ _ _ _ _, by repeat first | (with_reducible first | exact HB.out | apply below_alloc | apply pw_below_drewN | apply below_drew1 | refine below_set ?_ GE689.out | refine below_set ?_ GE690.out) | exact HB.out⟩
 ·rw [if_neg c2] at H
  have c2b0 : decide (1500 < (l0.length : Int)) = false := decide_eq_false c2
  have c2b1 : decide (1500 < l0.length) = false := decide_eq_false (by omega)
  clear c2
  by_cases c11 : (l0.length : Int) < 20
  ·rw [if_pos c11] at H
   have c11b0 : decide ((l0.length : Int) < 20) = true := decide_eq_true c11
   have c11b1 : decide (l0.length < 20) = true := decide_eq_true (by omega)
   clear c11
   simp only [Option.some.injEq, Prod.mk.injEq] at H
   obtain ⟨rfl, rfl, rfl, rfl, rfl, rfl, rfl, rfl, rfl⟩ := H
   go_enter Try.func48, Try.ntmps48
   go_wp2_with (first | ((with_reducible refine gate_dst (N := 2) rfl ?_); (try (refine gate_guard (by rfl) ?_; dsimp only)); refine box_event ?hg (N := 2) ?hd (cs := #[.int .u8 0, .int .u32 0, .int .u32 0, .int .i64 0, .int .i64 0, .int .u8 0, .int .u16 0]) (t := 61) ?hr ?_; (case hd => rfl); (case hg => rfl); (case hr => first | (go_simp; done) | (go_simp; rfl)); intro gb689 hg w12 hbox hb; have n0_ := Aside0.mk (below_step (by repeat first | (with_reducible first | exact HB.out | apply below_alloc | apply pw_below_drewN | apply below_drew1) | exact HB.out) hb); have n1_ := Aside0.mk (hbox); have n2_ := Aside0.mk ((by rw [hg]; exact (below_size (by repeat first | (with_reducible first | exact HB.out | apply below_alloc | apply pw_below_drewN | apply below_drew1) | exact HB.out)) : w.heap.size ≤ gb689)); have n3_ := Aside0.mk ((by rw [hg]; exact (below_size (by repeat first | (with_reducible first | exact HB.out | apply below_alloc | apply pw_below_drewN | apply below_drew1) | exact HB.out)) : w.heap.size ≤ gb689)); clear HB; have HB := n0_; have BK689 := n1_; have GW689 := n2_; have GE689 := n3_; clear n0_ n1_ n2_ n3_; clear hb hbox hg) | ((with_reducible refine gate_dst (N := 5) rfl ?_); (try (refine gate_guard (by rfl) ?_; dsimp only)); refine box_event ?hg (N := 5) ?hd (cs := #[.int .u8 0, .int .u32 0, .int .u32 0, .int .i64 0, .int .i64 0, .int .u8 0, .int .u16 0]) (t := 61) ?hr ?_; (case hd => rfl); (case hg => rfl); (case hr => first | (go_simp; done) | (go_simp; rfl)); intro gb690 hg w13 hbox hb; have n0_ := Aside0.mk (blk_below (g := gb689) (o := Z_61) (by (with_reducible repeat first | apply blk_drewN | apply blk_drew | apply blk_alloc); exact BK689.out) hb); have n1_ := Aside0.mk (below_step (by repeat first | (with_reducible first | exact HB.out | apply below_alloc | apply pw_below_drewN | apply below_drew1 | refine below_set ?_ GE689.out) | exact HB.out) hb); have n2_ := Aside0.mk (hbox); have n3_ := Aside0.mk ((by rw [hg]; exact (below_size (by repeat first | (with_reducible first | exact HB.out | apply below_alloc | apply pw_below_drewN | apply below_drew1 | refine below_set ?_ GE689.out) | exact HB.out)) : w.heap.size ≤ gb690)); have n4_ := Aside0.mk ((by rw [hg]; exact (below_size (by repeat first | (with_reducible first | exact HB.out | apply below_alloc | apply pw_below_drewN | apply below_drew1 | refine below_set ?_ GE689.out) | exact HB.out)) : w.heap.size ≤ gb690)); have n5_ := Aside0.mk ((by rw [hg]; exact Nat.ne_of_lt (blk_lt (g := gb689) (o := Z_61) (by (with_reducible repeat first | apply blk_drewN | apply blk_drew | apply blk_alloc); exact BK689.out)) : gb689 ≠ gb690)); have n6_ := Aside0.mk ((by rw [hg]; exact Nat.ne_of_gt (blk_lt (g := gb689) (o := Z_61) (by (with_reducible repeat first | apply blk_drewN | apply blk_drew | apply blk_alloc); exact BK689.out)) : gb690 ≠ gb689)); clear BK689; clear HB; have BK689 := n0_; have HB := n1_; have BK690 := n2_; have GW690 := n3_; have GE690 := n4_; have NB689_690 := n5_; have NB690_689 := n6_; clear n0_ n1_ n2_ n3_ n4_ n5_ n6_; clear hb hbox hg; have hnb14 := NB690_689.out; have hnc14 := NB689_690.out; have hcz15_0 : w13.cell? ⟨gb690, 0, none⟩ = some (.int .u8 0) := (blk_cell BK690.out 0).trans rfl; have hcz15_1 : w13.cell? ⟨gb690, 1, none⟩ = some (.int .u32 0) := (blk_cell BK690.out 1).trans rfl; have hcz15_2 : w13.cell? ⟨gb690, 2, none⟩ = some (.int .u32 0) := (blk_cell BK690.out 2).trans rfl; have hcz15_3 : w13.cell? ⟨gb690, 3, none⟩ = some (.int .i64 0) := (blk_cell BK690.out 3).trans rfl; have hcz15_4 : w13.cell? ⟨gb690, 4, none⟩ = some (.int .i64 0) := (blk_cell BK690.out 4).trans rfl; have hcz15_5 : w13.cell? ⟨gb690, 5, none⟩ = some (.int .u8 0) := (blk_cell BK690.out 5).trans rfl; have hcz15_6 : w13.cell? ⟨gb690, 6, none⟩ = some (.int .u16 0) := (blk_cell BK690.out 6).trans rfl; have hfz15_0 := blk_frozen BK690.out 0; have hfz15_1 := blk_frozen BK690.out 1; have hfz15_2 := blk_frozen BK690.out 2; have hfz15_3 := blk_frozen BK690.out 3; have hfz15_4 := blk_frozen BK690.out 4; have hfz15_5 := blk_frozen BK690.out 5; have hfz15_6 := blk_frozen BK690.out 6) | ((with_reducible refine gate_store (t := 61) (p := 5) rfl ?_); refine store_event (t := 61) (p := 5) (v := ?vo_w16) (w1 := (((((((w13.setCell ⟨gb690, 0, none⟩ (.int .u8 0)).setCell ⟨gb690, 1, none⟩ (.int .u32 0)).setCell ⟨gb690, 2, none⟩ (.int .u32 0)).setCell ⟨gb690, 3, none⟩ (.int .i64 0)).setCell ⟨gb690, 4, none⟩ (.int .i64 0)).setCell ⟨gb690, 5, none⟩ (.int .u8 0)).setCell ⟨gb690, 6, none⟩ (.int .u16 0))) ?hg ?ho ?hn ?hr ?_; (case ho => rfl); (case hg => rfl); (case hn => rfl); (case hr => first | (go_simp; done) | (go_simp; rfl)); intro w16 hw; have n0_ : Aside0 (w16.heap[gb689]? = some (.cells #[.int .u8 0, .int .u32 0, .int .u32 0, .int .i64 0, .int .i64 0, .int .u8 0, .int .u16 0] 61 (0, 0))) := ⟨(by rw [hw]; exact (by (with_reducible repeat first | apply blk_drewN | apply blk_drew | apply blk_alloc); refine blk_far ?_ NB689_690.out _; (with_reducible repeat first | apply blk_drewN | apply blk_drew | apply blk_alloc); refine blk_far ?_ NB689_690.out _; (with_reducible repeat first | apply blk_drewN | apply blk_drew | apply blk_alloc); refine blk_far ?_ NB689_690.out _; (with_reducible repeat first | apply blk_drewN | apply blk_drew | apply blk_alloc); refine blk_far ?_ NB689_690.out _; (with_reducible repeat first | apply blk_drewN | apply blk_drew | apply blk_alloc); refine blk_far ?_ NB689_690.out _; (with_reducible repeat first | apply blk_drewN | apply blk_drew | apply blk_alloc); refine blk_far ?_ NB689_690.out _; (with_reducible repeat first | apply blk_drewN | apply blk_drew | apply blk_alloc); refine blk_far ?_ NB689_690.out _; (with_reducible repeat first | apply blk_drewN | apply blk_drew | apply blk_alloc); exact BK689.out))⟩; have n1_ : Aside0 (w16.heap[gb690]? = some (.cells #[.int .u8 0, .int .u32 0, .int .u32 0, .int .i64 0, .int .i64 0, .int .u8 0, .int .u16 0] 61 (0, 0))) := ⟨(by rw [hw]; exact (by (with_reducible repeat first | apply blk_drewN | apply blk_drew | apply blk_alloc); refine blk_put (cs := #[.int .u8 0, .int .u32 0, .int .u32 0, .int .i64 0, .int .i64 0, .int .u8 0, .int .u16 0]) ?_ 6 _ rfl; (with_reducible repeat first | apply blk_drewN | apply blk_drew | apply blk_alloc); refine blk_put (cs := #[.int .u8 0, .int .u32 0, .int .u32 0, .int .i64 0, .int .i64 0, .int .u8 0, .int .u16 0]) ?_ 5 _ rfl; (with_reducible repeat first | apply blk_drewN | apply blk_drew | apply blk_alloc); refine blk_put (cs := #[.int .u8 0, .int .u32 0, .int .u32 0, .int .i64 0, .int .i64 0, .int .u8 0, .int .u16 0]) ?_ 4 _ rfl; (with_reducible repeat first | apply blk_drewN | apply blk_drew | apply blk_alloc); refine blk_put (cs := #[.int .u8 0, .int .u32 0, .int .u32 0, .int .i64 0, .int .i64 0, .int .u8 0, .int .u16 0]) ?_ 3 _ rfl; (with_reducible repeat first | apply blk_drewN | apply blk_drew | apply blk_alloc); refine blk_put (cs := #[.int .u8 0, .int .u32 0, .int .u32 0, .int .i64 0, .int .i64 0, .int .u8 0, .int .u16 0]) ?_ 2 _ rfl; (with_reducible repeat first | apply blk_drewN | apply blk_drew | apply blk_alloc); refine blk_put (cs := #[.int .u8 0, .int .u32 0, .int .u32 0, .int .i64 0, .int .i64 0, .int .u8 0, .int .u16 0]) ?_ 1 _ rfl; (with_reducible repeat first | apply blk_drewN | apply blk_drew | apply blk_alloc); refine blk_put (cs := #[.int .u8 0, .int .u32 0, .int .u32 0, .int .i64 0, .int .i64 0, .int .u8 0, .int .u16 0]) ?_ 0 _ rfl; (with_reducible repeat first | apply blk_drewN | apply blk_drew | apply blk_alloc); exact BK690.out))⟩; have n2_ : Aside0 (Below w.heap.size w w16) := ⟨(by rw [hw]; exact (by repeat first | (with_reducible first | exact HB.out | apply below_alloc | apply pw_below_drewN | apply below_drew1 | refine below_set ?_ GE689.out | refine below_set ?_ GE690.out) | exact HB.out))⟩; clear hw; clear BK689; clear BK690; clear HB; have BK689 := n0_; have BK690 := n1_; have HB := n2_; clear n0_ n1_ n2_; have hcz17_0 : w16.cell? ⟨gb690, 0, none⟩ = some (.int .u8 0) := (blk_cell BK690.out 0).trans rfl; have hcz17_1 : w16.cell? ⟨gb690, 1, none⟩ = some (.int .u32 0) := (blk_cell BK690.out 1).trans rfl; have hcz17_2 : w16.cell? ⟨gb690, 2, none⟩ = some (.int .u32 0) := (blk_cell BK690.out 2).trans rfl; have hcz17_3 : w16.cell? ⟨gb690, 3, none⟩ = some (.int .i64 0) := (blk_cell BK690.out 3).trans rfl; have hcz17_4 : w16.cell? ⟨gb690, 4, none⟩ = some (.int .i64 0) := (blk_cell BK690.out 4).trans rfl; have hcz17_5 : w16.cell? ⟨gb690, 5, none⟩ = some (.int .u8 0) := (blk_cell BK690.out 5).trans rfl; have hcz17_6 : w16.cell? ⟨gb690, 6, none⟩ = some (.int .u16 0) := (blk_cell BK690.out 6).trans rfl; have hfz17_0 := blk_frozen BK690.out 0; have hfz17_1 := blk_frozen BK690.out 1; have hfz17_2 := blk_frozen BK690.out 2; have hfz17_3 := blk_frozen BK690.out 3; have hfz17_4 := blk_frozen BK690.out 4; have hfz17_5 := blk_frozen BK690.out 5; have hfz17_6 := blk_frozen BK690.out 6; have hcz18_0 : w16.cell? ⟨gb689, 0, none⟩ = some (.int .u8 0) := (blk_cell BK689.out 0).trans rfl; have hcz18_1 : w16.cell? ⟨gb689, 1, none⟩ = some (.int .u32 0) := (blk_cell BK689.out 1).trans rfl; have hcz18_2 : w16.cell? ⟨gb689, 2, none⟩ = some (.int .u32 0) := (blk_cell BK689.out 2).trans rfl; have hcz18_3 : w16.cell? ⟨gb689, 3, none⟩ = some (.int .i64 0) := (blk_cell BK689.out 3).trans rfl; have hcz18_4 : w16.cell? ⟨gb689, 4, none⟩ = some (.int .i64 0) := (blk_cell BK689.out 4).trans rfl; have hcz18_5 : w16.cell? ⟨gb689, 5, none⟩ = some (.int .u8 0) := (blk_cell BK689.out 5).trans rfl; have hcz18_6 : w16.cell? ⟨gb689, 6, none⟩ = some (.int .u16 0) := (blk_cell BK689.out 6).trans rfl; have hfz18_0 := blk_frozen BK689.out 0; have hfz18_1 := blk_frozen BK689.out 1; have hfz18_2 := blk_frozen BK689.out 2; have hfz18_3 := blk_frozen BK689.out 3; have hfz18_4 := blk_frozen BK689.out 4; have hfz18_5 := blk_frozen BK689.out 5; have hfz18_6 := blk_frozen BK689.out 6) | ((with_reducible refine gate_store (t := 61) (p := 2) rfl ?_); refine store_event (t := 61) (p := 2) (v := ?vo_w19) (w1 := (((((((w16.setCell ⟨gb689, 0, none⟩ (.int .u8 0)).setCell ⟨gb689, 1, none⟩ (.int .u32 0)).setCell ⟨gb689, 2, none⟩ (.int .u32 0)).setCell ⟨gb689, 3, none⟩ (.int .i64 0)).setCell ⟨gb689, 4, none⟩ (.int .i64 0)).setCell ⟨gb689, 5, none⟩ (.int .u8 0)).setCell ⟨gb689, 6, none⟩ (.int .u16 0))) ?hg ?ho ?hn ?hr ?_; (case ho => rfl); (case hg => rfl); (case hn => rfl); (case hr => first | (go_simp; done) | (go_simp; rfl)); intro w19 hw; have n0_ : Aside0 (w19.heap[gb689]? = some (.cells #[.int .u8 0, .int .u32 0, .int .u32 0, .int .i64 0, .int .i64 0, .int .u8 0, .int .u16 0] 61 (0, 0))) := ⟨(by rw [hw]; exact (by (with_reducible repeat first | apply blk_drewN | apply blk_drew | apply blk_alloc); refine blk_put (cs := #[.int .u8 0, .int .u32 0, .int .u32 0, .int .i64 0, .int .i64 0, .int .u8 0, .int .u16 0]) ?_ 6 _ rfl; (with_reducible repeat first | apply blk_drewN | apply blk_drew | apply blk_alloc); refine blk_put (cs := #[.int .u8 0, .int .u32 0, .int .u32 0, .int .i64 0, .int .i64 0, .int .u8 0, .int .u16 0]) ?_ 5 _ rfl; (with_reducible repeat first | apply blk_drewN | apply blk_drew | apply blk_alloc); refine blk_put (cs := #[.int .u8 0, .int .u32 0, .int .u32 0, .int .i64 0, .int .i64 0, .int .u8 0, .int .u16 0]) ?_ 4 _ rfl; (with_reducible repeat first | apply blk_drewN | apply blk_drew | apply blk_alloc); refine blk_put (cs := #[.int .u8 0, .int .u32 0, .int .u32 0, .int .i64 0, .int .i64 0, .int .u8 0, .int .u16 0]) ?_ 3 _ rfl; (with_reducible repeat first | apply blk_drewN | apply blk_drew | apply blk_alloc); refine blk_put (cs := #[.int .u8 0, .int .u32 0, .int .u32 0, .int .i64 0, .int .i64 0, .int .u8 0, .int .u16 0]) ?_ 2 _ rfl; (with_reducible repeat first | apply blk_drewN | apply blk_drew | apply blk_alloc); refine blk_put (cs := #[.int .u8 0, .int .u32 0, .int .u32 0, .int .i64 0, .int .i64 0, .int .u8 0, .int .u16 0]) ?_ 1 _ rfl; (with_reducible repeat first | apply blk_drewN | apply blk_drew | apply blk_alloc); refine blk_put (cs := #[.int .u8 0, .int .u32 0, .int .u32 0, .int .i64 0, .int .i64 0, .int .u8 0, .int .u16 0]) ?_ 0 _ rfl; (with_reducible repeat first | apply blk_drewN | apply blk_drew | apply blk_alloc); exact BK689.out))⟩; have n1_ : Aside0 (w19.heap[gb690]? = some (.cells #[.int .u8 0, .int .u32 0, .int .u32 0, .int .i64 0, .int .i64 0, .int .u8 0, .int .u16 0] 61 (0, 0))) := ⟨(by rw [hw]; exact (by (with_reducible repeat first | apply blk_drewN | apply blk_drew | apply blk_alloc); refine blk_far ?_ NB690_689.out _; (with_reducible repeat first | apply blk_drewN | apply blk_drew | apply blk_alloc); refine blk_far ?_ NB690_689.out _; (with_reducible repeat first | apply blk_drewN | apply blk_drew | apply blk_alloc); refine blk_far ?_ NB690_689.out _; (with_reducible repeat first | apply blk_drewN | apply blk_drew | apply blk_alloc); refine blk_far ?_ NB690_689.out _; (with_reducible repeat first | apply blk_drewN | apply blk_drew | apply blk_alloc); refine blk_far ?_ NB690_689.out _; (with_reducible repeat first | apply blk_drewN | apply blk_drew | apply blk_alloc); refine blk_far ?_ NB690_689.out _; (with_reducible repeat first | apply blk_drewN | apply blk_drew | apply blk_alloc); refine blk_far ?_ NB690_689.out _; (with_reducible repeat first | apply blk_drewN | apply blk_drew | apply blk_alloc); exact BK690.out))⟩; have n2_ : Aside0 (Below w.heap.size w w19) := ⟨(by rw [hw]; exact (by repeat first | (with_reducible first | exact HB.out | apply below_alloc | apply pw_below_drewN | apply below_drew1 | refine below_set ?_ GE689.out | refine below_set ?_ GE690.out) | exact HB.out))⟩; clear hw; clear BK689; clear BK690; clear HB; have BK689 := n0_; have BK690 := n1_; have HB := n2_; clear n0_ n1_ n2_))
   refine bodyPost_ret (results_ctt rfl _ _ gb689 61 #[.int .u8 0, .int .u32 0, .int .u32 0, .int .i64 0, .int .i64 0, .int .u8 0, .int .u16 0] (0, 0) _ rfl (by (with_reducible repeat first | apply blk_drewN | apply blk_drew | apply blk_alloc); exact BK689.out) Try.underlying61 rfl (by kernel_rfl)) rfl ?_
   exact ⟨_, by first | rfl | (simp [errW_none, errW_some] <;> rfl) | (simp [*, errW_none, errW_some] <;> rfl), by first | exact Kd.R_nil _ _ _ _ _ | exact Kd.N_nil _ _ _ _ _ | exact Kd.V_nil _ _ _ _ _ | exact Kd.Q_nil _ _ _ _ _ | exact Kd.S_nil _ _ _ _ _, by repeat first | (with_reducible first | exact HB.out | apply below_alloc | apply pw_below_drewN | apply below_drew1 | refine below_set ?_ GE689.out | refine below_set ?_ GE690.out) | exact HB.out⟩
  ·rw [if_neg c11] at H
   have c11b0 : decide ((l0.length : Int) < 20) = false := decide_eq_false c11
   have c11b1 : decide (l0.length < 20) = false := decide_eq_false (by omega)
   clear c11
   by_cases c20 : 0 < (l0.length : Int)
   ·rw [if_pos c20] at H
    have c20b0 : decide (0 < (l0.length : Int)) = true := decide_eq_true c20
    have c20b1 : decide (0 < l0.length) = true := decide_eq_true (by omega)
    clear c20
    by_cases c21 : ((Int.tdiv (rd l0 0) 16) % 256) = 4
    ·rw [if_pos c21] at H
     have c21b0 : (((Int.tdiv (rd l0 0) 16) % 256) == 4) = true := beq_iff_eq.mpr c21
     have c21b1 : (((Int.tdiv (rd l0 0) 16) % 256) != 4) = false := bne_eq_false_iff_eq.mpr c21
     clear c21
     by_cases c22 : (wrap64 (4 * (wrap64 (Int.tmod (rd l0 0) 16)))) < 20
     ·rw [if_pos c22] at H
      have c22b0 : decide ((wrap64 (4 * (wrap64 (Int.tmod (rd l0 0) 16)))) < 20) = true := decide_eq_true c22
      clear c22
      simp only [Option.some.injEq, Prod.mk.injEq] at H
      obtain ⟨rfl, rfl, rfl, rfl, rfl, rfl, rfl, rfl, rfl⟩ := H
      go_enter Try.func48, Try.ntmps48
      go_wp2_with (first | ((with_reducible refine gate_dst (N := 2) rfl ?_); (try (refine gate_guard (by rfl) ?_; dsimp only)); refine box_event ?hg (N := 2) ?hd (cs := #[.int .u8 0, .int .u32 0, .int .u32 0, .int .i64 0, .int .i64 0, .int .u8 0, .int .u16 0]) (t := 61) ?hr ?_; (case hd => rfl); (case hg => rfl); (case hr => first | (go_simp; done) | (go_simp; rfl)); intro gb689 hg w23 hbox hb; have n0_ := Aside0.mk (below_step (by repeat first | (with_reducible first | exact HB.out | apply below_alloc | apply pw_below_drewN | apply below_drew1) | exact HB.out) hb); have n1_ := Aside0.mk (hbox); have n2_ := Aside0.mk ((by rw [hg]; exact (below_size (by repeat first | (with_reducible first | exact HB.out | apply below_alloc | apply pw_below_drewN | apply below_drew1) | exact HB.out)) : w.heap.size ≤ gb689)); have n3_ := Aside0.mk ((by rw [hg]; exact (below_size (by repeat first | (with_reducible first | exact HB.out | apply below_alloc | apply pw_below_drewN | apply below_drew1) | exact HB.out)) : w.heap.size ≤ gb689)); clear HB; have HB := n0_; have BK689 := n1_; have GW689 := n2_; have GE689 := n3_; clear n0_ n1_ n2_ n3_; clear hb hbox hg) | ((with_reducible refine gate_dst (N := 5) rfl ?_); (try (refine gate_guard (by rfl) ?_; dsimp only)); refine box_event ?hg (N := 5) ?hd (cs := #[.int .u8 0, .int .u32 0, .int .u32 0, .int .i64 0, .int .i64 0, .int .u8 0, .int .u16 0]) (t := 61) ?hr ?_; (case hd => rfl); (case hg => rfl); (case hr => first | (go_simp; done) | (go_simp; rfl)); intro gb690 hg w24 hbox hb; have n0_ := Aside0.mk (blk_below (g := gb689) (o := Z_61) (by (with_reducible repeat first | apply blk_drewN | apply blk_drew | apply blk_alloc); exact BK689.out) hb); have n1_ := Aside0.mk (below_step (by repeat first | (with_reducible first | exact HB.out | apply below_alloc | apply pw_below_drewN | apply below_drew1 | refine below_set ?_ GE689.out) | exact HB.out) hb); have n2_ := Aside0.mk (hbox); have n3_ := Aside0.mk ((by rw [hg]; exact (below_size (by repeat first | (with_reducible first | exact HB.out | apply below_alloc | apply pw_below_drewN | apply below_drew1 | refine below_set ?_ GE689.out) | exact HB.out)) : w.heap.size ≤ gb690)); have n4_ := Aside0.mk ((by rw [hg]; exact (below_size (by repeat first | (with_reducible first | exact HB.out | apply below_alloc | apply pw_below_drewN | apply below_drew1 | refine below_set ?_ GE689.out) | exact HB.out)) : w.heap.size ≤ gb690)); have n5_ := Aside0.mk ((by rw [hg]; exact Nat.ne_of_lt (blk_lt (g := gb689) (o := Z_61) (by (with_reducible repeat first | apply blk_drewN | apply blk_drew | apply blk_alloc); exact BK689.out)) : gb689 ≠ gb690)); have n6_ := Aside0.mk ((by rw [hg]; exact Nat.ne_of_gt (blk_lt (g := gb689) (o := Z_61) (by (with_reducible repeat first | apply blk_drewN | apply blk_drew | apply blk_alloc); exact BK689.out)) : gb690 ≠ gb689)); clear BK689; clear HB; have BK689 := n0_; have HB := n1_; have BK690 := n2_; have GW690 := n3_; have GE690 := n4_; have NB689_690 := n5_; have NB690_689 := n6_; clear n0_ n1_ n2_ n3_ n4_ n5_ n6_; clear hb hbox hg; have hnb25 := NB690_689.out; have hnc25 := NB689_690.out; have hcz26_0 : w24.cell? ⟨gb690, 0, none⟩ = some (.int .u8 0) := (blk_cell BK690.out 0).trans rfl; have hcz26_1 : w24.cell? ⟨gb690, 1, none⟩ = some (.int .u32 0) := (blk_cell BK690.out 1).trans rfl; have hcz26_2 : w24.cell? ⟨gb690, 2, none⟩ = some (.int .u32 0) := (blk_cell BK690.out 2).trans rfl; have hcz26_3 : w24.cell? ⟨gb690, 3, none⟩ = some (.int .i64 0) := (blk_cell BK690.out 3).trans rfl; have hcz26_4 : w24.cell? ⟨gb690, 4, none⟩ = some (.int .i64 0) := (blk_cell BK690.out 4).trans rfl; have hcz26_5 : w24.cell? ⟨gb690, 5, none⟩ = some (.int .u8 0) := (blk_cell BK690.out 5).trans rfl; have hcz26_6 : w24.cell? ⟨gb690, 6, none⟩ = some (.int .u16 0) := (blk_cell BK690.out 6).trans rfl; have hfz26_0 := blk_frozen BK690.out 0; have hfz26_1 := blk_frozen BK690.out 1; have hfz26_2 := blk_frozen BK690.out 2; have hfz26_3 := blk_frozen BK690.out 3; have hfz26_4 := blk_frozen BK690.out 4; have hfz26_5 := blk_frozen BK690.out 5; have hfz26_6 := blk_frozen BK690.out 6) | ((with_reducible refine gate_store (t := 61) (p := 5) rfl ?_); refine store_event (t := 61) (p := 5) (v := ?vo_w27) (w1 := (((((((w24.setCell ⟨gb690, 0, none⟩ (.int .u8 0)).setCell ⟨gb690, 1, none⟩ (.int .u32 0)).setCell ⟨gb690, 2, none⟩ (.int .u32 0)).setCell ⟨gb690, 3, none⟩ (.int .i64 0)).setCell ⟨gb690, 4, none⟩ (.int .i64 0)).setCell ⟨gb690, 5, none⟩ (.int .u8 0)).setCell ⟨gb690, 6, none⟩ (.int .u16 0))) ?hg ?ho ?hn ?hr ?_; (case ho => rfl); (case hg => rfl); (case hn => rfl); (case hr => first | (go_simp; done) | (go_simp; rfl)); intro w27 hw; have n0_ : Aside0 (w27.heap[gb689]? = some (.cells #[.int .u8 0, .int .u32 0, .int .u32 0, .int .i64 0, .int .i64 0, .int .u8 0, .int .u16 0] 61 (0, 0))) := ⟨(by rw [hw]; exact (by (with_reducible repeat first | apply blk_drewN | apply blk_drew | apply blk_alloc); refine blk_far ?_ NB689_690.out _; (with_reducible repeat first | apply blk_drewN | apply blk_drew | apply blk_alloc); refine blk_far ?_ NB689_690.out _; (with_reducible repeat first | apply blk_drewN | apply blk_drew | apply blk_alloc); refine blk_far ?_ NB689_690.out _; (with_reducible repeat first | apply blk_drewN | apply blk_drew | apply blk_alloc); refine blk_far ?_ NB689_690.out _; (with_reducible repeat first | apply blk_drewN | apply blk_drew | apply blk_alloc); refine blk_far ?_ NB689_690.out _; (with_reducible repeat first | apply blk_drewN | apply blk_drew | apply blk_alloc); refine blk_far ?_ NB689_690.out _; (with_reducible repeat first | apply blk_drewN | apply blk_drew | apply blk_alloc); refine blk_far ?_ NB689_690.out _; (with_reducible repeat first | apply blk_drewN | apply blk_drew | apply blk_alloc); exact BK689.out))⟩; have n1_ : Aside0 (w27.heap[gb690]? = some (.cells #[.int .u8 0, .int .u32 0, .int .u32 0, .int .i64 0, .int .i64 0, .int .u8 0, .int .u16 0] 61 (0, 0))) := ⟨(by rw [hw]; exact (by (with_reducible repeat first | apply blk_drewN | apply blk_drew | apply blk_alloc); refine blk_put (cs := #[.int .u8 0, .int .u32 0, .int .u32 0, .int .i64 0, .int .i64 0, .int .u8 0, .int .u16 0]) ?_ 6 _ rfl; (with_reducible repeat first | apply blk_drewN | apply blk_drew | apply blk_alloc); refine blk_put (cs := #[.int .u8 0, .int .u32 0, .int .u32 0, .int .i64 0, .int .i64 0, .int .u8 0, .int .u16 0]) ?_ 5 _ rfl; (with_reducible repeat first | apply blk_drewN | apply blk_drew | apply blk_alloc); refine blk_put (cs := #[.int .u8 0, .int .u32 0, .int .u32 0, .int .i64 0, .int .i64 0, .int .u8 0, .int .u16 0]) ?_ 4 _ rfl; (with_reducible repeat first | apply blk_drewN | apply blk_drew | apply blk_alloc); refine blk_put (cs := #[.int .u8 0, .int .u32 0, .int .u32 0, .int .i64 0, .int .i64 0, .int .u8 0, .int .u16 0]) ?_ 3 _ rfl; (with_reducible repeat first | apply blk_drewN | apply blk_drew | apply blk_alloc); refine blk_put (cs := #[.int .u8 0, .int .u32 0, .int .u32 0, .int .i64 0, .int .i64 0, .int .u8 0, .int .u16 0]) ?_ 2 _ rfl; (with_reducible repeat first | apply blk_drewN | apply blk_drew | apply blk_alloc); refine blk_put (cs := #[.int .u8 0, .int .u32 0, .int .u32 0, .int .i64 0, .int .i64 0, .int .u8 0, .int .u16 0]) ?_ 1 _ rfl; (with_reducible repeat first | apply blk_drewN | apply blk_drew | apply blk_alloc); refine blk_put (cs := #[.int .u8 0, .int .u32 0, .int .u32 0, .int .i64 0, .int .i64 0, .int .u8 0, .int .u16 0]) ?_ 0 _ rfl; (with_reducible repeat first | apply blk_drewN | apply blk_drew | apply blk_alloc); exact BK690.out))⟩; have n2_ : Aside0 (Below w.heap.size w w27) := ⟨(by rw [hw]; exact (by repeat first | (with_reducible first | exact HB.out | apply below_alloc | apply pw_below_drewN | apply below_drew1 | refine below_set ?_ GE689.out | refine below_set ?_ GE690.out) | exact HB.out))⟩; clear hw; clear BK689; clear BK690; clear HB; have BK689 := n0_; have BK690 := n1_; have HB := n2_; clear n0_ n1_ n2_; have p691 : 0 ≤ (0 : Int) := (by omega); have q691 : 0 < (l0.length : Int) := of_decide_eq_true (by first | (with_reducible assumption) | assumption); obtain ⟨ad691, e691, hx691_0⟩ := Kd.at_int HR0.out 0 p691 q691; cases e691; have qi691 : (0 < l0.length) = True := eq_true (by omega); (try rw [show ((0 : Int)).toNat = 0 from rfl] at hx691_0); (try rw [Addr.add_zero'] at hx691_0); replace hx691_0 := (HB.out.cell (World.block_lt_of_cell? w _ hx691_0)).trans hx691_0; replace p691 := eq_true p691; replace q691 := eq_true q691; have p692 : 0 ≤ (0 : Int) := (by omega); have q692 : 0 < (l0.length : Int) := of_decide_eq_true (by first | (with_reducible assumption) | assumption); obtain ⟨ad692, e692, hx692_0⟩ := Kd.at_int HR0.out 0 p692 q692; obtain rfl : ad691 = ad692 := (by injection e692); have qi692 : (0 < l0.length) = True := eq_true (by omega); (try rw [show ((0 : Int)).toNat = 0 from rfl] at hx692_0); (try rw [Addr.add_zero'] at hx692_0); replace hx692_0 := (HB.out.cell (World.block_lt_of_cell? w _ hx692_0)).trans hx692_0; replace p692 := eq_true p692; replace q692 := eq_true q692; have hcz28_0 : w27.cell? ⟨gb690, 0, none⟩ = some (.int .u8 0) := (blk_cell BK690.out 0).trans rfl; have hcz28_1 : w27.cell? ⟨gb690, 1, none⟩ = some (.int .u32 0) := (blk_cell BK690.out 1).trans rfl; have hcz28_2 : w27.cell? ⟨gb690, 2, none⟩ = some (.int .u32 0) := (blk_cell BK690.out 2).trans rfl; have hcz28_3 : w27.cell? ⟨gb690, 3, none⟩ = some (.int .i64 0) := (blk_cell BK690.out 3).trans rfl; have hcz28_4 : w27.cell? ⟨gb690, 4, none⟩ = some (.int .i64 0) := (blk_cell BK690.out 4).trans rfl; have hcz28_5 : w27.cell? ⟨gb690, 5, none⟩ = some (.int .u8 0) := (blk_cell BK690.out 5).trans rfl; have hcz28_6 : w27.cell? ⟨gb690, 6, none⟩ = some (.int .u16 0) := (blk_cell BK690.out 6).trans rfl; have hfz28_0 := blk_frozen BK690.out 0; have hfz28_1 := blk_frozen BK690.out 1; have hfz28_2 := blk_frozen BK690.out 2; have hfz28_3 := blk_frozen BK690.out 3; have hfz28_4 := blk_frozen BK690.out 4; have hfz28_5 := blk_frozen BK690.out 5; have hfz28_6 := blk_frozen BK690.out 6; have hcz29_0 : w27.cell? ⟨gb689, 0, none⟩ = some (.int .u8 0) := (blk_cell BK689.out 0).trans rfl; have hcz29_1 : w27.cell? ⟨gb689, 1, none⟩ = some (.int .u32 0) := (blk_cell BK689.out 1).trans rfl; have hcz29_2 : w27.cell? ⟨gb689, 2, none⟩ = some (.int .u32 0) := (blk_cell BK689.out 2).trans rfl; have hcz29_3 : w27.cell? ⟨gb689, 3, none⟩ = some (.int .i64 0) := (blk_cell BK689.out 3).trans rfl; have hcz29_4 : w27.cell? ⟨gb689, 4, none⟩ = some (.int .i64 0) := (blk_cell BK689.out 4).trans rfl; have hcz29_5 : w27.cell? ⟨gb689, 5, none⟩ = some (.int .u8 0) := (blk_cell BK689.out 5).trans rfl; have hcz29_6 : w27.cell? ⟨gb689, 6, none⟩ = some (.int .u16 0) := (blk_cell BK689.out 6).trans rfl; have hfz29_0 := blk_frozen BK689.out 0; have hfz29_1 := blk_frozen BK689.out 1; have hfz29_2 := blk_frozen BK689.out 2; have hfz29_3 := blk_frozen BK689.out 3; have hfz29_4 := blk_frozen BK689.out 4; have hfz29_5 := blk_frozen BK689.out 5; have hfz29_6 := blk_frozen BK689.out 6) | ((with_reducible refine gate_store (t := 61) (p := 2) rfl ?_); refine store_event (t := 61) (p := 2) (v := ?vo_w30) (w1 := (((((((w27.setCell ⟨gb689, 0, none⟩ (.int .u8 0)).setCell ⟨gb689, 1, none⟩ (.int .u32 0)).setCell ⟨gb689, 2, none⟩ (.int .u32 0)).setCell ⟨gb689, 3, none⟩ (.int .i64 0)).setCell ⟨gb689, 4, none⟩ (.int .i64 0)).setCell ⟨gb689, 5, none⟩ (.int .u8 0)).setCell ⟨gb689, 6, none⟩ (.int .u16 0))) ?hg ?ho ?hn ?hr ?_; (case ho => rfl); (case hg => rfl); (case hn => rfl); (case hr => first | (go_simp; done) | (go_simp; rfl)); intro w30 hw; have n0_ : Aside0 (w30.heap[gb689]? = some (.cells #[.int .u8 0, .int .u32 0, .int .u32 0, .int .i64 0, .int .i64 0, .int .u8 0, .int .u16 0] 61 (0, 0))) := ⟨(by rw [hw]; exact (by (with_reducible repeat first | apply blk_drewN | apply blk_drew | apply blk_alloc); refine blk_put (cs := #[.int .u8 0, .int .u32 0, .int .u32 0, .int .i64 0, .int .i64 0, .int .u8 0, .int .u16 0]) ?_ 6 _ rfl; (with_reducible repeat first | apply blk_drewN | apply blk_drew | apply blk_alloc); refine blk_put (cs := #[.int .u8 0, .int .u32 0, .int .u32 0, .int .i64 0, .int .i64 0, .int .u8 0, .int .u16 0]) ?_ 5 _ rfl; (with_reducible repeat first | apply blk_drewN | apply blk_drew | apply blk_alloc); refine blk_put (cs := #[.int .u8 0, .int .u32 0, .int .u32 0, .int .i64 0, .int .i64 0, .int .u8 0, .int .u16 0]) ?_ 4 _ rfl; (with_reducible repeat first | apply blk_drewN | apply blk_drew | apply blk_alloc); refine blk_put (cs := #[.int .u8 0, .int .u32 0, .int .u32 0, .int .i64 0, .int .i64 0, .int .u8 0, .int .u16 0]) ?_ 3 _ rfl; (with_reducible repeat first | apply blk_drewN | apply blk_drew | apply blk_alloc); refine blk_put (cs := #[.int .u8 0, .int .u32 0, .int .u32 0, .int .i64 0, .int .i64 0, .int .u8 0, .int .u16 0]) ?_ 2 _ rfl; (with_reducible repeat first | apply blk_drewN | apply blk_drew | apply blk_alloc); refine blk_put (cs := #[.int .u8 0, .int .u32 0, .int .u32 0, .int .i64 0, .int .i64 0, .int .u8 0, .int .u16 0]) ?_ 1 _ rfl; (with_reducible repeat first | apply blk_drewN | apply blk_drew | apply blk_alloc); refine blk_put (cs := #[.int .u8 0, .int .u32 0, .int .u32 0, .int .i64 0, .int .i64 0, .int .u8 0, .int .u16 0]) ?_ 0 _ rfl; (with_reducible repeat first | apply blk_drewN | apply blk_drew | apply blk_alloc); exact BK689.out))⟩; have n1_ : Aside0 (w30.heap[gb690]? = some (.cells #[.int .u8 0, .int .u32 0, .int .u32 0, .int .i64 0, .int .i64 0, .int .u8 0, .int .u16 0] 61 (0, 0))) := ⟨(by rw [hw]; exact (by (with_reducible repeat first | apply blk_drewN | apply blk_drew | apply blk_alloc); refine blk_far ?_ NB690_689.out _; (with_reducible repeat first | apply blk_drewN | apply blk_drew | apply blk_alloc); refine blk_far ?_ NB690_689.out _; (with_reducible repeat first | apply blk_drewN | apply blk_drew | apply blk_alloc); refine blk_far ?_ NB690_689.out _; (with_reducible repeat first | apply blk_drewN | apply blk_drew | apply blk_alloc); refine blk_far ?_ NB690_689.out _; (with_reducible repeat first | apply blk_drewN | apply blk_drew | apply blk_alloc); refine blk_far ?_ NB690_689.out _; (with_reducible repeat first | apply blk_drewN | apply blk_drew | apply blk_alloc); refine blk_far ?_ NB690_689.out _; (with_reducible repeat first | apply blk_drewN | apply blk_drew | apply blk_alloc); refine blk_far ?_ NB690_689.out _; (with_reducible repeat first | apply blk_drewN | apply blk_drew | apply blk_alloc); exact BK690.out))⟩; have n2_ : Aside0 (Below w.heap.size w w30) := ⟨(by rw [hw]; exact (by repeat first | (with_reducible first | exact HB.out | apply below_alloc | apply pw_below_drewN | apply below_drew1 | refine below_set ?_ GE689.out | refine below_set ?_ GE690.out) | exact HB.out))⟩; clear hw; clear BK689; clear BK690; clear HB; have BK689 := n0_; have BK690 := n1_; have HB := n2_; clear n0_ n1_ n2_))
      refine bodyPost_ret (results_ctt rfl _ _ gb689 61 #[.int .u8 0, .int .u32 0, .int .u32 0, .int .i64 0, .int .i64 0, .int .u8 0, .int .u16 0] (0, 0) _ rfl (by (with_reducible repeat first | apply blk_drewN | apply blk_drew | apply blk_alloc); exact BK689.out) Try.underlying61 rfl (by kernel_rfl)) rfl ?_
      exact ⟨_, by first | rfl | (simp [errW_none, errW_some] <;> rfl) | (simp [*, errW_none, errW_some] <;> rfl), by first | exact Kd.R_nil _ _ _ _ _ | exact Kd.N_nil _ _ _ _ _ | exact Kd.V_nil _ _ _ _ _ | exact Kd.Q_nil _ _ _ _ _ | exact Kd.S_nil _ _ _ _ _, by repeat first | (with_reducible first | exact HB.out | apply below_alloc | apply pw_below_drewN | apply below_drew1 | refine below_set ?_ GE689.out | refine below_set ?_ GE690.out) | exact HB.out⟩
     ·rw [if_neg c22] at H
      have c22b0 : decide ((wrap64 (4 * (wrap64 (Int.tmod (rd l0 0) 16)))) < 20) = false := decide_eq_false c22
      clear c22
      replace H := Option.bind_eq_some_iff.mp H
      obtain ⟨t693, A310, H⟩ := H
      replace H : (if (wrap64 (4 * (wrap64 (Int.tmod (rd l0 0) 16)))) > (l0.length : Int) then (mantletref04_Parse.j0 k l0 (wrap64 (4 * (wrap64 (Int.tmod (rd l0 0) 16)))) t693 true 0 0 0 0 0 0 0) else (if t693 < (wrap64 (4 * (wrap64 (Int.tmod (rd l0 0) 16)))) then (mantletref04_Parse.j0 k l0 (wrap64 (4 * (wrap64 (Int.tmod (rd l0 0) 16)))) t693 true 0 0 0 0 0 0 0) else (mantletref04_Parse.j0 k l0 (wrap64 (4 * (wrap64 (Int.tmod (rd l0 0) 16)))) t693 (decide (t693 > (l0.length : Int))) 0 0 0 0 0 0 0))) = some (r1, r2, r3, r4, r5, r6, r7, r8, r9) := H
      have A31 := Aside0.mk A310
      clear A310
      have HC32 := Aside0.mk H
      clear H
      go_enter Try.func48, Try.ntmps48
      go_upto_region 12 with (first | ((with_reducible refine gate_dst (N := 2) rfl ?_); (try (refine gate_guard (by rfl) ?_; dsimp only)); refine box_event ?hg (N := 2) ?hd (cs := #[.int .u8 0, .int .u32 0, .int .u32 0, .int .i64 0, .int .i64 0, .int .u8 0, .int .u16 0]) (t := 61) ?hr ?_; (case hd => rfl); (case hg => rfl); (case hr => first | (go_simp; done) | (go_simp; rfl)); intro gb689 hg w33 hbox hb; have n0_ := Aside0.mk (below_step (by repeat first | (with_reducible first | exact HB.out | apply below_alloc | apply pw_below_drewN | apply below_drew1) | exact HB.out) hb); have n1_ := Aside0.mk (hbox); have n2_ := Aside0.mk ((by rw [hg]; exact (below_size (by repeat first | (with_reducible first | exact HB.out | apply below_alloc | apply pw_below_drewN | apply below_drew1) | exact HB.out)) : w.heap.size ≤ gb689)); have n3_ := Aside0.mk ((by rw [hg]; exact (below_size (by repeat first | (with_reducible first | exact HB.out | apply below_alloc | apply pw_below_drewN | apply below_drew1) | exact HB.out)) : w.heap.size ≤ gb689)); clear HB; have HB := n0_; have BK689 := n1_; have GW689 := n2_; have GE689 := n3_; clear n0_ n1_ n2_ n3_; clear hb hbox hg) | ((with_reducible refine gate_dst (N := 5) rfl ?_); (try (refine gate_guard (by rfl) ?_; dsimp only)); refine box_event ?hg (N := 5) ?hd (cs := #[.int .u8 0, .int .u32 0, .int .u32 0, .int .i64 0, .int .i64 0, .int .u8 0, .int .u16 0]) (t := 61) ?hr ?_; (case hd => rfl); (case hg => rfl); (case hr => first | (go_simp; done) | (go_simp; rfl)); intro gb690 hg w34 hbox hb; have n0_ := Aside0.mk (blk_below (g := gb689) (o := Z_61) (by (with_reducible repeat first | apply blk_drewN | apply blk_drew | apply blk_alloc); exact BK689.out) hb); have n1_ := Aside0.mk (below_step (by repeat first | (with_reducible first | exact HB.out | apply below_alloc | apply pw_below_drewN | apply below_drew1 | refine below_set ?_ GE689.out) | exact HB.out) hb); have n2_ := Aside0.mk (hbox); have n3_ := Aside0.mk ((by rw [hg]; exact (below_size (by repeat first | (with_reducible first | exact HB.out | apply below_alloc | apply pw_below_drewN | apply below_drew1 | refine below_set ?_ GE689.out) | exact HB.out)) : w.heap.size ≤ gb690)); have n4_ := Aside0.mk ((by rw [hg]; exact (below_size (by repeat first | (with_reducible first | exact HB.out | apply below_alloc | apply pw_below_drewN | apply below_drew1 | refine below_set ?_ GE689.out) | exact HB.out)) : w.heap.size ≤ gb690)); have n5_ := Aside0.mk ((by rw [hg]; exact Nat.ne_of_lt (blk_lt (g := gb689) (o := Z_61) (by (with_reducible repeat first | apply blk_drewN | apply blk_drew | apply blk_alloc); exact BK689.out)) : gb689 ≠ gb690)); have n6_ := Aside0.mk ((by rw [hg]; exact Nat.ne_of_gt (blk_lt (g := gb689) (o := Z_61) (by (with_reducible repeat first | apply blk_drewN | apply blk_drew | apply blk_alloc); exact BK689.out)) : gb690 ≠ gb689)); clear BK689; clear HB; have BK689 := n0_; have HB := n1_; have BK690 := n2_; have GW690 := n3_; have GE690 := n4_; have NB689_690 := n5_; have NB690_689 := n6_; clear n0_ n1_ n2_ n3_ n4_ n5_ n6_; clear hb hbox hg; have hnb35 := NB690_689.out; have hnc35 := NB689_690.out; have hcz36_0 : w34.cell? ⟨gb690, 0, none⟩ = some (.int .u8 0) := (blk_cell BK690.out 0).trans rfl; have hcz36_1 : w34.cell? ⟨gb690, 1, none⟩ = some (.int .u32 0) := (blk_cell BK690.out 1).trans rfl; have hcz36_2 : w34.cell? ⟨gb690, 2, none⟩ = some (.int .u32 0) := (blk_cell BK690.out 2).trans rfl; have hcz36_3 : w34.cell? ⟨gb690, 3, none⟩ = some (.int .i64 0) := (blk_cell BK690.out 3).trans rfl; have hcz36_4 : w34.cell? ⟨gb690, 4, none⟩ = some (.int .i64 0) := (blk_cell BK690.out 4).trans rfl; have hcz36_5 : w34.cell? ⟨gb690, 5, none⟩ = some (.int .u8 0) := (blk_cell BK690.out 5).trans rfl; have hcz36_6 : w34.cell? ⟨gb690, 6, none⟩ = some (.int .u16 0) := (blk_cell BK690.out 6).trans rfl; have hfz36_0 := blk_frozen BK690.out 0; have hfz36_1 := blk_frozen BK690.out 1; have hfz36_2 := blk_frozen BK690.out 2; have hfz36_3 := blk_frozen BK690.out 3; have hfz36_4 := blk_frozen BK690.out 4; have hfz36_5 := blk_frozen BK690.out 5; have hfz36_6 := blk_frozen BK690.out 6) | ((with_reducible refine gate_store (t := 61) (p := 5) rfl ?_); refine store_event (t := 61) (p := 5) (v := ?vo_w37) (w1 := (((((((w34.setCell ⟨gb690, 0, none⟩ (.int .u8 0)).setCell ⟨gb690, 1, none⟩ (.int .u32 0)).setCell ⟨gb690, 2, none⟩ (.int .u32 0)).setCell ⟨gb690, 3, none⟩ (.int .i64 0)).setCell ⟨gb690, 4, none⟩ (.int .i64 0)).setCell ⟨gb690, 5, none⟩ (.int .u8 0)).setCell ⟨gb690, 6, none⟩ (.int .u16 0))) ?hg ?ho ?hn ?hr ?_; (case ho => rfl); (case hg => rfl); (case hn => rfl); (case hr => first | (go_simp; done) | (go_simp; rfl)); intro w37 hw; have n0_ : Aside0 (w37.heap[gb689]? = some (.cells #[.int .u8 0, .int .u32 0, .int .u32 0, .int .i64 0, .int .i64 0, .int .u8 0, .int .u16 0] 61 (0, 0))) := ⟨(by rw [hw]; exact (by (with_reducible repeat first | apply blk_drewN | apply blk_drew | apply blk_alloc); refine blk_far ?_ NB689_690.out _; (with_reducible repeat first | apply blk_drewN | apply blk_drew | apply blk_alloc); refine blk_far ?_ NB689_690.out _; (with_reducible repeat first | apply blk_drewN | apply blk_drew | apply blk_alloc); refine blk_far ?_ NB689_690.out _; (with_reducible repeat first | apply blk_drewN | apply blk_drew | apply blk_alloc); refine blk_far ?_ NB689_690.out _; (with_reducible repeat first | apply blk_drewN | apply blk_drew | apply blk_alloc); refine blk_far ?_ NB689_690.out _; (with_reducible repeat first | apply blk_drewN | apply blk_drew | apply blk_alloc); refine blk_far ?_ NB689_690.out _; (with_reducible repeat first | apply blk_drewN | apply blk_drew | apply blk_alloc); refine blk_far ?_ NB689_690.out _; (with_reducible repeat first | apply blk_drewN | apply blk_drew | apply blk_alloc); exact BK689.out))⟩; have n1_ : Aside0 (w37.heap[gb690]? = some (.cells #[.int .u8 0, .int .u32 0, .int .u32 0, .int .i64 0, .int .i64 0, .int .u8 0, .int .u16 0] 61 (0, 0))) := ⟨(by rw [hw]; exact (by (with_reducible repeat first | apply blk_drewN | apply blk_drew | apply blk_alloc); refine blk_put (cs := #[.int .u8 0, .int .u32 0, .int .u32 0, .int .i64 0, .int .i64 0, .int .u8 0, .int .u16 0]) ?_ 6 _ rfl; (with_reducible repeat first | apply blk_drewN | apply blk_drew | apply blk_alloc); refine blk_put (cs := #[.int .u8 0, .int .u32 0, .int .u32 0, .int .i64 0, .int .i64 0, .int .u8 0, .int .u16 0]) ?_ 5 _ rfl; (with_reducible repeat first | apply blk_drewN | apply blk_drew | apply blk_alloc); refine blk_put (cs := #[.int .u8 0, .int .u32 0, .int .u32 0, .int .i64 0, .int .i64 0, .int .u8 0, .int .u16 0]) ?_ 4 _ rfl; (with_reducible repeat first | apply blk_drewN | apply blk_drew | apply blk_alloc); refine blk_put (cs := #[.int .u8 0, .int .u32 0, .int .u32 0, .int .i64 0, .int .i64 0, .int .u8 0, .int .u16 0]) ?_ 3 _ rfl; (with_reducible repeat first | apply blk_drewN | apply blk_drew | apply blk_alloc); refine blk_put (cs := #[.int .u8 0, .int .u32 0, .int .u32 0, .int .i64 0, .int .i64 0, .int .u8 0, .int .u16 0]) ?_ 2 _ rfl; (with_reducible repeat first | apply blk_drewN | apply blk_drew | apply blk_alloc); refine blk_put (cs := #[.int .u8 0, .int .u32 0, .int .u32 0, .int .i64 0, .int .i64 0, .int .u8 0, .int .u16 0]) ?_ 1 _ rfl; (with_reducible repeat first | apply blk_drewN | apply blk_drew | apply blk_alloc); refine blk_put (cs := #[.int .u8 0, .int .u32 0, .int .u32 0, .int .i64 0, .int .i64 0, .int .u8 0, .int .u16 0]) ?_ 0 _ rfl; (with_reducible repeat first | apply blk_drewN | apply blk_drew | apply blk_alloc); exact BK690.out))⟩; have n2_ : Aside0 (Below w.heap.size w w37) := ⟨(by rw [hw]; exact (by repeat first | (with_reducible first | exact HB.out | apply below_alloc | apply pw_below_drewN | apply below_drew1 | refine below_set ?_ GE689.out | refine below_set ?_ GE690.out) | exact HB.out))⟩; clear hw; clear BK689; clear BK690; clear HB; have BK689 := n0_; have BK690 := n1_; have HB := n2_; clear n0_ n1_ n2_; have p691 : 0 ≤ (0 : Int) := (by omega); have q691 : 0 < (l0.length : Int) := of_decide_eq_true (by first | (with_reducible assumption) | assumption); obtain ⟨ad691, e691, hx691_0⟩ := Kd.at_int HR0.out 0 p691 q691; cases e691; have qi691 : (0 < l0.length) = True := eq_true (by omega); (try rw [show ((0 : Int)).toNat = 0 from rfl] at hx691_0); (try rw [Addr.add_zero'] at hx691_0); replace hx691_0 := (HB.out.cell (World.block_lt_of_cell? w _ hx691_0)).trans hx691_0; replace p691 := eq_true p691; replace q691 := eq_true q691; have p692 : 0 ≤ (0 : Int) := (by omega); have q692 : 0 < (l0.length : Int) := of_decide_eq_true (by first | (with_reducible assumption) | assumption); obtain ⟨ad692, e692, hx692_0⟩ := Kd.at_int HR0.out 0 p692 q692; obtain rfl : ad691 = ad692 := (by injection e692); have qi692 : (0 < l0.length) = True := eq_true (by omega); (try rw [show ((0 : Int)).toNat = 0 from rfl] at hx692_0); (try rw [Addr.add_zero'] at hx692_0); replace hx692_0 := (HB.out.cell (World.block_lt_of_cell? w _ hx692_0)).trans hx692_0; replace p692 := eq_true p692; replace q692 := eq_true q692) | ((with_reducible refine gate_callee (f := 66) rfl ?_); refine goesL_ (some 33) rfl rfl Try.func66 (by kernel_rfl) rfl #[.slice (some ad691) l0.length c0, .int .i64 2] rfl (by (try simp only [List.map_toArray, List.map_cons, List.map_nil]); first | done | rfl) ?_; (with_reducible refine (mantletref04_Two.calls _ _ l0 2 t693 _ ?side1 ?side2 A31.out).mono ?_); (case side1 => repeat (first | exact (Kd.C_below HR0.out HB.out) | (with_reducible refine Kd.C_alloc ?_ _) | (with_reducible refine Kd.C_drewN ?_ _) | (with_reducible refine Kd.C_drew ?_))); (case side2 => exact HC0.out); rintro e w' ⟨rfl, ⟨nd, rfl⟩⟩; refine ⟨_, rfl, ?_⟩))
      (try simp only [Act.put, List.setIfInBounds_toArray, List.set_cons_zero, List.set_cons_succ])
      go_cut [48] (fun v48 wc => ∃ (kq : Nat) (x48_31 : Bool), v48 = .bool x48_31 ∧ Aside0 (mantletref04_Parse.j0 kq l0 (wrap64 (4 * (wrap64 (Int.tmod (rd l0 0) 16)))) t693 x48_31 0 0 0 0 0 0 0 = some (r1, r2, r3, r4, r5, r6, r7, r8, r9)) ∧ Aside0 (kq ≤ k) ∧ Aside0 (wc.heap[gb689]? = some (.cells #[.int .u8 0, .int .u32 0, .int .u32 0, .int .i64 0, .int .i64 0, .int .u8 0, .int .u16 0] 61 (0, 0))) ∧ Aside0 (wc.heap[gb690]? = some (.cells #[.int .u8 0, .int .u32 0, .int .u32 0, .int .i64 0, .int .i64 0, .int .u8 0, .int .u16 0] 61 (0, 0))) ∧ Aside0 (Below w.heap.size w wc))
      case first =>
       have H := HC32.out
       clear HC32
       by_cases c38 : (wrap64 (4 * (wrap64 (Int.tmod (rd l0 0) 16)))) > (l0.length : Int)
       ·rw [if_pos c38] at H
        have c38b0 : decide ((l0.length : Int) < (wrap64 (4 * (wrap64 (Int.tmod (rd l0 0) 16))))) = true := decide_eq_true c38
        clear c38
        (first | rw [c38b0] | (simp only [i64_w, i32_w]; rw [c38b0]) | skip)
        have H' := Aside0.mk H
        clear H
        go_wp2
        go_meet
        case rel => exact ⟨_, (true), (by first | rfl | (simp; done) | (simp [*]; done)), H', ⟨by first | omega | exact Nat.le_refl _⟩, ⟨by (with_reducible repeat first | apply blk_drewN | apply blk_drew | apply blk_alloc); exact BK689.out⟩, ⟨by (with_reducible repeat first | apply blk_drewN | apply blk_drew | apply blk_alloc); exact BK690.out⟩, ⟨by repeat first | (with_reducible first | exact HB.out | apply below_alloc | apply pw_below_drewN | apply below_drew1 | refine below_set ?_ GE689.out | refine below_set ?_ GE690.out) | exact HB.out⟩⟩
       ·rw [if_neg c38] at H
        have c38b0 : decide ((l0.length : Int) < (wrap64 (4 * (wrap64 (Int.tmod (rd l0 0) 16))))) = false := decide_eq_false c38
        clear c38
        (first | rw [c38b0] | (simp only [i64_w, i32_w]; rw [c38b0]) | skip)
        by_cases c39 : t693 < (wrap64 (4 * (wrap64 (Int.tmod (rd l0 0) 16))))
        ·rw [if_pos c39] at H
         have c39b0 : decide (t693 < (wrap64 (4 * (wrap64 (Int.tmod (rd l0 0) 16))))) = true := decide_eq_true c39
         clear c39
         have H' := Aside0.mk H
         clear H
         go_wp2
         go_meet
         case rel => exact ⟨_, (true), (by first | rfl | (simp; done) | (simp [*]; done)), H', ⟨by first | omega | exact Nat.le_refl _⟩, ⟨by (with_reducible repeat first | apply blk_drewN | apply blk_drew | apply blk_alloc); exact BK689.out⟩, ⟨by (with_reducible repeat first | apply blk_drewN | apply blk_drew | apply blk_alloc); exact BK690.out⟩, ⟨by repeat first | (with_reducible first | exact HB.out | apply below_alloc | apply pw_below_drewN | apply below_drew1 | refine below_set ?_ GE689.out | refine below_set ?_ GE690.out) | exact HB.out⟩⟩
        ·rw [if_neg c39] at H
         have c39b0 : decide (t693 < (wrap64 (4 * (wrap64 (Int.tmod (rd l0 0) 16))))) = false := decide_eq_false c39
         clear c39
         have H' := Aside0.mk H
         clear H
         go_wp2
         go_meet
         case rel => exact ⟨_, (decide (t693 > (l0.length : Int))), (by first | rfl | (simp; done) | (simp [*]; done)), H', ⟨by first | omega | exact Nat.le_refl _⟩, ⟨by (with_reducible repeat first | apply blk_drewN | apply blk_drew | apply blk_alloc); exact BK689.out⟩, ⟨by (with_reducible repeat first | apply blk_drewN | apply blk_drew | apply blk_alloc); exact BK690.out⟩, ⟨by repeat first | (with_reducible first | exact HB.out | apply below_alloc | apply pw_below_drewN | apply below_drew1 | refine below_set ?_ GE689.out | refine below_set ?_ GE690.out) | exact HB.out⟩⟩
      case rest =>
       clear HC32
       try clear c1
       try clear c2
       try clear c2b0
       try clear c2b1
       try clear p2
       try clear c3
       try clear c4
       try clear c5
       try clear c6
       try clear p6
       try clear q6
       try clear hx6
       try clear qi6
       try clear c11
       try clear c11b0
       try clear c11b1
       try clear c14
       try clear c20
       try clear c20b0
       try clear c20b1
       try clear c21
       try clear c21b0
       try clear c21b1
       try clear c22
       try clear c22b0
       try clear c25
       try clear c35
       try clear c38
       try clear c38b0
       try clear c39
       try clear c39b0
       try clear hcz15_0
       try clear hcz15_1
       try clear hcz15_2
       try clear hcz15_3
       try clear hcz15_4
       try clear hcz15_5
       try clear hcz15_6
       try clear hcz17_0
       try clear hcz17_1
       try clear hcz17_2
       try clear hcz17_3
       try clear hcz17_4
       try clear hcz17_5
       try clear hcz17_6
       try clear hcz18_0
       try clear hcz18_1
       try clear hcz18_2
       try clear hcz18_3
       try clear hcz18_4
       try clear hcz18_5
       try clear hcz18_6
       try clear hcz26_0
       try clear hcz26_1
       try clear hcz26_2
       try clear hcz26_3
       try clear hcz26_4
       try clear hcz26_5
       try clear hcz26_6
       try clear hcz28_0
       try clear hcz28_1
       try clear hcz28_2
       try clear hcz28_3
       try clear hcz28_4
       try clear hcz28_5
       try clear hcz28_6
       try clear hcz29_0
       try clear hcz29_1
       try clear hcz29_2
       try clear hcz29_3
       try clear hcz29_4
       try clear hcz29_5
       try clear hcz29_6
       try clear hcz36_0
       try clear hcz36_1
       try clear hcz36_2
       try clear hcz36_3
       try clear hcz36_4
       try clear hcz36_5
       try clear hcz36_6
       try clear hcz6_0
       try clear hcz6_1
       try clear hcz6_2
       try clear hcz6_3
       try clear hcz6_4
       try clear hcz6_5
       try clear hcz6_6
       try clear hcz8_0
       try clear hcz8_1
       try clear hcz8_2
       try clear hcz8_3
       try clear hcz8_4
       try clear hcz8_5
       try clear hcz8_6
       try clear hcz9_0
       try clear hcz9_1
       try clear hcz9_2
       try clear hcz9_3
       try clear hcz9_4
       try clear hcz9_5
       try clear hcz9_6
       try clear hfz15_0
       try clear hfz15_1
       try clear hfz15_2
       try clear hfz15_3
       try clear hfz15_4
       try clear hfz15_5
       try clear hfz15_6
       try clear hfz17_0
       try clear hfz17_1
       try clear hfz17_2
       try clear hfz17_3
       try clear hfz17_4
       try clear hfz17_5
       try clear hfz17_6
       try clear hfz18_0
       try clear hfz18_1
       try clear hfz18_2
       try clear hfz18_3
       try clear hfz18_4
       try clear hfz18_5
       try clear hfz18_6
       try clear hfz26_0
       try clear hfz26_1
       try clear hfz26_2
       try clear hfz26_3
       try clear hfz26_4
       try clear hfz26_5
       try clear hfz26_6
       try clear hfz28_0
       try clear hfz28_1
       try clear hfz28_2
       try clear hfz28_3
       try clear hfz28_4
       try clear hfz28_5
       try clear hfz28_6
       try clear hfz29_0
       try clear hfz29_1
       try clear hfz29_2
       try clear hfz29_3
       try clear hfz29_4
       try clear hfz29_5
       try clear hfz29_6
       try clear hfz36_0
       try clear hfz36_1
       try clear hfz36_2
       try clear hfz36_3
       try clear hfz36_4
       try clear hfz36_5
       try clear hfz36_6
       try clear hfz6_0
       try clear hfz6_1
       try clear hfz6_2
       try clear hfz6_3
       try clear hfz6_4
       try clear hfz6_5
       try clear hfz6_6
       try clear hfz8_0
       try clear hfz8_1
       try clear hfz8_2
       try clear hfz8_3
       try clear hfz8_4
       try clear hfz8_5
       try clear hfz8_6
       try clear hfz9_0
       try clear hfz9_1
       try clear hfz9_2
       try clear hfz9_3
       try clear hfz9_4
       try clear hfz9_5
       try clear hfz9_6
       try clear hx691_0
       try clear hx692_0
       try clear p691
       try clear p692
       try clear q691
       try clear q692
       obtain ⟨kq, x48_31, rfl, HA, HJ31, BK689, BK690, HB⟩ := hcut
       cases kq with
       | zero => exact absurd HA.out (by simp [mantletref04_Parse.j0])
       | succ kj31 =>
        have H := HA.out
        clear HA
        simp only [mantletref04_Parse.j0] at H
        by_cases c40 : x48_31 = true
        ·subst c40
         have H1 : (some (0, 0, 0, 0, 0, 0, 0, ([] : List Int), 4)) = some (r1, r2, r3, r4, r5, r6, r7, r8, r9) := by rw [if_pos rfl] at H; exact H
         clear H
         have H := H1
         clear H1
         simp only [Option.some.injEq, Prod.mk.injEq] at H
         obtain ⟨rfl, rfl, rfl, rfl, rfl, rfl, rfl, rfl, rfl⟩ := H
         have hnb41 := NB690_689.out
         have hnc41 := NB689_690.out
         have hcz42_0 : wc.cell? ⟨gb690, 0, none⟩ = some (.int .u8 0) := (blk_cell BK690.out 0).trans rfl
         have hcz42_1 : wc.cell? ⟨gb690, 1, none⟩ = some (.int .u32 0) := (blk_cell BK690.out 1).trans rfl
         have hcz42_2 : wc.cell? ⟨gb690, 2, none⟩ = some (.int .u32 0) := (blk_cell BK690.out 2).trans rfl
         have hcz42_3 : wc.cell? ⟨gb690, 3, none⟩ = some (.int .i64 0) := (blk_cell BK690.out 3).trans rfl
         have hcz42_4 : wc.cell? ⟨gb690, 4, none⟩ = some (.int .i64 0) := (blk_cell BK690.out 4).trans rfl
         have hcz42_5 : wc.cell? ⟨gb690, 5, none⟩ = some (.int .u8 0) := (blk_cell BK690.out 5).trans rfl
         have hcz42_6 : wc.cell? ⟨gb690, 6, none⟩ = some (.int .u16 0) := (blk_cell BK690.out 6).trans rfl
         have hfz42_0 := blk_frozen BK690.out 0
         have hfz42_1 := blk_frozen BK690.out 1
         have hfz42_2 := blk_frozen BK690.out 2
         have hfz42_3 := blk_frozen BK690.out 3
         have hfz42_4 := blk_frozen BK690.out 4
         have hfz42_5 := blk_frozen BK690.out 5
         have hfz42_6 := blk_frozen BK690.out 6
         have hcz43_0 : wc.cell? ⟨gb689, 0, none⟩ = some (.int .u8 0) := (blk_cell BK689.out 0).trans rfl
         have hcz43_1 : wc.cell? ⟨gb689, 1, none⟩ = some (.int .u32 0) := (blk_cell BK689.out 1).trans rfl
         have hcz43_2 : wc.cell? ⟨gb689, 2, none⟩ = some (.int .u32 0) := (blk_cell BK689.out 2).trans rfl
         have hcz43_3 : wc.cell? ⟨gb689, 3, none⟩ = some (.int .i64 0) := (blk_cell BK689.out 3).trans rfl
         have hcz43_4 : wc.cell? ⟨gb689, 4, none⟩ = some (.int .i64 0) := (blk_cell BK689.out 4).trans rfl
         have hcz43_5 : wc.cell? ⟨gb689, 5, none⟩ = some (.int .u8 0) := (blk_cell BK689.out 5).trans rfl
         have hcz43_6 : wc.cell? ⟨gb689, 6, none⟩ = some (.int .u16 0) := (blk_cell BK689.out 6).trans rfl
         have hfz43_0 := blk_frozen BK689.out 0
         have hfz43_1 := blk_frozen BK689.out 1
         have hfz43_2 := blk_frozen BK689.out 2
         have hfz43_3 := blk_frozen BK689.out 3
         have hfz43_4 := blk_frozen BK689.out 4
         have hfz43_5 := blk_frozen BK689.out 5
         have hfz43_6 := blk_frozen BK689.out 6
         go_wp2_with (first | ((with_reducible refine gate_store (t := 61) (p := 2) rfl ?_); refine store_event (t := 61) (p := 2) (v := ?vo_w44) (w1 := (((((((wc.setCell ⟨gb689, 0, none⟩ (.int .u8 0)).setCell ⟨gb689, 1, none⟩ (.int .u32 0)).setCell ⟨gb689, 2, none⟩ (.int .u32 0)).setCell ⟨gb689, 3, none⟩ (.int .i64 0)).setCell ⟨gb689, 4, none⟩ (.int .i64 0)).setCell ⟨gb689, 5, none⟩ (.int .u8 0)).setCell ⟨gb689, 6, none⟩ (.int .u16 0))) ?hg ?ho ?hn ?hr ?_; (case ho => rfl); (case hg => rfl); (case hn => rfl); (case hr => first | (go_simp; done) | (go_simp; rfl)); intro w44 hw; have n0_ : Aside0 (w44.heap[gb689]? = some (.cells #[.int .u8 0, .int .u32 0, .int .u32 0, .int .i64 0, .int .i64 0, .int .u8 0, .int .u16 0] 61 (0, 0))) := ⟨(by rw [hw]; exact (by (with_reducible repeat first | apply blk_drewN | apply blk_drew | apply blk_alloc); refine blk_put (cs := #[.int .u8 0, .int .u32 0, .int .u32 0, .int .i64 0, .int .i64 0, .int .u8 0, .int .u16 0]) ?_ 6 _ rfl; (with_reducible repeat first | apply blk_drewN | apply blk_drew | apply blk_alloc); refine blk_put (cs := #[.int .u8 0, .int .u32 0, .int .u32 0, .int .i64 0, .int .i64 0, .int .u8 0, .int .u16 0]) ?_ 5 _ rfl; (with_reducible repeat first | apply blk_drewN | apply blk_drew | apply blk_alloc); refine blk_put (cs := #[.int .u8 0, .int .u32 0, .int .u32 0, .int .i64 0, .int .i64 0, .int .u8 0, .int .u16 0]) ?_ 4 _ rfl; (with_reducible repeat first | apply blk_drewN | apply blk_drew | apply blk_alloc); refine blk_put (cs := #[.int .u8 0, .int .u32 0, .int .u32 0, .int .i64 0, .int .i64 0, .int .u8 0, .int .u16 0]) ?_ 3 _ rfl; (with_reducible repeat first | apply blk_drewN | apply blk_drew | apply blk_alloc); refine blk_put (cs := #[.int .u8 0, .int .u32 0, .int .u32 0, .int .i64 0, .int .i64 0, .int .u8 0, .int .u16 0]) ?_ 2 _ rfl; (with_reducible repeat first | apply blk_drewN | apply blk_drew | apply blk_alloc); refine blk_put (cs := #[.int .u8 0, .int .u32 0, .int .u32 0, .int .i64 0, .int .i64 0, .int .u8 0, .int .u16 0]) ?_ 1 _ rfl; (with_reducible repeat first | apply blk_drewN | apply blk_drew | apply blk_alloc); refine blk_put (cs := #[.int .u8 0, .int .u32 0, .int .u32 0, .int .i64 0, .int .i64 0, .int .u8 0, .int .u16 0]) ?_ 0 _ rfl; (with_reducible repeat first | apply blk_drewN | apply blk_drew | apply blk_alloc); exact BK689.out))⟩; have n1_ : Aside0 (w44.heap[gb690]? = some (.cells #[.int .u8 0, .int .u32 0, .int .u32 0, .int .i64 0, .int .i64 0, .int .u8 0, .int .u16 0] 61 (0, 0))) := ⟨(by rw [hw]; exact (by (with_reducible repeat first | apply blk_drewN | apply blk_drew | apply blk_alloc); refine blk_far ?_ NB690_689.out _; (with_reducible repeat first | apply blk_drewN | apply blk_drew | apply blk_alloc); refine blk_far ?_ NB690_689.out _; (with_reducible repeat first | apply blk_drewN | apply blk_drew | apply blk_alloc); refine blk_far ?_ NB690_689.out _; (with_reducible repeat first | apply blk_drewN | apply blk_drew | apply blk_alloc); refine blk_far ?_ NB690_689.out _; (with_reducible repeat first | apply blk_drewN | apply blk_drew | apply blk_alloc); refine blk_far ?_ NB690_689.out _; (with_reducible repeat first | apply blk_drewN | apply blk_drew | apply blk_alloc); refine blk_far ?_ NB690_689.out _; (with_reducible repeat first | apply blk_drewN | apply blk_drew | apply blk_alloc); refine blk_far ?_ NB690_689.out _; (with_reducible repeat first | apply blk_drewN | apply blk_drew | apply blk_alloc); exact BK690.out))⟩; have n2_ : Aside0 (Below w.heap.size w w44) := ⟨(by rw [hw]; exact (by repeat first | (with_reducible first | exact HB.out | apply below_alloc | apply pw_below_drewN | apply below_drew1 | refine below_set ?_ GE689.out | refine below_set ?_ GE690.out) | exact HB.out))⟩; clear hw; clear BK689; clear BK690; clear HB; have BK689 := n0_; have BK690 := n1_; have HB := n2_; clear n0_ n1_ n2_))
         refine bodyPost_ret (results_ctt rfl _ _ gb689 61 #[.int .u8 0, .int .u32 0, .int .u32 0, .int .i64 0, .int .i64 0, .int .u8 0, .int .u16 0] (0, 0) _ rfl (by (with_reducible repeat first | apply blk_drewN | apply blk_drew | apply blk_alloc); exact BK689.out) Try.underlying61 rfl (by kernel_rfl)) rfl ?_
         exact ⟨_, by first | rfl | (simp [errW_none, errW_some] <;> rfl) | (simp [*, errW_none, errW_some] <;> rfl), by first | exact Kd.R_nil _ _ _ _ _ | exact Kd.N_nil _ _ _ _ _ | exact Kd.V_nil _ _ _ _ _ | exact Kd.Q_nil _ _ _ _ _ | exact Kd.S_nil _ _ _ _ _, by repeat first | (with_reducible first | exact HB.out | apply below_alloc | apply pw_below_drewN | apply below_drew1 | refine below_set ?_ GE689.out | refine below_set ?_ GE690.out) | exact HB.out⟩
        ·replace c40 := Bool.eq_false_iff.mpr c40
         subst c40
         have H1 : (if 0 ≤ (wrap64 (4 * (wrap64 (Int.tmod (rd l0 0) 16)))) then (if (wrap64 (4 * (wrap64 (Int.tmod (rd l0 0) 16)))) ≤ (l0.length : Int) then ((mantletref02_Add.f kj31 0 (l0.take ((wrap64 (4 * (wrap64 (Int.tmod (rd l0 0) 16)))) : Int).toNat)).bind fun t695 => (if t695 = 65535 then ((mantletref04_Two.f l0 6).bind fun t696 => (if (Int.tmod t696 16384) = 0 then (if 9 < (l0.length : Int) then ((mantletref04_Four.f l0 12).bind fun t698 => ((mantletref04_Four.f l0 16).bind fun t699 => (if 8 < (l0.length : Int) then ((mantletref04_Two.f l0 4).bind fun t701 => ((some (([] : List Int) : List Int)).bind fun y702 => (if (wrap64 (4 * (wrap64 (Int.tmod (rd l0 0) 16)))) ≤ t693 then (if t693 ≤ (l0.length : Int) then ((some ((l0.take (t693 : Int).toNat).drop ((wrap64 (4 * (wrap64 (Int.tmod (rd l0 0) 16)))) : Int).toNat : List Int)).bind fun y705 => (if y702.length + y705.length < 140737488355328 then (some (rd l0 9, t698, t699, (wrap64 (4 * (wrap64 (Int.tmod (rd l0 0) 16)))), t693, rd l0 8, IntKind.u16.wrap (t701), (y702 ++ y705), 0)) else (none))) else (none)) else (none)))) else (none)))) else (none)) else (some (0, 0, 0, 0, 0, 0, 0, ([] : List Int), 8)))) else (some (0, 0, 0, 0, 0, 0, 0, ([] : List Int), 7)))) else (none)) else (none)) = some (r1, r2, r3, r4, r5, r6, r7, r8, r9) := by rw [if_neg (show ¬ (false = true) by decide)] at H; exact H
         clear H
         have H := H1
         clear H1
         obtain ⟨ji45, hji45⟩ : ∃ j_ : Int, (wrap64 (4 * (wrap64 (Int.tmod (rd l0 0) 16)))) = j_ := ⟨_, rfl⟩
         replace H : (if 0 ≤ (ji45) then (if (ji45) ≤ (l0.length : Int) then ((mantletref02_Add.f kj31 0 (l0.take ((ji45) : Int).toNat)).bind fun t695 => (if t695 = 65535 then ((mantletref04_Two.f l0 6).bind fun t696 => (if (Int.tmod t696 16384) = 0 then (if 9 < (l0.length : Int) then ((mantletref04_Four.f l0 12).bind fun t698 => ((mantletref04_Four.f l0 16).bind fun t699 => (if 8 < (l0.length : Int) then ((mantletref04_Two.f l0 4).bind fun t701 => ((some (([] : List Int) : List Int)).bind fun y702 => (if (ji45) ≤ t693 then (if t693 ≤ (l0.length : Int) then ((some ((l0.take (t693 : Int).toNat).drop ((ji45) : Int).toNat : List Int)).bind fun y705 => (if y702.length + y705.length < 140737488355328 then (some (rd l0 9, t698, t699, (ji45), t693, rd l0 8, IntKind.u16.wrap (t701), (y702 ++ y705), 0)) else (none))) else (none)) else (none)))) else (none)))) else (none)) else (some (0, 0, 0, 0, 0, 0, 0, ([] : List Int), 8)))) else (some (0, 0, 0, 0, 0, 0, 0, ([] : List Int), 7)))) else (none)) else (none)) = some (r1, r2, r3, r4, r5, r6, r7, r8, r9) := by first | (rw [hji45] at H; exact H) | (simp only [hji45] at H ⊢; exact H)
         (try rw [hji45] at c22b0)
         have hji45w : (IntKind.i64.wrap (4 * (wrap64 (Int.tmod (rd l0 0) 16)))) = ji45 := (i64_w _).trans hji45
         by_cases c46 : 0 ≤ (ji45)
         ·rw [if_pos c46] at H
          have c46b0 := eq_true c46
          have c46b1 : decide (0 ≤ (ji45)) = true := decide_eq_true c46
          clear c46
          by_cases c47 : (ji45) ≤ (l0.length : Int)
          ·rw [if_pos c47] at H
           have c47b0 := eq_true c47
           have c47b1 : decide ((ji45) ≤ (l0.length : Int)) = true := decide_eq_true c47
           (try have c47b4 : ((ji45) ≤ (c0 : Int)) = True := eq_true (by have h_ := HC0.out; have h2_ := c47; omega))
           clear c47
           replace H := Option.bind_eq_some_iff.mp H
           obtain ⟨t695, A480, H⟩ := H
           replace H : (if t695 = 65535 then ((mantletref04_Two.f l0 6).bind fun t696 => (if (Int.tmod t696 16384) = 0 then (if 9 < (l0.length : Int) then ((mantletref04_Four.f l0 12).bind fun t698 => ((mantletref04_Four.f l0 16).bind fun t699 => (if 8 < (l0.length : Int) then ((mantletref04_Two.f l0 4).bind fun t701 => ((some (([] : List Int) : List Int)).bind fun y702 => (if (ji45) ≤ t693 then (if t693 ≤ (l0.length : Int) then ((some ((l0.take (t693 : Int).toNat).drop ((ji45) : Int).toNat : List Int)).bind fun y705 => (if y702.length + y705.length < 140737488355328 then (some (rd l0 9, t698, t699, (ji45), t693, rd l0 8, IntKind.u16.wrap (t701), (y702 ++ y705), 0)) else (none))) else (none)) else (none)))) else (none)))) else (none)) else (some (0, 0, 0, 0, 0, 0, 0, ([] : List Int), 8)))) else (some (0, 0, 0, 0, 0, 0, 0, ([] : List Int), 7))) = some (r1, r2, r3, r4, r5, r6, r7, r8, r9) := H
           have A48 := Aside0.mk A480
           clear A480
           by_cases c49 : t695 = 65535
           ·rw [if_pos c49] at H
            have c49b0 : (t695 == 65535) = true := beq_iff_eq.mpr c49
            have c49b1 : (t695 != 65535) = false := bne_eq_false_iff_eq.mpr c49
            clear c49
            replace H := Option.bind_eq_some_iff.mp H
            obtain ⟨t696, A500, H⟩ := H
            replace H : (if (Int.tmod t696 16384) = 0 then (if 9 < (l0.length : Int) then ((mantletref04_Four.f l0 12).bind fun t698 => ((mantletref04_Four.f l0 16).bind fun t699 => (if 8 < (l0.length : Int) then ((mantletref04_Two.f l0 4).bind fun t701 => ((some (([] : List Int) : List Int)).bind fun y702 => (if (ji45) ≤ t693 then (if t693 ≤ (l0.length : Int) then ((some ((l0.take (t693 : Int).toNat).drop ((ji45) : Int).toNat : List Int)).bind fun y705 => (if y702.length + y705.length < 140737488355328 then (some (rd l0 9, t698, t699, (ji45), t693, rd l0 8, IntKind.u16.wrap (t701), (y702 ++ y705), 0)) else (none))) else (none)) else (none)))) else (none)))) else (none)) else (some (0, 0, 0, 0, 0, 0, 0, ([] : List Int), 8))) = some (r1, r2, r3, r4, r5, r6, r7, r8, r9) := H
            have A50 := Aside0.mk A500
            clear A500
            by_cases c51 : (Int.tmod t696 16384) = 0
            ·rw [if_pos c51] at H
             have c51b0 : ((Int.tmod t696 16384) == 0) = true := beq_iff_eq.mpr c51
             have c51b1 : ((Int.tmod t696 16384) != 0) = false := bne_eq_false_iff_eq.mpr c51
             clear c51
             by_cases c52 : 9 < (l0.length : Int)
             ·rw [if_pos c52] at H
              have c52b0 : decide (9 < (l0.length : Int)) = true := decide_eq_true c52
              have c52b1 : decide (9 < l0.length) = true := decide_eq_true (by omega)
              clear c52
              replace H := Option.bind_eq_some_iff.mp H
              obtain ⟨t698, A530, H⟩ := H
              replace H : ((mantletref04_Four.f l0 16).bind fun t699 => (if 8 < (l0.length : Int) then ((mantletref04_Two.f l0 4).bind fun t701 => ((some (([] : List Int) : List Int)).bind fun y702 => (if (ji45) ≤ t693 then (if t693 ≤ (l0.length : Int) then ((some ((l0.take (t693 : Int).toNat).drop ((ji45) : Int).toNat : List Int)).bind fun y705 => (if y702.length + y705.length < 140737488355328 then (some (rd l0 9, t698, t699, (ji45), t693, rd l0 8, IntKind.u16.wrap (t701), (y702 ++ y705), 0)) else (none))) else (none)) else (none)))) else (none))) = some (r1, r2, r3, r4, r5, r6, r7, r8, r9) := H
              have A53 := Aside0.mk A530
              clear A530
              replace H := Option.bind_eq_some_iff.mp H
              obtain ⟨t699, A540, H⟩ := H
              replace H : (if 8 < (l0.length : Int) then ((mantletref04_Two.f l0 4).bind fun t701 => ((some (([] : List Int) : List Int)).bind fun y702 => (if (ji45) ≤ t693 then (if t693 ≤ (l0.length : Int) then ((some ((l0.take (t693 : Int).toNat).drop ((ji45) : Int).toNat : List Int)).bind fun y705 => (if y702.length + y705.length < 140737488355328 then (some (rd l0 9, t698, t699, (ji45), t693, rd l0 8, IntKind.u16.wrap (t701), (y702 ++ y705), 0)) else (none))) else (none)) else (none)))) else (none)) = some (r1, r2, r3, r4, r5, r6, r7, r8, r9) := H
              have A54 := Aside0.mk A540
              clear A540
              by_cases c55 : 8 < (l0.length : Int)
              ·rw [if_pos c55] at H
               have c55b0 : decide (8 < (l0.length : Int)) = true := decide_eq_true c55
               have c55b1 : decide (8 < l0.length) = true := decide_eq_true (by omega)
               clear c55
               replace H := Option.bind_eq_some_iff.mp H
               obtain ⟨t701, A560, H⟩ := H
               replace H : ((some (([] : List Int) : List Int)).bind fun y702 => (if (ji45) ≤ t693 then (if t693 ≤ (l0.length : Int) then ((some ((l0.take (t693 : Int).toNat).drop ((ji45) : Int).toNat : List Int)).bind fun y705 => (if y702.length + y705.length < 140737488355328 then (some (rd l0 9, t698, t699, (ji45), t693, rd l0 8, IntKind.u16.wrap (t701), (y702 ++ y705), 0)) else (none))) else (none)) else (none))) = some (r1, r2, r3, r4, r5, r6, r7, r8, r9) := H
               have A56 := Aside0.mk A560
               clear A560
               obtain ⟨y702, hy702⟩ : ∃ y_ : List Int, y_ = (([] : List Int)) := ⟨_, rfl⟩
               replace H : (if (ji45) ≤ t693 then (if t693 ≤ (l0.length : Int) then ((some ((l0.take (t693 : Int).toNat).drop ((ji45) : Int).toNat : List Int)).bind fun y705 => (if y702.length + y705.length < 140737488355328 then (some (rd l0 9, t698, t699, (ji45), t693, rd l0 8, IntKind.u16.wrap (t701), (y702 ++ y705), 0)) else (none))) else (none)) else (none)) = some (r1, r2, r3, r4, r5, r6, r7, r8, r9) := by first | (rw [hy702]; with_reducible exact H) | (have H2_ := (Option.bind_some _ _).symm.trans H; rw [hy702]; with_reducible exact H2_) | (have H2_ := (Option.bind_some _ _).symm.trans H; with_reducible exact H2_) | with_reducible exact H | (rw [hy702]; exact H) | exact H
               have Ny702 := Aside0.mk hy702
               clear hy702
               have c57b0 := eq_true (of_decide_eq_true (by first | (with_reducible assumption) | assumption) : 0 ≤ (ji45))
               by_cases c58 : (ji45) ≤ t693
               ·rw [if_pos c58] at H
                have c58b0 := eq_true c58
                have c58b1 : decide ((ji45) ≤ t693) = true := decide_eq_true c58
                clear c58
                by_cases c59 : t693 ≤ (l0.length : Int)
                ·rw [if_pos c59] at H
                 have c59b0 := eq_true c59
                 have c59b1 : decide (t693 ≤ (l0.length : Int)) = true := decide_eq_true c59
                 (try have c59b4 : (t693 ≤ (c0 : Int)) = True := eq_true (by have h_ := HC0.out; have h2_ := c59; omega))
                 clear c59
                 obtain ⟨y705, hy705⟩ : ∃ y_ : List Int, y_ = ((l0.take (t693 : Int).toNat).drop ((ji45) : Int).toNat) := ⟨_, rfl⟩
                 replace H : (if y702.length + y705.length < 140737488355328 then (some (rd l0 9, t698, t699, (ji45), t693, rd l0 8, IntKind.u16.wrap (t701), (y702 ++ y705), 0)) else (none)) = some (r1, r2, r3, r4, r5, r6, r7, r8, r9) := by first | (rw [hy705]; with_reducible exact H) | (have H2_ := (Option.bind_some _ _).symm.trans H; rw [hy705]; with_reducible exact H2_) | (have H2_ := (Option.bind_some _ _).symm.trans H; with_reducible exact H2_) | with_reducible exact H | (rw [hy705]; exact H) | exact H
                 have Ny705 := Aside0.mk hy705
                 clear hy705
                 by_cases c60 : y702.length + y705.length < 140737488355328
                 ·rw [if_pos c60] at H
                  have LMc60 := Aside0.mk c60
                  clear c60
                  obtain ⟨y709, hy709⟩ : ∃ y_ : List Int, y_ = (y702 ++ y705) := ⟨_, rfl⟩
                  replace H : (some (rd l0 9, t698, t699, (ji45), t693, rd l0 8, IntKind.u16.wrap (t701), y709, 0)) = some (r1, r2, r3, r4, r5, r6, r7, r8, r9) := by first | (rw [hy709]; with_reducible exact H) | (have H2_ := (Option.bind_some _ _).symm.trans H; rw [hy709]; with_reducible exact H2_) | (have H2_ := (Option.bind_some _ _).symm.trans H; with_reducible exact H2_) | with_reducible exact H | (rw [hy709]; exact H) | exact H
                  have Ny709 := Aside0.mk hy709
                  clear hy709
                  simp only [Option.some.injEq, Prod.mk.injEq] at H
                  obtain ⟨rfl, rfl, rfl, rfl, rfl, rfl, rfl, rfl, rfl⟩ := H
                  obtain ⟨i061, hi061, _, hsz61, _⟩ := info_parts info5
                  obtain ⟨hcut61, hA61, hC61⟩ := print_take_of (P := Try.prog) (Value.int .u8) 0 22 5 .i64 Try.underlying22 hi061 hsz61 (some ad691) c0 l0 (ji45) (of_decide_eq_true (by first | (with_reducible assumption) | assumption)) (of_decide_eq_true (by first | (with_reducible assumption) | assumption)) HC0.out
                  have HR694 := Aside0.mk (Kd.C_of_reads (h1 := fun _ => rfl) (hA61 _ (Kd.reads_of_C HR0.out)))
                  have HC694 := Aside0.mk hC61
                  clear hA61 hC61 hi061 hsz61
                  try go_wp2_with (first | ((with_reducible refine gate_callee (f := 65) rfl ?_); refine goesL_ (some 53) rfl rfl Try.func65 (by kernel_rfl) rfl #[.int .i64 0, .slice (some ad691) (l0.take ((ji45) : Int).toNat).length c0] rfl (by (try simp only [List.map_toArray, List.map_cons, List.map_nil]); first | done | (rw [show (l0.take ((ji45) : Int).toNat).length = (ji45).toNat from (by rw [List.length_take]; have h_ : ((ji45) : Int) ≤ (l0.length : Int) := of_decide_eq_true (by first | (with_reducible assumption) | assumption); omega)] <;> rfl) | (simp only [hji45]; rfl) | rfl | (simp only [List.length_drop, List.length_take]; rfl)) ?_; (with_reducible refine (mantletref02_Add.calls kj31 0 _ _ (l0.take ((ji45) : Int).toNat) t695 _ ?side1 ?side2 A48.out).mono ?_); (case side1 => repeat (first | exact (Kd.C_below HR694.out HB.out) | (with_reducible refine Kd.C_alloc ?_ _) | (with_reducible refine Kd.C_drewN ?_ _) | (with_reducible refine Kd.C_drew ?_))); (case side2 => exact HC694.out); rintro e w' ⟨rfl, ⟨nd, rfl⟩⟩; refine ⟨_, rfl, ?_⟩; (try (first | (rw [drewN_self wc]; generalize hq_ : World.drewN wc _ = wc; have n0_ := Aside0.mk (blk_at hq_ BK689.out); have n1_ := Aside0.mk (blk_at hq_ BK690.out); have n2_ := Aside0.mk (below_at hq_ HB.out); clear hq_ BK689 BK690 HB; have BK689 := n0_; have BK690 := n1_; have HB := n2_; clear n0_ n1_ n2_) | (rw [drewN_self wc]; generalize hq_ : World.drewN wc _ = wc; have n0_ : Aside0 (wc.heap[gb689]? = some (.cells #[.int .u8 0, .int .u32 0, .int .u32 0, .int .i64 0, .int .i64 0, .int .u8 0, .int .u16 0] 61 (0, 0))) := ⟨by rw [← hq_]; exact (by (with_reducible repeat first | apply blk_drewN | apply blk_drew | apply blk_alloc); exact BK689.out)⟩; have n1_ : Aside0 (wc.heap[gb690]? = some (.cells #[.int .u8 0, .int .u32 0, .int .u32 0, .int .i64 0, .int .i64 0, .int .u8 0, .int .u16 0] 61 (0, 0))) := ⟨by rw [← hq_]; exact (by (with_reducible repeat first | apply blk_drewN | apply blk_drew | apply blk_alloc); exact BK690.out)⟩; have n2_ : Aside0 (Below w.heap.size w wc) := ⟨by rw [← hq_]; exact (by repeat first | (with_reducible first | exact HB.out | apply below_alloc | apply pw_below_drewN | apply below_drew1 | refine below_set ?_ GE689.out | refine below_set ?_ GE690.out) | exact HB.out)⟩; clear BK689 BK690 HB hq_; have BK689 := n0_; have BK690 := n1_; have HB := n2_; clear n0_ n1_ n2_)))) | ((with_reducible refine gate_callee (f := 66) rfl ?_); refine goesL_ (some 57) rfl rfl Try.func66 (by kernel_rfl) rfl #[.slice (some ad691) l0.length c0, .int .i64 6] rfl (by (try simp only [List.map_toArray, List.map_cons, List.map_nil]); first | done | rfl) ?_; (with_reducible refine (mantletref04_Two.calls _ _ l0 6 t696 _ ?side1 ?side2 A50.out).mono ?_); (case side1 => repeat (first | exact (Kd.C_below HR0.out HB.out) | (with_reducible refine Kd.C_alloc ?_ _) | (with_reducible refine Kd.C_drewN ?_ _) | (with_reducible refine Kd.C_drew ?_))); (case side2 => exact HC0.out); rintro e w' ⟨rfl, ⟨nd, rfl⟩⟩; refine ⟨_, rfl, ?_⟩; (try (first | (rw [drewN_self wc]; generalize hq_ : World.drewN wc _ = wc; have n0_ := Aside0.mk (blk_at hq_ BK689.out); have n1_ := Aside0.mk (blk_at hq_ BK690.out); have n2_ := Aside0.mk (below_at hq_ HB.out); clear hq_ BK689 BK690 HB; have BK689 := n0_; have BK690 := n1_; have HB := n2_; clear n0_ n1_ n2_) | (rw [drewN_self wc]; generalize hq_ : World.drewN wc _ = wc; have n0_ : Aside0 (wc.heap[gb689]? = some (.cells #[.int .u8 0, .int .u32 0, .int .u32 0, .int .i64 0, .int .i64 0, .int .u8 0, .int .u16 0] 61 (0, 0))) := ⟨by rw [← hq_]; exact (by (with_reducible repeat first | apply blk_drewN | apply blk_drew | apply blk_alloc); exact BK689.out)⟩; have n1_ : Aside0 (wc.heap[gb690]? = some (.cells #[.int .u8 0, .int .u32 0, .int .u32 0, .int .i64 0, .int .i64 0, .int .u8 0, .int .u16 0] 61 (0, 0))) := ⟨by rw [← hq_]; exact (by (with_reducible repeat first | apply blk_drewN | apply blk_drew | apply blk_alloc); exact BK690.out)⟩; have n2_ : Aside0 (Below w.heap.size w wc) := ⟨by rw [← hq_]; exact (by repeat first | (with_reducible first | exact HB.out | apply below_alloc | apply pw_below_drewN | apply below_drew1 | refine below_set ?_ GE689.out | refine below_set ?_ GE690.out) | exact HB.out)⟩; clear BK689 BK690 HB hq_; have BK689 := n0_; have BK690 := n1_; have HB := n2_; clear n0_ n1_ n2_)))))
                  have n0_ := Aside0.mk (blk_drew BK689.out)
                  have n1_ := Aside0.mk (blk_drew BK690.out)
                  have n2_ := Aside0.mk (below_drew1 HB.out)
                  clear BK689
                  clear BK690
                  clear HB
                  have BK689 := n0_
                  have BK690 := n1_
                  have HB := n2_
                  clear n0_ n1_ n2_
                  have p697 : 0 ≤ (9 : Int) := (by omega)
                  have q697 : 9 < (l0.length : Int) := of_decide_eq_true (by first | (with_reducible assumption) | assumption)
                  obtain ⟨ad697, e697, hx697_0⟩ := Kd.at_int HR0.out 9 p697 q697
                  have hw697_0 := hx697_0
                  (try rw [show ((9 : Int)).toNat = 9 from rfl] at hw697_0)
                  (try rw [show 9 * 1 = 9 from rfl] at hw697_0)
                  (try simp only [Nat.reduceMul, Nat.reduceEqDiff, Go.Addr.add, ↓reduceIte] at hw697_0)
                  obtain rfl : ad691 = ad697 := (by injection e697)
                  (try simp only [show (9 : Int).toNat = 9 from rfl, Nat.reduceMul, Nat.reduceEqDiff, Go.Addr.add, ↓reduceIte] at hx697_0)
                  have qi697 : (9 < l0.length) = True := eq_true (by omega)
                  (try rw [show ((9 : Int)).toNat = 9 from rfl] at hx697_0)
                  replace hx697_0 := (HB.out.cell (World.block_lt_of_cell? w _ hx697_0)).trans hx697_0
                  replace p697 := eq_true p697
                  replace q697 := eq_true q697
                  have p700 : 0 ≤ (8 : Int) := (by omega)
                  have q700 : 8 < (l0.length : Int) := of_decide_eq_true (by first | (with_reducible assumption) | assumption)
                  obtain ⟨ad700, e700, hx700_0⟩ := Kd.at_int HR0.out 8 p700 q700
                  have hw700_0 := hx700_0
                  (try rw [show ((8 : Int)).toNat = 8 from rfl] at hw700_0)
                  (try rw [show 8 * 1 = 8 from rfl] at hw700_0)
                  (try simp only [Nat.reduceMul, Nat.reduceEqDiff, Go.Addr.add, ↓reduceIte] at hw700_0)
                  obtain rfl : ad691 = ad700 := (by injection e700)
                  (try simp only [show (8 : Int).toNat = 8 from rfl, Nat.reduceMul, Nat.reduceEqDiff, Go.Addr.add, ↓reduceIte] at hx700_0)
                  have qi700 : (8 < l0.length) = True := eq_true (by omega)
                  (try rw [show ((8 : Int)).toNat = 8 from rfl] at hx700_0)
                  replace hx700_0 := (HB.out.cell (World.block_lt_of_cell? w _ hx700_0)).trans hx700_0
                  replace p700 := eq_true p700
                  replace q700 := eq_true q700
                  have q63 : (t693 : Int) ≤ ((l0.length : Int) : Int) := of_decide_eq_true (by first | (with_reducible assumption) | assumption)
                  obtain ⟨i063, hi063, _, hsz63, _⟩ := info_parts info5
                  have hroom63 : l0.length ≤ c0 := HC0.out
                  have hC63 : Kd.C (Kd.int .u8) _ (some ad691) l0.length l0 := HR0.out
                  have ql63 : ((ji45) : Int) ≤ (t693 : Int) := of_decide_eq_true (by first | (with_reducible assumption) | assumption)
                  have q063 : (0 : Int) ≤ ((ji45) : Int) := of_decide_eq_true (by first | (with_reducible assumption) | assumption)
                  have hcut63 := cut_mid (P := Try.prog) 22 5 .i64 .i64 Try.underlying22 hi063 1 hsz63 (some ad691) l0.length c0 (ji45) t693 q063 ql63 q63 hroom63
                  have hr63 := Kd.C_mid (lo := ((ji45) : Int).toNat) (hi := (t693 : Int).toNat) (c := c0) hC63 (by omega) (by omega) hroom63
                  obtain ⟨A63, hA63⟩ : ∃ A1, A1 = (if c0 = ((ji45) : Int).toNat then (some ad691) else ((some ad691) : Option Addr).map (·.add (((ji45) : Int).toNat * 1))) := ⟨_, rfl⟩
                  obtain ⟨c63, hc63⟩ : ∃ c1, c1 = c0 - ((ji45) : Int).toNat := ⟨_, rfl⟩
                  have hy63 : y705.length = (t693 : Int).toNat - ((ji45) : Int).toNat := (by rw [Ny705.out, List.length_drop, List.length_take] <;> omega)
                  rw [show ((l0).take (t693 : Int).toNat).drop ((ji45) : Int).toNat = y705 from Ny705.out.symm] at hr63
                  replace hr63 : Kd.C (Kd.int .u8) _ A63 y705.length y705 := (by rw [hA63]; exact hr63)
                  rw [← hy63, ← hA63, ← hc63] at hcut63
                  have HR708 := Aside0.mk hr63
                  have HC708 := Aside0.mk (show y705.length ≤ c63 from by rw [hy63, hc63]; exact Nat.sub_le_sub_right (Nat.le_trans (by omega) hroom63) _)
                  clear hr63 hC63 hroom63 hi063 hsz63 hc63
                  have KY63 := Aside0.mk hy63
                  have KA63 := Aside0.mk hA63
                  clear hy63 hA63
                  replace q63 := eq_true q63
                  refine start_ (n := 25) (S := fun w' => w'.cell? ⟨ad691.block, ad691.off + 9, none⟩ = some (.int .u8 (rd l0 9)) ∧ w'.cell? ⟨ad691.block, ad691.off + 8, none⟩ = some (.int .u8 (rd l0 8))) (ds := []) #[false, false, false, false, false, false, false, false, false, false, false, false, false, false, false, false, false, false, false, false, false, false, false, false, false] (by kernel_rfl) rfl rfl ⟨((HB.out.cell (World.block_lt_of_cell? w _ hw697_0)).trans hw697_0), ((HB.out.cell (World.block_lt_of_cell? w _ hw700_0)).trans hw700_0)⟩ (fun hHeld => ?_); refine with_tabW mantletref04_Parse.tab18 mantletref04_Parse.bits18 (fun HT_ HW_ => ?_)
                  generalize wc.drew = w62 at BK689 BK690 HB HR708 hx697_0 hx700_0 hHeld ⊢
                  refine pure_ (i := 0) (N := some 61) (v := ?_) (a' := ?_) #[true, false, false, false, false, false, false, false, false, false, false, false, false, false, false, false, false, false, false, false, false, false, false, false, false] rfl rfl (any_of HT_.out (by kernel_rfl)) (fun _ _ _ h => h) (Or.inl ⟨by rfl, ?_⟩) ?_ ?_
                  rotate_left
                  ·intro w'
                   go_simp
                   with_reducible rfl
                  rotate_left
                  ·simp only [Act.put, List.setIfInBounds_toArray, List.set_cons_zero, List.set_cons_succ, i64_w, i32_w]
                   rfl
                  refine pure_ (i := 1) (N := some 62) (v := ?_) (a' := ?_) #[true, true, false, false, false, false, false, false, false, false, false, false, false, false, false, false, false, false, false, false, false, false, false, false, false] rfl rfl (any_of HT_.out (by kernel_rfl)) (fun _ _ _ h => h) (Or.inl ⟨by rfl, ?_⟩) ?_ ?_
                  rotate_left
                  ·intro w'
                   go_simp
                   with_reducible rfl
                  rotate_left
                  ·simp only [Act.put, List.setIfInBounds_toArray, List.set_cons_zero, List.set_cons_succ, i64_w, i32_w]
                   rfl
                  refine pure_ (i := 3) (N := some 64) (v := ?_) (a' := ?_) #[true, true, false, true, false, false, false, false, false, false, false, false, false, false, false, false, false, false, false, false, false, false, false, false, false] rfl rfl (any_of HT_.out (by kernel_rfl)) (fun _ _ _ h => h) (Or.inl ⟨by rfl, ?_⟩) ?_ ?_
                  rotate_left
                  ·intro w'
                   go_simp
                   with_reducible rfl
                  rotate_left
                  ·simp only [Act.put, List.setIfInBounds_toArray, List.set_cons_zero, List.set_cons_succ, i64_w, i32_w]
                   rfl
                  refine pure_ (i := 5) (N := some 66) (v := ?_) (a' := ?_) #[true, true, false, true, false, true, false, false, false, false, false, false, false, false, false, false, false, false, false, false, false, false, false, false, false] rfl rfl (any_of HT_.out (by kernel_rfl)) (fun _ _ _ h => h) (Or.inl ⟨by rfl, ?_⟩) ?_ ?_
                  rotate_left
                  ·intro w'
                   go_simp
                   with_reducible rfl
                  rotate_left
                  ·simp only [Act.put, List.setIfInBounds_toArray, List.set_cons_zero, List.set_cons_succ, i64_w, i32_w]
                   rfl
                  refine pure_ (i := 7) (N := some 68) (v := ?_) (a' := ?_) #[true, true, false, true, false, true, false, true, false, false, false, false, false, false, false, false, false, false, false, false, false, false, false, false, false] rfl rfl (any_of HT_.out (by kernel_rfl)) (fun _ _ _ h => h) (Or.inl ⟨by rfl, ?_⟩) ?_ ?_
                  rotate_left
                  ·intro w'
                   go_simp
                   with_reducible rfl
                  rotate_left
                  ·simp only [Act.put, List.setIfInBounds_toArray, List.set_cons_zero, List.set_cons_succ, i64_w, i32_w]
                   rfl
                  refine pure_ (i := 8) (N := some 69) (v := ?_) (a' := ?_) #[true, true, false, true, false, true, false, true, true, false, false, false, false, false, false, false, false, false, false, false, false, false, false, false, false] rfl rfl (any_of HT_.out (by kernel_rfl)) (fun _ _ _ h => h) (Or.inl ⟨by rfl, ?_⟩) ?_ ?_
                  rotate_left
                  ·intro w'
                   go_simp
                   with_reducible rfl
                  rotate_left
                  ·simp only [Act.put, List.setIfInBounds_toArray, List.set_cons_zero, List.set_cons_succ, i64_w, i32_w]
                   rfl
                  refine pure_ (i := 9) (N := some 70) (v := ?_) (a' := ?_) #[true, true, false, true, false, true, false, true, true, true, false, false, false, false, false, false, false, false, false, false, false, false, false, false, false] rfl rfl (any_of HT_.out (by kernel_rfl)) (fun _ _ _ h => h) (Or.inl ⟨by rfl, ?_⟩) ?_ ?_
                  rotate_left
                  ·intro w'
                   go_simp
                   with_reducible rfl
                  rotate_left
                  ·simp only [Act.put, List.setIfInBounds_toArray, List.set_cons_zero, List.set_cons_succ, i64_w, i32_w]
                   rfl
                  refine pure_ (i := 10) (N := some 71) (v := ?_) (a' := ?_) #[true, true, false, true, false, true, false, true, true, true, true, false, false, false, false, false, false, false, false, false, false, false, false, false, false] rfl rfl (any_of HT_.out (by kernel_rfl)) (fun _ _ _ h => h) (Or.inl ⟨by rfl, ?_⟩) ?_ ?_
                  rotate_left
                  ·intro w'
                   go_simp
                   with_reducible rfl
                  rotate_left
                  ·simp only [Act.put, List.setIfInBounds_toArray, List.set_cons_zero, List.set_cons_succ, i64_w, i32_w]
                   rfl
                  refine pure_ (i := 12) (N := some 73) (v := ?_) (a' := ?_) #[true, true, false, true, false, true, false, true, true, true, true, false, true, false, false, false, false, false, false, false, false, false, false, false, false] rfl rfl (any_of HT_.out (by kernel_rfl)) (fun _ _ _ h => h) (Or.inl ⟨by rfl, ?_⟩) ?_ ?_
                  rotate_left
                  ·intro w'
                   go_simp
                   with_reducible rfl
                  rotate_left
                  ·simp only [Act.put, List.setIfInBounds_toArray, List.set_cons_zero, List.set_cons_succ, i64_w, i32_w]
                   rfl
                  refine pure_ (i := 17) (N := some 78) (v := ?_) (a' := ?_) #[true, true, false, true, false, true, false, true, true, true, true, false, true, false, false, false, false, true, false, false, false, false, false, false, false] rfl rfl (any_of HT_.out (by kernel_rfl)) (fun _ _ _ h => h) (Or.inl ⟨by rfl, ?_⟩) ?_ ?_
                  rotate_left
                  ·intro w'
                   go_simp
                   with_reducible rfl
                  rotate_left
                  ·simp only [Act.put, List.setIfInBounds_toArray, List.set_cons_zero, List.set_cons_succ, i64_w, i32_w]
                   rfl
                  refine pure_ (i := 18) (N := some 79) (v := ?_) (a' := ?_) #[true, true, false, true, false, true, false, true, true, true, true, false, true, false, false, false, false, true, true, false, false, false, false, false, false] rfl rfl (any_of HT_.out (by kernel_rfl)) (fun _ _ _ h => h) (Or.inl ⟨by rfl, ?_⟩) ?_ ?_
                  rotate_left
                  ·intro w'
                   go_simp
                   with_reducible rfl
                  rotate_left
                  ·simp only [Act.put, List.setIfInBounds_toArray, List.set_cons_zero, List.set_cons_succ, i64_w, i32_w]
                   rfl
                  refine pure_ (i := 19) (N := some 80) (v := ?_) (a' := ?_) #[true, true, false, true, false, true, false, true, true, true, true, false, true, false, false, false, false, true, true, true, false, false, false, false, false] rfl rfl (any_of HT_.out (by kernel_rfl)) (fun _ _ _ h => h) (Or.inl ⟨by rfl, ?_⟩) ?_ ?_
                  rotate_left
                  ·intro w'
                   go_simp
                   with_reducible rfl
                  rotate_left
                  ·simp only [Act.put, List.setIfInBounds_toArray, List.set_cons_zero, List.set_cons_succ, i64_w, i32_w]
                   rfl
                  refine pure_ (i := 20) (N := some 81) (v := ?_) (a' := ?_) #[true, true, false, true, false, true, false, true, true, true, true, false, true, false, false, false, false, true, true, true, true, false, false, false, false] rfl rfl (any_of HT_.out (by kernel_rfl)) (fun _ _ _ h => h) (Or.inl ⟨by rfl, ?_⟩) ?_ ?_
                  rotate_left
                  ·intro w'
                   go_simp
                   with_reducible rfl
                  rotate_left
                  ·simp only [Act.put, List.setIfInBounds_toArray, List.set_cons_zero, List.set_cons_succ, i64_w, i32_w]
                   rfl
                  refine take_ (i := 2) (N := some 63) (v := ?_) (a' := ?_) #[true, true, true, true, false, true, false, true, true, true, true, false, true, false, false, false, false, true, true, true, true, false, false, false, false] rfl rfl (take_ofW HT_.out HW_.out (by kernel_rfl)) (fun _ _ _ h => h) (Or.inl ⟨by rfl, ?_⟩) hHeld ?_ ?_
                  rotate_left
                  ·rintro w' ⟨s0, s1⟩
                   go_simp
                   with_reducible rfl
                  rotate_left
                  ·simp only [Act.put, List.setIfInBounds_toArray, List.set_cons_zero, List.set_cons_succ, i64_w, i32_w]
                   rfl
                  refine take_ (i := 11) (N := some 72) (v := ?_) (a' := ?_) #[true, true, true, true, false, true, false, true, true, true, true, true, true, false, false, false, false, true, true, true, true, false, false, false, false] rfl rfl (take_ofW HT_.out HW_.out (by kernel_rfl)) (fun _ _ _ h => h) (Or.inl ⟨by rfl, ?_⟩) hHeld ?_ ?_
                  rotate_left
                  ·rintro w' ⟨s0, s1⟩
                   go_simp
                   with_reducible rfl
                  rotate_left
                  ·simp only [Act.put, List.setIfInBounds_toArray, List.set_cons_zero, List.set_cons_succ, i64_w, i32_w]
                   rfl
                  refine join_ (σ := Value) 4 #[true, true, true, true, true, true, true, true, true, true, true, true, true, true, true, true, true, true, true, true, true, false, false, false, false] (fun s_ => [(65, .int .u32 t698), (67, .int .u32 t699), (74, .int .i64 t701), (77, s_), (75, .int .u16 (IntKind.u16.wrap (t701))), (76, .agg #[.int .u8 (rd l0 9), .int .u32 t698, .int .u32 t699, .int .i64 (ji45), .int .i64 t693, .int .u8 (rd l0 8), .int .u16 (IntKind.u16.wrap (t701))])]) (fun s_ w' => (w'.cell? ⟨ad691.block, ad691.off + 9, none⟩ = some (.int .u8 (rd l0 9)) ∧ w'.cell? ⟨ad691.block, ad691.off + 8, none⟩ = some (.int .u8 (rd l0 8))) ∧ (Kd.R (Kd.int .u8) 5 w' w.heap.size (fun _ => True) s_ y702) ∧ (w'.heap[gb689]? = some (.cells #[.int .u8 0, .int .u32 0, .int .u32 0, .int .i64 0, .int .i64 0, .int .u8 0, .int .u16 0] 61 (0, 0))) ∧ (w'.heap[gb690]? = some (.cells #[.int .u8 0, .int .u32 0, .int .u32 0, .int .i64 0, .int .i64 0, .int .u8 0, .int .u16 0] 61 (0, 0))) ∧ (Below w.heap.size w w')) ?_ ?_
                  rotate_left
                  ·intro hCont
                   refine two_ (i := 4) (j := 16) (Ni := some 65) (Nj := some 77) #[true, true, true, true, true, true, false, true, true, true, true, true, true, false, false, false, false, true, true, true, true, false, false, false, false] #[true, true, true, true, false, true, false, true, true, true, true, true, true, false, false, false, true, true, true, true, true, false, false, false, false] rfl rfl rfl rfl (two_of HT_.out (by kernel_rfl)) (by decide) (by decide) (fun K hK => ?_) (fun K hK => ?_)
                   ·skip
                    refine goes_ Try.func79 (by kernel_rfl) rfl #[.slice (some ad691) l0.length c0, .int .i64 12] (by rfl) rfl rfl (by (try simp only [List.map_toArray, List.map_cons, List.map_nil]); first | done | rfl) ?_
                    with_reducible refine (mantletref04_Four.calls _ _ l0 12 t698 _ ?side1 ?side2 A53.out).mono ?_
                    (case side1 => repeat (first | exact (Kd.C_below HR0.out HB.out) | (with_reducible refine Kd.C_alloc ?_ _) | (with_reducible refine Kd.C_drewN ?_ _) | (with_reducible refine Kd.C_drew ?_)))
                    (case side2 => exact HC0.out)
                    rintro e w' ⟨rfl, ⟨nd, rfl⟩⟩
                    refine ⟨_, rfl, ?_⟩
                    refine hK.out _ _ ⟨((HB.out.cell (World.block_lt_of_cell? w _ hw697_0)).trans hw697_0), ((HB.out.cell (World.block_lt_of_cell? w _ hw700_0)).trans hw700_0)⟩ (fun hHeld => ?_)
                    clear hK K
                    refine norm_ (a' := ?_) ?_ ?_
                    rotate_left
                    ·show Act.put _ (some 65) _ = _
                     simp only [Act.put, List.setIfInBounds_toArray, List.set_cons_zero, List.set_cons_succ, i64_w, i32_w]
                     rfl
                    refine two_ (i := 6) (j := 16) (Ni := some 67) (Nj := some 77) #[true, true, true, true, true, true, true, true, true, true, true, true, true, false, false, false, false, true, true, true, true, false, false, false, false] #[true, true, true, true, true, true, false, true, true, true, true, true, true, false, false, false, true, true, true, true, true, false, false, false, false] rfl rfl rfl rfl (two_of HT_.out (by kernel_rfl)) (by decide) (by decide) (fun K hK => ?_) (fun K hK => ?_)
                    ·skip
                     refine goes_ Try.func79 (by kernel_rfl) rfl #[.slice (some ad691) l0.length c0, .int .i64 16] (by rfl) rfl rfl (by (try simp only [List.map_toArray, List.map_cons, List.map_nil]); first | done | rfl) ?_
                     with_reducible refine (mantletref04_Four.calls _ _ l0 16 t699 _ ?side1 ?side2 A54.out).mono ?_
                     (case side1 => repeat (first | exact (Kd.C_below HR0.out (by repeat first | (with_reducible first | exact HB.out | apply below_alloc | apply pw_below_drewN | apply below_drew1 | refine below_set ?_ GE689.out | refine below_set ?_ GE690.out) | exact HB.out)) | (with_reducible refine Kd.C_alloc ?_ _) | (with_reducible refine Kd.C_drewN ?_ _) | (with_reducible refine Kd.C_drew ?_)))
                     (case side2 => exact HC0.out)
                     rintro e w' ⟨rfl, ⟨nd, rfl⟩⟩
                     refine ⟨_, rfl, ?_⟩
                     refine hK.out _ _ ⟨((HB.out.cell (World.block_lt_of_cell? w _ hw697_0)).trans hw697_0), ((HB.out.cell (World.block_lt_of_cell? w _ hw700_0)).trans hw700_0)⟩ (fun hHeld => ?_)
                     clear hK K
                     refine norm_ (a' := ?_) ?_ ?_
                     rotate_left
                     ·show Act.put _ (some 67) _ = _
                      simp only [Act.put, List.setIfInBounds_toArray, List.set_cons_zero, List.set_cons_succ, i64_w, i32_w]
                      rfl
                     refine two_ (i := 13) (j := 16) (Ni := some 74) (Nj := some 77) #[true, true, true, true, true, true, true, true, true, true, true, true, true, true, false, false, false, true, true, true, true, false, false, false, false] #[true, true, true, true, true, true, true, true, true, true, true, true, true, false, false, false, true, true, true, true, true, false, false, false, false] rfl rfl rfl rfl (two_of HT_.out (by kernel_rfl)) (by decide) (by decide) (fun K hK => ?_) (fun K hK => ?_)
                     ·skip
                      refine goes_ Try.func66 (by kernel_rfl) rfl #[.slice (some ad691) l0.length c0, .int .i64 4] (by rfl) rfl rfl (by (try simp only [List.map_toArray, List.map_cons, List.map_nil]); first | done | rfl) ?_
                      with_reducible refine (mantletref04_Two.calls _ _ l0 4 t701 _ ?side1 ?side2 A56.out).mono ?_
                      (case side1 => repeat (first | exact (Kd.C_below HR0.out (by repeat first | (with_reducible first | exact HB.out | apply below_alloc | apply pw_below_drewN | apply below_drew1 | refine below_set ?_ GE689.out | refine below_set ?_ GE690.out) | exact HB.out)) | (with_reducible refine Kd.C_alloc ?_ _) | (with_reducible refine Kd.C_drewN ?_ _) | (with_reducible refine Kd.C_drew ?_)))
                      (case side2 => exact HC0.out)
                      rintro e w' ⟨rfl, ⟨nd, rfl⟩⟩
                      refine ⟨_, rfl, ?_⟩
                      refine hK.out _ _ ⟨((HB.out.cell (World.block_lt_of_cell? w _ hw697_0)).trans hw697_0), ((HB.out.cell (World.block_lt_of_cell? w _ hw700_0)).trans hw700_0)⟩ (fun hHeld => ?_)
                      clear hK K
                      refine norm_ (a' := ?_) ?_ ?_
                      rotate_left
                      ·show Act.put _ (some 74) _ = _
                       simp only [Act.put, List.setIfInBounds_toArray, List.set_cons_zero, List.set_cons_succ, i64_w, i32_w]
                       rfl
                      refine pure_ (i := 14) (N := some 75) (v := ?_) (a' := ?_) #[true, true, true, true, true, true, true, true, true, true, true, true, true, true, true, false, false, true, true, true, true, false, false, false, false] rfl rfl (any_of HT_.out (by kernel_rfl)) (fun _ _ _ h => h) (Or.inl ⟨by rfl, ?_⟩) ?_ ?_
                      rotate_left
                      ·intro w'
                       go_simp
                       with_reducible rfl
                      rotate_left
                      ·simp only [Act.put, List.setIfInBounds_toArray, List.set_cons_zero, List.set_cons_succ, i64_w, i32_w]
                       rfl
                      refine pure_ (i := 15) (N := some 76) (v := ?_) (a' := ?_) #[true, true, true, true, true, true, true, true, true, true, true, true, true, true, true, true, false, true, true, true, true, false, false, false, false] rfl rfl (any_of HT_.out (by kernel_rfl)) (fun _ _ _ h => h) (Or.inl ⟨by rfl, ?_⟩) ?_ ?_
                      rotate_left
                      ·intro w'
                       go_simp
                       with_reducible rfl
                      rotate_left
                      ·simp only [Act.put, List.setIfInBounds_toArray, List.set_cons_zero, List.set_cons_succ, i64_w, i32_w]
                       rfl
                      refine one_ (i := 16) (N := some 77) #[true, true, true, true, true, true, true, true, true, true, true, true, true, true, true, true, true, true, true, true, true, false, false, false, false] rfl rfl (one_of HT_.out (by kernel_rfl)) (by decide) (fun K hK => ?_)
                      refine Kd.R_lit_step (Kd.int .u8) _ 5 ?hg (N := 77) ?hd (xs := ([] : List Int)) (inner := []) (ok := fun _ => True) (okp := fun _ => True) ?hr ?hp (fun _ hk => hk) trivial (Below.refl _ _) (Nat.le_refl _) (by simp) ?_; (case hd => rfl); (case hg => rfl); (case hr => first | (go_simp; done) | (go_simp; rfl)); (case hp => exact (Reps.none _ _))
                      intro v703 w64 ho65 hb hg_ hnew_
                      clear hg_ hnew_
                      (first | rw [← Ny702.out] at ho65 | (simp only [Int.reduceToNat] at ho65; rw [← Ny702.out] at ho65))
                      have n0_ := Aside0.mk (Kd.R_lower ho65 (below_size (by repeat first | (with_reducible first | exact HB.out | apply below_alloc | apply pw_below_drewN | apply below_drew1 | refine below_set ?_ GE689.out | refine below_set ?_ GE690.out) | exact HB.out)))
                      have n1_ := Aside0.mk (blk_below (g := gb689) (o := Z_61) (by (with_reducible repeat first | apply blk_drewN | apply blk_drew | apply blk_alloc); exact BK689.out) hb)
                      have n2_ := Aside0.mk (blk_below (g := gb690) (o := Z_61) (by (with_reducible repeat first | apply blk_drewN | apply blk_drew | apply blk_alloc); exact BK690.out) hb)
                      have n3_ := Aside0.mk (below_step (by repeat first | (with_reducible first | exact HB.out | apply below_alloc | apply pw_below_drewN | apply below_drew1 | refine below_set ?_ GE689.out | refine below_set ?_ GE690.out) | exact HB.out) hb)
                      clear BK689
                      clear BK690
                      clear HB
                      have HO704 := n0_
                      have BK689 := n1_
                      have BK690 := n2_
                      have HB := n3_
                      clear n0_ n1_ n2_ n3_
                      clear hb ho65
                      refine hK.out _ _ ⟨((HB.out.cell (World.block_lt_of_cell? w _ hw697_0)).trans hw697_0), ((HB.out.cell (World.block_lt_of_cell? w _ hw700_0)).trans hw700_0)⟩ (fun hHeld => ?_)
                      clear hK K
                      refine norm_ (a' := ?_) ?_ ?_
                      rotate_left
                      ·show Act.put _ (some 77) _ = _
                       simp only [Act.put, List.setIfInBounds_toArray, List.set_cons_zero, List.set_cons_succ, i64_w, i32_w]
                       rfl
                      exact norm_ (by first | (simp only [putAll, Act.put, List.setIfInBounds_toArray, List.set_cons_zero, List.set_cons_succ]; done) | (simp only [putAll, Act.put, List.setIfInBounds_toArray, List.set_cons_zero, List.set_cons_succ, w8_mod, w16_mod, w32_mod])) (hCont (v703) _ ⟨hHeld, (by (with_reducible repeat (first | apply Kd.R_alloc | apply Kd.R_drewN | apply Kd.R_drew)); exact HO704.out), (by (with_reducible repeat first | apply blk_drewN | apply blk_drew | apply blk_alloc); exact BK689.out), (by (with_reducible repeat first | apply blk_drewN | apply blk_drew | apply blk_alloc); exact BK690.out), (by repeat first | (with_reducible first | exact HB.out | apply below_alloc | apply pw_below_drewN | apply below_drew1 | refine below_set ?_ GE689.out | refine below_set ?_ GE690.out) | exact HB.out)⟩)
                     ·skip
                      refine Kd.R_lit_step (Kd.int .u8) _ 5 ?hg (N := 77) ?hd (xs := ([] : List Int)) (inner := []) (ok := fun _ => True) (okp := fun _ => True) ?hr ?hp (fun _ hk => hk) trivial (Below.refl _ _) (Nat.le_refl _) (by simp) ?_; (case hd => rfl); (case hg => rfl); (case hr => first | (go_simp; done) | (go_simp; rfl)); (case hp => exact (Reps.none _ _))
                      intro v703 w64 ho65 hb hg_ hnew_
                      clear hg_ hnew_
                      (first | rw [← Ny702.out] at ho65 | (simp only [Int.reduceToNat] at ho65; rw [← Ny702.out] at ho65))
                      have n0_ := Aside0.mk (Kd.R_lower ho65 (below_size (by repeat first | (with_reducible first | exact HB.out | apply below_alloc | apply pw_below_drewN | apply below_drew1 | refine below_set ?_ GE689.out | refine below_set ?_ GE690.out) | exact HB.out)))
                      have n1_ := Aside0.mk (blk_below (g := gb689) (o := Z_61) (by (with_reducible repeat first | apply blk_drewN | apply blk_drew | apply blk_alloc); exact BK689.out) hb)
                      have n2_ := Aside0.mk (blk_below (g := gb690) (o := Z_61) (by (with_reducible repeat first | apply blk_drewN | apply blk_drew | apply blk_alloc); exact BK690.out) hb)
                      have n3_ := Aside0.mk (below_step (by repeat first | (with_reducible first | exact HB.out | apply below_alloc | apply pw_below_drewN | apply below_drew1 | refine below_set ?_ GE689.out | refine below_set ?_ GE690.out) | exact HB.out) hb)
                      clear BK689
                      clear BK690
                      clear HB
                      have HO704 := n0_
                      have BK689 := n1_
                      have BK690 := n2_
                      have HB := n3_
                      clear n0_ n1_ n2_ n3_
                      clear hb ho65
                      refine hK.out _ _ ⟨((HB.out.cell (World.block_lt_of_cell? w _ hw697_0)).trans hw697_0), ((HB.out.cell (World.block_lt_of_cell? w _ hw700_0)).trans hw700_0)⟩ (fun hHeld => ?_)
                      clear hK K
                      refine norm_ (a' := ?_) ?_ ?_
                      rotate_left
                      ·show Act.put _ (some 77) _ = _
                       simp only [Act.put, List.setIfInBounds_toArray, List.set_cons_zero, List.set_cons_succ, i64_w, i32_w]
                       rfl
                      refine one_ (i := 13) (N := some 74) #[true, true, true, true, true, true, true, true, true, true, true, true, true, true, false, false, true, true, true, true, true, false, false, false, false] rfl rfl (one_of HT_.out (by kernel_rfl)) (by decide) (fun K hK => ?_)
                      refine goes_ Try.func66 (by kernel_rfl) rfl #[.slice (some ad691) l0.length c0, .int .i64 4] (by rfl) rfl rfl (by (try simp only [List.map_toArray, List.map_cons, List.map_nil]); first | done | rfl) ?_
                      with_reducible refine (mantletref04_Two.calls _ _ l0 4 t701 _ ?side1 ?side2 A56.out).mono ?_
                      (case side1 => repeat (first | exact (Kd.C_below HR0.out HB.out) | (with_reducible refine Kd.C_alloc ?_ _) | (with_reducible refine Kd.C_drewN ?_ _) | (with_reducible refine Kd.C_drew ?_)))
                      (case side2 => exact HC0.out)
                      rintro e w' ⟨rfl, ⟨nd, rfl⟩⟩
                      refine ⟨_, rfl, ?_⟩
                      refine hK.out _ _ ⟨((HB.out.cell (World.block_lt_of_cell? w _ hw697_0)).trans hw697_0), ((HB.out.cell (World.block_lt_of_cell? w _ hw700_0)).trans hw700_0)⟩ (fun hHeld => ?_)
                      clear hK K
                      refine norm_ (a' := ?_) ?_ ?_
                      rotate_left
                      ·show Act.put _ (some 74) _ = _
                       simp only [Act.put, List.setIfInBounds_toArray, List.set_cons_zero, List.set_cons_succ, i64_w, i32_w]
                       rfl
                      refine pure_ (i := 14) (N := some 75) (v := ?_) (a' := ?_) #[true, true, true, true, true, true, true, true, true, true, true, true, true, true, true, false, true, true, true, true, true, false, false, false, false] rfl rfl (any_of HT_.out (by kernel_rfl)) (fun _ _ _ h => h) (Or.inl ⟨by rfl, ?_⟩) ?_ ?_
                      rotate_left
                      ·intro w'
                       go_simp
                       with_reducible rfl
                      rotate_left
                      ·simp only [Act.put, List.setIfInBounds_toArray, List.set_cons_zero, List.set_cons_succ, i64_w, i32_w]
                       rfl
                      refine pure_ (i := 15) (N := some 76) (v := ?_) (a' := ?_) #[true, true, true, true, true, true, true, true, true, true, true, true, true, true, true, true, true, true, true, true, true, false, false, false, false] rfl rfl (any_of HT_.out (by kernel_rfl)) (fun _ _ _ h => h) (Or.inl ⟨by rfl, ?_⟩) ?_ ?_
                      rotate_left
                      ·intro w'
                       go_simp
                       with_reducible rfl
                      rotate_left
                      ·simp only [Act.put, List.setIfInBounds_toArray, List.set_cons_zero, List.set_cons_succ, i64_w, i32_w]
                       rfl
                      exact norm_ (by first | (simp only [putAll, Act.put, List.setIfInBounds_toArray, List.set_cons_zero, List.set_cons_succ]; done) | (simp only [putAll, Act.put, List.setIfInBounds_toArray, List.set_cons_zero, List.set_cons_succ, w8_mod, w16_mod, w32_mod])) (hCont (v703) _ ⟨hHeld, (by (with_reducible repeat (first | apply Kd.R_alloc | apply Kd.R_drewN | apply Kd.R_drew)); exact HO704.out), (by (with_reducible repeat first | apply blk_drewN | apply blk_drew | apply blk_alloc); exact BK689.out), (by (with_reducible repeat first | apply blk_drewN | apply blk_drew | apply blk_alloc); exact BK690.out), (by repeat first | (with_reducible first | exact HB.out | apply below_alloc | apply pw_below_drewN | apply below_drew1 | refine below_set ?_ GE689.out | refine below_set ?_ GE690.out) | exact HB.out)⟩)
                    ·skip
                     refine Kd.R_lit_step (Kd.int .u8) _ 5 ?hg (N := 77) ?hd (xs := ([] : List Int)) (inner := []) (ok := fun _ => True) (okp := fun _ => True) ?hr ?hp (fun _ hk => hk) trivial (Below.refl _ _) (Nat.le_refl _) (by simp) ?_; (case hd => rfl); (case hg => rfl); (case hr => first | (go_simp; done) | (go_simp; rfl)); (case hp => exact (Reps.none _ _))
                     intro v703 w64 ho65 hb hg_ hnew_
                     clear hg_ hnew_
                     (first | rw [← Ny702.out] at ho65 | (simp only [Int.reduceToNat] at ho65; rw [← Ny702.out] at ho65))
                     have n0_ := Aside0.mk (Kd.R_lower ho65 (below_size (by repeat first | (with_reducible first | exact HB.out | apply below_alloc | apply pw_below_drewN | apply below_drew1 | refine below_set ?_ GE689.out | refine below_set ?_ GE690.out) | exact HB.out)))
                     have n1_ := Aside0.mk (blk_below (g := gb689) (o := Z_61) (by (with_reducible repeat first | apply blk_drewN | apply blk_drew | apply blk_alloc); exact BK689.out) hb)
                     have n2_ := Aside0.mk (blk_below (g := gb690) (o := Z_61) (by (with_reducible repeat first | apply blk_drewN | apply blk_drew | apply blk_alloc); exact BK690.out) hb)
                     have n3_ := Aside0.mk (below_step (by repeat first | (with_reducible first | exact HB.out | apply below_alloc | apply pw_below_drewN | apply below_drew1 | refine below_set ?_ GE689.out | refine below_set ?_ GE690.out) | exact HB.out) hb)
                     clear BK689
                     clear BK690
                     clear HB
                     have HO704 := n0_
                     have BK689 := n1_
                     have BK690 := n2_
                     have HB := n3_
                     clear n0_ n1_ n2_ n3_
                     clear hb ho65
                     refine hK.out _ _ ⟨((HB.out.cell (World.block_lt_of_cell? w _ hw697_0)).trans hw697_0), ((HB.out.cell (World.block_lt_of_cell? w _ hw700_0)).trans hw700_0)⟩ (fun hHeld => ?_)
                     clear hK K
                     refine norm_ (a' := ?_) ?_ ?_
                     rotate_left
                     ·show Act.put _ (some 77) _ = _
                      simp only [Act.put, List.setIfInBounds_toArray, List.set_cons_zero, List.set_cons_succ, i64_w, i32_w]
                      rfl
                     refine one_ (i := 6) (N := some 67) #[true, true, true, true, true, true, true, true, true, true, true, true, true, false, false, false, true, true, true, true, true, false, false, false, false] rfl rfl (one_of HT_.out (by kernel_rfl)) (by decide) (fun K hK => ?_)
                     refine goes_ Try.func79 (by kernel_rfl) rfl #[.slice (some ad691) l0.length c0, .int .i64 16] (by rfl) rfl rfl (by (try simp only [List.map_toArray, List.map_cons, List.map_nil]); first | done | rfl) ?_
                     with_reducible refine (mantletref04_Four.calls _ _ l0 16 t699 _ ?side1 ?side2 A54.out).mono ?_
                     (case side1 => repeat (first | exact (Kd.C_below HR0.out HB.out) | (with_reducible refine Kd.C_alloc ?_ _) | (with_reducible refine Kd.C_drewN ?_ _) | (with_reducible refine Kd.C_drew ?_)))
                     (case side2 => exact HC0.out)
                     rintro e w' ⟨rfl, ⟨nd, rfl⟩⟩
                     refine ⟨_, rfl, ?_⟩
                     refine hK.out _ _ ⟨((HB.out.cell (World.block_lt_of_cell? w _ hw697_0)).trans hw697_0), ((HB.out.cell (World.block_lt_of_cell? w _ hw700_0)).trans hw700_0)⟩ (fun hHeld => ?_)
                     clear hK K
                     refine norm_ (a' := ?_) ?_ ?_
                     rotate_left
                     ·show Act.put _ (some 67) _ = _
                      simp only [Act.put, List.setIfInBounds_toArray, List.set_cons_zero, List.set_cons_succ, i64_w, i32_w]
                      rfl
                     refine one_ (i := 13) (N := some 74) #[true, true, true, true, true, true, true, true, true, true, true, true, true, true, false, false, true, true, true, true, true, false, false, false, false] rfl rfl (one_of HT_.out (by kernel_rfl)) (by decide) (fun K hK => ?_)
                     refine goes_ Try.func66 (by kernel_rfl) rfl #[.slice (some ad691) l0.length c0, .int .i64 4] (by rfl) rfl rfl (by (try simp only [List.map_toArray, List.map_cons, List.map_nil]); first | done | rfl) ?_
                     with_reducible refine (mantletref04_Two.calls _ _ l0 4 t701 _ ?side1 ?side2 A56.out).mono ?_
                     (case side1 => repeat (first | exact (Kd.C_below HR0.out (by repeat first | (with_reducible first | exact HB.out | apply below_alloc | apply pw_below_drewN | apply below_drew1 | refine below_set ?_ GE689.out | refine below_set ?_ GE690.out) | exact HB.out)) | (with_reducible refine Kd.C_alloc ?_ _) | (with_reducible refine Kd.C_drewN ?_ _) | (with_reducible refine Kd.C_drew ?_)))
                     (case side2 => exact HC0.out)
                     rintro e w' ⟨rfl, ⟨nd, rfl⟩⟩
                     refine ⟨_, rfl, ?_⟩
                     refine hK.out _ _ ⟨((HB.out.cell (World.block_lt_of_cell? w _ hw697_0)).trans hw697_0), ((HB.out.cell (World.block_lt_of_cell? w _ hw700_0)).trans hw700_0)⟩ (fun hHeld => ?_)
                     clear hK K
                     refine norm_ (a' := ?_) ?_ ?_
                     rotate_left
                     ·show Act.put _ (some 74) _ = _
                      simp only [Act.put, List.setIfInBounds_toArray, List.set_cons_zero, List.set_cons_succ, i64_w, i32_w]
                      rfl
                     refine pure_ (i := 14) (N := some 75) (v := ?_) (a' := ?_) #[true, true, true, true, true, true, true, true, true, true, true, true, true, true, true, false, true, true, true, true, true, false, false, false, false] rfl rfl (any_of HT_.out (by kernel_rfl)) (fun _ _ _ h => h) (Or.inl ⟨by rfl, ?_⟩) ?_ ?_
                     rotate_left
                     ·intro w'
                      go_simp
                      with_reducible rfl
                     rotate_left
                     ·simp only [Act.put, List.setIfInBounds_toArray, List.set_cons_zero, List.set_cons_succ, i64_w, i32_w]
                      rfl
                     refine pure_ (i := 15) (N := some 76) (v := ?_) (a' := ?_) #[true, true, true, true, true, true, true, true, true, true, true, true, true, true, true, true, true, true, true, true, true, false, false, false, false] rfl rfl (any_of HT_.out (by kernel_rfl)) (fun _ _ _ h => h) (Or.inl ⟨by rfl, ?_⟩) ?_ ?_
                     rotate_left
                     ·intro w'
                      go_simp
                      with_reducible rfl
                     rotate_left
                     ·simp only [Act.put, List.setIfInBounds_toArray, List.set_cons_zero, List.set_cons_succ, i64_w, i32_w]
                      rfl
                     exact norm_ (by first | (simp only [putAll, Act.put, List.setIfInBounds_toArray, List.set_cons_zero, List.set_cons_succ]; done) | (simp only [putAll, Act.put, List.setIfInBounds_toArray, List.set_cons_zero, List.set_cons_succ, w8_mod, w16_mod, w32_mod])) (hCont (v703) _ ⟨hHeld, (by (with_reducible repeat (first | apply Kd.R_alloc | apply Kd.R_drewN | apply Kd.R_drew)); exact HO704.out), (by (with_reducible repeat first | apply blk_drewN | apply blk_drew | apply blk_alloc); exact BK689.out), (by (with_reducible repeat first | apply blk_drewN | apply blk_drew | apply blk_alloc); exact BK690.out), (by repeat first | (with_reducible first | exact HB.out | apply below_alloc | apply pw_below_drewN | apply below_drew1 | refine below_set ?_ GE689.out | refine below_set ?_ GE690.out) | exact HB.out)⟩)
                   ·skip
                    refine Kd.R_lit_step (Kd.int .u8) _ 5 ?hg (N := 77) ?hd (xs := ([] : List Int)) (inner := []) (ok := fun _ => True) (okp := fun _ => True) ?hr ?hp (fun _ hk => hk) trivial (Below.refl _ _) (Nat.le_refl _) (by simp) ?_; (case hd => rfl); (case hg => rfl); (case hr => first | (go_simp; done) | (go_simp; rfl)); (case hp => exact (Reps.none _ _))
                    intro v703 w64 ho65 hb hg_ hnew_
                    clear hg_ hnew_
                    (first | rw [← Ny702.out] at ho65 | (simp only [Int.reduceToNat] at ho65; rw [← Ny702.out] at ho65))
                    have n0_ := Aside0.mk (Kd.R_lower ho65 (below_size (by repeat first | (with_reducible first | exact HB.out | apply below_alloc | apply pw_below_drewN | apply below_drew1 | refine below_set ?_ GE689.out | refine below_set ?_ GE690.out) | exact HB.out)))
                    have n1_ := Aside0.mk (blk_below (g := gb689) (o := Z_61) (by (with_reducible repeat first | apply blk_drewN | apply blk_drew | apply blk_alloc); exact BK689.out) hb)
                    have n2_ := Aside0.mk (blk_below (g := gb690) (o := Z_61) (by (with_reducible repeat first | apply blk_drewN | apply blk_drew | apply blk_alloc); exact BK690.out) hb)
                    have n3_ := Aside0.mk (below_step (by repeat first | (with_reducible first | exact HB.out | apply below_alloc | apply pw_below_drewN | apply below_drew1 | refine below_set ?_ GE689.out | refine below_set ?_ GE690.out) | exact HB.out) hb)
                    clear BK689
                    clear BK690
                    clear HB
                    have HO704 := n0_
                    have BK689 := n1_
                    have BK690 := n2_
                    have HB := n3_
                    clear n0_ n1_ n2_ n3_
                    clear hb ho65
                    refine hK.out _ _ ⟨((HB.out.cell (World.block_lt_of_cell? w _ hw697_0)).trans hw697_0), ((HB.out.cell (World.block_lt_of_cell? w _ hw700_0)).trans hw700_0)⟩ (fun hHeld => ?_)
                    clear hK K
                    refine norm_ (a' := ?_) ?_ ?_
                    rotate_left
                    ·show Act.put _ (some 77) _ = _
                     simp only [Act.put, List.setIfInBounds_toArray, List.set_cons_zero, List.set_cons_succ, i64_w, i32_w]
                     rfl
                    refine one_ (i := 4) (N := some 65) #[true, true, true, true, true, true, false, true, true, true, true, true, true, false, false, false, true, true, true, true, true, false, false, false, false] rfl rfl (one_of HT_.out (by kernel_rfl)) (by decide) (fun K hK => ?_)
                    refine goes_ Try.func79 (by kernel_rfl) rfl #[.slice (some ad691) l0.length c0, .int .i64 12] (by rfl) rfl rfl (by (try simp only [List.map_toArray, List.map_cons, List.map_nil]); first | done | rfl) ?_
                    with_reducible refine (mantletref04_Four.calls _ _ l0 12 t698 _ ?side1 ?side2 A53.out).mono ?_
                    (case side1 => repeat (first | exact (Kd.C_below HR0.out HB.out) | (with_reducible refine Kd.C_alloc ?_ _) | (with_reducible refine Kd.C_drewN ?_ _) | (with_reducible refine Kd.C_drew ?_)))
                    (case side2 => exact HC0.out)
                    rintro e w' ⟨rfl, ⟨nd, rfl⟩⟩
                    refine ⟨_, rfl, ?_⟩
                    refine hK.out _ _ ⟨((HB.out.cell (World.block_lt_of_cell? w _ hw697_0)).trans hw697_0), ((HB.out.cell (World.block_lt_of_cell? w _ hw700_0)).trans hw700_0)⟩ (fun hHeld => ?_)
                    clear hK K
                    refine norm_ (a' := ?_) ?_ ?_
                    rotate_left
                    ·show Act.put _ (some 65) _ = _
                     simp only [Act.put, List.setIfInBounds_toArray, List.set_cons_zero, List.set_cons_succ, i64_w, i32_w]
                     rfl
                    refine one_ (i := 6) (N := some 67) #[true, true, true, true, true, true, true, true, true, true, true, true, true, false, false, false, true, true, true, true, true, false, false, false, false] rfl rfl (one_of HT_.out (by kernel_rfl)) (by decide) (fun K hK => ?_)
                    refine goes_ Try.func79 (by kernel_rfl) rfl #[.slice (some ad691) l0.length c0, .int .i64 16] (by rfl) rfl rfl (by (try simp only [List.map_toArray, List.map_cons, List.map_nil]); first | done | rfl) ?_
                    with_reducible refine (mantletref04_Four.calls _ _ l0 16 t699 _ ?side1 ?side2 A54.out).mono ?_
                    (case side1 => repeat (first | exact (Kd.C_below HR0.out (by repeat first | (with_reducible first | exact HB.out | apply below_alloc | apply pw_below_drewN | apply below_drew1 | refine below_set ?_ GE689.out | refine below_set ?_ GE690.out) | exact HB.out)) | (with_reducible refine Kd.C_alloc ?_ _) | (with_reducible refine Kd.C_drewN ?_ _) | (with_reducible refine Kd.C_drew ?_)))
                    (case side2 => exact HC0.out)
                    rintro e w' ⟨rfl, ⟨nd, rfl⟩⟩
                    refine ⟨_, rfl, ?_⟩
                    refine hK.out _ _ ⟨((HB.out.cell (World.block_lt_of_cell? w _ hw697_0)).trans hw697_0), ((HB.out.cell (World.block_lt_of_cell? w _ hw700_0)).trans hw700_0)⟩ (fun hHeld => ?_)
                    clear hK K
                    refine norm_ (a' := ?_) ?_ ?_
                    rotate_left
                    ·show Act.put _ (some 67) _ = _
                     simp only [Act.put, List.setIfInBounds_toArray, List.set_cons_zero, List.set_cons_succ, i64_w, i32_w]
                     rfl
                    refine one_ (i := 13) (N := some 74) #[true, true, true, true, true, true, true, true, true, true, true, true, true, true, false, false, true, true, true, true, true, false, false, false, false] rfl rfl (one_of HT_.out (by kernel_rfl)) (by decide) (fun K hK => ?_)
                    refine goes_ Try.func66 (by kernel_rfl) rfl #[.slice (some ad691) l0.length c0, .int .i64 4] (by rfl) rfl rfl (by (try simp only [List.map_toArray, List.map_cons, List.map_nil]); first | done | rfl) ?_
                    with_reducible refine (mantletref04_Two.calls _ _ l0 4 t701 _ ?side1 ?side2 A56.out).mono ?_
                    (case side1 => repeat (first | exact (Kd.C_below HR0.out (by repeat first | (with_reducible first | exact HB.out | apply below_alloc | apply pw_below_drewN | apply below_drew1 | refine below_set ?_ GE689.out | refine below_set ?_ GE690.out) | exact HB.out)) | (with_reducible refine Kd.C_alloc ?_ _) | (with_reducible refine Kd.C_drewN ?_ _) | (with_reducible refine Kd.C_drew ?_)))
                    (case side2 => exact HC0.out)
                    rintro e w' ⟨rfl, ⟨nd, rfl⟩⟩
                    refine ⟨_, rfl, ?_⟩
                    refine hK.out _ _ ⟨((HB.out.cell (World.block_lt_of_cell? w _ hw697_0)).trans hw697_0), ((HB.out.cell (World.block_lt_of_cell? w _ hw700_0)).trans hw700_0)⟩ (fun hHeld => ?_)
                    clear hK K
                    refine norm_ (a' := ?_) ?_ ?_
                    rotate_left
                    ·show Act.put _ (some 74) _ = _
                     simp only [Act.put, List.setIfInBounds_toArray, List.set_cons_zero, List.set_cons_succ, i64_w, i32_w]
                     rfl
                    refine pure_ (i := 14) (N := some 75) (v := ?_) (a' := ?_) #[true, true, true, true, true, true, true, true, true, true, true, true, true, true, true, false, true, true, true, true, true, false, false, false, false] rfl rfl (any_of HT_.out (by kernel_rfl)) (fun _ _ _ h => h) (Or.inl ⟨by rfl, ?_⟩) ?_ ?_
                    rotate_left
                    ·intro w'
                     go_simp
                     with_reducible rfl
                    rotate_left
                    ·simp only [Act.put, List.setIfInBounds_toArray, List.set_cons_zero, List.set_cons_succ, i64_w, i32_w]
                     rfl
                    refine pure_ (i := 15) (N := some 76) (v := ?_) (a' := ?_) #[true, true, true, true, true, true, true, true, true, true, true, true, true, true, true, true, true, true, true, true, true, false, false, false, false] rfl rfl (any_of HT_.out (by kernel_rfl)) (fun _ _ _ h => h) (Or.inl ⟨by rfl, ?_⟩) ?_ ?_
                    rotate_left
                    ·intro w'
                     go_simp
                     with_reducible rfl
                    rotate_left
                    ·simp only [Act.put, List.setIfInBounds_toArray, List.set_cons_zero, List.set_cons_succ, i64_w, i32_w]
                     rfl
                    exact norm_ (by first | (simp only [putAll, Act.put, List.setIfInBounds_toArray, List.set_cons_zero, List.set_cons_succ]; done) | (simp only [putAll, Act.put, List.setIfInBounds_toArray, List.set_cons_zero, List.set_cons_succ, w8_mod, w16_mod, w32_mod])) (hCont (v703) _ ⟨hHeld, (by (with_reducible repeat (first | apply Kd.R_alloc | apply Kd.R_drewN | apply Kd.R_drew)); exact HO704.out), (by (with_reducible repeat first | apply blk_drewN | apply blk_drew | apply blk_alloc); exact BK689.out), (by (with_reducible repeat first | apply blk_drewN | apply blk_drew | apply blk_alloc); exact BK690.out), (by repeat first | (with_reducible first | exact HB.out | apply below_alloc | apply pw_below_drewN | apply below_drew1 | refine below_set ?_ GE689.out | refine below_set ?_ GE690.out) | exact HB.out)⟩)
                  rintro v703 w66 ⟨hS_, h0_, h1_, h2_, h3_⟩
                  have n0_ : Aside0 (Kd.R (Kd.int .u8) 5 w66 w.heap.size (fun _ => True) v703 y702) := ⟨h0_⟩
                  have n1_ : Aside0 (w66.heap[gb689]? = some (.cells #[.int .u8 0, .int .u32 0, .int .u32 0, .int .i64 0, .int .i64 0, .int .u8 0, .int .u16 0] 61 (0, 0))) := ⟨h1_⟩
                  have n2_ : Aside0 (w66.heap[gb690]? = some (.cells #[.int .u8 0, .int .u32 0, .int .u32 0, .int .i64 0, .int .i64 0, .int .u8 0, .int .u16 0] 61 (0, 0))) := ⟨h2_⟩
                  have n3_ : Aside0 (Below w.heap.size w w66) := ⟨h3_⟩
                  clear BK689
                  clear BK690
                  clear HB
                  clear h0_ h1_ h2_ h3_
                  have HO704 := n0_
                  have BK689 := n1_
                  have BK690 := n2_
                  have HB := n3_
                  clear n0_ n1_ n2_ n3_
                  have hHeld : w66.cell? ⟨ad691.block, ad691.off + 9, none⟩ = some (.int .u8 (rd l0 9)) ∧ w66.cell? ⟨ad691.block, ad691.off + 8, none⟩ = some (.int .u8 (rd l0 8)) := hS_
                  refine norm_ (a' := ?_) ?_ ?_
                  rotate_left
                  ·simp only [putAll, Act.put, List.setIfInBounds_toArray, List.set_cons_zero, List.set_cons_succ]
                   rfl
                  refine one_ (i := 21) (N := some 82) #[true, true, true, true, true, true, true, true, true, true, true, true, true, true, true, true, true, true, true, true, true, true, false, false, false] rfl rfl (one_of HT_.out (by kernel_rfl)) (by decide) (fun K hK => ?_)
                  refine Kd.R_append_rows_step (Kd.int .u8) (w0 := w) w.heap.size (by rfl) (.tmp 77) (.tmp 81) 22 5 (.int .u8 0) 1 rfl Try.underlying22 info5 rfl (by decide) (by omega) v703 y702 y705 _ _ _ (fun _ => True) (fun _ => False) rfl rfl ?aO ?aR (fun _ _ h => h) (fun _ h => h.elim) ?aF ?aB ?aS ?aL ?_
                  (case aR => repeat (first | exact (Kd.C_below HR708.out HB.out) | (with_reducible refine Kd.C_alloc ?_ _) | (with_reducible refine Kd.C_drewN ?_ _) | (with_reducible refine Kd.C_drew ?_)))
                  (case aB => exact (by repeat first | (with_reducible first | exact HB.out | apply below_alloc | apply pw_below_drewN | apply below_drew1 | refine below_set ?_ GE689.out | refine below_set ?_ GE690.out) | exact HB.out))
                  (case aF => exact (fun _ _ => trivial))
                  (case aO => exact (by (with_reducible repeat (first | apply Kd.R_alloc | apply Kd.R_drewN | apply Kd.R_drew)); exact HO704.out))
                  (case aS => exact (below_size (by repeat first | (with_reducible first | exact HB.out | apply below_alloc | apply pw_below_drewN | apply below_drew1 | refine below_set ?_ GE689.out | refine below_set ?_ GE690.out) | exact HB.out)))
                  (case aL => have := LMc60.out; omega)
                  intro v710 w67 ho hb hg hat
                  rw [← Ny709.out] at ho
                  have n0_ := Aside0.mk (blk_grown (g := gb689) (o := Z_61) (by (with_reducible repeat first | apply blk_drewN | apply blk_drew | apply blk_alloc); exact BK689.out) hg (Kd.R_ne HO704.out BK689.out (by decide)))
                  have n1_ := Aside0.mk (blk_grown (g := gb690) (o := Z_61) (by (with_reducible repeat first | apply blk_drewN | apply blk_drew | apply blk_alloc); exact BK690.out) hg (Kd.R_ne HO704.out BK690.out (by decide)))
                  have n2_ := Aside0.mk (hb)
                  have n3_ := Aside0.mk (ho)
                  clear BK689
                  clear BK690
                  clear HB
                  clear HO704
                  have BK689 := n0_
                  have BK690 := n1_
                  have HB := n2_
                  have HO711 := n3_
                  clear n0_ n1_ n2_ n3_
                  clear ho hb hg hat
                  refine hK.out _ _ ⟨((HB.out.cell (World.block_lt_of_cell? w _ hw697_0)).trans hw697_0), ((HB.out.cell (World.block_lt_of_cell? w _ hw700_0)).trans hw700_0)⟩ (fun hHeld => ?_)
                  clear hK K
                  refine norm_ (a' := ?_) ?_ ?_
                  rotate_left
                  ·show Act.put _ (some 82) _ = _
                   simp only [Act.put, List.setIfInBounds_toArray, List.set_cons_zero, List.set_cons_succ, i64_w, i32_w]
                   rfl
                  refine one_ (i := 22) (N := none) #[true, true, true, true, true, true, true, true, true, true, true, true, true, true, true, true, true, true, true, true, true, true, true, false, false] rfl rfl (one_of HT_.out (by kernel_rfl)) (by decide) (fun K hK => ?_)
                  have hs68 : w67.cell? ⟨gb689, 0, none⟩ = some (.int .u8 0) := (blk_cell BK689.out 0).trans rfl
                  have hfs68 := blk_frozen BK689.out 0
                  have hns68_1 := NB690_689.out
                  have hms68_1 := NB689_690.out
                  have hs69 : w67.cell? ⟨gb689, 1, none⟩ = some (.int .u32 0) := (blk_cell BK689.out 1).trans rfl
                  have hfs69 := blk_frozen BK689.out 1
                  have hns69_1 := NB690_689.out
                  have hms69_1 := NB689_690.out
                  have hs70 : w67.cell? ⟨gb689, 2, none⟩ = some (.int .u32 0) := (blk_cell BK689.out 2).trans rfl
                  have hfs70 := blk_frozen BK689.out 2
                  have hns70_1 := NB690_689.out
                  have hms70_1 := NB689_690.out
                  have hs71 : w67.cell? ⟨gb689, 3, none⟩ = some (.int .i64 0) := (blk_cell BK689.out 3).trans rfl
                  have hfs71 := blk_frozen BK689.out 3
                  have hns71_1 := NB690_689.out
                  have hms71_1 := NB689_690.out
                  have hs72 : w67.cell? ⟨gb689, 4, none⟩ = some (.int .i64 0) := (blk_cell BK689.out 4).trans rfl
                  have hfs72 := blk_frozen BK689.out 4
                  have hns72_1 := NB690_689.out
                  have hms72_1 := NB689_690.out
                  have hs73 : w67.cell? ⟨gb689, 5, none⟩ = some (.int .u8 0) := (blk_cell BK689.out 5).trans rfl
                  have hfs73 := blk_frozen BK689.out 5
                  have hns73_1 := NB690_689.out
                  have hms73_1 := NB689_690.out
                  have hs74 : w67.cell? ⟨gb689, 6, none⟩ = some (.int .u16 0) := (blk_cell BK689.out 6).trans rfl
                  have hfs74 := blk_frozen BK689.out 6
                  have hns74_1 := NB690_689.out
                  have hms74_1 := NB689_690.out
                  refine skip_ (w1 := ?_) (by rfl) rfl ?_ ?_
                  rotate_left
                  ·go_simp
                   rfl
                  refine hK.out _ _ ⟨((cell_far (p := ⟨gb689, _, none⟩) (by first | exact Nat.ne_of_lt (Nat.lt_of_lt_of_le (by have := World.block_lt_of_cell? _ _ hw697_0; first | rwa [add_block] at this | exact this) GW689.out) | (rw [add_block]; exact Nat.ne_of_lt (Nat.lt_of_lt_of_le (by have := World.block_lt_of_cell? _ _ hw697_0; first | rwa [add_block] at this | exact this) GW689.out)) | (show (Addr.add _ _).block ≠ _; rw [add_block]; exact Nat.ne_of_lt (Nat.lt_of_lt_of_le (by have := World.block_lt_of_cell? _ _ hw697_0; first | rwa [add_block] at this | exact this) GW689.out)) | (dsimp only; exact Nat.ne_of_lt (Nat.lt_of_lt_of_le (by have := World.block_lt_of_cell? _ _ hw697_0; first | rwa [add_block] at this | exact this) GW689.out))) _).trans (((cell_far (p := ⟨gb689, _, none⟩) (by first | exact Nat.ne_of_lt (Nat.lt_of_lt_of_le (by have := World.block_lt_of_cell? _ _ hw697_0; first | rwa [add_block] at this | exact this) GW689.out) | (rw [add_block]; exact Nat.ne_of_lt (Nat.lt_of_lt_of_le (by have := World.block_lt_of_cell? _ _ hw697_0; first | rwa [add_block] at this | exact this) GW689.out)) | (show (Addr.add _ _).block ≠ _; rw [add_block]; exact Nat.ne_of_lt (Nat.lt_of_lt_of_le (by have := World.block_lt_of_cell? _ _ hw697_0; first | rwa [add_block] at this | exact this) GW689.out)) | (dsimp only; exact Nat.ne_of_lt (Nat.lt_of_lt_of_le (by have := World.block_lt_of_cell? _ _ hw697_0; first | rwa [add_block] at this | exact this) GW689.out))) _).trans (((cell_far (p := ⟨gb689, _, none⟩) (by first | exact Nat.ne_of_lt (Nat.lt_of_lt_of_le (by have := World.block_lt_of_cell? _ _ hw697_0; first | rwa [add_block] at this | exact this) GW689.out) | (rw [add_block]; exact Nat.ne_of_lt (Nat.lt_of_lt_of_le (by have := World.block_lt_of_cell? _ _ hw697_0; first | rwa [add_block] at this | exact this) GW689.out)) | (show (Addr.add _ _).block ≠ _; rw [add_block]; exact Nat.ne_of_lt (Nat.lt_of_lt_of_le (by have := World.block_lt_of_cell? _ _ hw697_0; first | rwa [add_block] at this | exact this) GW689.out)) | (dsimp only; exact Nat.ne_of_lt (Nat.lt_of_lt_of_le (by have := World.block_lt_of_cell? _ _ hw697_0; first | rwa [add_block] at this | exact this) GW689.out))) _).trans (((cell_far (p := ⟨gb689, _, none⟩) (by first | exact Nat.ne_of_lt (Nat.lt_of_lt_of_le (by have := World.block_lt_of_cell? _ _ hw697_0; first | rwa [add_block] at this | exact this) GW689.out) | (rw [add_block]; exact Nat.ne_of_lt (Nat.lt_of_lt_of_le (by have := World.block_lt_of_cell? _ _ hw697_0; first | rwa [add_block] at this | exact this) GW689.out)) | (show (Addr.add _ _).block ≠ _; rw [add_block]; exact Nat.ne_of_lt (Nat.lt_of_lt_of_le (by have := World.block_lt_of_cell? _ _ hw697_0; first | rwa [add_block] at this | exact this) GW689.out)) | (dsimp only; exact Nat.ne_of_lt (Nat.lt_of_lt_of_le (by have := World.block_lt_of_cell? _ _ hw697_0; first | rwa [add_block] at this | exact this) GW689.out))) _).trans (((cell_far (p := ⟨gb689, _, none⟩) (by first | exact Nat.ne_of_lt (Nat.lt_of_lt_of_le (by have := World.block_lt_of_cell? _ _ hw697_0; first | rwa [add_block] at this | exact this) GW689.out) | (rw [add_block]; exact Nat.ne_of_lt (Nat.lt_of_lt_of_le (by have := World.block_lt_of_cell? _ _ hw697_0; first | rwa [add_block] at this | exact this) GW689.out)) | (show (Addr.add _ _).block ≠ _; rw [add_block]; exact Nat.ne_of_lt (Nat.lt_of_lt_of_le (by have := World.block_lt_of_cell? _ _ hw697_0; first | rwa [add_block] at this | exact this) GW689.out)) | (dsimp only; exact Nat.ne_of_lt (Nat.lt_of_lt_of_le (by have := World.block_lt_of_cell? _ _ hw697_0; first | rwa [add_block] at this | exact this) GW689.out))) _).trans (((cell_far (p := ⟨gb689, _, none⟩) (by first | exact Nat.ne_of_lt (Nat.lt_of_lt_of_le (by have := World.block_lt_of_cell? _ _ hw697_0; first | rwa [add_block] at this | exact this) GW689.out) | (rw [add_block]; exact Nat.ne_of_lt (Nat.lt_of_lt_of_le (by have := World.block_lt_of_cell? _ _ hw697_0; first | rwa [add_block] at this | exact this) GW689.out)) | (show (Addr.add _ _).block ≠ _; rw [add_block]; exact Nat.ne_of_lt (Nat.lt_of_lt_of_le (by have := World.block_lt_of_cell? _ _ hw697_0; first | rwa [add_block] at this | exact this) GW689.out)) | (dsimp only; exact Nat.ne_of_lt (Nat.lt_of_lt_of_le (by have := World.block_lt_of_cell? _ _ hw697_0; first | rwa [add_block] at this | exact this) GW689.out))) _).trans (((cell_far (p := ⟨gb689, _, none⟩) (by first | exact Nat.ne_of_lt (Nat.lt_of_lt_of_le (by have := World.block_lt_of_cell? _ _ hw697_0; first | rwa [add_block] at this | exact this) GW689.out) | (rw [add_block]; exact Nat.ne_of_lt (Nat.lt_of_lt_of_le (by have := World.block_lt_of_cell? _ _ hw697_0; first | rwa [add_block] at this | exact this) GW689.out)) | (show (Addr.add _ _).block ≠ _; rw [add_block]; exact Nat.ne_of_lt (Nat.lt_of_lt_of_le (by have := World.block_lt_of_cell? _ _ hw697_0; first | rwa [add_block] at this | exact this) GW689.out)) | (dsimp only; exact Nat.ne_of_lt (Nat.lt_of_lt_of_le (by have := World.block_lt_of_cell? _ _ hw697_0; first | rwa [add_block] at this | exact this) GW689.out))) _).trans (hHeld.1)))))))))))))), ((cell_far (p := ⟨gb689, _, none⟩) (by first | exact Nat.ne_of_lt (Nat.lt_of_lt_of_le (by have := World.block_lt_of_cell? _ _ hw700_0; first | rwa [add_block] at this | exact this) GW689.out) | (rw [add_block]; exact Nat.ne_of_lt (Nat.lt_of_lt_of_le (by have := World.block_lt_of_cell? _ _ hw700_0; first | rwa [add_block] at this | exact this) GW689.out)) | (show (Addr.add _ _).block ≠ _; rw [add_block]; exact Nat.ne_of_lt (Nat.lt_of_lt_of_le (by have := World.block_lt_of_cell? _ _ hw700_0; first | rwa [add_block] at this | exact this) GW689.out)) | (dsimp only; exact Nat.ne_of_lt (Nat.lt_of_lt_of_le (by have := World.block_lt_of_cell? _ _ hw700_0; first | rwa [add_block] at this | exact this) GW689.out))) _).trans (((cell_far (p := ⟨gb689, _, none⟩) (by first | exact Nat.ne_of_lt (Nat.lt_of_lt_of_le (by have := World.block_lt_of_cell? _ _ hw700_0; first | rwa [add_block] at this | exact this) GW689.out) | (rw [add_block]; exact Nat.ne_of_lt (Nat.lt_of_lt_of_le (by have := World.block_lt_of_cell? _ _ hw700_0; first | rwa [add_block] at this | exact this) GW689.out)) | (show (Addr.add _ _).block ≠ _; rw [add_block]; exact Nat.ne_of_lt (Nat.lt_of_lt_of_le (by have := World.block_lt_of_cell? _ _ hw700_0; first | rwa [add_block] at this | exact this) GW689.out)) | (dsimp only; exact Nat.ne_of_lt (Nat.lt_of_lt_of_le (by have := World.block_lt_of_cell? _ _ hw700_0; first | rwa [add_block] at this | exact this) GW689.out))) _).trans (((cell_far (p := ⟨gb689, _, none⟩) (by first | exact Nat.ne_of_lt (Nat.lt_of_lt_of_le (by have := World.block_lt_of_cell? _ _ hw700_0; first | rwa [add_block] at this | exact this) GW689.out) | (rw [add_block]; exact Nat.ne_of_lt (Nat.lt_of_lt_of_le (by have := World.block_lt_of_cell? _ _ hw700_0; first | rwa [add_block] at this | exact this) GW689.out)) | (show (Addr.add _ _).block ≠ _; rw [add_block]; exact Nat.ne_of_lt (Nat.lt_of_lt_of_le (by have := World.block_lt_of_cell? _ _ hw700_0; first | rwa [add_block] at this | exact this) GW689.out)) | (dsimp only; exact Nat.ne_of_lt (Nat.lt_of_lt_of_le (by have := World.block_lt_of_cell? _ _ hw700_0; first | rwa [add_block] at this | exact this) GW689.out))) _).trans (((cell_far (p := ⟨gb689, _, none⟩) (by first | exact Nat.ne_of_lt (Nat.lt_of_lt_of_le (by have := World.block_lt_of_cell? _ _ hw700_0; first | rwa [add_block] at this | exact this) GW689.out) | (rw [add_block]; exact Nat.ne_of_lt (Nat.lt_of_lt_of_le (by have := World.block_lt_of_cell? _ _ hw700_0; first | rwa [add_block] at this | exact this) GW689.out)) | (show (Addr.add _ _).block ≠ _; rw [add_block]; exact Nat.ne_of_lt (Nat.lt_of_lt_of_le (by have := World.block_lt_of_cell? _ _ hw700_0; first | rwa [add_block] at this | exact this) GW689.out)) | (dsimp only; exact Nat.ne_of_lt (Nat.lt_of_lt_of_le (by have := World.block_lt_of_cell? _ _ hw700_0; first | rwa [add_block] at this | exact this) GW689.out))) _).trans (((cell_far (p := ⟨gb689, _, none⟩) (by first | exact Nat.ne_of_lt (Nat.lt_of_lt_of_le (by have := World.block_lt_of_cell? _ _ hw700_0; first | rwa [add_block] at this | exact this) GW689.out) | (rw [add_block]; exact Nat.ne_of_lt (Nat.lt_of_lt_of_le (by have := World.block_lt_of_cell? _ _ hw700_0; first | rwa [add_block] at this | exact this) GW689.out)) | (show (Addr.add _ _).block ≠ _; rw [add_block]; exact Nat.ne_of_lt (Nat.lt_of_lt_of_le (by have := World.block_lt_of_cell? _ _ hw700_0; first | rwa [add_block] at this | exact this) GW689.out)) | (dsimp only; exact Nat.ne_of_lt (Nat.lt_of_lt_of_le (by have := World.block_lt_of_cell? _ _ hw700_0; first | rwa [add_block] at this | exact this) GW689.out))) _).trans (((cell_far (p := ⟨gb689, _, none⟩) (by first | exact Nat.ne_of_lt (Nat.lt_of_lt_of_le (by have := World.block_lt_of_cell? _ _ hw700_0; first | rwa [add_block] at this | exact this) GW689.out) | (rw [add_block]; exact Nat.ne_of_lt (Nat.lt_of_lt_of_le (by have := World.block_lt_of_cell? _ _ hw700_0; first | rwa [add_block] at this | exact this) GW689.out)) | (show (Addr.add _ _).block ≠ _; rw [add_block]; exact Nat.ne_of_lt (Nat.lt_of_lt_of_le (by have := World.block_lt_of_cell? _ _ hw700_0; first | rwa [add_block] at this | exact this) GW689.out)) | (dsimp only; exact Nat.ne_of_lt (Nat.lt_of_lt_of_le (by have := World.block_lt_of_cell? _ _ hw700_0; first | rwa [add_block] at this | exact this) GW689.out))) _).trans (((cell_far (p := ⟨gb689, _, none⟩) (by first | exact Nat.ne_of_lt (Nat.lt_of_lt_of_le (by have := World.block_lt_of_cell? _ _ hw700_0; first | rwa [add_block] at this | exact this) GW689.out) | (rw [add_block]; exact Nat.ne_of_lt (Nat.lt_of_lt_of_le (by have := World.block_lt_of_cell? _ _ hw700_0; first | rwa [add_block] at this | exact this) GW689.out)) | (show (Addr.add _ _).block ≠ _; rw [add_block]; exact Nat.ne_of_lt (Nat.lt_of_lt_of_le (by have := World.block_lt_of_cell? _ _ hw700_0; first | rwa [add_block] at this | exact this) GW689.out)) | (dsimp only; exact Nat.ne_of_lt (Nat.lt_of_lt_of_le (by have := World.block_lt_of_cell? _ _ hw700_0; first | rwa [add_block] at this | exact this) GW689.out))) _).trans (hHeld.2))))))))))))))⟩ (fun hHeld => ?_)
                  clear hK K
                  refine pure_ (i := 23) (N := some 3) (v := ?_) (a' := ?_) #[true, true, true, true, true, true, true, true, true, true, true, true, true, true, true, true, true, true, true, true, true, true, true, true, false] rfl rfl (any_of HT_.out (by kernel_rfl)) (fun _ _ _ h => h) (Or.inl ⟨by rfl, ?_⟩) ?_ ?_
                  rotate_left
                  ·intro w'
                   go_simp
                   with_reducible rfl
                  rotate_left
                  ·simp only [Act.put, List.setIfInBounds_toArray, List.set_cons_zero, List.set_cons_succ, i64_w, i32_w]
                   rfl
                  refine pure_ (i := 24) (N := some 4) (v := ?_) (a' := ?_) #[true, true, true, true, true, true, true, true, true, true, true, true, true, true, true, true, true, true, true, true, true, true, true, true, true] rfl rfl (any_of HT_.out (by kernel_rfl)) (fun _ _ _ h => h) (Or.inl ⟨by rfl, ?_⟩) ?_ ?_
                  rotate_left
                  ·intro w'
                   go_simp
                   with_reducible rfl
                  rotate_left
                  ·simp only [Act.put, List.setIfInBounds_toArray, List.set_cons_zero, List.set_cons_succ, i64_w, i32_w]
                   rfl
                  refine done_ (done_of HT_.out (by kernel_rfl)) ?_
                  try go_wp2
                  refine bodyPost_ret (results_ctt rfl _ _ gb689 61 #[.int .u8 (rd l0 9), .int .u32 t698, .int .u32 t699, .int .i64 (ji45), .int .i64 t693, .int .u8 (rd l0 8), .int .u16 (IntKind.u16.wrap (t701))] (0, 0) _ rfl (by (with_reducible repeat first | apply blk_drewN | apply blk_drew | apply blk_alloc); refine blk_put (cs := #[.int .u8 (rd l0 9), .int .u32 t698, .int .u32 t699, .int .i64 (ji45), .int .i64 t693, .int .u8 (rd l0 8), .int .u16 0]) ?_ 6 _ rfl; (with_reducible repeat first | apply blk_drewN | apply blk_drew | apply blk_alloc); refine blk_put (cs := #[.int .u8 (rd l0 9), .int .u32 t698, .int .u32 t699, .int .i64 (ji45), .int .i64 t693, .int .u8 0, .int .u16 0]) ?_ 5 _ rfl; (with_reducible repeat first | apply blk_drewN | apply blk_drew | apply blk_alloc); refine blk_put (cs := #[.int .u8 (rd l0 9), .int .u32 t698, .int .u32 t699, .int .i64 (ji45), .int .i64 0, .int .u8 0, .int .u16 0]) ?_ 4 _ rfl; (with_reducible repeat first | apply blk_drewN | apply blk_drew | apply blk_alloc); refine blk_put (cs := #[.int .u8 (rd l0 9), .int .u32 t698, .int .u32 t699, .int .i64 0, .int .i64 0, .int .u8 0, .int .u16 0]) ?_ 3 _ rfl; (with_reducible repeat first | apply blk_drewN | apply blk_drew | apply blk_alloc); refine blk_put (cs := #[.int .u8 (rd l0 9), .int .u32 t698, .int .u32 0, .int .i64 0, .int .i64 0, .int .u8 0, .int .u16 0]) ?_ 2 _ rfl; (with_reducible repeat first | apply blk_drewN | apply blk_drew | apply blk_alloc); refine blk_put (cs := #[.int .u8 (rd l0 9), .int .u32 0, .int .u32 0, .int .i64 0, .int .i64 0, .int .u8 0, .int .u16 0]) ?_ 1 _ rfl; (with_reducible repeat first | apply blk_drewN | apply blk_drew | apply blk_alloc); refine blk_put (cs := #[.int .u8 0, .int .u32 0, .int .u32 0, .int .i64 0, .int .i64 0, .int .u8 0, .int .u16 0]) ?_ 0 _ rfl; (with_reducible repeat first | apply blk_drewN | apply blk_drew | apply blk_alloc); exact BK689.out) Try.underlying61 rfl (by kernel_rfl)) rfl ?_
                  exact ⟨_, by first | rfl | (simp [errW_none, errW_some] <;> rfl) | (simp only [← hji45]; first | rfl | (simp [errW_none, errW_some] <;> rfl)) | (simp [*, errW_none, errW_some] <;> rfl), by (with_reducible repeat (first | apply Kd.R_alloc | apply Kd.R_drewN | apply Kd.R_drew)); exact Kd.R_mono (Kd.R_far (p := ⟨gb689, 6, none⟩) (Kd.R_far (p := ⟨gb689, 5, none⟩) (Kd.R_far (p := ⟨gb689, 4, none⟩) (Kd.R_far (p := ⟨gb689, 3, none⟩) (Kd.R_far (p := ⟨gb689, 2, none⟩) (Kd.R_far (p := ⟨gb689, 1, none⟩) (Kd.R_far (p := ⟨gb689, 0, none⟩) (Kd.R_types HO711.out BK689.out (by decide)) (fun _ hk => hk.2) (.int .u8 (rd l0 9))) (fun _ hk => hk.2) (.int .u32 t698)) (fun _ hk => hk.2) (.int .u32 t699)) (fun _ hk => hk.2) (.int .i64 (ji45))) (fun _ hk => hk.2) (.int .i64 t693)) (fun _ hk => hk.2) (.int .u8 (rd l0 8))) (fun _ hk => hk.2) (.int .u16 (IntKind.u16.wrap (t701)))) (fun _ hk => trivial), by repeat first | (with_reducible first | exact HB.out | apply below_alloc | apply pw_below_drewN | apply below_drew1 | refine below_set ?_ GE689.out | refine below_set ?_ GE690.out) | exact HB.out⟩
                 ·rw [if_neg c60] at H
                  exact absurd H (by simp)
                ·rw [if_neg c59] at H
                 exact absurd H (by simp)
               ·rw [if_neg c58] at H
                exact absurd H (by simp)
              ·rw [if_neg c55] at H
               exact absurd H (by simp)
             ·rw [if_neg c52] at H
              exact absurd H (by simp)
            ·rw [if_neg c51] at H
             have c51b0 : ((Int.tmod t696 16384) == 0) = false := beq_eq_false_iff_ne.mpr c51
             have c51b1 : ((Int.tmod t696 16384) != 0) = true := bne_iff_ne.mpr c51
             simp only [Option.some.injEq, Prod.mk.injEq] at H
             obtain ⟨rfl, rfl, rfl, rfl, rfl, rfl, rfl, rfl, rfl⟩ := H
             obtain ⟨i075, hi075, _, hsz75, _⟩ := info_parts info5
             obtain ⟨hcut75, hA75, hC75⟩ := print_take_of (P := Try.prog) (Value.int .u8) 0 22 5 .i64 Try.underlying22 hi075 hsz75 (some ad691) c0 l0 (ji45) (of_decide_eq_true (by first | (with_reducible assumption) | assumption)) (of_decide_eq_true (by first | (with_reducible assumption) | assumption)) HC0.out
             have HR694 := Aside0.mk (Kd.C_of_reads (h1 := fun _ => rfl) (hA75 _ (Kd.reads_of_C HR0.out)))
             have HC694 := Aside0.mk hC75
             clear hA75 hC75 hi075 hsz75
             go_wp2_with (first | ((with_reducible refine gate_callee (f := 65) rfl ?_); refine goesL_ (some 53) rfl rfl Try.func65 (by kernel_rfl) rfl #[.int .i64 0, .slice (some ad691) (l0.take ((ji45) : Int).toNat).length c0] rfl (by (try simp only [List.map_toArray, List.map_cons, List.map_nil]); first | done | (rw [show (l0.take ((ji45) : Int).toNat).length = (ji45).toNat from (by rw [List.length_take]; have h_ : ((ji45) : Int) ≤ (l0.length : Int) := of_decide_eq_true (by first | (with_reducible assumption) | assumption); omega)] <;> rfl) | (simp only [hji45]; rfl) | rfl | (simp only [List.length_drop, List.length_take]; rfl)) ?_; (with_reducible refine (mantletref02_Add.calls kj31 0 _ _ (l0.take ((ji45) : Int).toNat) t695 _ ?side1 ?side2 A48.out).mono ?_); (case side1 => repeat (first | exact (Kd.C_below HR694.out HB.out) | (with_reducible refine Kd.C_alloc ?_ _) | (with_reducible refine Kd.C_drewN ?_ _) | (with_reducible refine Kd.C_drew ?_))); (case side2 => exact HC694.out); rintro e w' ⟨rfl, ⟨nd, rfl⟩⟩; refine ⟨_, rfl, ?_⟩; (try (first | (rw [drewN_self wc]; generalize hq_ : World.drewN wc _ = wc; have n0_ := Aside0.mk (blk_at hq_ BK689.out); have n1_ := Aside0.mk (blk_at hq_ BK690.out); have n2_ := Aside0.mk (below_at hq_ HB.out); clear hq_ BK689 BK690 HB; have BK689 := n0_; have BK690 := n1_; have HB := n2_; clear n0_ n1_ n2_) | (rw [drewN_self wc]; generalize hq_ : World.drewN wc _ = wc; have n0_ : Aside0 (wc.heap[gb689]? = some (.cells #[.int .u8 0, .int .u32 0, .int .u32 0, .int .i64 0, .int .i64 0, .int .u8 0, .int .u16 0] 61 (0, 0))) := ⟨by rw [← hq_]; exact (by (with_reducible repeat first | apply blk_drewN | apply blk_drew | apply blk_alloc); exact BK689.out)⟩; have n1_ : Aside0 (wc.heap[gb690]? = some (.cells #[.int .u8 0, .int .u32 0, .int .u32 0, .int .i64 0, .int .i64 0, .int .u8 0, .int .u16 0] 61 (0, 0))) := ⟨by rw [← hq_]; exact (by (with_reducible repeat first | apply blk_drewN | apply blk_drew | apply blk_alloc); exact BK690.out)⟩; have n2_ : Aside0 (Below w.heap.size w wc) := ⟨by rw [← hq_]; exact (by repeat first | (with_reducible first | exact HB.out | apply below_alloc | apply pw_below_drewN | apply below_drew1 | refine below_set ?_ GE689.out | refine below_set ?_ GE690.out) | exact HB.out)⟩; clear BK689 BK690 HB hq_; have BK689 := n0_; have BK690 := n1_; have HB := n2_; clear n0_ n1_ n2_)))) | ((with_reducible refine gate_callee (f := 66) rfl ?_); refine goesL_ (some 57) rfl rfl Try.func66 (by kernel_rfl) rfl #[.slice (some ad691) l0.length c0, .int .i64 6] rfl (by (try simp only [List.map_toArray, List.map_cons, List.map_nil]); first | done | rfl) ?_; (with_reducible refine (mantletref04_Two.calls _ _ l0 6 t696 _ ?side1 ?side2 A50.out).mono ?_); (case side1 => repeat (first | exact (Kd.C_below HR0.out HB.out) | (with_reducible refine Kd.C_alloc ?_ _) | (with_reducible refine Kd.C_drewN ?_ _) | (with_reducible refine Kd.C_drew ?_))); (case side2 => exact HC0.out); rintro e w' ⟨rfl, ⟨nd, rfl⟩⟩; refine ⟨_, rfl, ?_⟩; (try (first | (rw [drewN_self wc]; generalize hq_ : World.drewN wc _ = wc; have n0_ := Aside0.mk (blk_at hq_ BK689.out); have n1_ := Aside0.mk (blk_at hq_ BK690.out); have n2_ := Aside0.mk (below_at hq_ HB.out); clear hq_ BK689 BK690 HB; have BK689 := n0_; have BK690 := n1_; have HB := n2_; clear n0_ n1_ n2_) | (rw [drewN_self wc]; generalize hq_ : World.drewN wc _ = wc; have n0_ : Aside0 (wc.heap[gb689]? = some (.cells #[.int .u8 0, .int .u32 0, .int .u32 0, .int .i64 0, .int .i64 0, .int .u8 0, .int .u16 0] 61 (0, 0))) := ⟨by rw [← hq_]; exact (by (with_reducible repeat first | apply blk_drewN | apply blk_drew | apply blk_alloc); exact BK689.out)⟩; have n1_ : Aside0 (wc.heap[gb690]? = some (.cells #[.int .u8 0, .int .u32 0, .int .u32 0, .int .i64 0, .int .i64 0, .int .u8 0, .int .u16 0] 61 (0, 0))) := ⟨by rw [← hq_]; exact (by (with_reducible repeat first | apply blk_drewN | apply blk_drew | apply blk_alloc); exact BK690.out)⟩; have n2_ : Aside0 (Below w.heap.size w wc) := ⟨by rw [← hq_]; exact (by repeat first | (with_reducible first | exact HB.out | apply below_alloc | apply pw_below_drewN | apply below_drew1 | refine below_set ?_ GE689.out | refine below_set ?_ GE690.out) | exact HB.out)⟩; clear BK689 BK690 HB hq_; have BK689 := n0_; have BK690 := n1_; have HB := n2_; clear n0_ n1_ n2_))); have hnb76 := NB690_689.out; have hnc76 := NB689_690.out; have hcz77_0 : wc.cell? ⟨gb690, 0, none⟩ = some (.int .u8 0) := (blk_cell BK690.out 0).trans rfl; have hcz77_1 : wc.cell? ⟨gb690, 1, none⟩ = some (.int .u32 0) := (blk_cell BK690.out 1).trans rfl; have hcz77_2 : wc.cell? ⟨gb690, 2, none⟩ = some (.int .u32 0) := (blk_cell BK690.out 2).trans rfl; have hcz77_3 : wc.cell? ⟨gb690, 3, none⟩ = some (.int .i64 0) := (blk_cell BK690.out 3).trans rfl; have hcz77_4 : wc.cell? ⟨gb690, 4, none⟩ = some (.int .i64 0) := (blk_cell BK690.out 4).trans rfl; have hcz77_5 : wc.cell? ⟨gb690, 5, none⟩ = some (.int .u8 0) := (blk_cell BK690.out 5).trans rfl; have hcz77_6 : wc.cell? ⟨gb690, 6, none⟩ = some (.int .u16 0) := (blk_cell BK690.out 6).trans rfl; have hfz77_0 := blk_frozen BK690.out 0; have hfz77_1 := blk_frozen BK690.out 1; have hfz77_2 := blk_frozen BK690.out 2; have hfz77_3 := blk_frozen BK690.out 3; have hfz77_4 := blk_frozen BK690.out 4; have hfz77_5 := blk_frozen BK690.out 5; have hfz77_6 := blk_frozen BK690.out 6; have hcz78_0 : wc.cell? ⟨gb689, 0, none⟩ = some (.int .u8 0) := (blk_cell BK689.out 0).trans rfl; have hcz78_1 : wc.cell? ⟨gb689, 1, none⟩ = some (.int .u32 0) := (blk_cell BK689.out 1).trans rfl; have hcz78_2 : wc.cell? ⟨gb689, 2, none⟩ = some (.int .u32 0) := (blk_cell BK689.out 2).trans rfl; have hcz78_3 : wc.cell? ⟨gb689, 3, none⟩ = some (.int .i64 0) := (blk_cell BK689.out 3).trans rfl; have hcz78_4 : wc.cell? ⟨gb689, 4, none⟩ = some (.int .i64 0) := (blk_cell BK689.out 4).trans rfl; have hcz78_5 : wc.cell? ⟨gb689, 5, none⟩ = some (.int .u8 0) := (blk_cell BK689.out 5).trans rfl; have hcz78_6 : wc.cell? ⟨gb689, 6, none⟩ = some (.int .u16 0) := (blk_cell BK689.out 6).trans rfl; have hfz78_0 := blk_frozen BK689.out 0; have hfz78_1 := blk_frozen BK689.out 1; have hfz78_2 := blk_frozen BK689.out 2; have hfz78_3 := blk_frozen BK689.out 3; have hfz78_4 := blk_frozen BK689.out 4; have hfz78_5 := blk_frozen BK689.out 5; have hfz78_6 := blk_frozen BK689.out 6) | ((with_reducible refine gate_store (t := 61) (p := 2) rfl ?_); refine store_event (t := 61) (p := 2) (v := ?vo_w79) (w1 := (((((((wc.setCell ⟨gb689, 0, none⟩ (.int .u8 0)).setCell ⟨gb689, 1, none⟩ (.int .u32 0)).setCell ⟨gb689, 2, none⟩ (.int .u32 0)).setCell ⟨gb689, 3, none⟩ (.int .i64 0)).setCell ⟨gb689, 4, none⟩ (.int .i64 0)).setCell ⟨gb689, 5, none⟩ (.int .u8 0)).setCell ⟨gb689, 6, none⟩ (.int .u16 0))) ?hg ?ho ?hn ?hr ?_; (case ho => rfl); (case hg => rfl); (case hn => rfl); (case hr => first | (go_simp; done) | (go_simp; rfl)); intro w79 hw; have n0_ : Aside0 (w79.heap[gb689]? = some (.cells #[.int .u8 0, .int .u32 0, .int .u32 0, .int .i64 0, .int .i64 0, .int .u8 0, .int .u16 0] 61 (0, 0))) := ⟨(by rw [hw]; exact (by (with_reducible repeat first | apply blk_drewN | apply blk_drew | apply blk_alloc); refine blk_put (cs := #[.int .u8 0, .int .u32 0, .int .u32 0, .int .i64 0, .int .i64 0, .int .u8 0, .int .u16 0]) ?_ 6 _ rfl; (with_reducible repeat first | apply blk_drewN | apply blk_drew | apply blk_alloc); refine blk_put (cs := #[.int .u8 0, .int .u32 0, .int .u32 0, .int .i64 0, .int .i64 0, .int .u8 0, .int .u16 0]) ?_ 5 _ rfl; (with_reducible repeat first | apply blk_drewN | apply blk_drew | apply blk_alloc); refine blk_put (cs := #[.int .u8 0, .int .u32 0, .int .u32 0, .int .i64 0, .int .i64 0, .int .u8 0, .int .u16 0]) ?_ 4 _ rfl; (with_reducible repeat first | apply blk_drewN | apply blk_drew | apply blk_alloc); refine blk_put (cs := #[.int .u8 0, .int .u32 0, .int .u32 0, .int .i64 0, .int .i64 0, .int .u8 0, .int .u16 0]) ?_ 3 _ rfl; (with_reducible repeat first | apply blk_drewN | apply blk_drew | apply blk_alloc); refine blk_put (cs := #[.int .u8 0, .int .u32 0, .int .u32 0, .int .i64 0, .int .i64 0, .int .u8 0, .int .u16 0]) ?_ 2 _ rfl; (with_reducible repeat first | apply blk_drewN | apply blk_drew | apply blk_alloc); refine blk_put (cs := #[.int .u8 0, .int .u32 0, .int .u32 0, .int .i64 0, .int .i64 0, .int .u8 0, .int .u16 0]) ?_ 1 _ rfl; (with_reducible repeat first | apply blk_drewN | apply blk_drew | apply blk_alloc); refine blk_put (cs := #[.int .u8 0, .int .u32 0, .int .u32 0, .int .i64 0, .int .i64 0, .int .u8 0, .int .u16 0]) ?_ 0 _ rfl; (with_reducible repeat first | apply blk_drewN | apply blk_drew | apply blk_alloc); exact BK689.out))⟩; have n1_ : Aside0 (w79.heap[gb690]? = some (.cells #[.int .u8 0, .int .u32 0, .int .u32 0, .int .i64 0, .int .i64 0, .int .u8 0, .int .u16 0] 61 (0, 0))) := ⟨(by rw [hw]; exact (by (with_reducible repeat first | apply blk_drewN | apply blk_drew | apply blk_alloc); refine blk_far ?_ NB690_689.out _; (with_reducible repeat first | apply blk_drewN | apply blk_drew | apply blk_alloc); refine blk_far ?_ NB690_689.out _; (with_reducible repeat first | apply blk_drewN | apply blk_drew | apply blk_alloc); refine blk_far ?_ NB690_689.out _; (with_reducible repeat first | apply blk_drewN | apply blk_drew | apply blk_alloc); refine blk_far ?_ NB690_689.out _; (with_reducible repeat first | apply blk_drewN | apply blk_drew | apply blk_alloc); refine blk_far ?_ NB690_689.out _; (with_reducible repeat first | apply blk_drewN | apply blk_drew | apply blk_alloc); refine blk_far ?_ NB690_689.out _; (with_reducible repeat first | apply blk_drewN | apply blk_drew | apply blk_alloc); refine blk_far ?_ NB690_689.out _; (with_reducible repeat first | apply blk_drewN | apply blk_drew | apply blk_alloc); exact BK690.out))⟩; have n2_ : Aside0 (Below w.heap.size w w79) := ⟨(by rw [hw]; exact (by repeat first | (with_reducible first | exact HB.out | apply below_alloc | apply pw_below_drewN | apply below_drew1 | refine below_set ?_ GE689.out | refine below_set ?_ GE690.out) | exact HB.out))⟩; clear hw; clear BK689; clear BK690; clear HB; have BK689 := n0_; have BK690 := n1_; have HB := n2_; clear n0_ n1_ n2_))
             refine bodyPost_ret (results_ctt rfl _ _ gb689 61 #[.int .u8 0, .int .u32 0, .int .u32 0, .int .i64 0, .int .i64 0, .int .u8 0, .int .u16 0] (0, 0) _ rfl (by (with_reducible repeat first | apply blk_drewN | apply blk_drew | apply blk_alloc); exact BK689.out) Try.underlying61 rfl (by kernel_rfl)) rfl ?_
             exact ⟨_, by first | rfl | (simp [errW_none, errW_some] <;> rfl) | (simp only [← hji45]; first | rfl | (simp [errW_none, errW_some] <;> rfl)) | (simp [*, errW_none, errW_some] <;> rfl), by first | exact Kd.R_nil _ _ _ _ _ | exact Kd.N_nil _ _ _ _ _ | exact Kd.V_nil _ _ _ _ _ | exact Kd.Q_nil _ _ _ _ _ | exact Kd.S_nil _ _ _ _ _, by repeat first | (with_reducible first | exact HB.out | apply below_alloc | apply pw_below_drewN | apply below_drew1 | refine below_set ?_ GE689.out | refine below_set ?_ GE690.out) | exact HB.out⟩
           ·rw [if_neg c49] at H
            have c49b0 : (t695 == 65535) = false := beq_eq_false_iff_ne.mpr c49
            have c49b1 : (t695 != 65535) = true := bne_iff_ne.mpr c49
            simp only [Option.some.injEq, Prod.mk.injEq] at H
            obtain ⟨rfl, rfl, rfl, rfl, rfl, rfl, rfl, rfl, rfl⟩ := H
            obtain ⟨i080, hi080, _, hsz80, _⟩ := info_parts info5
            obtain ⟨hcut80, hA80, hC80⟩ := print_take_of (P := Try.prog) (Value.int .u8) 0 22 5 .i64 Try.underlying22 hi080 hsz80 (some ad691) c0 l0 (ji45) (of_decide_eq_true (by first | (with_reducible assumption) | assumption)) (of_decide_eq_true (by first | (with_reducible assumption) | assumption)) HC0.out
            have HR694 := Aside0.mk (Kd.C_of_reads (h1 := fun _ => rfl) (hA80 _ (Kd.reads_of_C HR0.out)))
            have HC694 := Aside0.mk hC80
            clear hA80 hC80 hi080 hsz80
            go_wp2_with (first | ((with_reducible refine gate_callee (f := 65) rfl ?_); refine goesL_ (some 53) rfl rfl Try.func65 (by kernel_rfl) rfl #[.int .i64 0, .slice (some ad691) (l0.take ((ji45) : Int).toNat).length c0] rfl (by (try simp only [List.map_toArray, List.map_cons, List.map_nil]); first | done | (rw [show (l0.take ((ji45) : Int).toNat).length = (ji45).toNat from (by rw [List.length_take]; have h_ : ((ji45) : Int) ≤ (l0.length : Int) := of_decide_eq_true (by first | (with_reducible assumption) | assumption); omega)] <;> rfl) | (simp only [hji45]; rfl) | rfl | (simp only [List.length_drop, List.length_take]; rfl)) ?_; (with_reducible refine (mantletref02_Add.calls kj31 0 _ _ (l0.take ((ji45) : Int).toNat) t695 _ ?side1 ?side2 A48.out).mono ?_); (case side1 => repeat (first | exact (Kd.C_below HR694.out HB.out) | (with_reducible refine Kd.C_alloc ?_ _) | (with_reducible refine Kd.C_drewN ?_ _) | (with_reducible refine Kd.C_drew ?_))); (case side2 => exact HC694.out); rintro e w' ⟨rfl, ⟨nd, rfl⟩⟩; refine ⟨_, rfl, ?_⟩; (try (first | (rw [drewN_self wc]; generalize hq_ : World.drewN wc _ = wc; have n0_ := Aside0.mk (blk_at hq_ BK689.out); have n1_ := Aside0.mk (blk_at hq_ BK690.out); have n2_ := Aside0.mk (below_at hq_ HB.out); clear hq_ BK689 BK690 HB; have BK689 := n0_; have BK690 := n1_; have HB := n2_; clear n0_ n1_ n2_) | (rw [drewN_self wc]; generalize hq_ : World.drewN wc _ = wc; have n0_ : Aside0 (wc.heap[gb689]? = some (.cells #[.int .u8 0, .int .u32 0, .int .u32 0, .int .i64 0, .int .i64 0, .int .u8 0, .int .u16 0] 61 (0, 0))) := ⟨by rw [← hq_]; exact (by (with_reducible repeat first | apply blk_drewN | apply blk_drew | apply blk_alloc); exact BK689.out)⟩; have n1_ : Aside0 (wc.heap[gb690]? = some (.cells #[.int .u8 0, .int .u32 0, .int .u32 0, .int .i64 0, .int .i64 0, .int .u8 0, .int .u16 0] 61 (0, 0))) := ⟨by rw [← hq_]; exact (by (with_reducible repeat first | apply blk_drewN | apply blk_drew | apply blk_alloc); exact BK690.out)⟩; have n2_ : Aside0 (Below w.heap.size w wc) := ⟨by rw [← hq_]; exact (by repeat first | (with_reducible first | exact HB.out | apply below_alloc | apply pw_below_drewN | apply below_drew1 | refine below_set ?_ GE689.out | refine below_set ?_ GE690.out) | exact HB.out)⟩; clear BK689 BK690 HB hq_; have BK689 := n0_; have BK690 := n1_; have HB := n2_; clear n0_ n1_ n2_))); have hnb81 := NB690_689.out; have hnc81 := NB689_690.out; have hcz82_0 : wc.cell? ⟨gb690, 0, none⟩ = some (.int .u8 0) := (blk_cell BK690.out 0).trans rfl; have hcz82_1 : wc.cell? ⟨gb690, 1, none⟩ = some (.int .u32 0) := (blk_cell BK690.out 1).trans rfl; have hcz82_2 : wc.cell? ⟨gb690, 2, none⟩ = some (.int .u32 0) := (blk_cell BK690.out 2).trans rfl; have hcz82_3 : wc.cell? ⟨gb690, 3, none⟩ = some (.int .i64 0) := (blk_cell BK690.out 3).trans rfl; have hcz82_4 : wc.cell? ⟨gb690, 4, none⟩ = some (.int .i64 0) := (blk_cell BK690.out 4).trans rfl; have hcz82_5 : wc.cell? ⟨gb690, 5, none⟩ = some (.int .u8 0) := (blk_cell BK690.out 5).trans rfl; have hcz82_6 : wc.cell? ⟨gb690, 6, none⟩ = some (.int .u16 0) := (blk_cell BK690.out 6).trans rfl; have hfz82_0 := blk_frozen BK690.out 0; have hfz82_1 := blk_frozen BK690.out 1; have hfz82_2 := blk_frozen BK690.out 2; have hfz82_3 := blk_frozen BK690.out 3; have hfz82_4 := blk_frozen BK690.out 4; have hfz82_5 := blk_frozen BK690.out 5; have hfz82_6 := blk_frozen BK690.out 6; have hcz83_0 : wc.cell? ⟨gb689, 0, none⟩ = some (.int .u8 0) := (blk_cell BK689.out 0).trans rfl; have hcz83_1 : wc.cell? ⟨gb689, 1, none⟩ = some (.int .u32 0) := (blk_cell BK689.out 1).trans rfl; have hcz83_2 : wc.cell? ⟨gb689, 2, none⟩ = some (.int .u32 0) := (blk_cell BK689.out 2).trans rfl; have hcz83_3 : wc.cell? ⟨gb689, 3, none⟩ = some (.int .i64 0) := (blk_cell BK689.out 3).trans rfl; have hcz83_4 : wc.cell? ⟨gb689, 4, none⟩ = some (.int .i64 0) := (blk_cell BK689.out 4).trans rfl; have hcz83_5 : wc.cell? ⟨gb689, 5, none⟩ = some (.int .u8 0) := (blk_cell BK689.out 5).trans rfl; have hcz83_6 : wc.cell? ⟨gb689, 6, none⟩ = some (.int .u16 0) := (blk_cell BK689.out 6).trans rfl; have hfz83_0 := blk_frozen BK689.out 0; have hfz83_1 := blk_frozen BK689.out 1; have hfz83_2 := blk_frozen BK689.out 2; have hfz83_3 := blk_frozen BK689.out 3; have hfz83_4 := blk_frozen BK689.out 4; have hfz83_5 := blk_frozen BK689.out 5; have hfz83_6 := blk_frozen BK689.out 6) | ((with_reducible refine gate_store (t := 61) (p := 2) rfl ?_); refine store_event (t := 61) (p := 2) (v := ?vo_w84) (w1 := (((((((wc.setCell ⟨gb689, 0, none⟩ (.int .u8 0)).setCell ⟨gb689, 1, none⟩ (.int .u32 0)).setCell ⟨gb689, 2, none⟩ (.int .u32 0)).setCell ⟨gb689, 3, none⟩ (.int .i64 0)).setCell ⟨gb689, 4, none⟩ (.int .i64 0)).setCell ⟨gb689, 5, none⟩ (.int .u8 0)).setCell ⟨gb689, 6, none⟩ (.int .u16 0))) ?hg ?ho ?hn ?hr ?_; (case ho => rfl); (case hg => rfl); (case hn => rfl); (case hr => first | (go_simp; done) | (go_simp; rfl)); intro w84 hw; have n0_ : Aside0 (w84.heap[gb689]? = some (.cells #[.int .u8 0, .int .u32 0, .int .u32 0, .int .i64 0, .int .i64 0, .int .u8 0, .int .u16 0] 61 (0, 0))) := ⟨(by rw [hw]; exact (by (with_reducible repeat first | apply blk_drewN | apply blk_drew | apply blk_alloc); refine blk_put (cs := #[.int .u8 0, .int .u32 0, .int .u32 0, .int .i64 0, .int .i64 0, .int .u8 0, .int .u16 0]) ?_ 6 _ rfl; (with_reducible repeat first | apply blk_drewN | apply blk_drew | apply blk_alloc); refine blk_put (cs := #[.int .u8 0, .int .u32 0, .int .u32 0, .int .i64 0, .int .i64 0, .int .u8 0, .int .u16 0]) ?_ 5 _ rfl; (with_reducible repeat first | apply blk_drewN | apply blk_drew | apply blk_alloc); refine blk_put (cs := #[.int .u8 0, .int .u32 0, .int .u32 0, .int .i64 0, .int .i64 0, .int .u8 0, .int .u16 0]) ?_ 4 _ rfl; (with_reducible repeat first | apply blk_drewN | apply blk_drew | apply blk_alloc); refine blk_put (cs := #[.int .u8 0, .int .u32 0, .int .u32 0, .int .i64 0, .int .i64 0, .int .u8 0, .int .u16 0]) ?_ 3 _ rfl; (with_reducible repeat first | apply blk_drewN | apply blk_drew | apply blk_alloc); refine blk_put (cs := #[.int .u8 0, .int .u32 0, .int .u32 0, .int .i64 0, .int .i64 0, .int .u8 0, .int .u16 0]) ?_ 2 _ rfl; (with_reducible repeat first | apply blk_drewN | apply blk_drew | apply blk_alloc); refine blk_put (cs := #[.int .u8 0, .int .u32 0, .int .u32 0, .int .i64 0, .int .i64 0, .int .u8 0, .int .u16 0]) ?_ 1 _ rfl; (with_reducible repeat first | apply blk_drewN | apply blk_drew | apply blk_alloc); refine blk_put (cs := #[.int .u8 0, .int .u32 0, .int .u32 0, .int .i64 0, .int .i64 0, .int .u8 0, .int .u16 0]) ?_ 0 _ rfl; (with_reducible repeat first | apply blk_drewN | apply blk_drew | apply blk_alloc); exact BK689.out))⟩; have n1_ : Aside0 (w84.heap[gb690]? = some (.cells #[.int .u8 0, .int .u32 0, .int .u32 0, .int .i64 0, .int .i64 0, .int .u8 0, .int .u16 0] 61 (0, 0))) := ⟨(by rw [hw]; exact (by (with_reducible repeat first | apply blk_drewN | apply blk_drew | apply blk_alloc); refine blk_far ?_ NB690_689.out _; (with_reducible repeat first | apply blk_drewN | apply blk_drew | apply blk_alloc); refine blk_far ?_ NB690_689.out _; (with_reducible repeat first | apply blk_drewN | apply blk_drew | apply blk_alloc); refine blk_far ?_ NB690_689.out _; (with_reducible repeat first | apply blk_drewN | apply blk_drew | apply blk_alloc); refine blk_far ?_ NB690_689.out _; (with_reducible repeat first | apply blk_drewN | apply blk_drew | apply blk_alloc); refine blk_far ?_ NB690_689.out _; (with_reducible repeat first | apply blk_drewN | apply blk_drew | apply blk_alloc); refine blk_far ?_ NB690_689.out _; (with_reducible repeat first | apply blk_drewN | apply blk_drew | apply blk_alloc); refine blk_far ?_ NB690_689.out _; (with_reducible repeat first | apply blk_drewN | apply blk_drew | apply blk_alloc); exact BK690.out))⟩; have n2_ : Aside0 (Below w.heap.size w w84) := ⟨(by rw [hw]; exact (by repeat first | (with_reducible first | exact HB.out | apply below_alloc | apply pw_below_drewN | apply below_drew1 | refine below_set ?_ GE689.out | refine below_set ?_ GE690.out) | exact HB.out))⟩; clear hw; clear BK689; clear BK690; clear HB; have BK689 := n0_; have BK690 := n1_; have HB := n2_; clear n0_ n1_ n2_))
            refine bodyPost_ret (results_ctt rfl _ _ gb689 61 #[.int .u8 0, .int .u32 0, .int .u32 0, .int .i64 0, .int .i64 0, .int .u8 0, .int .u16 0] (0, 0) _ rfl (by (with_reducible repeat first | apply blk_drewN | apply blk_drew | apply blk_alloc); exact BK689.out) Try.underlying61 rfl (by kernel_rfl)) rfl ?_
            exact ⟨_, by first | rfl | (simp [errW_none, errW_some] <;> rfl) | (simp only [← hji45]; first | rfl | (simp [errW_none, errW_some] <;> rfl)) | (simp [*, errW_none, errW_some] <;> rfl), by first | exact Kd.R_nil _ _ _ _ _ | exact Kd.N_nil _ _ _ _ _ | exact Kd.V_nil _ _ _ _ _ | exact Kd.Q_nil _ _ _ _ _ | exact Kd.S_nil _ _ _ _ _, by repeat first | (with_reducible first | exact HB.out | apply below_alloc | apply pw_below_drewN | apply below_drew1 | refine below_set ?_ GE689.out | refine below_set ?_ GE690.out) | exact HB.out⟩
          ·rw [if_neg c47] at H
           exact absurd H (by simp)
         ·rw [if_neg c46] at H
          exact absurd H (by simp)
    ·rw [if_neg c21] at H
     have c21b0 : (((Int.tdiv (rd l0 0) 16) % 256) == 4) = false := beq_eq_false_iff_ne.mpr c21
     have c21b1 : (((Int.tdiv (rd l0 0) 16) % 256) != 4) = true := bne_iff_ne.mpr c21
     simp only [Option.some.injEq, Prod.mk.injEq] at H
     obtain ⟨rfl, rfl, rfl, rfl, rfl, rfl, rfl, rfl, rfl⟩ := H
     go_enter Try.func48, Try.ntmps48
     go_wp2_with (first | ((with_reducible refine gate_dst (N := 2) rfl ?_); (try (refine gate_guard (by rfl) ?_; dsimp only)); refine box_event ?hg (N := 2) ?hd (cs := #[.int .u8 0, .int .u32 0, .int .u32 0, .int .i64 0, .int .i64 0, .int .u8 0, .int .u16 0]) (t := 61) ?hr ?_; (case hd => rfl); (case hg => rfl); (case hr => first | (go_simp; done) | (go_simp; rfl)); intro gb689 hg w85 hbox hb; have n0_ := Aside0.mk (below_step (by repeat first | (with_reducible first | exact HB.out | apply below_alloc | apply pw_below_drewN | apply below_drew1) | exact HB.out) hb); have n1_ := Aside0.mk (hbox); have n2_ := Aside0.mk ((by rw [hg]; exact (below_size (by repeat first | (with_reducible first | exact HB.out | apply below_alloc | apply pw_below_drewN | apply below_drew1) | exact HB.out)) : w.heap.size ≤ gb689)); have n3_ := Aside0.mk ((by rw [hg]; exact (below_size (by repeat first | (with_reducible first | exact HB.out | apply below_alloc | apply pw_below_drewN | apply below_drew1) | exact HB.out)) : w.heap.size ≤ gb689)); clear HB; have HB := n0_; have BK689 := n1_; have GW689 := n2_; have GE689 := n3_; clear n0_ n1_ n2_ n3_; clear hb hbox hg) | ((with_reducible refine gate_dst (N := 5) rfl ?_); (try (refine gate_guard (by rfl) ?_; dsimp only)); refine box_event ?hg (N := 5) ?hd (cs := #[.int .u8 0, .int .u32 0, .int .u32 0, .int .i64 0, .int .i64 0, .int .u8 0, .int .u16 0]) (t := 61) ?hr ?_; (case hd => rfl); (case hg => rfl); (case hr => first | (go_simp; done) | (go_simp; rfl)); intro gb690 hg w86 hbox hb; have n0_ := Aside0.mk (blk_below (g := gb689) (o := Z_61) (by (with_reducible repeat first | apply blk_drewN | apply blk_drew | apply blk_alloc); exact BK689.out) hb); have n1_ := Aside0.mk (below_step (by repeat first | (with_reducible first | exact HB.out | apply below_alloc | apply pw_below_drewN | apply below_drew1 | refine below_set ?_ GE689.out) | exact HB.out) hb); have n2_ := Aside0.mk (hbox); have n3_ := Aside0.mk ((by rw [hg]; exact (below_size (by repeat first | (with_reducible first | exact HB.out | apply below_alloc | apply pw_below_drewN | apply below_drew1 | refine below_set ?_ GE689.out) | exact HB.out)) : w.heap.size ≤ gb690)); have n4_ := Aside0.mk ((by rw [hg]; exact (below_size (by repeat first | (with_reducible first | exact HB.out | apply below_alloc | apply pw_below_drewN | apply below_drew1 | refine below_set ?_ GE689.out) | exact HB.out)) : w.heap.size ≤ gb690)); have n5_ := Aside0.mk ((by rw [hg]; exact Nat.ne_of_lt (blk_lt (g := gb689) (o := Z_61) (by (with_reducible repeat first | apply blk_drewN | apply blk_drew | apply blk_alloc); exact BK689.out)) : gb689 ≠ gb690)); have n6_ := Aside0.mk ((by rw [hg]; exact Nat.ne_of_gt (blk_lt (g := gb689) (o := Z_61) (by (with_reducible repeat first | apply blk_drewN | apply blk_drew | apply blk_alloc); exact BK689.out)) : gb690 ≠ gb689)); clear BK689; clear HB; have BK689 := n0_; have HB := n1_; have BK690 := n2_; have GW690 := n3_; have GE690 := n4_; have NB689_690 := n5_; have NB690_689 := n6_; clear n0_ n1_ n2_ n3_ n4_ n5_ n6_; clear hb hbox hg; have hnb87 := NB690_689.out; have hnc87 := NB689_690.out; have hcz88_0 : w86.cell? ⟨gb690, 0, none⟩ = some (.int .u8 0) := (blk_cell BK690.out 0).trans rfl; have hcz88_1 : w86.cell? ⟨gb690, 1, none⟩ = some (.int .u32 0) := (blk_cell BK690.out 1).trans rfl; have hcz88_2 : w86.cell? ⟨gb690, 2, none⟩ = some (.int .u32 0) := (blk_cell BK690.out 2).trans rfl; have hcz88_3 : w86.cell? ⟨gb690, 3, none⟩ = some (.int .i64 0) := (blk_cell BK690.out 3).trans rfl; have hcz88_4 : w86.cell? ⟨gb690, 4, none⟩ = some (.int .i64 0) := (blk_cell BK690.out 4).trans rfl; have hcz88_5 : w86.cell? ⟨gb690, 5, none⟩ = some (.int .u8 0) := (blk_cell BK690.out 5).trans rfl; have hcz88_6 : w86.cell? ⟨gb690, 6, none⟩ = some (.int .u16 0) := (blk_cell BK690.out 6).trans rfl; have hfz88_0 := blk_frozen BK690.out 0; have hfz88_1 := blk_frozen BK690.out 1; have hfz88_2 := blk_frozen BK690.out 2; have hfz88_3 := blk_frozen BK690.out 3; have hfz88_4 := blk_frozen BK690.out 4; have hfz88_5 := blk_frozen BK690.out 5; have hfz88_6 := blk_frozen BK690.out 6) | ((with_reducible refine gate_store (t := 61) (p := 5) rfl ?_); refine store_event (t := 61) (p := 5) (v := ?vo_w89) (w1 := (((((((w86.setCell ⟨gb690, 0, none⟩ (.int .u8 0)).setCell ⟨gb690, 1, none⟩ (.int .u32 0)).setCell ⟨gb690, 2, none⟩ (.int .u32 0)).setCell ⟨gb690, 3, none⟩ (.int .i64 0)).setCell ⟨gb690, 4, none⟩ (.int .i64 0)).setCell ⟨gb690, 5, none⟩ (.int .u8 0)).setCell ⟨gb690, 6, none⟩ (.int .u16 0))) ?hg ?ho ?hn ?hr ?_; (case ho => rfl); (case hg => rfl); (case hn => rfl); (case hr => first | (go_simp; done) | (go_simp; rfl)); intro w89 hw; have n0_ : Aside0 (w89.heap[gb689]? = some (.cells #[.int .u8 0, .int .u32 0, .int .u32 0, .int .i64 0, .int .i64 0, .int .u8 0, .int .u16 0] 61 (0, 0))) := ⟨(by rw [hw]; exact (by (with_reducible repeat first | apply blk_drewN | apply blk_drew | apply blk_alloc); refine blk_far ?_ NB689_690.out _; (with_reducible repeat first | apply blk_drewN | apply blk_drew | apply blk_alloc); refine blk_far ?_ NB689_690.out _; (with_reducible repeat first | apply blk_drewN | apply blk_drew | apply blk_alloc); refine blk_far ?_ NB689_690.out _; (with_reducible repeat first | apply blk_drewN | apply blk_drew | apply blk_alloc); refine blk_far ?_ NB689_690.out _; (with_reducible repeat first | apply blk_drewN | apply blk_drew | apply blk_alloc); refine blk_far ?_ NB689_690.out _; (with_reducible repeat first | apply blk_drewN | apply blk_drew | apply blk_alloc); refine blk_far ?_ NB689_690.out _; (with_reducible repeat first | apply blk_drewN | apply blk_drew | apply blk_alloc); refine blk_far ?_ NB689_690.out _; (with_reducible repeat first | apply blk_drewN | apply blk_drew | apply blk_alloc); exact BK689.out))⟩; have n1_ : Aside0 (w89.heap[gb690]? = some (.cells #[.int .u8 0, .int .u32 0, .int .u32 0, .int .i64 0, .int .i64 0, .int .u8 0, .int .u16 0] 61 (0, 0))) := ⟨(by rw [hw]; exact (by (with_reducible repeat first | apply blk_drewN | apply blk_drew | apply blk_alloc); refine blk_put (cs := #[.int .u8 0, .int .u32 0, .int .u32 0, .int .i64 0, .int .i64 0, .int .u8 0, .int .u16 0]) ?_ 6 _ rfl; (with_reducible repeat first | apply blk_drewN | apply blk_drew | apply blk_alloc); refine blk_put (cs := #[.int .u8 0, .int .u32 0, .int .u32 0, .int .i64 0, .int .i64 0, .int .u8 0, .int .u16 0]) ?_ 5 _ rfl; (with_reducible repeat first | apply blk_drewN | apply blk_drew | apply blk_alloc); refine blk_put (cs := #[.int .u8 0, .int .u32 0, .int .u32 0, .int .i64 0, .int .i64 0, .int .u8 0, .int .u16 0]) ?_ 4 _ rfl; (with_reducible repeat first | apply blk_drewN | apply blk_drew | apply blk_alloc); refine blk_put (cs := #[.int .u8 0, .int .u32 0, .int .u32 0, .int .i64 0, .int .i64 0, .int .u8 0, .int .u16 0]) ?_ 3 _ rfl; (with_reducible repeat first | apply blk_drewN | apply blk_drew | apply blk_alloc); refine blk_put (cs := #[.int .u8 0, .int .u32 0, .int .u32 0, .int .i64 0, .int .i64 0, .int .u8 0, .int .u16 0]) ?_ 2 _ rfl; (with_reducible repeat first | apply blk_drewN | apply blk_drew | apply blk_alloc); refine blk_put (cs := #[.int .u8 0, .int .u32 0, .int .u32 0, .int .i64 0, .int .i64 0, .int .u8 0, .int .u16 0]) ?_ 1 _ rfl; (with_reducible repeat first | apply blk_drewN | apply blk_drew | apply blk_alloc); refine blk_put (cs := #[.int .u8 0, .int .u32 0, .int .u32 0, .int .i64 0, .int .i64 0, .int .u8 0, .int .u16 0]) ?_ 0 _ rfl; (with_reducible repeat first | apply blk_drewN | apply blk_drew | apply blk_alloc); exact BK690.out))⟩; have n2_ : Aside0 (Below w.heap.size w w89) := ⟨(by rw [hw]; exact (by repeat first | (with_reducible first | exact HB.out | apply below_alloc | apply pw_below_drewN | apply below_drew1 | refine below_set ?_ GE689.out | refine below_set ?_ GE690.out) | exact HB.out))⟩; clear hw; clear BK689; clear BK690; clear HB; have BK689 := n0_; have BK690 := n1_; have HB := n2_; clear n0_ n1_ n2_; have p691 : 0 ≤ (0 : Int) := (by omega); have q691 : 0 < (l0.length : Int) := of_decide_eq_true (by first | (with_reducible assumption) | assumption); obtain ⟨ad691, e691, hx691_0⟩ := Kd.at_int HR0.out 0 p691 q691; cases e691; have qi691 : (0 < l0.length) = True := eq_true (by omega); (try rw [show ((0 : Int)).toNat = 0 from rfl] at hx691_0); (try rw [Addr.add_zero'] at hx691_0); replace hx691_0 := (HB.out.cell (World.block_lt_of_cell? w _ hx691_0)).trans hx691_0; replace p691 := eq_true p691; replace q691 := eq_true q691; have hcz90_0 : w89.cell? ⟨gb690, 0, none⟩ = some (.int .u8 0) := (blk_cell BK690.out 0).trans rfl; have hcz90_1 : w89.cell? ⟨gb690, 1, none⟩ = some (.int .u32 0) := (blk_cell BK690.out 1).trans rfl; have hcz90_2 : w89.cell? ⟨gb690, 2, none⟩ = some (.int .u32 0) := (blk_cell BK690.out 2).trans rfl; have hcz90_3 : w89.cell? ⟨gb690, 3, none⟩ = some (.int .i64 0) := (blk_cell BK690.out 3).trans rfl; have hcz90_4 : w89.cell? ⟨gb690, 4, none⟩ = some (.int .i64 0) := (blk_cell BK690.out 4).trans rfl; have hcz90_5 : w89.cell? ⟨gb690, 5, none⟩ = some (.int .u8 0) := (blk_cell BK690.out 5).trans rfl; have hcz90_6 : w89.cell? ⟨gb690, 6, none⟩ = some (.int .u16 0) := (blk_cell BK690.out 6).trans rfl; have hfz90_0 := blk_frozen BK690.out 0; have hfz90_1 := blk_frozen BK690.out 1; have hfz90_2 := blk_frozen BK690.out 2; have hfz90_3 := blk_frozen BK690.out 3; have hfz90_4 := blk_frozen BK690.out 4; have hfz90_5 := blk_frozen BK690.out 5; have hfz90_6 := blk_frozen BK690.out 6; have hcz91_0 : w89.cell? ⟨gb689, 0, none⟩ = some (.int .u8 0) := (blk_cell BK689.out 0).trans rfl; have hcz91_1 : w89.cell? ⟨gb689, 1, none⟩ = some (.int .u32 0) := (blk_cell BK689.out 1).trans rfl; have hcz91_2 : w89.cell? ⟨gb689, 2, none⟩ = some (.int .u32 0) := (blk_cell BK689.out 2).trans rfl; have hcz91_3 : w89.cell? ⟨gb689, 3, none⟩ = some (.int .i64 0) := (blk_cell BK689.out 3).trans rfl; have hcz91_4 : w89.cell? ⟨gb689, 4, none⟩ = some (.int .i64 0) := (blk_cell BK689.out 4).trans rfl; have hcz91_5 : w89.cell? ⟨gb689, 5, none⟩ = some (.int .u8 0) := (blk_cell BK689.out 5).trans rfl; have hcz91_6 : w89.cell? ⟨gb689, 6, none⟩ = some (.int .u16 0) := (blk_cell BK689.out 6).trans rfl; have hfz91_0 := blk_frozen BK689.out 0; have hfz91_1 := blk_frozen BK689.out 1; have hfz91_2 := blk_frozen BK689.out 2; have hfz91_3 := blk_frozen BK689.out 3; have hfz91_4 := blk_frozen BK689.out 4; have hfz91_5 := blk_frozen BK689.out 5; have hfz91_6 := blk_frozen BK689.out 6) | ((with_reducible refine gate_store (t := 61) (p := 2) rfl ?_); refine store_event (t := 61) (p := 2) (v := ?vo_w92) (w1 := (((((((w89.setCell ⟨gb689, 0, none⟩ (.int .u8 0)).setCell ⟨gb689, 1, none⟩ (.int .u32 0)).setCell ⟨gb689, 2, none⟩ (.int .u32 0)).setCell ⟨gb689, 3, none⟩ (.int .i64 0)).setCell ⟨gb689, 4, none⟩ (.int .i64 0)).setCell ⟨gb689, 5, none⟩ (.int .u8 0)).setCell ⟨gb689, 6, none⟩ (.int .u16 0))) ?hg ?ho ?hn ?hr ?_; (case ho => rfl); (case hg => rfl); (case hn => rfl); (case hr => first | (go_simp; done) | (go_simp; rfl)); intro w92 hw; have n0_ : Aside0 (w92.heap[gb689]? = some (.cells #[.int .u8 0, .int .u32 0, .int .u32 0, .int .i64 0, .int .i64 0, .int .u8 0, .int .u16 0] 61 (0, 0))) := ⟨(by rw [hw]; exact (by (with_reducible repeat first | apply blk_drewN | apply blk_drew | apply blk_alloc); refine blk_put (cs := #[.int .u8 0, .int .u32 0, .int .u32 0, .int .i64 0, .int .i64 0, .int .u8 0, .int .u16 0]) ?_ 6 _ rfl; (with_reducible repeat first | apply blk_drewN | apply blk_drew | apply blk_alloc); refine blk_put (cs := #[.int .u8 0, .int .u32 0, .int .u32 0, .int .i64 0, .int .i64 0, .int .u8 0, .int .u16 0]) ?_ 5 _ rfl; (with_reducible repeat first | apply blk_drewN | apply blk_drew | apply blk_alloc); refine blk_put (cs := #[.int .u8 0, .int .u32 0, .int .u32 0, .int .i64 0, .int .i64 0, .int .u8 0, .int .u16 0]) ?_ 4 _ rfl; (with_reducible repeat first | apply blk_drewN | apply blk_drew | apply blk_alloc); refine blk_put (cs := #[.int .u8 0, .int .u32 0, .int .u32 0, .int .i64 0, .int .i64 0, .int .u8 0, .int .u16 0]) ?_ 3 _ rfl; (with_reducible repeat first | apply blk_drewN | apply blk_drew | apply blk_alloc); refine blk_put (cs := #[.int .u8 0, .int .u32 0, .int .u32 0, .int .i64 0, .int .i64 0, .int .u8 0, .int .u16 0]) ?_ 2 _ rfl; (with_reducible repeat first | apply blk_drewN | apply blk_drew | apply blk_alloc); refine blk_put (cs := #[.int .u8 0, .int .u32 0, .int .u32 0, .int .i64 0, .int .i64 0, .int .u8 0, .int .u16 0]) ?_ 1 _ rfl; (with_reducible repeat first | apply blk_drewN | apply blk_drew | apply blk_alloc); refine blk_put (cs := #[.int .u8 0, .int .u32 0, .int .u32 0, .int .i64 0, .int .i64 0, .int .u8 0, .int .u16 0]) ?_ 0 _ rfl; (with_reducible repeat first | apply blk_drewN | apply blk_drew | apply blk_alloc); exact BK689.out))⟩; have n1_ : Aside0 (w92.heap[gb690]? = some (.cells #[.int .u8 0, .int .u32 0, .int .u32 0, .int .i64 0, .int .i64 0, .int .u8 0, .int .u16 0] 61 (0, 0))) := ⟨(by rw [hw]; exact (by (with_reducible repeat first | apply blk_drewN | apply blk_drew | apply blk_alloc); refine blk_far ?_ NB690_689.out _; (with_reducible repeat first | apply blk_drewN | apply blk_drew | apply blk_alloc); refine blk_far ?_ NB690_689.out _; (with_reducible repeat first | apply blk_drewN | apply blk_drew | apply blk_alloc); refine blk_far ?_ NB690_689.out _; (with_reducible repeat first | apply blk_drewN | apply blk_drew | apply blk_alloc); refine blk_far ?_ NB690_689.out _; (with_reducible repeat first | apply blk_drewN | apply blk_drew | apply blk_alloc); refine blk_far ?_ NB690_689.out _; (with_reducible repeat first | apply blk_drewN | apply blk_drew | apply blk_alloc); refine blk_far ?_ NB690_689.out _; (with_reducible repeat first | apply blk_drewN | apply blk_drew | apply blk_alloc); refine blk_far ?_ NB690_689.out _; (with_reducible repeat first | apply blk_drewN | apply blk_drew | apply blk_alloc); exact BK690.out))⟩; have n2_ : Aside0 (Below w.heap.size w w92) := ⟨(by rw [hw]; exact (by repeat first | (with_reducible first | exact HB.out | apply below_alloc | apply pw_below_drewN | apply below_drew1 | refine below_set ?_ GE689.out | refine below_set ?_ GE690.out) | exact HB.out))⟩; clear hw; clear BK689; clear BK690; clear HB; have BK689 := n0_; have BK690 := n1_; have HB := n2_; clear n0_ n1_ n2_))
     refine bodyPost_ret (results_ctt rfl _ _ gb689 61 #[.int .u8 0, .int .u32 0, .int .u32 0, .int .i64 0, .int .i64 0, .int .u8 0, .int .u16 0] (0, 0) _ rfl (by (with_reducible repeat first | apply blk_drewN | apply blk_drew | apply blk_alloc); exact BK689.out) Try.underlying61 rfl (by kernel_rfl)) rfl ?_
     exact ⟨_, by first | rfl | (simp [errW_none, errW_some] <;> rfl) | (simp [*, errW_none, errW_some] <;> rfl), by first | exact Kd.R_nil _ _ _ _ _ | exact Kd.N_nil _ _ _ _ _ | exact Kd.V_nil _ _ _ _ _ | exact Kd.Q_nil _ _ _ _ _ | exact Kd.S_nil _ _ _ _ _, by repeat first | (with_reducible first | exact HB.out | apply below_alloc | apply pw_below_drewN | apply below_drew1 | refine below_set ?_ GE689.out | refine below_set ?_ GE690.out) | exact HB.out⟩
   ·rw [if_neg c20] at H
    exact absurd H (by simp)

end Go.Proofs.Ytofjgdbiieanjaa.All
