-- Made by a program of this workplace (wip/pr.sh) out of Lean's print of the translation; Lean checks it.
import Derived.Test.YtplioggeccoleaaKeyx0
import Derived.Test.YtplioggeccoleaaKeyx3
import Derived.Test.YtplioggeccoleaaKeyx5
import Derived.Test.YtplioggeccoleaaKeyx7
namespace Go.Proofs.Ytplioggeccoleaa.Key
open Go.Proofs.Ytplioggeccoleaa.Ext
open Go.RowKit Go.Proofs.YtplioggeccoleaaW.PrintWords Go.Proofs.YtplioggeccoleaaW.PrintLast Go.Proofs.YtplioggeccoleaaW.PrintMore
attribute [local go_sem] max2_int min2_int max_two min_two max_three min_three max_four min_four   -- for this text's walks alone
set_option linter.unusedVariables false
set_option linter.unusedSimpArgs false

/-! ### key_Of: function 8 -/
private abbrev Z_29 : Obj := .cells #[.int .u32 0, .int .u32 0, .int .u16 0, .int .u16 0, .int .u8 0] 29 (0, 0)
def key_Of.f (k : Nat) (a0_0 : Int) (a0_1 : Int) (a0_2 : Int) (a0_3 : Int) (a0_4 : Int) (a0_5 : Int) (a0_6 : Int) : Option (Int × Int × Int × Int × Int × Bool) := (cmp_Compare_uint32.f a0_2 a0_1).bind fun t109 => ((cmp_Compare_uint16.f a0_4 a0_3).bind fun t110 => ((cmp_Or_int.f k (([t109, t110] : List Int))).bind fun t114 => (if t114 < 0 then (some (a0_2, a0_1, a0_4, a0_3, a0_0, decide (t114 < 0))) else (some (a0_1, a0_2, a0_3, a0_4, a0_0, decide (t114 < 0))))))
theorem key_Of.mono : ∀ a0 a1 a2 a3 a4 a5 a6 k, LeO (key_Of.f k a0 a1 a2 a3 a4 a5 a6) (key_Of.f (k + 1) a0 a1 a2 a3 a4 a5 a6) := by
  intro a0 a1 a2 a3 a4 a5 a6 k
  unfold key_Of.f
  repeat' first
      | (with_reducible exact cmp_Or_int.mono _ _)
      | (with_reducible exact LeO.refl _)
      | (with_reducible exact LeO.none _)
      | (with_reducible refine LeO.ite ?_ ?_)
      | (with_reducible refine LeO.bind ?_ (fun _ => ?_))
      | exact cmp_Or_int.mono _ _
      | exact LeO.none _
      | refine LeO.ite ?_ ?_
      | refine LeO.bind ?_ (fun _ => ?_)
def key_Of.T2 : Bool × List (List Nat × List Nat) := (true, [([], []), ([0], [0]), ([], []), ([2], [2]), ([1, 3], [1, 3]), ([], []), ([5], [5]), ([], []), ([7], [7]), ([6, 8, 4], [6, 8]), ([4, 9], [4, 9]), ([10, 9], [10]), ([11], [11]), ([12, 11, 0, 1, 2, 3, 4, 5, 6, 7, 8, 9, 10, 11, 12], [12])])
def key_Of.B2 : List Nat := [0, 1, 0, 4, 15, 0, 32, 0, 128, 511, 1023, 2047, 4095, 8191]
theorem key_Of.tab2 : rtab .any (opsOf Try.f8 2) = key_Of.T2 := by kernel_rfl
theorem key_Of.bits2 : waitsOk key_Of.T2.2 key_Of.B2 = true := by kernel_rfl
set_option maxHeartbeats 8000000 in
set_option maxRecDepth 100000 in
theorem key_Of.calls (k : Nat) (a0_0 : Int) (a0_1 : Int) (a0_2 : Int) (a0_3 : Int) (a0_4 : Int) (a0_5 : Int) (a0_6 : Int) (r1 : Int) (r2 : Int) (r3 : Int) (r4 : Int) (r5 : Int) (r6 : Bool) (w : World) (h : key_Of.f k a0_0 a0_1 a0_2 a0_3 a0_4 a0_5 a0_6 = some (r1, r2, r3, r4, r5, r6)) :
    Calls Try.prog 8 #[.agg #[.int .u8 a0_0, .int .u32 a0_1, .int .u32 a0_2, .int .u16 a0_3, .int .u16 a0_4, .int .u8 a0_5, .int .u8 a0_6]] w fun e w' => e = .returned (.tuple #[.agg #[.int .u32 r1, .int .u32 r2, .int .u16 r3, .int .u16 r4, .int .u8 r5], .bool r6]) ∧ Below w.heap.size w w' := by
  have hu25 := Try.underlying25
  have hu29 := Try.underlying29
  have hu26 := Try.underlying26
  have hu27 := Try.underlying27
  have HB := Aside0.mk (Below.refl w.heap.size w)
  have H : ((cmp_Compare_uint32.f a0_2 a0_1).bind fun t109 => ((cmp_Compare_uint16.f a0_4 a0_3).bind fun t110 => ((cmp_Or_int.f k (([t109, t110] : List Int))).bind fun t114 => (if t114 < 0 then (some (a0_2, a0_1, a0_4, a0_3, a0_0, decide (t114 < 0))) else (some (a0_1, a0_2, a0_3, a0_4, a0_0, decide (t114 < 0))))))) = some (r1, r2, r3, r4, r5, r6) := h
  clear h
  replace H := Option.bind_eq_some_iff.mp H
  obtain ⟨t109, A20, H⟩ := H
  replace H : ((cmp_Compare_uint16.f a0_4 a0_3).bind fun t110 => ((cmp_Or_int.f k (([t109, t110] : List Int))).bind fun t114 => (if t114 < 0 then (some (a0_2, a0_1, a0_4, a0_3, a0_0, decide (t114 < 0))) else (some (a0_1, a0_2, a0_3, a0_4, a0_0, decide (t114 < 0)))))) = some (r1, r2, r3, r4, r5, r6) := H
  have A2 := Aside0.mk A20
  clear A20
  replace H := Option.bind_eq_some_iff.mp H
  obtain ⟨t110, A30, H⟩ := H
  replace H : ((cmp_Or_int.f k (([t109, t110] : List Int))).bind fun t114 => (if t114 < 0 then (some (a0_2, a0_1, a0_4, a0_3, a0_0, decide (t114 < 0))) else (some (a0_1, a0_2, a0_3, a0_4, a0_0, decide (t114 < 0))))) = some (r1, r2, r3, r4, r5, r6) := H
  have A3 := Aside0.mk A30
  clear A30
  obtain ⟨y111, hy111⟩ : ∃ y_ : List Int, y_ = (([t109, t110] : List Int)) := ⟨_, rfl⟩
  replace H : ((cmp_Or_int.f k y111).bind fun t114 => (if t114 < 0 then (some (a0_2, a0_1, a0_4, a0_3, a0_0, decide (t114 < 0))) else (some (a0_1, a0_2, a0_3, a0_4, a0_0, decide (t114 < 0))))) = some (r1, r2, r3, r4, r5, r6) := by first | (rw [hy111]; with_reducible exact H) | (have H2_ := (Option.bind_some _ _).symm.trans H; rw [hy111]; with_reducible exact H2_) | (have H2_ := (Option.bind_some _ _).symm.trans H; with_reducible exact H2_) | with_reducible exact H | (rw [hy111]; exact H) | exact H
  have Ny111 := Aside0.mk hy111
  clear hy111
  replace H := Option.bind_eq_some_iff.mp H
  obtain ⟨t114, A40, H⟩ := H
  replace H : (if t114 < 0 then (some (a0_2, a0_1, a0_4, a0_3, a0_0, decide (t114 < 0))) else (some (a0_1, a0_2, a0_3, a0_4, a0_0, decide (t114 < 0)))) = some (r1, r2, r3, r4, r5, r6) := H
  have A4 := Aside0.mk A40
  clear A40
  by_cases c5 : t114 < 0
  · rw [if_pos c5] at H
    have c5b0 : decide (t114 < 0) = true := decide_eq_true c5
    clear c5
    simp only [Option.some.injEq, Prod.mk.injEq] at H
    obtain ⟨rfl, rfl, rfl, rfl, rfl, rfl⟩ := H
    go_enter Try.func8, Try.ntmps8
    try go_wp2_with (first | ((with_reducible refine gate_dst (N := 1) rfl ?_); refine box_event ?hg (N := 1) ?hd (cs := #[.int .u8 a0_0, .int .u32 a0_1, .int .u32 a0_2, .int .u16 a0_3, .int .u16 a0_4, .int .u8 a0_5, .int .u8 a0_6]) (t := 25) ?hr ?_; (case hd => rfl); (case hg => rfl); (case hr => first | (go_simp; done) | (go_simp; rfl)); intro gb106 hg w6 hbox hb; have n0_ := Aside0.mk (below_step (by repeat first | (with_reducible first | exact HB.out | apply below_alloc | apply pw_below_drewN | apply below_drew1) | exact HB.out) hb); have n1_ := Aside0.mk (hbox); have n2_ := Aside0.mk ((by rw [hg]; exact (below_size (by repeat first | (with_reducible first | exact HB.out | apply below_alloc | apply pw_below_drewN | apply below_drew1) | exact HB.out)) : w.heap.size ≤ gb106)); have n3_ := Aside0.mk ((by rw [hg]; exact (below_size (by repeat first | (with_reducible first | exact HB.out | apply below_alloc | apply pw_below_drewN | apply below_drew1) | exact HB.out)) : w.heap.size ≤ gb106)); clear HB; have HB := n0_; have BK106 := n1_; have GW106 := n2_; have GE106 := n3_; clear n0_ n1_ n2_ n3_; clear hb hbox hg) | ((with_reducible refine gate_dst (N := 2) rfl ?_); refine box_event ?hg (N := 2) ?hd (cs := #[.int .u32 0, .int .u32 0, .int .u16 0, .int .u16 0, .int .u8 0]) (t := 29) ?hr ?_; (case hd => rfl); (case hg => rfl); (case hr => first | (go_simp; done) | (go_simp; rfl)); intro gb107 hg w7 hbox hb; have n0_ := Aside0.mk (blk_below (g := gb106) (o := .cells #[.int .u8 a0_0, .int .u32 a0_1, .int .u32 a0_2, .int .u16 a0_3, .int .u16 a0_4, .int .u8 a0_5, .int .u8 a0_6] 25 (0, 0)) (by (with_reducible repeat first | apply blk_drewN | apply blk_drew | apply blk_alloc); exact BK106.out) hb); have n1_ := Aside0.mk (below_step (by repeat first | (with_reducible first | exact HB.out | apply below_alloc | apply pw_below_drewN | apply below_drew1 | refine below_set ?_ GE106.out) | exact HB.out) hb); have n2_ := Aside0.mk (hbox); have n3_ := Aside0.mk ((by rw [hg]; exact (below_size (by repeat first | (with_reducible first | exact HB.out | apply below_alloc | apply pw_below_drewN | apply below_drew1 | refine below_set ?_ GE106.out) | exact HB.out)) : w.heap.size ≤ gb107)); have n4_ := Aside0.mk ((by rw [hg]; exact (below_size (by repeat first | (with_reducible first | exact HB.out | apply below_alloc | apply pw_below_drewN | apply below_drew1 | refine below_set ?_ GE106.out) | exact HB.out)) : w.heap.size ≤ gb107)); have n5_ := Aside0.mk ((by rw [hg]; exact Nat.ne_of_lt (blk_lt (g := gb106) (o := .cells #[.int .u8 a0_0, .int .u32 a0_1, .int .u32 a0_2, .int .u16 a0_3, .int .u16 a0_4, .int .u8 a0_5, .int .u8 a0_6] 25 (0, 0)) (by (with_reducible repeat first | apply blk_drewN | apply blk_drew | apply blk_alloc); exact BK106.out)) : gb106 ≠ gb107)); have n6_ := Aside0.mk ((by rw [hg]; exact Nat.ne_of_gt (blk_lt (g := gb106) (o := .cells #[.int .u8 a0_0, .int .u32 a0_1, .int .u32 a0_2, .int .u16 a0_3, .int .u16 a0_4, .int .u8 a0_5, .int .u8 a0_6] 25 (0, 0)) (by (with_reducible repeat first | apply blk_drewN | apply blk_drew | apply blk_alloc); exact BK106.out)) : gb107 ≠ gb106)); clear BK106; clear HB; have BK106 := n0_; have HB := n1_; have BK107 := n2_; have GW107 := n3_; have GE107 := n4_; have NB106_107 := n5_; have NB107_106 := n6_; clear n0_ n1_ n2_ n3_ n4_ n5_ n6_; clear hb hbox hg; have hnb8 := NB106_107.out; have hnc8 := NB107_106.out; have hcz9_0 : w7.cell? ⟨gb106, 0, none⟩ = some (.int .u8 a0_0) := (blk_cell BK106.out 0).trans rfl; have hcz9_1 : w7.cell? ⟨gb106, 1, none⟩ = some (.int .u32 a0_1) := (blk_cell BK106.out 1).trans rfl; have hcz9_2 : w7.cell? ⟨gb106, 2, none⟩ = some (.int .u32 a0_2) := (blk_cell BK106.out 2).trans rfl; have hcz9_3 : w7.cell? ⟨gb106, 3, none⟩ = some (.int .u16 a0_3) := (blk_cell BK106.out 3).trans rfl; have hcz9_4 : w7.cell? ⟨gb106, 4, none⟩ = some (.int .u16 a0_4) := (blk_cell BK106.out 4).trans rfl; have hcz9_5 : w7.cell? ⟨gb106, 5, none⟩ = some (.int .u8 a0_5) := (blk_cell BK106.out 5).trans rfl; have hcz9_6 : w7.cell? ⟨gb106, 6, none⟩ = some (.int .u8 a0_6) := (blk_cell BK106.out 6).trans rfl; have hfz9_0 := blk_frozen BK106.out 0; have hfz9_1 := blk_frozen BK106.out 1; have hfz9_2 := blk_frozen BK106.out 2; have hfz9_3 := blk_frozen BK106.out 3; have hfz9_4 := blk_frozen BK106.out 4; have hfz9_5 := blk_frozen BK106.out 5; have hfz9_6 := blk_frozen BK106.out 6) | ((with_reducible refine gate_dst (N := 4) rfl ?_); refine box_event ?hg (N := 4) ?hd (cs := #[.int .u32 0, .int .u32 0, .int .u16 0, .int .u16 0, .int .u8 0]) (t := 29) ?hr ?_; (case hd => rfl); (case hg => rfl); (case hr => first | (go_simp; done) | (go_simp; rfl)); intro gb108 hg w10 hbox hb; have n0_ := Aside0.mk (blk_below (g := gb106) (o := .cells #[.int .u8 a0_0, .int .u32 a0_1, .int .u32 a0_2, .int .u16 a0_3, .int .u16 a0_4, .int .u8 a0_5, .int .u8 a0_6] 25 (0, 0)) (by (with_reducible repeat first | apply blk_drewN | apply blk_drew | apply blk_alloc); exact BK106.out) hb); have n1_ := Aside0.mk (blk_below (g := gb107) (o := Z_29) (by (with_reducible repeat first | apply blk_drewN | apply blk_drew | apply blk_alloc); exact BK107.out) hb); have n2_ := Aside0.mk (below_step (by repeat first | (with_reducible first | exact HB.out | apply below_alloc | apply pw_below_drewN | apply below_drew1 | refine below_set ?_ GE106.out | refine below_set ?_ GE107.out) | exact HB.out) hb); have n3_ := Aside0.mk (hbox); have n4_ := Aside0.mk ((by rw [hg]; exact (below_size (by repeat first | (with_reducible first | exact HB.out | apply below_alloc | apply pw_below_drewN | apply below_drew1 | refine below_set ?_ GE106.out | refine below_set ?_ GE107.out) | exact HB.out)) : w.heap.size ≤ gb108)); have n5_ := Aside0.mk ((by rw [hg]; exact (below_size (by repeat first | (with_reducible first | exact HB.out | apply below_alloc | apply pw_below_drewN | apply below_drew1 | refine below_set ?_ GE106.out | refine below_set ?_ GE107.out) | exact HB.out)) : w.heap.size ≤ gb108)); have n6_ := Aside0.mk ((by rw [hg]; exact Nat.ne_of_lt (blk_lt (g := gb106) (o := .cells #[.int .u8 a0_0, .int .u32 a0_1, .int .u32 a0_2, .int .u16 a0_3, .int .u16 a0_4, .int .u8 a0_5, .int .u8 a0_6] 25 (0, 0)) (by (with_reducible repeat first | apply blk_drewN | apply blk_drew | apply blk_alloc); exact BK106.out)) : gb106 ≠ gb108)); have n7_ := Aside0.mk ((by rw [hg]; exact Nat.ne_of_gt (blk_lt (g := gb106) (o := .cells #[.int .u8 a0_0, .int .u32 a0_1, .int .u32 a0_2, .int .u16 a0_3, .int .u16 a0_4, .int .u8 a0_5, .int .u8 a0_6] 25 (0, 0)) (by (with_reducible repeat first | apply blk_drewN | apply blk_drew | apply blk_alloc); exact BK106.out)) : gb108 ≠ gb106)); have n8_ := Aside0.mk ((by rw [hg]; exact Nat.ne_of_lt (blk_lt (g := gb107) (o := Z_29) (by (with_reducible repeat first | apply blk_drewN | apply blk_drew | apply blk_alloc); exact BK107.out)) : gb107 ≠ gb108)); have n9_ := Aside0.mk ((by rw [hg]; exact Nat.ne_of_gt (blk_lt (g := gb107) (o := Z_29) (by (with_reducible repeat first | apply blk_drewN | apply blk_drew | apply blk_alloc); exact BK107.out)) : gb108 ≠ gb107)); clear BK106; clear BK107; clear HB; have BK106 := n0_; have BK107 := n1_; have HB := n2_; have BK108 := n3_; have GW108 := n4_; have GE108 := n5_; have NB106_108 := n6_; have NB108_106 := n7_; have NB107_108 := n8_; have NB108_107 := n9_; clear n0_ n1_ n2_ n3_ n4_ n5_ n6_ n7_ n8_ n9_; clear hb hbox hg; have hnb11 := NB108_106.out; have hnc11 := NB106_108.out; have hnb12 := NB108_107.out; have hnc12 := NB107_108.out; have hcz13_0 : w10.cell? ⟨gb108, 0, none⟩ = some (.int .u32 0) := (blk_cell BK108.out 0).trans rfl; have hcz13_1 : w10.cell? ⟨gb108, 1, none⟩ = some (.int .u32 0) := (blk_cell BK108.out 1).trans rfl; have hcz13_2 : w10.cell? ⟨gb108, 2, none⟩ = some (.int .u16 0) := (blk_cell BK108.out 2).trans rfl; have hcz13_3 : w10.cell? ⟨gb108, 3, none⟩ = some (.int .u16 0) := (blk_cell BK108.out 3).trans rfl; have hcz13_4 : w10.cell? ⟨gb108, 4, none⟩ = some (.int .u8 0) := (blk_cell BK108.out 4).trans rfl; have hfz13_0 := blk_frozen BK108.out 0; have hfz13_1 := blk_frozen BK108.out 1; have hfz13_2 := blk_frozen BK108.out 2; have hfz13_3 := blk_frozen BK108.out 3; have hfz13_4 := blk_frozen BK108.out 4) | ((with_reducible refine gate_store (t := 29) (p := 4) rfl ?_); (try (rw [drewN_self w10]; generalize hq_ : World.drewN w10 _ = w10; have n0_ := Aside0.mk (blk_at hq_ BK106.out); have n1_ := Aside0.mk (blk_at hq_ BK107.out); have n2_ := Aside0.mk (blk_at hq_ BK108.out); have n3_ := Aside0.mk (below_at hq_ HB.out); clear hq_ BK106 BK107 BK108 HB; have BK106 := n0_; have BK107 := n1_; have BK108 := n2_; have HB := n3_; clear n0_ n1_ n2_ n3_)); refine store_event (t := 29) (p := 4) (v := ?vo_w14) (w1 := (((((w10.setCell ⟨gb108, 0, none⟩ (.int .u32 a0_1)).setCell ⟨gb108, 1, none⟩ (.int .u32 a0_2)).setCell ⟨gb108, 2, none⟩ (.int .u16 a0_3)).setCell ⟨gb108, 3, none⟩ (.int .u16 a0_4)).setCell ⟨gb108, 4, none⟩ (.int .u8 a0_0))) ?hg ?ho ?hn ?hr ?_; (case ho => rfl); (case hg => rfl); (case hn => rfl); (case hr => first | (go_simp; done) | (go_simp; rfl) | (have hcy0_ : w10.cell? ⟨gb108, 0, none⟩ = some (.int .u32 0) := (blk_cell BK108.out 0).trans rfl; have hfy0_ := blk_frozen BK108.out 0; have hcy1_ : w10.cell? ⟨gb108, 1, none⟩ = some (.int .u32 0) := (blk_cell BK108.out 1).trans rfl; have hfy1_ := blk_frozen BK108.out 1; have hcy2_ : w10.cell? ⟨gb108, 2, none⟩ = some (.int .u16 0) := (blk_cell BK108.out 2).trans rfl; have hfy2_ := blk_frozen BK108.out 2; have hcy3_ : w10.cell? ⟨gb108, 3, none⟩ = some (.int .u16 0) := (blk_cell BK108.out 3).trans rfl; have hfy3_ := blk_frozen BK108.out 3; have hcy4_ : w10.cell? ⟨gb108, 4, none⟩ = some (.int .u8 0) := (blk_cell BK108.out 4).trans rfl; have hfy4_ := blk_frozen BK108.out 4; first | (go_simp; done) | (go_simp; rfl))); intro w14 hw; have n0_ : Aside0 (w14.heap[gb106]? = some (.cells #[.int .u8 a0_0, .int .u32 a0_1, .int .u32 a0_2, .int .u16 a0_3, .int .u16 a0_4, .int .u8 a0_5, .int .u8 a0_6] 25 (0, 0))) := ⟨(by rw [hw]; exact (by (with_reducible repeat first | apply blk_drewN | apply blk_drew | apply blk_alloc); refine blk_far ?_ NB106_108.out _; (with_reducible repeat first | apply blk_drewN | apply blk_drew | apply blk_alloc); refine blk_far ?_ NB106_108.out _; (with_reducible repeat first | apply blk_drewN | apply blk_drew | apply blk_alloc); refine blk_far ?_ NB106_108.out _; (with_reducible repeat first | apply blk_drewN | apply blk_drew | apply blk_alloc); refine blk_far ?_ NB106_108.out _; (with_reducible repeat first | apply blk_drewN | apply blk_drew | apply blk_alloc); refine blk_far ?_ NB106_108.out _; (with_reducible repeat first | apply blk_drewN | apply blk_drew | apply blk_alloc); exact BK106.out))⟩; have n1_ : Aside0 (w14.heap[gb107]? = some (.cells #[.int .u32 0, .int .u32 0, .int .u16 0, .int .u16 0, .int .u8 0] 29 (0, 0))) := ⟨(by rw [hw]; exact (by (with_reducible repeat first | apply blk_drewN | apply blk_drew | apply blk_alloc); refine blk_far ?_ NB107_108.out _; (with_reducible repeat first | apply blk_drewN | apply blk_drew | apply blk_alloc); refine blk_far ?_ NB107_108.out _; (with_reducible repeat first | apply blk_drewN | apply blk_drew | apply blk_alloc); refine blk_far ?_ NB107_108.out _; (with_reducible repeat first | apply blk_drewN | apply blk_drew | apply blk_alloc); refine blk_far ?_ NB107_108.out _; (with_reducible repeat first | apply blk_drewN | apply blk_drew | apply blk_alloc); refine blk_far ?_ NB107_108.out _; (with_reducible repeat first | apply blk_drewN | apply blk_drew | apply blk_alloc); exact BK107.out))⟩; have n2_ : Aside0 (w14.heap[gb108]? = some (.cells #[.int .u32 a0_1, .int .u32 a0_2, .int .u16 a0_3, .int .u16 a0_4, .int .u8 a0_0] 29 (0, 0))) := ⟨(by rw [hw]; exact (by (with_reducible repeat first | apply blk_drewN | apply blk_drew | apply blk_alloc); refine blk_put (cs := #[.int .u32 a0_1, .int .u32 a0_2, .int .u16 a0_3, .int .u16 a0_4, .int .u8 0]) ?_ 4 _ rfl; (with_reducible repeat first | apply blk_drewN | apply blk_drew | apply blk_alloc); refine blk_put (cs := #[.int .u32 a0_1, .int .u32 a0_2, .int .u16 a0_3, .int .u16 0, .int .u8 0]) ?_ 3 _ rfl; (with_reducible repeat first | apply blk_drewN | apply blk_drew | apply blk_alloc); refine blk_put (cs := #[.int .u32 a0_1, .int .u32 a0_2, .int .u16 0, .int .u16 0, .int .u8 0]) ?_ 2 _ rfl; (with_reducible repeat first | apply blk_drewN | apply blk_drew | apply blk_alloc); refine blk_put (cs := #[.int .u32 a0_1, .int .u32 0, .int .u16 0, .int .u16 0, .int .u8 0]) ?_ 1 _ rfl; (with_reducible repeat first | apply blk_drewN | apply blk_drew | apply blk_alloc); refine blk_put (cs := #[.int .u32 0, .int .u32 0, .int .u16 0, .int .u16 0, .int .u8 0]) ?_ 0 _ rfl; (with_reducible repeat first | apply blk_drewN | apply blk_drew | apply blk_alloc); exact BK108.out))⟩; have n3_ : Aside0 (Below w.heap.size w w14) := ⟨(by rw [hw]; exact (by repeat first | (with_reducible first | exact HB.out | apply below_alloc | apply pw_below_drewN | apply below_drew1 | refine below_set ?_ GE106.out | refine below_set ?_ GE107.out | refine below_set ?_ GE108.out) | exact HB.out))⟩; clear hw; clear BK106; clear BK107; clear BK108; clear HB; have BK106 := n0_; have BK107 := n1_; have BK108 := n2_; have HB := n3_; clear n0_ n1_ n2_ n3_))
    have n0_ := Aside0.mk (blk_drew BK106.out)
    have n1_ := Aside0.mk (blk_drew BK107.out)
    have n2_ := Aside0.mk (blk_drew BK108.out)
    have n3_ := Aside0.mk (below_drew1 HB.out)
    clear BK106
    clear BK107
    clear BK108
    clear HB
    have BK106 := n0_
    have BK107 := n1_
    have BK108 := n2_
    have HB := n3_
    clear n0_ n1_ n2_ n3_
    refine start_ (n := 14) (S := fun w' => w'.cell? ⟨gb106, 0, none⟩ = some (.int .u8 a0_0) ∧ w'.cell? ⟨gb106, 1, none⟩ = some (.int .u32 a0_1) ∧ w'.cell? ⟨gb106, 2, none⟩ = some (.int .u32 a0_2) ∧ w'.cell? ⟨gb106, 3, none⟩ = some (.int .u16 a0_3) ∧ w'.cell? ⟨gb106, 4, none⟩ = some (.int .u16 a0_4) ∧ w'.cell? ⟨gb106, 5, none⟩ = some (.int .u8 a0_5) ∧ w'.cell? ⟨gb106, 6, none⟩ = some (.int .u8 a0_6)) (ds := []) #[false, false, false, false, false, false, false, false, false, false, false, false, false, false] (by kernel_rfl) rfl rfl ⟨(blk_cell BK106.out 0).trans rfl, (blk_cell BK106.out 1).trans rfl, (blk_cell BK106.out 2).trans rfl, (blk_cell BK106.out 3).trans rfl, (blk_cell BK106.out 4).trans rfl, (blk_cell BK106.out 5).trans rfl, (blk_cell BK106.out 6).trans rfl⟩ (fun hHeld => ?_); refine with_tabW key_Of.tab2 key_Of.bits2 (fun HT_ HW_ => ?_)
    generalize w14.drew = w15 at BK106 BK107 BK108 HB hHeld ⊢
    refine pure_ (i := 0) (N := some 19) (v := ?_) (a' := ?_) #[true, false, false, false, false, false, false, false, false, false, false, false, false, false] rfl rfl (any_of HT_.out (by kernel_rfl)) (fun _ _ _ h => h) (Or.inl ⟨by rfl, ?_⟩) ?_ ?_
    rotate_left
    · intro w'
      go_simp
      with_reducible rfl
    rotate_left
    · simp only [Act.put, List.setIfInBounds_toArray, List.set_cons_zero, List.set_cons_succ, i64_w, i32_w]
      rfl
    refine pure_ (i := 2) (N := some 21) (v := ?_) (a' := ?_) #[true, false, true, false, false, false, false, false, false, false, false, false, false, false] rfl rfl (any_of HT_.out (by kernel_rfl)) (fun _ _ _ h => h) (Or.inl ⟨by rfl, ?_⟩) ?_ ?_
    rotate_left
    · intro w'
      go_simp
      with_reducible rfl
    rotate_left
    · simp only [Act.put, List.setIfInBounds_toArray, List.set_cons_zero, List.set_cons_succ, i64_w, i32_w]
      rfl
    refine pure_ (i := 5) (N := some 24) (v := ?_) (a' := ?_) #[true, false, true, false, false, true, false, false, false, false, false, false, false, false] rfl rfl (any_of HT_.out (by kernel_rfl)) (fun _ _ _ h => h) (Or.inl ⟨by rfl, ?_⟩) ?_ ?_
    rotate_left
    · intro w'
      go_simp
      with_reducible rfl
    rotate_left
    · simp only [Act.put, List.setIfInBounds_toArray, List.set_cons_zero, List.set_cons_succ, i64_w, i32_w]
      rfl
    refine pure_ (i := 7) (N := some 26) (v := ?_) (a' := ?_) #[true, false, true, false, false, true, false, true, false, false, false, false, false, false] rfl rfl (any_of HT_.out (by kernel_rfl)) (fun _ _ _ h => h) (Or.inl ⟨by rfl, ?_⟩) ?_ ?_
    rotate_left
    · intro w'
      go_simp
      with_reducible rfl
    rotate_left
    · simp only [Act.put, List.setIfInBounds_toArray, List.set_cons_zero, List.set_cons_succ, i64_w, i32_w]
      rfl
    refine take_ (i := 1) (N := some 20) (v := ?_) (a' := ?_) #[true, true, true, false, false, true, false, true, false, false, false, false, false, false] rfl rfl (take_ofW HT_.out HW_.out (by kernel_rfl)) (fun _ _ _ h => h) (Or.inl ⟨by rfl, ?_⟩) hHeld ?_ ?_
    rotate_left
    · rintro w' ⟨s0, s1, s2, s3, s4, s5, s6⟩
      go_simp
      with_reducible rfl
    rotate_left
    · simp only [Act.put, List.setIfInBounds_toArray, List.set_cons_zero, List.set_cons_succ, i64_w, i32_w]
      rfl
    refine take_ (i := 3) (N := some 22) (v := ?_) (a' := ?_) #[true, true, true, true, false, true, false, true, false, false, false, false, false, false] rfl rfl (take_ofW HT_.out HW_.out (by kernel_rfl)) (fun _ _ _ h => h) (Or.inl ⟨by rfl, ?_⟩) hHeld ?_ ?_
    rotate_left
    · rintro w' ⟨s0, s1, s2, s3, s4, s5, s6⟩
      go_simp
      with_reducible rfl
    rotate_left
    · simp only [Act.put, List.setIfInBounds_toArray, List.set_cons_zero, List.set_cons_succ, i64_w, i32_w]
      rfl
    refine take_ (i := 6) (N := some 25) (v := ?_) (a' := ?_) #[true, true, true, true, false, true, true, true, false, false, false, false, false, false] rfl rfl (take_ofW HT_.out HW_.out (by kernel_rfl)) (fun _ _ _ h => h) (Or.inl ⟨by rfl, ?_⟩) hHeld ?_ ?_
    rotate_left
    · rintro w' ⟨s0, s1, s2, s3, s4, s5, s6⟩
      go_simp
      with_reducible rfl
    rotate_left
    · simp only [Act.put, List.setIfInBounds_toArray, List.set_cons_zero, List.set_cons_succ, i64_w, i32_w]
      rfl
    refine take_ (i := 8) (N := some 27) (v := ?_) (a' := ?_) #[true, true, true, true, false, true, true, true, true, false, false, false, false, false] rfl rfl (take_ofW HT_.out HW_.out (by kernel_rfl)) (fun _ _ _ h => h) (Or.inl ⟨by rfl, ?_⟩) hHeld ?_ ?_
    rotate_left
    · rintro w' ⟨s0, s1, s2, s3, s4, s5, s6⟩
      go_simp
      with_reducible rfl
    rotate_left
    · simp only [Act.put, List.setIfInBounds_toArray, List.set_cons_zero, List.set_cons_succ, i64_w, i32_w]
      rfl
    refine one_ (i := 4) (N := some 23) #[true, true, true, true, true, true, true, true, true, false, false, false, false, false] rfl rfl (one_of HT_.out (by kernel_rfl)) (by decide) (fun K hK => ?_)
    refine goes_ Try.func19 (by kernel_rfl) rfl #[.int .u32 a0_2, .int .u32 a0_1] (by rfl) rfl rfl (by (try simp only [List.map_toArray, List.map_cons, List.map_nil]); first | done | rfl) ?_
    with_reducible refine (cmp_Compare_uint32.calls a0_2 a0_1 t109 _ A2.out).mono ?_
    rintro e w' ⟨rfl, ⟨nd, rfl⟩⟩
    refine ⟨_, rfl, ?_⟩
    refine hK.out _ _ ⟨(blk_cell BK106.out 0).trans rfl, (blk_cell BK106.out 1).trans rfl, (blk_cell BK106.out 2).trans rfl, (blk_cell BK106.out 3).trans rfl, (blk_cell BK106.out 4).trans rfl, (blk_cell BK106.out 5).trans rfl, (blk_cell BK106.out 6).trans rfl⟩ (fun hHeld => ?_)
    clear hK K
    refine norm_ (a' := ?_) ?_ ?_
    rotate_left
    · show Act.put _ (some 23) _ = _
      simp only [Act.put, List.setIfInBounds_toArray, List.set_cons_zero, List.set_cons_succ, i64_w, i32_w]
      rfl
    refine one_ (i := 9) (N := some 28) #[true, true, true, true, true, true, true, true, true, true, false, false, false, false] rfl rfl (one_of HT_.out (by kernel_rfl)) (by decide) (fun K hK => ?_)
    refine goes_ Try.func20 (by kernel_rfl) rfl #[.int .u16 a0_4, .int .u16 a0_3] (by rfl) rfl rfl (by (try simp only [List.map_toArray, List.map_cons, List.map_nil]); first | done | rfl) ?_
    with_reducible refine (cmp_Compare_uint16.calls a0_4 a0_3 t110 _ A3.out).mono ?_
    rintro e w' ⟨rfl, ⟨nd, rfl⟩⟩
    refine ⟨_, rfl, ?_⟩
    refine hK.out _ _ ⟨(blk_cell BK106.out 0).trans rfl, (blk_cell BK106.out 1).trans rfl, (blk_cell BK106.out 2).trans rfl, (blk_cell BK106.out 3).trans rfl, (blk_cell BK106.out 4).trans rfl, (blk_cell BK106.out 5).trans rfl, (blk_cell BK106.out 6).trans rfl⟩ (fun hHeld => ?_)
    clear hK K
    refine norm_ (a' := ?_) ?_ ?_
    rotate_left
    · show Act.put _ (some 28) _ = _
      simp only [Act.put, List.setIfInBounds_toArray, List.set_cons_zero, List.set_cons_succ, i64_w, i32_w]
      rfl
    refine one_ (i := 10) (N := some 29) #[true, true, true, true, true, true, true, true, true, true, true, false, false, false] rfl rfl (one_of HT_.out (by kernel_rfl)) (by decide) (fun K hK => ?_)
    refine Kd.R_lit_step (Kd.int .i64) _ 3 ?hg (N := 29) ?hd (xs := ([t109, t110] : List Int)) (inner := [.int .i64 t109, .int .i64 t110]) (ok := fun _ => True) (okp := fun _ => True) ?hr ?hp (fun _ hk => hk) trivial (Below.refl _ _) (Nat.le_refl _) (by simp) ?_; (case hd => rfl); (case hg => rfl); (case hr => first | (go_simp; done) | (go_simp; rfl)); (case hp => exact (Reps.one (show Kd.M (Kd.int .i64) _ _ _ t109 [.int .i64 t109] from rfl) (Reps.one (show Kd.M (Kd.int .i64) _ _ _ t110 [.int .i64 t110] from rfl) (Reps.none _ _))))
    intro v112 w16 ho17 hb hg_ hnew_
    clear hg_ hnew_
    (first | rw [← Ny111.out] at ho17 | (simp only [Int.reduceToNat] at ho17; rw [← Ny111.out] at ho17))
    have n0_ := Aside0.mk (Kd.R_lower ho17 (below_size (by repeat first | (with_reducible first | exact HB.out | apply below_alloc | apply pw_below_drewN | apply below_drew1 | refine below_set ?_ GE106.out | refine below_set ?_ GE107.out | refine below_set ?_ GE108.out) | exact HB.out)))
    have n1_ := Aside0.mk (blk_below (g := gb106) (o := .cells #[.int .u8 a0_0, .int .u32 a0_1, .int .u32 a0_2, .int .u16 a0_3, .int .u16 a0_4, .int .u8 a0_5, .int .u8 a0_6] 25 (0, 0)) (by (with_reducible repeat first | apply blk_drewN | apply blk_drew | apply blk_alloc); exact BK106.out) hb)
    have n2_ := Aside0.mk (blk_below (g := gb107) (o := Z_29) (by (with_reducible repeat first | apply blk_drewN | apply blk_drew | apply blk_alloc); exact BK107.out) hb)
    have n3_ := Aside0.mk (blk_below (g := gb108) (o := .cells #[.int .u32 a0_1, .int .u32 a0_2, .int .u16 a0_3, .int .u16 a0_4, .int .u8 a0_0] 29 (0, 0)) (by (with_reducible repeat first | apply blk_drewN | apply blk_drew | apply blk_alloc); exact BK108.out) hb)
    have n4_ := Aside0.mk (below_step (by repeat first | (with_reducible first | exact HB.out | apply below_alloc | apply pw_below_drewN | apply below_drew1 | refine below_set ?_ GE106.out | refine below_set ?_ GE107.out | refine below_set ?_ GE108.out) | exact HB.out) hb)
    clear BK106
    clear BK107
    clear BK108
    clear HB
    have HO113 := n0_
    have BK106 := n1_
    have BK107 := n2_
    have BK108 := n3_
    have HB := n4_
    clear n0_ n1_ n2_ n3_ n4_
    clear hb ho17
    obtain ⟨Ao18, co18, eo18⟩ := Kd.R_slice HO113.out
    (first | subst eo18 | (injection eo18 with f1_ f2_ f3_; have f4_ := f1_.symm; have f5_ := f3_.symm; clear f1_ f2_ f3_; subst f4_; subst f5_))
    refine hK.out _ _ ⟨(blk_cell BK106.out 0).trans rfl, (blk_cell BK106.out 1).trans rfl, (blk_cell BK106.out 2).trans rfl, (blk_cell BK106.out 3).trans rfl, (blk_cell BK106.out 4).trans rfl, (blk_cell BK106.out 5).trans rfl, (blk_cell BK106.out 6).trans rfl⟩ (fun hHeld => ?_)
    clear hK K
    refine norm_ (a' := ?_) ?_ ?_
    rotate_left
    · show Act.put _ (some 29) _ = _
      simp only [Act.put, List.setIfInBounds_toArray, List.set_cons_zero, List.set_cons_succ, i64_w, i32_w]
      rfl
    refine one_ (i := 11) (N := some 30) #[true, true, true, true, true, true, true, true, true, true, true, true, false, false] rfl rfl (one_of HT_.out (by kernel_rfl)) (by decide) (fun K hK => ?_)
    refine goes_ Try.func18 (by kernel_rfl) rfl #[.slice Ao18 y111.length co18] (by rfl) rfl rfl (by (try simp only [List.map_toArray, List.map_cons, List.map_nil]); first | done | rfl) ?_
    with_reducible refine (cmp_Or_int.calls k _ _ y111 t114 _ ?side1 ?side2 A4.out).mono ?_
    (case side1 => repeat (first | exact (Kd.R_reads' HO113.out).2.2 | (with_reducible refine Kd.C_alloc ?_ _) | (with_reducible refine Kd.C_drewN ?_ _) | (with_reducible refine Kd.C_drew ?_)))
    (case side2 => exact (Kd.R_reads' HO113.out).2.1)
    rintro e w' ⟨rfl, ⟨nd, rfl⟩⟩
    refine ⟨_, rfl, ?_⟩
    refine hK.out _ _ ⟨(blk_cell BK106.out 0).trans rfl, (blk_cell BK106.out 1).trans rfl, (blk_cell BK106.out 2).trans rfl, (blk_cell BK106.out 3).trans rfl, (blk_cell BK106.out 4).trans rfl, (blk_cell BK106.out 5).trans rfl, (blk_cell BK106.out 6).trans rfl⟩ (fun hHeld => ?_)
    clear hK K
    refine norm_ (a' := ?_) ?_ ?_
    rotate_left
    · show Act.put _ (some 30) _ = _
      simp only [Act.put, List.setIfInBounds_toArray, List.set_cons_zero, List.set_cons_succ, i64_w, i32_w]
      rfl
    refine pure_ (i := 12) (N := some 31) (v := ?_) (a' := ?_) #[true, true, true, true, true, true, true, true, true, true, true, true, true, false] rfl rfl (any_of HT_.out (by kernel_rfl)) (fun _ _ _ h => h) (Or.inl ⟨by rfl, ?_⟩) ?_ ?_
    rotate_left
    · intro w'
      go_simp
      with_reducible rfl
    rotate_left
    · simp only [Act.put, List.setIfInBounds_toArray, List.set_cons_zero, List.set_cons_succ, i64_w, i32_w]
      rfl
    refine pure_ (i := 13) (N := some 5) (v := ?_) (a' := ?_) #[true, true, true, true, true, true, true, true, true, true, true, true, true, true] rfl rfl (any_of HT_.out (by kernel_rfl)) (fun _ _ _ h => h) (Or.inl ⟨by rfl, ?_⟩) ?_ ?_
    rotate_left
    · intro w'
      go_simp
      with_reducible rfl
    rotate_left
    · simp only [Act.put, List.setIfInBounds_toArray, List.set_cons_zero, List.set_cons_succ, i64_w, i32_w]
      rfl
    refine done_ (done_of HT_.out (by kernel_rfl)) ?_
    have hcz19_0 : w16.cell? ⟨gb108, 0, none⟩ = some (.int .u32 a0_1) := (blk_cell BK108.out 0).trans rfl
    have hcz19_1 : w16.cell? ⟨gb108, 1, none⟩ = some (.int .u32 a0_2) := (blk_cell BK108.out 1).trans rfl
    have hcz19_2 : w16.cell? ⟨gb108, 2, none⟩ = some (.int .u16 a0_3) := (blk_cell BK108.out 2).trans rfl
    have hcz19_3 : w16.cell? ⟨gb108, 3, none⟩ = some (.int .u16 a0_4) := (blk_cell BK108.out 3).trans rfl
    have hcz19_4 : w16.cell? ⟨gb108, 4, none⟩ = some (.int .u8 a0_0) := (blk_cell BK108.out 4).trans rfl
    have hfz19_0 := blk_frozen BK108.out 0
    have hfz19_1 := blk_frozen BK108.out 1
    have hfz19_2 := blk_frozen BK108.out 2
    have hfz19_3 := blk_frozen BK108.out 3
    have hfz19_4 := blk_frozen BK108.out 4
    try go_wp2_with (first | ((with_reducible refine gate_store (t := 22) (p := 42) rfl ?_); (try (rw [drewN_self w16]; generalize hq_ : World.drewN w16 _ = w16; have n0_ := Aside0.mk (Kd.R_at hq_ HO113.out); have n1_ := Aside0.mk (blk_at hq_ BK106.out); have n2_ := Aside0.mk (blk_at hq_ BK107.out); have n3_ := Aside0.mk (blk_at hq_ BK108.out); have n4_ := Aside0.mk (below_at hq_ HB.out); clear hq_ HO113 BK106 BK107 BK108 HB; have HO113 := n0_; have BK106 := n1_; have BK107 := n2_; have BK108 := n3_; have HB := n4_; clear n0_ n1_ n2_ n3_ n4_)); refine store_event (t := 22) (p := 42) (v := ?vo_w20) (w1 := ((w16.setCell ⟨gb108, 0, none⟩ (.int .u32 a0_2)).setCell ⟨gb108, 1, none⟩ (.int .u32 a0_1))) ?hg ?ho ?hn ?hr ?_; (case ho => rfl); (case hg => rfl); (case hn => rfl); (case hr => first | (go_simp; done) | (go_simp; rfl) | (have hcy0_ : w16.cell? ⟨gb108, 0, none⟩ = some (.int .u32 a0_1) := (blk_cell BK108.out 0).trans rfl; have hfy0_ := blk_frozen BK108.out 0; have hcy1_ : w16.cell? ⟨gb108, 1, none⟩ = some (.int .u32 a0_2) := (blk_cell BK108.out 1).trans rfl; have hfy1_ := blk_frozen BK108.out 1; have hcy2_ : w16.cell? ⟨gb108, 2, none⟩ = some (.int .u16 a0_3) := (blk_cell BK108.out 2).trans rfl; have hfy2_ := blk_frozen BK108.out 2; have hcy3_ : w16.cell? ⟨gb108, 3, none⟩ = some (.int .u16 a0_4) := (blk_cell BK108.out 3).trans rfl; have hfy3_ := blk_frozen BK108.out 3; have hcy4_ : w16.cell? ⟨gb108, 4, none⟩ = some (.int .u8 a0_0) := (blk_cell BK108.out 4).trans rfl; have hfy4_ := blk_frozen BK108.out 4; first | (go_simp; done) | (go_simp; rfl))); intro w20 hw; have n0_ : Aside0 (Kd.R (Kd.int .i64) 3 w20 w.heap.size (fun _ => True) (.slice Ao18 y111.length co18) y111) := ⟨(by rw [hw]; exact (by (with_reducible repeat (first | apply Kd.R_alloc | apply Kd.R_drewN | apply Kd.R_drew)); exact Kd.R_mono (Kd.R_far (p := ⟨gb108, 1, none⟩) (Kd.R_far (p := ⟨gb108, 0, none⟩) (Kd.R_types HO113.out BK108.out (by decide)) (fun _ hk => hk.2) (.int .u32 a0_2)) (fun _ hk => hk.2) (.int .u32 a0_1)) (fun _ hk => trivial)))⟩; have n1_ : Aside0 (w20.heap[gb106]? = some (.cells #[.int .u8 a0_0, .int .u32 a0_1, .int .u32 a0_2, .int .u16 a0_3, .int .u16 a0_4, .int .u8 a0_5, .int .u8 a0_6] 25 (0, 0))) := ⟨(by rw [hw]; exact (by (with_reducible repeat first | apply blk_drewN | apply blk_drew | apply blk_alloc); refine blk_far ?_ NB106_108.out _; (with_reducible repeat first | apply blk_drewN | apply blk_drew | apply blk_alloc); refine blk_far ?_ NB106_108.out _; (with_reducible repeat first | apply blk_drewN | apply blk_drew | apply blk_alloc); exact BK106.out))⟩; have n2_ : Aside0 (w20.heap[gb107]? = some (.cells #[.int .u32 0, .int .u32 0, .int .u16 0, .int .u16 0, .int .u8 0] 29 (0, 0))) := ⟨(by rw [hw]; exact (by (with_reducible repeat first | apply blk_drewN | apply blk_drew | apply blk_alloc); refine blk_far ?_ NB107_108.out _; (with_reducible repeat first | apply blk_drewN | apply blk_drew | apply blk_alloc); refine blk_far ?_ NB107_108.out _; (with_reducible repeat first | apply blk_drewN | apply blk_drew | apply blk_alloc); exact BK107.out))⟩; have n3_ : Aside0 (w20.heap[gb108]? = some (.cells #[.int .u32 a0_2, .int .u32 a0_1, .int .u16 a0_3, .int .u16 a0_4, .int .u8 a0_0] 29 (0, 0))) := ⟨(by rw [hw]; exact (by (with_reducible repeat first | apply blk_drewN | apply blk_drew | apply blk_alloc); refine blk_put (cs := #[.int .u32 a0_2, .int .u32 a0_2, .int .u16 a0_3, .int .u16 a0_4, .int .u8 a0_0]) ?_ 1 _ rfl; (with_reducible repeat first | apply blk_drewN | apply blk_drew | apply blk_alloc); refine blk_put (cs := #[.int .u32 a0_1, .int .u32 a0_2, .int .u16 a0_3, .int .u16 a0_4, .int .u8 a0_0]) ?_ 0 _ rfl; (with_reducible repeat first | apply blk_drewN | apply blk_drew | apply blk_alloc); exact BK108.out))⟩; have n4_ : Aside0 (Below w.heap.size w w20) := ⟨(by rw [hw]; exact (by repeat first | (with_reducible first | exact HB.out | apply below_alloc | apply pw_below_drewN | apply below_drew1 | refine below_set ?_ GE106.out | refine below_set ?_ GE107.out | refine below_set ?_ GE108.out) | exact HB.out))⟩; clear hw; clear HO113; clear BK106; clear BK107; clear BK108; clear HB; have HO113 := n0_; have BK106 := n1_; have BK107 := n2_; have BK108 := n3_; have HB := n4_; clear n0_ n1_ n2_ n3_ n4_; have hcz21_0 : w20.cell? ⟨gb108, 0, none⟩ = some (.int .u32 a0_2) := (blk_cell BK108.out 0).trans rfl; have hcz21_1 : w20.cell? ⟨gb108, 1, none⟩ = some (.int .u32 a0_1) := (blk_cell BK108.out 1).trans rfl; have hcz21_2 : w20.cell? ⟨gb108, 2, none⟩ = some (.int .u16 a0_3) := (blk_cell BK108.out 2).trans rfl; have hcz21_3 : w20.cell? ⟨gb108, 3, none⟩ = some (.int .u16 a0_4) := (blk_cell BK108.out 3).trans rfl; have hcz21_4 : w20.cell? ⟨gb108, 4, none⟩ = some (.int .u8 a0_0) := (blk_cell BK108.out 4).trans rfl; have hfz21_0 := blk_frozen BK108.out 0; have hfz21_1 := blk_frozen BK108.out 1; have hfz21_2 := blk_frozen BK108.out 2; have hfz21_3 := blk_frozen BK108.out 3; have hfz21_4 := blk_frozen BK108.out 4) | ((with_reducible refine gate_store (t := 23) (p := 52) rfl ?_); (try (rw [drewN_self w20]; generalize hq_ : World.drewN w20 _ = w20; have n0_ := Aside0.mk (Kd.R_at hq_ HO113.out); have n1_ := Aside0.mk (blk_at hq_ BK106.out); have n2_ := Aside0.mk (blk_at hq_ BK107.out); have n3_ := Aside0.mk (blk_at hq_ BK108.out); have n4_ := Aside0.mk (below_at hq_ HB.out); clear hq_ HO113 BK106 BK107 BK108 HB; have HO113 := n0_; have BK106 := n1_; have BK107 := n2_; have BK108 := n3_; have HB := n4_; clear n0_ n1_ n2_ n3_ n4_)); refine store_event (t := 23) (p := 52) (v := ?vo_w22) (w1 := ((w20.setCell ⟨gb108, 2, none⟩ (.int .u16 a0_4)).setCell ⟨gb108, 3, none⟩ (.int .u16 a0_3))) ?hg ?ho ?hn ?hr ?_; (case ho => rfl); (case hg => rfl); (case hn => rfl); (case hr => first | (go_simp; done) | (go_simp; rfl) | (have hcy0_ : w20.cell? ⟨gb108, 0, none⟩ = some (.int .u32 a0_2) := (blk_cell BK108.out 0).trans rfl; have hfy0_ := blk_frozen BK108.out 0; have hcy1_ : w20.cell? ⟨gb108, 1, none⟩ = some (.int .u32 a0_1) := (blk_cell BK108.out 1).trans rfl; have hfy1_ := blk_frozen BK108.out 1; have hcy2_ : w20.cell? ⟨gb108, 2, none⟩ = some (.int .u16 a0_3) := (blk_cell BK108.out 2).trans rfl; have hfy2_ := blk_frozen BK108.out 2; have hcy3_ : w20.cell? ⟨gb108, 3, none⟩ = some (.int .u16 a0_4) := (blk_cell BK108.out 3).trans rfl; have hfy3_ := blk_frozen BK108.out 3; have hcy4_ : w20.cell? ⟨gb108, 4, none⟩ = some (.int .u8 a0_0) := (blk_cell BK108.out 4).trans rfl; have hfy4_ := blk_frozen BK108.out 4; first | (go_simp; done) | (go_simp; rfl))); intro w22 hw; have n0_ : Aside0 (Kd.R (Kd.int .i64) 3 w22 w.heap.size (fun _ => True) (.slice Ao18 y111.length co18) y111) := ⟨(by rw [hw]; exact (by (with_reducible repeat (first | apply Kd.R_alloc | apply Kd.R_drewN | apply Kd.R_drew)); exact Kd.R_mono (Kd.R_far (p := ⟨gb108, 3, none⟩) (Kd.R_far (p := ⟨gb108, 2, none⟩) (Kd.R_types HO113.out BK108.out (by decide)) (fun _ hk => hk.2) (.int .u16 a0_4)) (fun _ hk => hk.2) (.int .u16 a0_3)) (fun _ hk => trivial)))⟩; have n1_ : Aside0 (w22.heap[gb106]? = some (.cells #[.int .u8 a0_0, .int .u32 a0_1, .int .u32 a0_2, .int .u16 a0_3, .int .u16 a0_4, .int .u8 a0_5, .int .u8 a0_6] 25 (0, 0))) := ⟨(by rw [hw]; exact (by (with_reducible repeat first | apply blk_drewN | apply blk_drew | apply blk_alloc); refine blk_far ?_ NB106_108.out _; (with_reducible repeat first | apply blk_drewN | apply blk_drew | apply blk_alloc); refine blk_far ?_ NB106_108.out _; (with_reducible repeat first | apply blk_drewN | apply blk_drew | apply blk_alloc); exact BK106.out))⟩; have n2_ : Aside0 (w22.heap[gb107]? = some (.cells #[.int .u32 0, .int .u32 0, .int .u16 0, .int .u16 0, .int .u8 0] 29 (0, 0))) := ⟨(by rw [hw]; exact (by (with_reducible repeat first | apply blk_drewN | apply blk_drew | apply blk_alloc); refine blk_far ?_ NB107_108.out _; (with_reducible repeat first | apply blk_drewN | apply blk_drew | apply blk_alloc); refine blk_far ?_ NB107_108.out _; (with_reducible repeat first | apply blk_drewN | apply blk_drew | apply blk_alloc); exact BK107.out))⟩; have n3_ : Aside0 (w22.heap[gb108]? = some (.cells #[.int .u32 a0_2, .int .u32 a0_1, .int .u16 a0_4, .int .u16 a0_3, .int .u8 a0_0] 29 (0, 0))) := ⟨(by rw [hw]; exact (by (with_reducible repeat first | apply blk_drewN | apply blk_drew | apply blk_alloc); refine blk_put (cs := #[.int .u32 a0_2, .int .u32 a0_1, .int .u16 a0_4, .int .u16 a0_4, .int .u8 a0_0]) ?_ 3 _ rfl; (with_reducible repeat first | apply blk_drewN | apply blk_drew | apply blk_alloc); refine blk_put (cs := #[.int .u32 a0_2, .int .u32 a0_1, .int .u16 a0_3, .int .u16 a0_4, .int .u8 a0_0]) ?_ 2 _ rfl; (with_reducible repeat first | apply blk_drewN | apply blk_drew | apply blk_alloc); exact BK108.out))⟩; have n4_ : Aside0 (Below w.heap.size w w22) := ⟨(by rw [hw]; exact (by repeat first | (with_reducible first | exact HB.out | apply below_alloc | apply pw_below_drewN | apply below_drew1 | refine below_set ?_ GE106.out | refine below_set ?_ GE107.out | refine below_set ?_ GE108.out) | exact HB.out))⟩; clear hw; clear HO113; clear BK106; clear BK107; clear BK108; clear HB; have HO113 := n0_; have BK106 := n1_; have BK107 := n2_; have BK108 := n3_; have HB := n4_; clear n0_ n1_ n2_ n3_ n4_; have hcz23_0 : w22.cell? ⟨gb108, 0, none⟩ = some (.int .u32 a0_2) := (blk_cell BK108.out 0).trans rfl; have hcz23_1 : w22.cell? ⟨gb108, 1, none⟩ = some (.int .u32 a0_1) := (blk_cell BK108.out 1).trans rfl; have hcz23_2 : w22.cell? ⟨gb108, 2, none⟩ = some (.int .u16 a0_4) := (blk_cell BK108.out 2).trans rfl; have hcz23_3 : w22.cell? ⟨gb108, 3, none⟩ = some (.int .u16 a0_3) := (blk_cell BK108.out 3).trans rfl; have hcz23_4 : w22.cell? ⟨gb108, 4, none⟩ = some (.int .u8 a0_0) := (blk_cell BK108.out 4).trans rfl; have hfz23_0 := blk_frozen BK108.out 0; have hfz23_1 := blk_frozen BK108.out 1; have hfz23_2 := blk_frozen BK108.out 2; have hfz23_3 := blk_frozen BK108.out 3; have hfz23_4 := blk_frozen BK108.out 4; have hcz24_0 : w22.cell? ⟨gb107, 0, none⟩ = some (.int .u32 0) := (blk_cell BK107.out 0).trans rfl; have hcz24_1 : w22.cell? ⟨gb107, 1, none⟩ = some (.int .u32 0) := (blk_cell BK107.out 1).trans rfl; have hcz24_2 : w22.cell? ⟨gb107, 2, none⟩ = some (.int .u16 0) := (blk_cell BK107.out 2).trans rfl; have hcz24_3 : w22.cell? ⟨gb107, 3, none⟩ = some (.int .u16 0) := (blk_cell BK107.out 3).trans rfl; have hcz24_4 : w22.cell? ⟨gb107, 4, none⟩ = some (.int .u8 0) := (blk_cell BK107.out 4).trans rfl; have hfz24_0 := blk_frozen BK107.out 0; have hfz24_1 := blk_frozen BK107.out 1; have hfz24_2 := blk_frozen BK107.out 2; have hfz24_3 := blk_frozen BK107.out 3; have hfz24_4 := blk_frozen BK107.out 4) | ((with_reducible refine gate_store (t := 29) (p := 2) rfl ?_); (try (rw [drewN_self w22]; generalize hq_ : World.drewN w22 _ = w22; have n0_ := Aside0.mk (Kd.R_at hq_ HO113.out); have n1_ := Aside0.mk (blk_at hq_ BK106.out); have n2_ := Aside0.mk (blk_at hq_ BK107.out); have n3_ := Aside0.mk (blk_at hq_ BK108.out); have n4_ := Aside0.mk (below_at hq_ HB.out); clear hq_ HO113 BK106 BK107 BK108 HB; have HO113 := n0_; have BK106 := n1_; have BK107 := n2_; have BK108 := n3_; have HB := n4_; clear n0_ n1_ n2_ n3_ n4_)); refine store_event (t := 29) (p := 2) (v := ?vo_w25) (w1 := (((((w22.setCell ⟨gb107, 0, none⟩ (.int .u32 a0_2)).setCell ⟨gb107, 1, none⟩ (.int .u32 a0_1)).setCell ⟨gb107, 2, none⟩ (.int .u16 a0_4)).setCell ⟨gb107, 3, none⟩ (.int .u16 a0_3)).setCell ⟨gb107, 4, none⟩ (.int .u8 a0_0))) ?hg ?ho ?hn ?hr ?_; (case ho => rfl); (case hg => rfl); (case hn => rfl); (case hr => first | (go_simp; done) | (go_simp; rfl) | (have hcy0_ : w22.cell? ⟨gb107, 0, none⟩ = some (.int .u32 0) := (blk_cell BK107.out 0).trans rfl; have hfy0_ := blk_frozen BK107.out 0; have hcy1_ : w22.cell? ⟨gb107, 1, none⟩ = some (.int .u32 0) := (blk_cell BK107.out 1).trans rfl; have hfy1_ := blk_frozen BK107.out 1; have hcy2_ : w22.cell? ⟨gb107, 2, none⟩ = some (.int .u16 0) := (blk_cell BK107.out 2).trans rfl; have hfy2_ := blk_frozen BK107.out 2; have hcy3_ : w22.cell? ⟨gb107, 3, none⟩ = some (.int .u16 0) := (blk_cell BK107.out 3).trans rfl; have hfy3_ := blk_frozen BK107.out 3; have hcy4_ : w22.cell? ⟨gb107, 4, none⟩ = some (.int .u8 0) := (blk_cell BK107.out 4).trans rfl; have hfy4_ := blk_frozen BK107.out 4; first | (go_simp; done) | (go_simp; rfl))); intro w25 hw; have n0_ : Aside0 (Kd.R (Kd.int .i64) 3 w25 w.heap.size (fun _ => True) (.slice Ao18 y111.length co18) y111) := ⟨(by rw [hw]; exact (by (with_reducible repeat (first | apply Kd.R_alloc | apply Kd.R_drewN | apply Kd.R_drew)); exact Kd.R_mono (Kd.R_far (p := ⟨gb107, 4, none⟩) (Kd.R_far (p := ⟨gb107, 3, none⟩) (Kd.R_far (p := ⟨gb107, 2, none⟩) (Kd.R_far (p := ⟨gb107, 1, none⟩) (Kd.R_far (p := ⟨gb107, 0, none⟩) (Kd.R_types HO113.out BK107.out (by decide)) (fun _ hk => hk.2) (.int .u32 a0_2)) (fun _ hk => hk.2) (.int .u32 a0_1)) (fun _ hk => hk.2) (.int .u16 a0_4)) (fun _ hk => hk.2) (.int .u16 a0_3)) (fun _ hk => hk.2) (.int .u8 a0_0)) (fun _ hk => trivial)))⟩; have n1_ : Aside0 (w25.heap[gb106]? = some (.cells #[.int .u8 a0_0, .int .u32 a0_1, .int .u32 a0_2, .int .u16 a0_3, .int .u16 a0_4, .int .u8 a0_5, .int .u8 a0_6] 25 (0, 0))) := ⟨(by rw [hw]; exact (by (with_reducible repeat first | apply blk_drewN | apply blk_drew | apply blk_alloc); refine blk_far ?_ NB106_107.out _; (with_reducible repeat first | apply blk_drewN | apply blk_drew | apply blk_alloc); refine blk_far ?_ NB106_107.out _; (with_reducible repeat first | apply blk_drewN | apply blk_drew | apply blk_alloc); refine blk_far ?_ NB106_107.out _; (with_reducible repeat first | apply blk_drewN | apply blk_drew | apply blk_alloc); refine blk_far ?_ NB106_107.out _; (with_reducible repeat first | apply blk_drewN | apply blk_drew | apply blk_alloc); refine blk_far ?_ NB106_107.out _; (with_reducible repeat first | apply blk_drewN | apply blk_drew | apply blk_alloc); exact BK106.out))⟩; have n2_ : Aside0 (w25.heap[gb107]? = some (.cells #[.int .u32 a0_2, .int .u32 a0_1, .int .u16 a0_4, .int .u16 a0_3, .int .u8 a0_0] 29 (0, 0))) := ⟨(by rw [hw]; exact (by (with_reducible repeat first | apply blk_drewN | apply blk_drew | apply blk_alloc); refine blk_put (cs := #[.int .u32 a0_2, .int .u32 a0_1, .int .u16 a0_4, .int .u16 a0_3, .int .u8 0]) ?_ 4 _ rfl; (with_reducible repeat first | apply blk_drewN | apply blk_drew | apply blk_alloc); refine blk_put (cs := #[.int .u32 a0_2, .int .u32 a0_1, .int .u16 a0_4, .int .u16 0, .int .u8 0]) ?_ 3 _ rfl; (with_reducible repeat first | apply blk_drewN | apply blk_drew | apply blk_alloc); refine blk_put (cs := #[.int .u32 a0_2, .int .u32 a0_1, .int .u16 0, .int .u16 0, .int .u8 0]) ?_ 2 _ rfl; (with_reducible repeat first | apply blk_drewN | apply blk_drew | apply blk_alloc); refine blk_put (cs := #[.int .u32 a0_2, .int .u32 0, .int .u16 0, .int .u16 0, .int .u8 0]) ?_ 1 _ rfl; (with_reducible repeat first | apply blk_drewN | apply blk_drew | apply blk_alloc); refine blk_put (cs := #[.int .u32 0, .int .u32 0, .int .u16 0, .int .u16 0, .int .u8 0]) ?_ 0 _ rfl; (with_reducible repeat first | apply blk_drewN | apply blk_drew | apply blk_alloc); exact BK107.out))⟩; have n3_ : Aside0 (w25.heap[gb108]? = some (.cells #[.int .u32 a0_2, .int .u32 a0_1, .int .u16 a0_4, .int .u16 a0_3, .int .u8 a0_0] 29 (0, 0))) := ⟨(by rw [hw]; exact (by (with_reducible repeat first | apply blk_drewN | apply blk_drew | apply blk_alloc); refine blk_far ?_ NB108_107.out _; (with_reducible repeat first | apply blk_drewN | apply blk_drew | apply blk_alloc); refine blk_far ?_ NB108_107.out _; (with_reducible repeat first | apply blk_drewN | apply blk_drew | apply blk_alloc); refine blk_far ?_ NB108_107.out _; (with_reducible repeat first | apply blk_drewN | apply blk_drew | apply blk_alloc); refine blk_far ?_ NB108_107.out _; (with_reducible repeat first | apply blk_drewN | apply blk_drew | apply blk_alloc); refine blk_far ?_ NB108_107.out _; (with_reducible repeat first | apply blk_drewN | apply blk_drew | apply blk_alloc); exact BK108.out))⟩; have n4_ : Aside0 (Below w.heap.size w w25) := ⟨(by rw [hw]; exact (by repeat first | (with_reducible first | exact HB.out | apply below_alloc | apply pw_below_drewN | apply below_drew1 | refine below_set ?_ GE106.out | refine below_set ?_ GE107.out | refine below_set ?_ GE108.out) | exact HB.out))⟩; clear hw; clear HO113; clear BK106; clear BK107; clear BK108; clear HB; have HO113 := n0_; have BK106 := n1_; have BK107 := n2_; have BK108 := n3_; have HB := n4_; clear n0_ n1_ n2_ n3_ n4_))
    refine bodyPost_ret (results_ct rfl _ _ gb107 29 #[.int .u32 a0_2, .int .u32 a0_1, .int .u16 a0_4, .int .u16 a0_3, .int .u8 a0_0] (0, 0) _ rfl (by (with_reducible repeat first | apply blk_drewN | apply blk_drew | apply blk_alloc); exact BK107.out) Try.underlying29 rfl (by kernel_rfl)) rfl ?_
    exact ⟨by first | rfl | (simp [errW_none, errW_some] <;> rfl) | (simp [*, errW_none, errW_some] <;> rfl), by repeat first | (with_reducible first | exact HB.out | apply below_alloc | apply pw_below_drewN | apply below_drew1 | refine below_set ?_ GE106.out | refine below_set ?_ GE107.out | refine below_set ?_ GE108.out) | exact HB.out⟩
  · rw [if_neg c5] at H
    have c5b0 : decide (t114 < 0) = false := decide_eq_false c5
    clear c5
    simp only [Option.some.injEq, Prod.mk.injEq] at H
    obtain ⟨rfl, rfl, rfl, rfl, rfl, rfl⟩ := H
    go_enter Try.func8, Try.ntmps8
    try go_wp2_with (first | ((with_reducible refine gate_dst (N := 1) rfl ?_); refine box_event ?hg (N := 1) ?hd (cs := #[.int .u8 a0_0, .int .u32 a0_1, .int .u32 a0_2, .int .u16 a0_3, .int .u16 a0_4, .int .u8 a0_5, .int .u8 a0_6]) (t := 25) ?hr ?_; (case hd => rfl); (case hg => rfl); (case hr => first | (go_simp; done) | (go_simp; rfl)); intro gb106 hg w26 hbox hb; have n0_ := Aside0.mk (below_step (by repeat first | (with_reducible first | exact HB.out | apply below_alloc | apply pw_below_drewN | apply below_drew1) | exact HB.out) hb); have n1_ := Aside0.mk (hbox); have n2_ := Aside0.mk ((by rw [hg]; exact (below_size (by repeat first | (with_reducible first | exact HB.out | apply below_alloc | apply pw_below_drewN | apply below_drew1) | exact HB.out)) : w.heap.size ≤ gb106)); have n3_ := Aside0.mk ((by rw [hg]; exact (below_size (by repeat first | (with_reducible first | exact HB.out | apply below_alloc | apply pw_below_drewN | apply below_drew1) | exact HB.out)) : w.heap.size ≤ gb106)); clear HB; have HB := n0_; have BK106 := n1_; have GW106 := n2_; have GE106 := n3_; clear n0_ n1_ n2_ n3_; clear hb hbox hg) | ((with_reducible refine gate_dst (N := 2) rfl ?_); refine box_event ?hg (N := 2) ?hd (cs := #[.int .u32 0, .int .u32 0, .int .u16 0, .int .u16 0, .int .u8 0]) (t := 29) ?hr ?_; (case hd => rfl); (case hg => rfl); (case hr => first | (go_simp; done) | (go_simp; rfl)); intro gb107 hg w27 hbox hb; have n0_ := Aside0.mk (blk_below (g := gb106) (o := .cells #[.int .u8 a0_0, .int .u32 a0_1, .int .u32 a0_2, .int .u16 a0_3, .int .u16 a0_4, .int .u8 a0_5, .int .u8 a0_6] 25 (0, 0)) (by (with_reducible repeat first | apply blk_drewN | apply blk_drew | apply blk_alloc); exact BK106.out) hb); have n1_ := Aside0.mk (below_step (by repeat first | (with_reducible first | exact HB.out | apply below_alloc | apply pw_below_drewN | apply below_drew1 | refine below_set ?_ GE106.out) | exact HB.out) hb); have n2_ := Aside0.mk (hbox); have n3_ := Aside0.mk ((by rw [hg]; exact (below_size (by repeat first | (with_reducible first | exact HB.out | apply below_alloc | apply pw_below_drewN | apply below_drew1 | refine below_set ?_ GE106.out) | exact HB.out)) : w.heap.size ≤ gb107)); have n4_ := Aside0.mk ((by rw [hg]; exact (below_size (by repeat first | (with_reducible first | exact HB.out | apply below_alloc | apply pw_below_drewN | apply below_drew1 | refine below_set ?_ GE106.out) | exact HB.out)) : w.heap.size ≤ gb107)); have n5_ := Aside0.mk ((by rw [hg]; exact Nat.ne_of_lt (blk_lt (g := gb106) (o := .cells #[.int .u8 a0_0, .int .u32 a0_1, .int .u32 a0_2, .int .u16 a0_3, .int .u16 a0_4, .int .u8 a0_5, .int .u8 a0_6] 25 (0, 0)) (by (with_reducible repeat first | apply blk_drewN | apply blk_drew | apply blk_alloc); exact BK106.out)) : gb106 ≠ gb107)); have n6_ := Aside0.mk ((by rw [hg]; exact Nat.ne_of_gt (blk_lt (g := gb106) (o := .cells #[.int .u8 a0_0, .int .u32 a0_1, .int .u32 a0_2, .int .u16 a0_3, .int .u16 a0_4, .int .u8 a0_5, .int .u8 a0_6] 25 (0, 0)) (by (with_reducible repeat first | apply blk_drewN | apply blk_drew | apply blk_alloc); exact BK106.out)) : gb107 ≠ gb106)); clear BK106; clear HB; have BK106 := n0_; have HB := n1_; have BK107 := n2_; have GW107 := n3_; have GE107 := n4_; have NB106_107 := n5_; have NB107_106 := n6_; clear n0_ n1_ n2_ n3_ n4_ n5_ n6_; clear hb hbox hg; have hnb28 := NB106_107.out; have hnc28 := NB107_106.out; have hcz29_0 : w27.cell? ⟨gb106, 0, none⟩ = some (.int .u8 a0_0) := (blk_cell BK106.out 0).trans rfl; have hcz29_1 : w27.cell? ⟨gb106, 1, none⟩ = some (.int .u32 a0_1) := (blk_cell BK106.out 1).trans rfl; have hcz29_2 : w27.cell? ⟨gb106, 2, none⟩ = some (.int .u32 a0_2) := (blk_cell BK106.out 2).trans rfl; have hcz29_3 : w27.cell? ⟨gb106, 3, none⟩ = some (.int .u16 a0_3) := (blk_cell BK106.out 3).trans rfl; have hcz29_4 : w27.cell? ⟨gb106, 4, none⟩ = some (.int .u16 a0_4) := (blk_cell BK106.out 4).trans rfl; have hcz29_5 : w27.cell? ⟨gb106, 5, none⟩ = some (.int .u8 a0_5) := (blk_cell BK106.out 5).trans rfl; have hcz29_6 : w27.cell? ⟨gb106, 6, none⟩ = some (.int .u8 a0_6) := (blk_cell BK106.out 6).trans rfl; have hfz29_0 := blk_frozen BK106.out 0; have hfz29_1 := blk_frozen BK106.out 1; have hfz29_2 := blk_frozen BK106.out 2; have hfz29_3 := blk_frozen BK106.out 3; have hfz29_4 := blk_frozen BK106.out 4; have hfz29_5 := blk_frozen BK106.out 5; have hfz29_6 := blk_frozen BK106.out 6) | ((with_reducible refine gate_dst (N := 4) rfl ?_); refine box_event ?hg (N := 4) ?hd (cs := #[.int .u32 0, .int .u32 0, .int .u16 0, .int .u16 0, .int .u8 0]) (t := 29) ?hr ?_; (case hd => rfl); (case hg => rfl); (case hr => first | (go_simp; done) | (go_simp; rfl)); intro gb108 hg w30 hbox hb; have n0_ := Aside0.mk (blk_below (g := gb106) (o := .cells #[.int .u8 a0_0, .int .u32 a0_1, .int .u32 a0_2, .int .u16 a0_3, .int .u16 a0_4, .int .u8 a0_5, .int .u8 a0_6] 25 (0, 0)) (by (with_reducible repeat first | apply blk_drewN | apply blk_drew | apply blk_alloc); exact BK106.out) hb); have n1_ := Aside0.mk (blk_below (g := gb107) (o := Z_29) (by (with_reducible repeat first | apply blk_drewN | apply blk_drew | apply blk_alloc); exact BK107.out) hb); have n2_ := Aside0.mk (below_step (by repeat first | (with_reducible first | exact HB.out | apply below_alloc | apply pw_below_drewN | apply below_drew1 | refine below_set ?_ GE106.out | refine below_set ?_ GE107.out) | exact HB.out) hb); have n3_ := Aside0.mk (hbox); have n4_ := Aside0.mk ((by rw [hg]; exact (below_size (by repeat first | (with_reducible first | exact HB.out | apply below_alloc | apply pw_below_drewN | apply below_drew1 | refine below_set ?_ GE106.out | refine below_set ?_ GE107.out) | exact HB.out)) : w.heap.size ≤ gb108)); have n5_ := Aside0.mk ((by rw [hg]; exact (below_size (by repeat first | (with_reducible first | exact HB.out | apply below_alloc | apply pw_below_drewN | apply below_drew1 | refine below_set ?_ GE106.out | refine below_set ?_ GE107.out) | exact HB.out)) : w.heap.size ≤ gb108)); have n6_ := Aside0.mk ((by rw [hg]; exact Nat.ne_of_lt (blk_lt (g := gb106) (o := .cells #[.int .u8 a0_0, .int .u32 a0_1, .int .u32 a0_2, .int .u16 a0_3, .int .u16 a0_4, .int .u8 a0_5, .int .u8 a0_6] 25 (0, 0)) (by (with_reducible repeat first | apply blk_drewN | apply blk_drew | apply blk_alloc); exact BK106.out)) : gb106 ≠ gb108)); have n7_ := Aside0.mk ((by rw [hg]; exact Nat.ne_of_gt (blk_lt (g := gb106) (o := .cells #[.int .u8 a0_0, .int .u32 a0_1, .int .u32 a0_2, .int .u16 a0_3, .int .u16 a0_4, .int .u8 a0_5, .int .u8 a0_6] 25 (0, 0)) (by (with_reducible repeat first | apply blk_drewN | apply blk_drew | apply blk_alloc); exact BK106.out)) : gb108 ≠ gb106)); have n8_ := Aside0.mk ((by rw [hg]; exact Nat.ne_of_lt (blk_lt (g := gb107) (o := Z_29) (by (with_reducible repeat first | apply blk_drewN | apply blk_drew | apply blk_alloc); exact BK107.out)) : gb107 ≠ gb108)); have n9_ := Aside0.mk ((by rw [hg]; exact Nat.ne_of_gt (blk_lt (g := gb107) (o := Z_29) (by (with_reducible repeat first | apply blk_drewN | apply blk_drew | apply blk_alloc); exact BK107.out)) : gb108 ≠ gb107)); clear BK106; clear BK107; clear HB; have BK106 := n0_; have BK107 := n1_; have HB := n2_; have BK108 := n3_; have GW108 := n4_; have GE108 := n5_; have NB106_108 := n6_; have NB108_106 := n7_; have NB107_108 := n8_; have NB108_107 := n9_; clear n0_ n1_ n2_ n3_ n4_ n5_ n6_ n7_ n8_ n9_; clear hb hbox hg; have hnb31 := NB108_106.out; have hnc31 := NB106_108.out; have hnb32 := NB108_107.out; have hnc32 := NB107_108.out; have hcz33_0 : w30.cell? ⟨gb108, 0, none⟩ = some (.int .u32 0) := (blk_cell BK108.out 0).trans rfl; have hcz33_1 : w30.cell? ⟨gb108, 1, none⟩ = some (.int .u32 0) := (blk_cell BK108.out 1).trans rfl; have hcz33_2 : w30.cell? ⟨gb108, 2, none⟩ = some (.int .u16 0) := (blk_cell BK108.out 2).trans rfl; have hcz33_3 : w30.cell? ⟨gb108, 3, none⟩ = some (.int .u16 0) := (blk_cell BK108.out 3).trans rfl; have hcz33_4 : w30.cell? ⟨gb108, 4, none⟩ = some (.int .u8 0) := (blk_cell BK108.out 4).trans rfl; have hfz33_0 := blk_frozen BK108.out 0; have hfz33_1 := blk_frozen BK108.out 1; have hfz33_2 := blk_frozen BK108.out 2; have hfz33_3 := blk_frozen BK108.out 3; have hfz33_4 := blk_frozen BK108.out 4) | ((with_reducible refine gate_store (t := 29) (p := 4) rfl ?_); (try (rw [drewN_self w30]; generalize hq_ : World.drewN w30 _ = w30; have n0_ := Aside0.mk (blk_at hq_ BK106.out); have n1_ := Aside0.mk (blk_at hq_ BK107.out); have n2_ := Aside0.mk (blk_at hq_ BK108.out); have n3_ := Aside0.mk (below_at hq_ HB.out); clear hq_ BK106 BK107 BK108 HB; have BK106 := n0_; have BK107 := n1_; have BK108 := n2_; have HB := n3_; clear n0_ n1_ n2_ n3_)); refine store_event (t := 29) (p := 4) (v := ?vo_w34) (w1 := (((((w30.setCell ⟨gb108, 0, none⟩ (.int .u32 a0_1)).setCell ⟨gb108, 1, none⟩ (.int .u32 a0_2)).setCell ⟨gb108, 2, none⟩ (.int .u16 a0_3)).setCell ⟨gb108, 3, none⟩ (.int .u16 a0_4)).setCell ⟨gb108, 4, none⟩ (.int .u8 a0_0))) ?hg ?ho ?hn ?hr ?_; (case ho => rfl); (case hg => rfl); (case hn => rfl); (case hr => first | (go_simp; done) | (go_simp; rfl) | (have hcy0_ : w30.cell? ⟨gb108, 0, none⟩ = some (.int .u32 0) := (blk_cell BK108.out 0).trans rfl; have hfy0_ := blk_frozen BK108.out 0; have hcy1_ : w30.cell? ⟨gb108, 1, none⟩ = some (.int .u32 0) := (blk_cell BK108.out 1).trans rfl; have hfy1_ := blk_frozen BK108.out 1; have hcy2_ : w30.cell? ⟨gb108, 2, none⟩ = some (.int .u16 0) := (blk_cell BK108.out 2).trans rfl; have hfy2_ := blk_frozen BK108.out 2; have hcy3_ : w30.cell? ⟨gb108, 3, none⟩ = some (.int .u16 0) := (blk_cell BK108.out 3).trans rfl; have hfy3_ := blk_frozen BK108.out 3; have hcy4_ : w30.cell? ⟨gb108, 4, none⟩ = some (.int .u8 0) := (blk_cell BK108.out 4).trans rfl; have hfy4_ := blk_frozen BK108.out 4; first | (go_simp; done) | (go_simp; rfl))); intro w34 hw; have n0_ : Aside0 (w34.heap[gb106]? = some (.cells #[.int .u8 a0_0, .int .u32 a0_1, .int .u32 a0_2, .int .u16 a0_3, .int .u16 a0_4, .int .u8 a0_5, .int .u8 a0_6] 25 (0, 0))) := ⟨(by rw [hw]; exact (by (with_reducible repeat first | apply blk_drewN | apply blk_drew | apply blk_alloc); refine blk_far ?_ NB106_108.out _; (with_reducible repeat first | apply blk_drewN | apply blk_drew | apply blk_alloc); refine blk_far ?_ NB106_108.out _; (with_reducible repeat first | apply blk_drewN | apply blk_drew | apply blk_alloc); refine blk_far ?_ NB106_108.out _; (with_reducible repeat first | apply blk_drewN | apply blk_drew | apply blk_alloc); refine blk_far ?_ NB106_108.out _; (with_reducible repeat first | apply blk_drewN | apply blk_drew | apply blk_alloc); refine blk_far ?_ NB106_108.out _; (with_reducible repeat first | apply blk_drewN | apply blk_drew | apply blk_alloc); exact BK106.out))⟩; have n1_ : Aside0 (w34.heap[gb107]? = some (.cells #[.int .u32 0, .int .u32 0, .int .u16 0, .int .u16 0, .int .u8 0] 29 (0, 0))) := ⟨(by rw [hw]; exact (by (with_reducible repeat first | apply blk_drewN | apply blk_drew | apply blk_alloc); refine blk_far ?_ NB107_108.out _; (with_reducible repeat first | apply blk_drewN | apply blk_drew | apply blk_alloc); refine blk_far ?_ NB107_108.out _; (with_reducible repeat first | apply blk_drewN | apply blk_drew | apply blk_alloc); refine blk_far ?_ NB107_108.out _; (with_reducible repeat first | apply blk_drewN | apply blk_drew | apply blk_alloc); refine blk_far ?_ NB107_108.out _; (with_reducible repeat first | apply blk_drewN | apply blk_drew | apply blk_alloc); refine blk_far ?_ NB107_108.out _; (with_reducible repeat first | apply blk_drewN | apply blk_drew | apply blk_alloc); exact BK107.out))⟩; have n2_ : Aside0 (w34.heap[gb108]? = some (.cells #[.int .u32 a0_1, .int .u32 a0_2, .int .u16 a0_3, .int .u16 a0_4, .int .u8 a0_0] 29 (0, 0))) := ⟨(by rw [hw]; exact (by (with_reducible repeat first | apply blk_drewN | apply blk_drew | apply blk_alloc); refine blk_put (cs := #[.int .u32 a0_1, .int .u32 a0_2, .int .u16 a0_3, .int .u16 a0_4, .int .u8 0]) ?_ 4 _ rfl; (with_reducible repeat first | apply blk_drewN | apply blk_drew | apply blk_alloc); refine blk_put (cs := #[.int .u32 a0_1, .int .u32 a0_2, .int .u16 a0_3, .int .u16 0, .int .u8 0]) ?_ 3 _ rfl; (with_reducible repeat first | apply blk_drewN | apply blk_drew | apply blk_alloc); refine blk_put (cs := #[.int .u32 a0_1, .int .u32 a0_2, .int .u16 0, .int .u16 0, .int .u8 0]) ?_ 2 _ rfl; (with_reducible repeat first | apply blk_drewN | apply blk_drew | apply blk_alloc); refine blk_put (cs := #[.int .u32 a0_1, .int .u32 0, .int .u16 0, .int .u16 0, .int .u8 0]) ?_ 1 _ rfl; (with_reducible repeat first | apply blk_drewN | apply blk_drew | apply blk_alloc); refine blk_put (cs := #[.int .u32 0, .int .u32 0, .int .u16 0, .int .u16 0, .int .u8 0]) ?_ 0 _ rfl; (with_reducible repeat first | apply blk_drewN | apply blk_drew | apply blk_alloc); exact BK108.out))⟩; have n3_ : Aside0 (Below w.heap.size w w34) := ⟨(by rw [hw]; exact (by repeat first | (with_reducible first | exact HB.out | apply below_alloc | apply pw_below_drewN | apply below_drew1 | refine below_set ?_ GE106.out | refine below_set ?_ GE107.out | refine below_set ?_ GE108.out) | exact HB.out))⟩; clear hw; clear BK106; clear BK107; clear BK108; clear HB; have BK106 := n0_; have BK107 := n1_; have BK108 := n2_; have HB := n3_; clear n0_ n1_ n2_ n3_))
    have n0_ := Aside0.mk (blk_drew BK106.out)
    have n1_ := Aside0.mk (blk_drew BK107.out)
    have n2_ := Aside0.mk (blk_drew BK108.out)
    have n3_ := Aside0.mk (below_drew1 HB.out)
    clear BK106
    clear BK107
    clear BK108
    clear HB
    have BK106 := n0_
    have BK107 := n1_
    have BK108 := n2_
    have HB := n3_
    clear n0_ n1_ n2_ n3_
    refine start_ (n := 14) (S := fun w' => w'.cell? ⟨gb106, 0, none⟩ = some (.int .u8 a0_0) ∧ w'.cell? ⟨gb106, 1, none⟩ = some (.int .u32 a0_1) ∧ w'.cell? ⟨gb106, 2, none⟩ = some (.int .u32 a0_2) ∧ w'.cell? ⟨gb106, 3, none⟩ = some (.int .u16 a0_3) ∧ w'.cell? ⟨gb106, 4, none⟩ = some (.int .u16 a0_4) ∧ w'.cell? ⟨gb106, 5, none⟩ = some (.int .u8 a0_5) ∧ w'.cell? ⟨gb106, 6, none⟩ = some (.int .u8 a0_6)) (ds := []) #[false, false, false, false, false, false, false, false, false, false, false, false, false, false] (by kernel_rfl) rfl rfl ⟨(blk_cell BK106.out 0).trans rfl, (blk_cell BK106.out 1).trans rfl, (blk_cell BK106.out 2).trans rfl, (blk_cell BK106.out 3).trans rfl, (blk_cell BK106.out 4).trans rfl, (blk_cell BK106.out 5).trans rfl, (blk_cell BK106.out 6).trans rfl⟩ (fun hHeld => ?_); refine with_tabW key_Of.tab2 key_Of.bits2 (fun HT_ HW_ => ?_)
    generalize w34.drew = w35 at BK106 BK107 BK108 HB hHeld ⊢
    refine pure_ (i := 0) (N := some 19) (v := ?_) (a' := ?_) #[true, false, false, false, false, false, false, false, false, false, false, false, false, false] rfl rfl (any_of HT_.out (by kernel_rfl)) (fun _ _ _ h => h) (Or.inl ⟨by rfl, ?_⟩) ?_ ?_
    rotate_left
    · intro w'
      go_simp
      with_reducible rfl
    rotate_left
    · simp only [Act.put, List.setIfInBounds_toArray, List.set_cons_zero, List.set_cons_succ, i64_w, i32_w]
      rfl
    refine pure_ (i := 2) (N := some 21) (v := ?_) (a' := ?_) #[true, false, true, false, false, false, false, false, false, false, false, false, false, false] rfl rfl (any_of HT_.out (by kernel_rfl)) (fun _ _ _ h => h) (Or.inl ⟨by rfl, ?_⟩) ?_ ?_
    rotate_left
    · intro w'
      go_simp
      with_reducible rfl
    rotate_left
    · simp only [Act.put, List.setIfInBounds_toArray, List.set_cons_zero, List.set_cons_succ, i64_w, i32_w]
      rfl
    refine pure_ (i := 5) (N := some 24) (v := ?_) (a' := ?_) #[true, false, true, false, false, true, false, false, false, false, false, false, false, false] rfl rfl (any_of HT_.out (by kernel_rfl)) (fun _ _ _ h => h) (Or.inl ⟨by rfl, ?_⟩) ?_ ?_
    rotate_left
    · intro w'
      go_simp
      with_reducible rfl
    rotate_left
    · simp only [Act.put, List.setIfInBounds_toArray, List.set_cons_zero, List.set_cons_succ, i64_w, i32_w]
      rfl
    refine pure_ (i := 7) (N := some 26) (v := ?_) (a' := ?_) #[true, false, true, false, false, true, false, true, false, false, false, false, false, false] rfl rfl (any_of HT_.out (by kernel_rfl)) (fun _ _ _ h => h) (Or.inl ⟨by rfl, ?_⟩) ?_ ?_
    rotate_left
    · intro w'
      go_simp
      with_reducible rfl
    rotate_left
    · simp only [Act.put, List.setIfInBounds_toArray, List.set_cons_zero, List.set_cons_succ, i64_w, i32_w]
      rfl
    refine take_ (i := 1) (N := some 20) (v := ?_) (a' := ?_) #[true, true, true, false, false, true, false, true, false, false, false, false, false, false] rfl rfl (take_ofW HT_.out HW_.out (by kernel_rfl)) (fun _ _ _ h => h) (Or.inl ⟨by rfl, ?_⟩) hHeld ?_ ?_
    rotate_left
    · rintro w' ⟨s0, s1, s2, s3, s4, s5, s6⟩
      go_simp
      with_reducible rfl
    rotate_left
    · simp only [Act.put, List.setIfInBounds_toArray, List.set_cons_zero, List.set_cons_succ, i64_w, i32_w]
      rfl
    refine take_ (i := 3) (N := some 22) (v := ?_) (a' := ?_) #[true, true, true, true, false, true, false, true, false, false, false, false, false, false] rfl rfl (take_ofW HT_.out HW_.out (by kernel_rfl)) (fun _ _ _ h => h) (Or.inl ⟨by rfl, ?_⟩) hHeld ?_ ?_
    rotate_left
    · rintro w' ⟨s0, s1, s2, s3, s4, s5, s6⟩
      go_simp
      with_reducible rfl
    rotate_left
    · simp only [Act.put, List.setIfInBounds_toArray, List.set_cons_zero, List.set_cons_succ, i64_w, i32_w]
      rfl
    refine take_ (i := 6) (N := some 25) (v := ?_) (a' := ?_) #[true, true, true, true, false, true, true, true, false, false, false, false, false, false] rfl rfl (take_ofW HT_.out HW_.out (by kernel_rfl)) (fun _ _ _ h => h) (Or.inl ⟨by rfl, ?_⟩) hHeld ?_ ?_
    rotate_left
    · rintro w' ⟨s0, s1, s2, s3, s4, s5, s6⟩
      go_simp
      with_reducible rfl
    rotate_left
    · simp only [Act.put, List.setIfInBounds_toArray, List.set_cons_zero, List.set_cons_succ, i64_w, i32_w]
      rfl
    refine take_ (i := 8) (N := some 27) (v := ?_) (a' := ?_) #[true, true, true, true, false, true, true, true, true, false, false, false, false, false] rfl rfl (take_ofW HT_.out HW_.out (by kernel_rfl)) (fun _ _ _ h => h) (Or.inl ⟨by rfl, ?_⟩) hHeld ?_ ?_
    rotate_left
    · rintro w' ⟨s0, s1, s2, s3, s4, s5, s6⟩
      go_simp
      with_reducible rfl
    rotate_left
    · simp only [Act.put, List.setIfInBounds_toArray, List.set_cons_zero, List.set_cons_succ, i64_w, i32_w]
      rfl
    refine one_ (i := 4) (N := some 23) #[true, true, true, true, true, true, true, true, true, false, false, false, false, false] rfl rfl (one_of HT_.out (by kernel_rfl)) (by decide) (fun K hK => ?_)
    refine goes_ Try.func19 (by kernel_rfl) rfl #[.int .u32 a0_2, .int .u32 a0_1] (by rfl) rfl rfl (by (try simp only [List.map_toArray, List.map_cons, List.map_nil]); first | done | rfl) ?_
    with_reducible refine (cmp_Compare_uint32.calls a0_2 a0_1 t109 _ A2.out).mono ?_
    rintro e w' ⟨rfl, ⟨nd, rfl⟩⟩
    refine ⟨_, rfl, ?_⟩
    refine hK.out _ _ ⟨(blk_cell BK106.out 0).trans rfl, (blk_cell BK106.out 1).trans rfl, (blk_cell BK106.out 2).trans rfl, (blk_cell BK106.out 3).trans rfl, (blk_cell BK106.out 4).trans rfl, (blk_cell BK106.out 5).trans rfl, (blk_cell BK106.out 6).trans rfl⟩ (fun hHeld => ?_)
    clear hK K
    refine norm_ (a' := ?_) ?_ ?_
    rotate_left
    · show Act.put _ (some 23) _ = _
      simp only [Act.put, List.setIfInBounds_toArray, List.set_cons_zero, List.set_cons_succ, i64_w, i32_w]
      rfl
    refine one_ (i := 9) (N := some 28) #[true, true, true, true, true, true, true, true, true, true, false, false, false, false] rfl rfl (one_of HT_.out (by kernel_rfl)) (by decide) (fun K hK => ?_)
    refine goes_ Try.func20 (by kernel_rfl) rfl #[.int .u16 a0_4, .int .u16 a0_3] (by rfl) rfl rfl (by (try simp only [List.map_toArray, List.map_cons, List.map_nil]); first | done | rfl) ?_
    with_reducible refine (cmp_Compare_uint16.calls a0_4 a0_3 t110 _ A3.out).mono ?_
    rintro e w' ⟨rfl, ⟨nd, rfl⟩⟩
    refine ⟨_, rfl, ?_⟩
    refine hK.out _ _ ⟨(blk_cell BK106.out 0).trans rfl, (blk_cell BK106.out 1).trans rfl, (blk_cell BK106.out 2).trans rfl, (blk_cell BK106.out 3).trans rfl, (blk_cell BK106.out 4).trans rfl, (blk_cell BK106.out 5).trans rfl, (blk_cell BK106.out 6).trans rfl⟩ (fun hHeld => ?_)
    clear hK K
    refine norm_ (a' := ?_) ?_ ?_
    rotate_left
    · show Act.put _ (some 28) _ = _
      simp only [Act.put, List.setIfInBounds_toArray, List.set_cons_zero, List.set_cons_succ, i64_w, i32_w]
      rfl
    refine one_ (i := 10) (N := some 29) #[true, true, true, true, true, true, true, true, true, true, true, false, false, false] rfl rfl (one_of HT_.out (by kernel_rfl)) (by decide) (fun K hK => ?_)
    refine Kd.R_lit_step (Kd.int .i64) _ 3 ?hg (N := 29) ?hd (xs := ([t109, t110] : List Int)) (inner := [.int .i64 t109, .int .i64 t110]) (ok := fun _ => True) (okp := fun _ => True) ?hr ?hp (fun _ hk => hk) trivial (Below.refl _ _) (Nat.le_refl _) (by simp) ?_; (case hd => rfl); (case hg => rfl); (case hr => first | (go_simp; done) | (go_simp; rfl)); (case hp => exact (Reps.one (show Kd.M (Kd.int .i64) _ _ _ t109 [.int .i64 t109] from rfl) (Reps.one (show Kd.M (Kd.int .i64) _ _ _ t110 [.int .i64 t110] from rfl) (Reps.none _ _))))
    intro v112 w36 ho37 hb hg_ hnew_
    clear hg_ hnew_
    (first | rw [← Ny111.out] at ho37 | (simp only [Int.reduceToNat] at ho37; rw [← Ny111.out] at ho37))
    have n0_ := Aside0.mk (Kd.R_lower ho37 (below_size (by repeat first | (with_reducible first | exact HB.out | apply below_alloc | apply pw_below_drewN | apply below_drew1 | refine below_set ?_ GE106.out | refine below_set ?_ GE107.out | refine below_set ?_ GE108.out) | exact HB.out)))
    have n1_ := Aside0.mk (blk_below (g := gb106) (o := .cells #[.int .u8 a0_0, .int .u32 a0_1, .int .u32 a0_2, .int .u16 a0_3, .int .u16 a0_4, .int .u8 a0_5, .int .u8 a0_6] 25 (0, 0)) (by (with_reducible repeat first | apply blk_drewN | apply blk_drew | apply blk_alloc); exact BK106.out) hb)
    have n2_ := Aside0.mk (blk_below (g := gb107) (o := Z_29) (by (with_reducible repeat first | apply blk_drewN | apply blk_drew | apply blk_alloc); exact BK107.out) hb)
    have n3_ := Aside0.mk (blk_below (g := gb108) (o := .cells #[.int .u32 a0_1, .int .u32 a0_2, .int .u16 a0_3, .int .u16 a0_4, .int .u8 a0_0] 29 (0, 0)) (by (with_reducible repeat first | apply blk_drewN | apply blk_drew | apply blk_alloc); exact BK108.out) hb)
    have n4_ := Aside0.mk (below_step (by repeat first | (with_reducible first | exact HB.out | apply below_alloc | apply pw_below_drewN | apply below_drew1 | refine below_set ?_ GE106.out | refine below_set ?_ GE107.out | refine below_set ?_ GE108.out) | exact HB.out) hb)
    clear BK106
    clear BK107
    clear BK108
    clear HB
    have HO113 := n0_
    have BK106 := n1_
    have BK107 := n2_
    have BK108 := n3_
    have HB := n4_
    clear n0_ n1_ n2_ n3_ n4_
    clear hb ho37
    obtain ⟨Ao38, co38, eo38⟩ := Kd.R_slice HO113.out
    (first | subst eo38 | (injection eo38 with f1_ f2_ f3_; have f4_ := f1_.symm; have f5_ := f3_.symm; clear f1_ f2_ f3_; subst f4_; subst f5_))
    refine hK.out _ _ ⟨(blk_cell BK106.out 0).trans rfl, (blk_cell BK106.out 1).trans rfl, (blk_cell BK106.out 2).trans rfl, (blk_cell BK106.out 3).trans rfl, (blk_cell BK106.out 4).trans rfl, (blk_cell BK106.out 5).trans rfl, (blk_cell BK106.out 6).trans rfl⟩ (fun hHeld => ?_)
    clear hK K
    refine norm_ (a' := ?_) ?_ ?_
    rotate_left
    · show Act.put _ (some 29) _ = _
      simp only [Act.put, List.setIfInBounds_toArray, List.set_cons_zero, List.set_cons_succ, i64_w, i32_w]
      rfl
    refine one_ (i := 11) (N := some 30) #[true, true, true, true, true, true, true, true, true, true, true, true, false, false] rfl rfl (one_of HT_.out (by kernel_rfl)) (by decide) (fun K hK => ?_)
    refine goes_ Try.func18 (by kernel_rfl) rfl #[.slice Ao38 y111.length co38] (by rfl) rfl rfl (by (try simp only [List.map_toArray, List.map_cons, List.map_nil]); first | done | rfl) ?_
    with_reducible refine (cmp_Or_int.calls k _ _ y111 t114 _ ?side1 ?side2 A4.out).mono ?_
    (case side1 => repeat (first | exact (Kd.R_reads' HO113.out).2.2 | (with_reducible refine Kd.C_alloc ?_ _) | (with_reducible refine Kd.C_drewN ?_ _) | (with_reducible refine Kd.C_drew ?_)))
    (case side2 => exact (Kd.R_reads' HO113.out).2.1)
    rintro e w' ⟨rfl, ⟨nd, rfl⟩⟩
    refine ⟨_, rfl, ?_⟩
    refine hK.out _ _ ⟨(blk_cell BK106.out 0).trans rfl, (blk_cell BK106.out 1).trans rfl, (blk_cell BK106.out 2).trans rfl, (blk_cell BK106.out 3).trans rfl, (blk_cell BK106.out 4).trans rfl, (blk_cell BK106.out 5).trans rfl, (blk_cell BK106.out 6).trans rfl⟩ (fun hHeld => ?_)
    clear hK K
    refine norm_ (a' := ?_) ?_ ?_
    rotate_left
    · show Act.put _ (some 30) _ = _
      simp only [Act.put, List.setIfInBounds_toArray, List.set_cons_zero, List.set_cons_succ, i64_w, i32_w]
      rfl
    refine pure_ (i := 12) (N := some 31) (v := ?_) (a' := ?_) #[true, true, true, true, true, true, true, true, true, true, true, true, true, false] rfl rfl (any_of HT_.out (by kernel_rfl)) (fun _ _ _ h => h) (Or.inl ⟨by rfl, ?_⟩) ?_ ?_
    rotate_left
    · intro w'
      go_simp
      with_reducible rfl
    rotate_left
    · simp only [Act.put, List.setIfInBounds_toArray, List.set_cons_zero, List.set_cons_succ, i64_w, i32_w]
      rfl
    refine pure_ (i := 13) (N := some 5) (v := ?_) (a' := ?_) #[true, true, true, true, true, true, true, true, true, true, true, true, true, true] rfl rfl (any_of HT_.out (by kernel_rfl)) (fun _ _ _ h => h) (Or.inl ⟨by rfl, ?_⟩) ?_ ?_
    rotate_left
    · intro w'
      go_simp
      with_reducible rfl
    rotate_left
    · simp only [Act.put, List.setIfInBounds_toArray, List.set_cons_zero, List.set_cons_succ, i64_w, i32_w]
      rfl
    refine done_ (done_of HT_.out (by kernel_rfl)) ?_
    have hcz39_0 : w36.cell? ⟨gb108, 0, none⟩ = some (.int .u32 a0_1) := (blk_cell BK108.out 0).trans rfl
    have hcz39_1 : w36.cell? ⟨gb108, 1, none⟩ = some (.int .u32 a0_2) := (blk_cell BK108.out 1).trans rfl
    have hcz39_2 : w36.cell? ⟨gb108, 2, none⟩ = some (.int .u16 a0_3) := (blk_cell BK108.out 2).trans rfl
    have hcz39_3 : w36.cell? ⟨gb108, 3, none⟩ = some (.int .u16 a0_4) := (blk_cell BK108.out 3).trans rfl
    have hcz39_4 : w36.cell? ⟨gb108, 4, none⟩ = some (.int .u8 a0_0) := (blk_cell BK108.out 4).trans rfl
    have hfz39_0 := blk_frozen BK108.out 0
    have hfz39_1 := blk_frozen BK108.out 1
    have hfz39_2 := blk_frozen BK108.out 2
    have hfz39_3 := blk_frozen BK108.out 3
    have hfz39_4 := blk_frozen BK108.out 4
    have hcz40_0 : w36.cell? ⟨gb107, 0, none⟩ = some (.int .u32 0) := (blk_cell BK107.out 0).trans rfl
    have hcz40_1 : w36.cell? ⟨gb107, 1, none⟩ = some (.int .u32 0) := (blk_cell BK107.out 1).trans rfl
    have hcz40_2 : w36.cell? ⟨gb107, 2, none⟩ = some (.int .u16 0) := (blk_cell BK107.out 2).trans rfl
    have hcz40_3 : w36.cell? ⟨gb107, 3, none⟩ = some (.int .u16 0) := (blk_cell BK107.out 3).trans rfl
    have hcz40_4 : w36.cell? ⟨gb107, 4, none⟩ = some (.int .u8 0) := (blk_cell BK107.out 4).trans rfl
    have hfz40_0 := blk_frozen BK107.out 0
    have hfz40_1 := blk_frozen BK107.out 1
    have hfz40_2 := blk_frozen BK107.out 2
    have hfz40_3 := blk_frozen BK107.out 3
    have hfz40_4 := blk_frozen BK107.out 4
    try go_wp2_with (first | ((with_reducible refine gate_store (t := 29) (p := 2) rfl ?_); (try (rw [drewN_self w36]; generalize hq_ : World.drewN w36 _ = w36; have n0_ := Aside0.mk (Kd.R_at hq_ HO113.out); have n1_ := Aside0.mk (blk_at hq_ BK106.out); have n2_ := Aside0.mk (blk_at hq_ BK107.out); have n3_ := Aside0.mk (blk_at hq_ BK108.out); have n4_ := Aside0.mk (below_at hq_ HB.out); clear hq_ HO113 BK106 BK107 BK108 HB; have HO113 := n0_; have BK106 := n1_; have BK107 := n2_; have BK108 := n3_; have HB := n4_; clear n0_ n1_ n2_ n3_ n4_)); refine store_event (t := 29) (p := 2) (v := ?vo_w41) (w1 := (((((w36.setCell ⟨gb107, 0, none⟩ (.int .u32 a0_1)).setCell ⟨gb107, 1, none⟩ (.int .u32 a0_2)).setCell ⟨gb107, 2, none⟩ (.int .u16 a0_3)).setCell ⟨gb107, 3, none⟩ (.int .u16 a0_4)).setCell ⟨gb107, 4, none⟩ (.int .u8 a0_0))) ?hg ?ho ?hn ?hr ?_; (case ho => rfl); (case hg => rfl); (case hn => rfl); (case hr => first | (go_simp; done) | (go_simp; rfl) | (have hcy0_ : w36.cell? ⟨gb107, 0, none⟩ = some (.int .u32 0) := (blk_cell BK107.out 0).trans rfl; have hfy0_ := blk_frozen BK107.out 0; have hcy1_ : w36.cell? ⟨gb107, 1, none⟩ = some (.int .u32 0) := (blk_cell BK107.out 1).trans rfl; have hfy1_ := blk_frozen BK107.out 1; have hcy2_ : w36.cell? ⟨gb107, 2, none⟩ = some (.int .u16 0) := (blk_cell BK107.out 2).trans rfl; have hfy2_ := blk_frozen BK107.out 2; have hcy3_ : w36.cell? ⟨gb107, 3, none⟩ = some (.int .u16 0) := (blk_cell BK107.out 3).trans rfl; have hfy3_ := blk_frozen BK107.out 3; have hcy4_ : w36.cell? ⟨gb107, 4, none⟩ = some (.int .u8 0) := (blk_cell BK107.out 4).trans rfl; have hfy4_ := blk_frozen BK107.out 4; first | (go_simp; done) | (go_simp; rfl))); intro w41 hw; have n0_ : Aside0 (Kd.R (Kd.int .i64) 3 w41 w.heap.size (fun _ => True) (.slice Ao38 y111.length co38) y111) := ⟨(by rw [hw]; exact (by (with_reducible repeat (first | apply Kd.R_alloc | apply Kd.R_drewN | apply Kd.R_drew)); exact Kd.R_mono (Kd.R_far (p := ⟨gb107, 4, none⟩) (Kd.R_far (p := ⟨gb107, 3, none⟩) (Kd.R_far (p := ⟨gb107, 2, none⟩) (Kd.R_far (p := ⟨gb107, 1, none⟩) (Kd.R_far (p := ⟨gb107, 0, none⟩) (Kd.R_types HO113.out BK107.out (by decide)) (fun _ hk => hk.2) (.int .u32 a0_1)) (fun _ hk => hk.2) (.int .u32 a0_2)) (fun _ hk => hk.2) (.int .u16 a0_3)) (fun _ hk => hk.2) (.int .u16 a0_4)) (fun _ hk => hk.2) (.int .u8 a0_0)) (fun _ hk => trivial)))⟩; have n1_ : Aside0 (w41.heap[gb106]? = some (.cells #[.int .u8 a0_0, .int .u32 a0_1, .int .u32 a0_2, .int .u16 a0_3, .int .u16 a0_4, .int .u8 a0_5, .int .u8 a0_6] 25 (0, 0))) := ⟨(by rw [hw]; exact (by (with_reducible repeat first | apply blk_drewN | apply blk_drew | apply blk_alloc); refine blk_far ?_ NB106_107.out _; (with_reducible repeat first | apply blk_drewN | apply blk_drew | apply blk_alloc); refine blk_far ?_ NB106_107.out _; (with_reducible repeat first | apply blk_drewN | apply blk_drew | apply blk_alloc); refine blk_far ?_ NB106_107.out _; (with_reducible repeat first | apply blk_drewN | apply blk_drew | apply blk_alloc); refine blk_far ?_ NB106_107.out _; (with_reducible repeat first | apply blk_drewN | apply blk_drew | apply blk_alloc); refine blk_far ?_ NB106_107.out _; (with_reducible repeat first | apply blk_drewN | apply blk_drew | apply blk_alloc); exact BK106.out))⟩; have n2_ : Aside0 (w41.heap[gb107]? = some (.cells #[.int .u32 a0_1, .int .u32 a0_2, .int .u16 a0_3, .int .u16 a0_4, .int .u8 a0_0] 29 (0, 0))) := ⟨(by rw [hw]; exact (by (with_reducible repeat first | apply blk_drewN | apply blk_drew | apply blk_alloc); refine blk_put (cs := #[.int .u32 a0_1, .int .u32 a0_2, .int .u16 a0_3, .int .u16 a0_4, .int .u8 0]) ?_ 4 _ rfl; (with_reducible repeat first | apply blk_drewN | apply blk_drew | apply blk_alloc); refine blk_put (cs := #[.int .u32 a0_1, .int .u32 a0_2, .int .u16 a0_3, .int .u16 0, .int .u8 0]) ?_ 3 _ rfl; (with_reducible repeat first | apply blk_drewN | apply blk_drew | apply blk_alloc); refine blk_put (cs := #[.int .u32 a0_1, .int .u32 a0_2, .int .u16 0, .int .u16 0, .int .u8 0]) ?_ 2 _ rfl; (with_reducible repeat first | apply blk_drewN | apply blk_drew | apply blk_alloc); refine blk_put (cs := #[.int .u32 a0_1, .int .u32 0, .int .u16 0, .int .u16 0, .int .u8 0]) ?_ 1 _ rfl; (with_reducible repeat first | apply blk_drewN | apply blk_drew | apply blk_alloc); refine blk_put (cs := #[.int .u32 0, .int .u32 0, .int .u16 0, .int .u16 0, .int .u8 0]) ?_ 0 _ rfl; (with_reducible repeat first | apply blk_drewN | apply blk_drew | apply blk_alloc); exact BK107.out))⟩; have n3_ : Aside0 (w41.heap[gb108]? = some (.cells #[.int .u32 a0_1, .int .u32 a0_2, .int .u16 a0_3, .int .u16 a0_4, .int .u8 a0_0] 29 (0, 0))) := ⟨(by rw [hw]; exact (by (with_reducible repeat first | apply blk_drewN | apply blk_drew | apply blk_alloc); refine blk_far ?_ NB108_107.out _; (with_reducible repeat first | apply blk_drewN | apply blk_drew | apply blk_alloc); refine blk_far ?_ NB108_107.out _; (with_reducible repeat first | apply blk_drewN | apply blk_drew | apply blk_alloc); refine blk_far ?_ NB108_107.out _; (with_reducible repeat first | apply blk_drewN | apply blk_drew | apply blk_alloc); refine blk_far ?_ NB108_107.out _; (with_reducible repeat first | apply blk_drewN | apply blk_drew | apply blk_alloc); refine blk_far ?_ NB108_107.out _; (with_reducible repeat first | apply blk_drewN | apply blk_drew | apply blk_alloc); exact BK108.out))⟩; have n4_ : Aside0 (Below w.heap.size w w41) := ⟨(by rw [hw]; exact (by repeat first | (with_reducible first | exact HB.out | apply below_alloc | apply pw_below_drewN | apply below_drew1 | refine below_set ?_ GE106.out | refine below_set ?_ GE107.out | refine below_set ?_ GE108.out) | exact HB.out))⟩; clear hw; clear HO113; clear BK106; clear BK107; clear BK108; clear HB; have HO113 := n0_; have BK106 := n1_; have BK107 := n2_; have BK108 := n3_; have HB := n4_; clear n0_ n1_ n2_ n3_ n4_))
    refine bodyPost_ret (results_ct rfl _ _ gb107 29 #[.int .u32 a0_1, .int .u32 a0_2, .int .u16 a0_3, .int .u16 a0_4, .int .u8 a0_0] (0, 0) _ rfl (by (with_reducible repeat first | apply blk_drewN | apply blk_drew | apply blk_alloc); exact BK107.out) Try.underlying29 rfl (by kernel_rfl)) rfl ?_
    exact ⟨by first | rfl | (simp [errW_none, errW_some] <;> rfl) | (simp [*, errW_none, errW_some] <;> rfl), by repeat first | (with_reducible first | exact HB.out | apply below_alloc | apply pw_below_drewN | apply below_drew1 | refine below_set ?_ GE106.out | refine below_set ?_ GE107.out | refine below_set ?_ GE108.out) | exact HB.out⟩

end Go.Proofs.Ytplioggeccoleaa.Key
