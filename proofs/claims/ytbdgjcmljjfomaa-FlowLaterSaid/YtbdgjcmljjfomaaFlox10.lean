-- Made by a program of this workplace (wip/pr.sh) out of Lean's print of the translation; Lean checks it.
import Derived.Test.YtbdgjcmljjfomaaFlox0
import Derived.Test.YtbdgjcmljjfomaaFlox3
import Derived.Test.YtbdgjcmljjfomaaFlox8
namespace Go.Proofs.Ytbdgjcmljjfomaa.Flo
open Go.RowKit Go.Proofs.YtbdgjcmljjfomaaW.PrintWords Go.Proofs.YtbdgjcmljjfomaaW.PrintLast Go.Proofs.YtbdgjcmljjfomaaW.PrintMore
attribute [local go_sem] max2_int min2_int max_two min_two max_three min_three max_four min_four   -- for this text's walks alone
set_option linter.unusedVariables false
set_option linter.unusedSimpArgs false

/-! ### mantletref15_Next: function 33 -/
def mantletref15_Next.j0 : Nat → Int → Int → Int → Int → Option (Int)
  | 0, _, _, _, _ => none
  | k + 1, x2, x157000, x157001, x157002 => if x2 < 0 then (if x2 ≥ 1099511627776 then ((mantletref15_Pack.f x157000 x157001 1099511627775).bind fun bt157 => (some bt157.1)) else ((mantletref15_Pack.f x157000 x157001 0).bind fun bt159 => (some bt159.1))) else (if x2 ≥ 1099511627776 then ((mantletref15_Pack.f x157000 x157001 1099511627775).bind fun bt161 => (some bt161.1)) else ((mantletref15_Pack.f x157000 x157001 x2).bind fun bt163 => (some bt163.1)))
def mantletref15_Next.f (k : Nat) (a0 : Int) (a1 : Int) (a2 : Int) : Option (Int) := (mantletref15_Unpack.f a0).bind fun bt153 => (if bt153.2.1 < 1048575 then (mantletref15_Next.j0 k a2 (wrap64 (Int.tmod (IntKind.u64.wrap (a1)) 16)) (wrap64 (bt153.2.1 + 1)) bt153.2.2) else (mantletref15_Next.j0 k a2 (wrap64 (Int.tmod (IntKind.u64.wrap (a1)) 16)) bt153.2.1 bt153.2.2))
theorem mantletref15_Next.mono_l : ∀ k, (∀ y0 y1 y2 y3, LeO (mantletref15_Next.j0 k y0 y1 y2 y3) (mantletref15_Next.j0 (k + 1) y0 y1 y2 y3))
  | 0 => fun _ _ _ _ r h => by simp [mantletref15_Next.j0] at h
  | k + 1 => by
    have ih0 := mantletref15_Next.mono_l k
    · intro y0 y1 y2 y3
      unfold mantletref15_Next.j0
      repeat' first
      | (with_reducible exact ih0 _ _ _ _)
      | (with_reducible exact LeO.refl _)
      | (with_reducible exact LeO.none _)
      | (with_reducible refine LeO.ite ?_ ?_)
      | (with_reducible refine LeO.bind ?_ (fun _ => ?_))
      | exact ih0 _ _ _ _
      | exact LeO.none _
      | refine LeO.ite ?_ ?_
      | refine LeO.bind ?_ (fun _ => ?_)
theorem mantletref15_Next.mono : ∀ a0 a1 a2 k, LeO (mantletref15_Next.f k a0 a1 a2) (mantletref15_Next.f (k + 1) a0 a1 a2) := by
  intro a0 a1 a2 k
  have ih0 := mantletref15_Next.mono_l k
  unfold mantletref15_Next.f
  repeat' first
      | (with_reducible exact ih0 _ _ _ _)
      | (with_reducible exact LeO.refl _)
      | (with_reducible exact LeO.none _)
      | (with_reducible refine LeO.ite ?_ ?_)
      | (with_reducible refine LeO.bind ?_ (fun _ => ?_))
      | exact ih0 _ _ _ _
      | exact LeO.none _
      | refine LeO.ite ?_ ?_
      | refine LeO.bind ?_ (fun _ => ?_)
set_option maxHeartbeats 8000000 in
set_option maxRecDepth 100000 in
theorem mantletref15_Next.calls (k : Nat) (a0 : Int) (a1 : Int) (a2 : Int) (r : Int) (w : World) (h : mantletref15_Next.f k a0 a1 a2 = some r) :
    Calls Try.prog 33 #[.int .u64 a0, .int .i64 a1, .int .i64 a2] w fun e w' => e = .returned (.int .u64 r) ∧ Below w.heap.size w w' := by
  have hu52 := Try.underlying52
  have HB := Aside0.mk (Below.refl w.heap.size w)
  have H : ((mantletref15_Unpack.f a0).bind fun bt153 => (if bt153.2.1 < 1048575 then (mantletref15_Next.j0 k a2 (wrap64 (Int.tmod (IntKind.u64.wrap (a1)) 16)) (wrap64 (bt153.2.1 + 1)) bt153.2.2) else (mantletref15_Next.j0 k a2 (wrap64 (Int.tmod (IntKind.u64.wrap (a1)) 16)) bt153.2.1 bt153.2.2))) = some r := h
  clear h
  replace H := Option.bind_eq_some_iff.mp H
  obtain ⟨⟨t153, t154, t155⟩, A40, H⟩ := H
  replace H : (if t154 < 1048575 then (mantletref15_Next.j0 k a2 (wrap64 (Int.tmod (IntKind.u64.wrap (a1)) 16)) (wrap64 (t154 + 1)) t155) else (mantletref15_Next.j0 k a2 (wrap64 (Int.tmod (IntKind.u64.wrap (a1)) 16)) t154 t155)) = some r := H
  have A4 := Aside0.mk A40
  clear A40
  have HC5 := Aside0.mk H
  clear H
  go_enter Try.func33, Try.ntmps33
  go_upto_if 19 with (first | ((with_reducible refine gate_callee (f := 29) rfl ?_); refine goesL_ (some 11) rfl rfl Try.func29 (by kernel_rfl) rfl #[.int .u64 a0] rfl (by (try simp only [List.map_toArray, List.map_cons, List.map_nil]); first | done | rfl | (simp only [List.length_drop, List.length_take]; rfl)) ?_; (with_reducible refine (mantletref15_Unpack.calls a0 t153 t154 t155 _ A4.out).mono ?_); rintro e w6 ⟨rfl, hb⟩; refine ⟨_, rfl, ?_⟩; have n0_ := Aside0.mk (below_step (by repeat (first | (with_reducible first | exact HB.out | apply below_alloc | apply pw_below_drewN | apply below_drew1) | exact HB.out)) hb); clear HB; have HB := n0_; clear n0_; (try clear hb); (try clear hb2); (try clear hk); (try clear hi)) | ((with_reducible refine gate_dst (N := 7) rfl ?_); refine box_event ?hg (N := 7) ?hd (cs := #[.int .i64 0, .int .i64 0, .int .i64 0]) (t := 52) ?hr ?_; (case hd => rfl); (case hg => rfl); (case hr => first | (go_simp; done) | (go_simp; rfl)); intro gb156 hg w7 hbox hb; have n0_ := Aside0.mk (below_step (by repeat (first | (with_reducible first | exact HB.out | apply below_alloc | apply pw_below_drewN | apply below_drew1) | exact HB.out)) hb); have n1_ := Aside0.mk (hbox); have n2_ := Aside0.mk ((by rw [hg]; exact (below_size (by repeat (first | (with_reducible first | exact HB.out | apply below_alloc | apply pw_below_drewN | apply below_drew1) | exact HB.out))) : w.heap.size ≤ gb156)); have n3_ := Aside0.mk ((by rw [hg]; exact (below_size (by repeat (first | (with_reducible first | exact HB.out | apply below_alloc | apply pw_below_drewN | apply below_drew1) | exact HB.out))) : w.heap.size ≤ gb156)); clear HB; have HB := n0_; have BK156 := n1_; have GW156 := n2_; have GE156 := n3_; clear n0_ n1_ n2_ n3_; clear hb hbox hg; have hcz8_0 : w7.cell? ⟨gb156, 0, none⟩ = some (.int .i64 0) := (blk_cell BK156.out 0).trans rfl; have hcz8_1 : w7.cell? ⟨gb156, 1, none⟩ = some (.int .i64 0) := (blk_cell BK156.out 1).trans rfl; have hcz8_2 : w7.cell? ⟨gb156, 2, none⟩ = some (.int .i64 0) := (blk_cell BK156.out 2).trans rfl; have hfz8_0 := blk_frozen BK156.out 0; have hfz8_1 := blk_frozen BK156.out 1; have hfz8_2 := blk_frozen BK156.out 2) | ((with_reducible refine gate_store (t := 52) (p := 7) rfl ?_); refine store_event (t := 52) (p := 7) (v := ?vo_w9) (w1 := (((w7.setCell ⟨gb156, 0, none⟩ (.int .i64 t153)).setCell ⟨gb156, 1, none⟩ (.int .i64 t154)).setCell ⟨gb156, 2, none⟩ (.int .i64 t155))) ?hg ?ho ?hn ?hr ?_; (case ho => rfl); (case hg => rfl); (case hn => rfl); (case hr => first | (go_simp; done) | (go_simp; rfl)); intro w9 hw; have n0_ : Aside0 (w9.heap[gb156]? = some (.cells #[.int .i64 t153, .int .i64 t154, .int .i64 t155] 52 (0, 0))) := ⟨(by rw [hw]; exact (by (with_reducible repeat (first | refine blk_drewN ?_ _ | refine blk_drew ?_ | refine blk_alloc ?_ _)); refine blk_put (cs := #[.int .i64 t153, .int .i64 t154, .int .i64 0]) ?_ 2 _ rfl; (with_reducible repeat (first | refine blk_drewN ?_ _ | refine blk_drew ?_ | refine blk_alloc ?_ _)); refine blk_put (cs := #[.int .i64 t153, .int .i64 0, .int .i64 0]) ?_ 1 _ rfl; (with_reducible repeat (first | refine blk_drewN ?_ _ | refine blk_drew ?_ | refine blk_alloc ?_ _)); refine blk_put (cs := #[.int .i64 0, .int .i64 0, .int .i64 0]) ?_ 0 _ rfl; (with_reducible repeat (first | refine blk_drewN ?_ _ | refine blk_drew ?_ | refine blk_alloc ?_ _)); exact BK156.out))⟩; have n1_ : Aside0 (Below w.heap.size w w9) := ⟨(by rw [hw]; exact (by repeat (first | (with_reducible first | exact HB.out | apply below_alloc | apply pw_below_drewN | apply below_drew1 | refine below_set ?_ GE156.out) | exact HB.out)))⟩; clear hw; clear BK156; clear HB; have BK156 := n0_; have HB := n1_; clear n0_ n1_; have hcz10_0 : w9.cell? ⟨gb156, 0, none⟩ = some (.int .i64 t153) := (blk_cell BK156.out 0).trans rfl; have hcz10_1 : w9.cell? ⟨gb156, 1, none⟩ = some (.int .i64 t154) := (blk_cell BK156.out 1).trans rfl; have hcz10_2 : w9.cell? ⟨gb156, 2, none⟩ = some (.int .i64 t155) := (blk_cell BK156.out 2).trans rfl; have hfz10_0 := blk_frozen BK156.out 0; have hfz10_1 := blk_frozen BK156.out 1; have hfz10_2 := blk_frozen BK156.out 2))
  (try simp only [Act.put, List.setIfInBounds_toArray, List.set_cons_zero, List.set_cons_succ])
  go_cut [] (fun wc => ∃ (kq : Nat) (x157001_4 : Int), Aside0 (mantletref15_Next.j0 kq a2 (wrap64 (Int.tmod (IntKind.u64.wrap (a1)) 16)) x157001_4 t155 = some r) ∧ Aside0 (kq ≤ k) ∧ Aside0 (wc.heap[gb156]? = some (.cells #[.int .i64 (wrap64 (Int.tmod (IntKind.u64.wrap (a1)) 16)), .int .i64 x157001_4, .int .i64 t155] 52 (0, 0))) ∧ Aside0 (Below w.heap.size w wc))
  case first =>
    have H := HC5.out
    clear HC5
    by_cases c11 : t154 < 1048575
    · rw [if_pos c11] at H
      have c11b0 : decide (t154 < 1048575) = true := decide_eq_true c11
      clear c11
      (first | rw [c11b0] | (simp only [i64_w, i32_w]; rw [c11b0]) | skip)
      have H' := Aside0.mk H
      clear H
      have hcz12_0 : w9.cell? ⟨gb156, 0, none⟩ = some (.int .i64 t153) := (blk_cell BK156.out 0).trans rfl
      have hcz12_1 : w9.cell? ⟨gb156, 1, none⟩ = some (.int .i64 t154) := (blk_cell BK156.out 1).trans rfl
      have hcz12_2 : w9.cell? ⟨gb156, 2, none⟩ = some (.int .i64 t155) := (blk_cell BK156.out 2).trans rfl
      have hfz12_0 := blk_frozen BK156.out 0
      have hfz12_1 := blk_frozen BK156.out 1
      have hfz12_2 := blk_frozen BK156.out 2
      go_wp2_with (first | ((with_reducible refine gate_store (t := 3) (p := 23) rfl ?_); refine store_event (t := 3) (p := 23) (v := ?vo_w13) (w1 := ((w9.setCell ⟨gb156, 0, none⟩ (.int .i64 (wrap64 (Int.tmod (IntKind.u64.wrap (a1)) 16)))).setCell ⟨gb156, 1, none⟩ (.int .i64 (wrap64 (t154 + 1))))) ?hg ?ho ?hn ?hr ?_; (case ho => rfl); (case hg => rfl); (case hn => rfl); (case hr => first | (go_simp; done) | (go_simp; rfl)); intro w13 hw; have n0_ : Aside0 (w13.heap[gb156]? = some (.cells #[.int .i64 (wrap64 (Int.tmod (IntKind.u64.wrap (a1)) 16)), .int .i64 (wrap64 (t154 + 1)), .int .i64 t155] 52 (0, 0))) := ⟨(by rw [hw]; exact (by (with_reducible repeat (first | refine blk_drewN ?_ _ | refine blk_drew ?_ | refine blk_alloc ?_ _)); refine blk_put (cs := #[.int .i64 (wrap64 (Int.tmod (IntKind.u64.wrap (a1)) 16)), .int .i64 t154, .int .i64 t155]) ?_ 1 _ rfl; (with_reducible repeat (first | refine blk_drewN ?_ _ | refine blk_drew ?_ | refine blk_alloc ?_ _)); refine blk_put (cs := #[.int .i64 t153, .int .i64 t154, .int .i64 t155]) ?_ 0 _ rfl; (with_reducible repeat (first | refine blk_drewN ?_ _ | refine blk_drew ?_ | refine blk_alloc ?_ _)); exact BK156.out))⟩; have n1_ : Aside0 (Below w.heap.size w w13) := ⟨(by rw [hw]; exact (by repeat (first | (with_reducible first | exact HB.out | apply below_alloc | apply pw_below_drewN | apply below_drew1 | refine below_set ?_ GE156.out) | exact HB.out)))⟩; clear hw; clear BK156; clear HB; have BK156 := n0_; have HB := n1_; clear n0_ n1_))
      go_meet
      case rel => exact ⟨_, (wrap64 (t154 + 1)), H', ⟨by first | omega | exact Nat.le_refl _⟩, ⟨by (with_reducible repeat (first | refine blk_drewN ?_ _ | refine blk_drew ?_ | refine blk_alloc ?_ _)); exact BK156.out⟩, ⟨by repeat (first | (with_reducible first | exact HB.out | apply below_alloc | apply pw_below_drewN | apply below_drew1 | refine below_set ?_ GE156.out) | exact HB.out)⟩⟩
    · rw [if_neg c11] at H
      have c11b0 : decide (t154 < 1048575) = false := decide_eq_false c11
      clear c11
      (first | rw [c11b0] | (simp only [i64_w, i32_w]; rw [c11b0]) | skip)
      have H' := Aside0.mk H
      clear H
      go_wp2
      go_meet
      case rel => exact ⟨_, (t154), H', ⟨by first | omega | exact Nat.le_refl _⟩, ⟨by (with_reducible repeat (first | refine blk_drewN ?_ _ | refine blk_drew ?_ | refine blk_alloc ?_ _)); refine blk_put (cs := #[.int .i64 t153, .int .i64 t154, .int .i64 t155]) ?_ 0 _ rfl; (with_reducible repeat (first | refine blk_drewN ?_ _ | refine blk_drew ?_ | refine blk_alloc ?_ _)); exact BK156.out⟩, ⟨by repeat (first | (with_reducible first | exact HB.out | apply below_alloc | apply pw_below_drewN | apply below_drew1 | refine below_set ?_ GE156.out) | exact HB.out)⟩⟩
  case rest =>
    clear HC5
    try clear c1
    try clear c2
    try clear p2
    try clear c3
    try clear p6
    try clear c11
    try clear c11b0
    try clear hcz10_0
    try clear hcz10_1
    try clear hcz10_2
    try clear hcz12_0
    try clear hcz12_1
    try clear hcz12_2
    try clear hcz8_0
    try clear hcz8_1
    try clear hcz8_2
    try clear hfz10_0
    try clear hfz10_1
    try clear hfz10_2
    try clear hfz12_0
    try clear hfz12_1
    try clear hfz12_2
    try clear hfz8_0
    try clear hfz8_1
    try clear hfz8_2
    obtain ⟨kq, x157001_4, HA, HJ4, BK156, HB⟩ := hcut
    cases kq with
    | zero => exact absurd HA.out (by simp [mantletref15_Next.j0])
    | succ kj4 =>
      have H := HA.out
      clear HA
      simp only [mantletref15_Next.j0] at H
      by_cases c14 : a2 < 0
      · rw [if_pos c14] at H
        have c14b0 : decide (a2 < 0) = true := decide_eq_true c14
        clear c14
        by_cases c15 : a2 ≥ 1099511627776
        · rw [if_pos c15] at H
          have c15b0 : decide (1099511627776 ≤ a2) = true := decide_eq_true c15
          clear c15
          exfalso
          have h1_ := of_decide_eq_true (c14b0)
          have h2_ := of_decide_eq_true (c15b0)
          omega
        · rw [if_neg c15] at H
          have c15b0 : decide (1099511627776 ≤ a2) = false := decide_eq_false c15
          clear c15
          replace H := Option.bind_eq_some_iff.mp H
          obtain ⟨⟨t159, t160⟩, A160, H⟩ := H
          replace H : (some t159) = some r := H
          have A16 := Aside0.mk A160
          clear A160
          obtain rfl := Option.some.inj H
          have hcz17_0 : wc.cell? ⟨gb156, 0, none⟩ = some (.int .i64 (wrap64 (Int.tmod (IntKind.u64.wrap (a1)) 16))) := (blk_cell BK156.out 0).trans rfl
          have hcz17_1 : wc.cell? ⟨gb156, 1, none⟩ = some (.int .i64 x157001_4) := (blk_cell BK156.out 1).trans rfl
          have hcz17_2 : wc.cell? ⟨gb156, 2, none⟩ = some (.int .i64 t155) := (blk_cell BK156.out 2).trans rfl
          have hfz17_0 := blk_frozen BK156.out 0
          have hfz17_1 := blk_frozen BK156.out 1
          have hfz17_2 := blk_frozen BK156.out 2
          go_wp2_with (first | ((with_reducible refine gate_store (t := 3) (p := 28) rfl ?_); refine store_event (t := 3) (p := 28) (v := ?vo_w18) (w1 := ((wc.setCell ⟨gb156, 2, none⟩ (.int .i64 a2)).setCell ⟨gb156, 2, none⟩ (.int .i64 0))) ?hg ?ho ?hn ?hr ?_; (case ho => rfl); (case hg => rfl); (case hn => rfl); (case hr => first | (go_simp; done) | (go_simp; rfl)); intro w18 hw; have n0_ : Aside0 (w18.heap[gb156]? = some (.cells #[.int .i64 (wrap64 (Int.tmod (IntKind.u64.wrap (a1)) 16)), .int .i64 x157001_4, .int .i64 0] 52 (0, 0))) := ⟨(by rw [hw]; exact (by (with_reducible repeat (first | refine blk_drewN ?_ _ | refine blk_drew ?_ | refine blk_alloc ?_ _)); refine blk_put (cs := #[.int .i64 (wrap64 (Int.tmod (IntKind.u64.wrap (a1)) 16)), .int .i64 x157001_4, .int .i64 a2]) ?_ 2 _ rfl; (with_reducible repeat (first | refine blk_drewN ?_ _ | refine blk_drew ?_ | refine blk_alloc ?_ _)); refine blk_put (cs := #[.int .i64 (wrap64 (Int.tmod (IntKind.u64.wrap (a1)) 16)), .int .i64 x157001_4, .int .i64 t155]) ?_ 2 _ rfl; (with_reducible repeat (first | refine blk_drewN ?_ _ | refine blk_drew ?_ | refine blk_alloc ?_ _)); exact BK156.out))⟩; have n1_ : Aside0 (Below w.heap.size w w18) := ⟨(by rw [hw]; exact (by repeat (first | (with_reducible first | exact HB.out | apply below_alloc | apply pw_below_drewN | apply below_drew1 | refine below_set ?_ GE156.out) | exact HB.out)))⟩; clear hw; clear BK156; clear HB; have BK156 := n0_; have HB := n1_; clear n0_ n1_; have hcz19_0 : w18.cell? ⟨gb156, 0, none⟩ = some (.int .i64 (wrap64 (Int.tmod (IntKind.u64.wrap (a1)) 16))) := (blk_cell BK156.out 0).trans rfl; have hcz19_1 : w18.cell? ⟨gb156, 1, none⟩ = some (.int .i64 x157001_4) := (blk_cell BK156.out 1).trans rfl; have hcz19_2 : w18.cell? ⟨gb156, 2, none⟩ = some (.int .i64 0) := (blk_cell BK156.out 2).trans rfl; have hfz19_0 := blk_frozen BK156.out 0; have hfz19_1 := blk_frozen BK156.out 1; have hfz19_2 := blk_frozen BK156.out 2) | ((with_reducible refine gate_callee (f := 26) rfl ?_); refine goesL_ (some 34) rfl rfl Try.func26 (by kernel_rfl) rfl #[.agg #[.int .i64 (wrap64 (Int.tmod (IntKind.u64.wrap (a1)) 16)), .int .i64 x157001_4, .int .i64 0]] rfl (by (try simp only [List.map_toArray, List.map_cons, List.map_nil]); first | done | rfl | (simp only [List.length_drop, List.length_take]; rfl)) ?_; (with_reducible refine (mantletref15_Pack.calls (wrap64 (Int.tmod (IntKind.u64.wrap (a1)) 16)) x157001_4 0 t159 t160 _ A16.out).mono ?_); rintro e w20 ⟨rfl, hb⟩; refine ⟨_, rfl, ?_⟩; have n0_ := Aside0.mk (blk_below (g := gb156) (o := .cells #[.int .i64 (wrap64 (Int.tmod (IntKind.u64.wrap (a1)) 16)), .int .i64 x157001_4, .int .i64 0] 52 (0, 0)) (by (with_reducible repeat (first | refine blk_drewN ?_ _ | refine blk_drew ?_ | refine blk_alloc ?_ _)); exact BK156.out) hb); have n1_ := Aside0.mk (below_step (by repeat (first | (with_reducible first | exact HB.out | apply below_alloc | apply pw_below_drewN | apply below_drew1 | refine below_set ?_ GE156.out) | exact HB.out)) hb); clear BK156; clear HB; have BK156 := n0_; have HB := n1_; clear n0_ n1_; (try clear hb); (try clear hb2); (try clear hk); (try clear hi)))
          go_ret
          exact ⟨by first | rfl | (simp [errW_none, errW_some] <;> rfl) | (simp [*, errW_none, errW_some] <;> rfl), by repeat (first | (with_reducible first | exact HB.out | apply below_alloc | apply pw_below_drewN | apply below_drew1 | refine below_set ?_ GE156.out) | exact HB.out)⟩
      · rw [if_neg c14] at H
        have c14b0 : decide (a2 < 0) = false := decide_eq_false c14
        clear c14
        by_cases c21 : a2 ≥ 1099511627776
        · rw [if_pos c21] at H
          have c21b0 : decide (1099511627776 ≤ a2) = true := decide_eq_true c21
          clear c21
          replace H := Option.bind_eq_some_iff.mp H
          obtain ⟨⟨t161, t162⟩, A220, H⟩ := H
          replace H : (some t161) = some r := H
          have A22 := Aside0.mk A220
          clear A220
          obtain rfl := Option.some.inj H
          have hcz23_0 : wc.cell? ⟨gb156, 0, none⟩ = some (.int .i64 (wrap64 (Int.tmod (IntKind.u64.wrap (a1)) 16))) := (blk_cell BK156.out 0).trans rfl
          have hcz23_1 : wc.cell? ⟨gb156, 1, none⟩ = some (.int .i64 x157001_4) := (blk_cell BK156.out 1).trans rfl
          have hcz23_2 : wc.cell? ⟨gb156, 2, none⟩ = some (.int .i64 t155) := (blk_cell BK156.out 2).trans rfl
          have hfz23_0 := blk_frozen BK156.out 0
          have hfz23_1 := blk_frozen BK156.out 1
          have hfz23_2 := blk_frozen BK156.out 2
          go_wp2_with (first | ((with_reducible refine gate_store (t := 3) (p := 31) rfl ?_); refine store_event (t := 3) (p := 31) (v := ?vo_w24) (w1 := ((wc.setCell ⟨gb156, 2, none⟩ (.int .i64 a2)).setCell ⟨gb156, 2, none⟩ (.int .i64 1099511627775))) ?hg ?ho ?hn ?hr ?_; (case ho => rfl); (case hg => rfl); (case hn => rfl); (case hr => first | (go_simp; done) | (go_simp; rfl)); intro w24 hw; have n0_ : Aside0 (w24.heap[gb156]? = some (.cells #[.int .i64 (wrap64 (Int.tmod (IntKind.u64.wrap (a1)) 16)), .int .i64 x157001_4, .int .i64 1099511627775] 52 (0, 0))) := ⟨(by rw [hw]; exact (by (with_reducible repeat (first | refine blk_drewN ?_ _ | refine blk_drew ?_ | refine blk_alloc ?_ _)); refine blk_put (cs := #[.int .i64 (wrap64 (Int.tmod (IntKind.u64.wrap (a1)) 16)), .int .i64 x157001_4, .int .i64 a2]) ?_ 2 _ rfl; (with_reducible repeat (first | refine blk_drewN ?_ _ | refine blk_drew ?_ | refine blk_alloc ?_ _)); refine blk_put (cs := #[.int .i64 (wrap64 (Int.tmod (IntKind.u64.wrap (a1)) 16)), .int .i64 x157001_4, .int .i64 t155]) ?_ 2 _ rfl; (with_reducible repeat (first | refine blk_drewN ?_ _ | refine blk_drew ?_ | refine blk_alloc ?_ _)); exact BK156.out))⟩; have n1_ : Aside0 (Below w.heap.size w w24) := ⟨(by rw [hw]; exact (by repeat (first | (with_reducible first | exact HB.out | apply below_alloc | apply pw_below_drewN | apply below_drew1 | refine below_set ?_ GE156.out) | exact HB.out)))⟩; clear hw; clear BK156; clear HB; have BK156 := n0_; have HB := n1_; clear n0_ n1_; have hcz25_0 : w24.cell? ⟨gb156, 0, none⟩ = some (.int .i64 (wrap64 (Int.tmod (IntKind.u64.wrap (a1)) 16))) := (blk_cell BK156.out 0).trans rfl; have hcz25_1 : w24.cell? ⟨gb156, 1, none⟩ = some (.int .i64 x157001_4) := (blk_cell BK156.out 1).trans rfl; have hcz25_2 : w24.cell? ⟨gb156, 2, none⟩ = some (.int .i64 1099511627775) := (blk_cell BK156.out 2).trans rfl; have hfz25_0 := blk_frozen BK156.out 0; have hfz25_1 := blk_frozen BK156.out 1; have hfz25_2 := blk_frozen BK156.out 2) | ((with_reducible refine gate_callee (f := 26) rfl ?_); refine goesL_ (some 34) rfl rfl Try.func26 (by kernel_rfl) rfl #[.agg #[.int .i64 (wrap64 (Int.tmod (IntKind.u64.wrap (a1)) 16)), .int .i64 x157001_4, .int .i64 1099511627775]] rfl (by (try simp only [List.map_toArray, List.map_cons, List.map_nil]); first | done | rfl | (simp only [List.length_drop, List.length_take]; rfl)) ?_; (with_reducible refine (mantletref15_Pack.calls (wrap64 (Int.tmod (IntKind.u64.wrap (a1)) 16)) x157001_4 1099511627775 t161 t162 _ A22.out).mono ?_); rintro e w26 ⟨rfl, hb⟩; refine ⟨_, rfl, ?_⟩; have n0_ := Aside0.mk (blk_below (g := gb156) (o := .cells #[.int .i64 (wrap64 (Int.tmod (IntKind.u64.wrap (a1)) 16)), .int .i64 x157001_4, .int .i64 1099511627775] 52 (0, 0)) (by (with_reducible repeat (first | refine blk_drewN ?_ _ | refine blk_drew ?_ | refine blk_alloc ?_ _)); exact BK156.out) hb); have n1_ := Aside0.mk (below_step (by repeat (first | (with_reducible first | exact HB.out | apply below_alloc | apply pw_below_drewN | apply below_drew1 | refine below_set ?_ GE156.out) | exact HB.out)) hb); clear BK156; clear HB; have BK156 := n0_; have HB := n1_; clear n0_ n1_; (try clear hb); (try clear hb2); (try clear hk); (try clear hi)))
          go_ret
          exact ⟨by first | rfl | (simp [errW_none, errW_some] <;> rfl) | (simp [*, errW_none, errW_some] <;> rfl), by repeat (first | (with_reducible first | exact HB.out | apply below_alloc | apply pw_below_drewN | apply below_drew1 | refine below_set ?_ GE156.out) | exact HB.out)⟩
        · rw [if_neg c21] at H
          have c21b0 : decide (1099511627776 ≤ a2) = false := decide_eq_false c21
          clear c21
          replace H := Option.bind_eq_some_iff.mp H
          obtain ⟨⟨t163, t164⟩, A270, H⟩ := H
          replace H : (some t163) = some r := H
          have A27 := Aside0.mk A270
          clear A270
          obtain rfl := Option.some.inj H
          have hcz28_0 : wc.cell? ⟨gb156, 0, none⟩ = some (.int .i64 (wrap64 (Int.tmod (IntKind.u64.wrap (a1)) 16))) := (blk_cell BK156.out 0).trans rfl
          have hcz28_1 : wc.cell? ⟨gb156, 1, none⟩ = some (.int .i64 x157001_4) := (blk_cell BK156.out 1).trans rfl
          have hcz28_2 : wc.cell? ⟨gb156, 2, none⟩ = some (.int .i64 t155) := (blk_cell BK156.out 2).trans rfl
          have hfz28_0 := blk_frozen BK156.out 0
          have hfz28_1 := blk_frozen BK156.out 1
          have hfz28_2 := blk_frozen BK156.out 2
          go_wp2_with (first | ((with_reducible refine gate_callee (f := 26) rfl ?_); refine goesL_ (some 34) rfl rfl Try.func26 (by kernel_rfl) rfl #[.agg #[.int .i64 (wrap64 (Int.tmod (IntKind.u64.wrap (a1)) 16)), .int .i64 x157001_4, .int .i64 a2]] rfl (by (try simp only [List.map_toArray, List.map_cons, List.map_nil]); first | done | rfl | (simp only [List.length_drop, List.length_take]; rfl)) ?_; (with_reducible refine (mantletref15_Pack.calls (wrap64 (Int.tmod (IntKind.u64.wrap (a1)) 16)) x157001_4 a2 t163 t164 _ A27.out).mono ?_); rintro e w29 ⟨rfl, hb⟩; refine ⟨_, rfl, ?_⟩; have n0_ := Aside0.mk (blk_below (g := gb156) (o := .cells #[.int .i64 (wrap64 (Int.tmod (IntKind.u64.wrap (a1)) 16)), .int .i64 x157001_4, .int .i64 a2] 52 (0, 0)) (by (with_reducible repeat (first | refine blk_drewN ?_ _ | refine blk_drew ?_ | refine blk_alloc ?_ _)); refine blk_put (cs := #[.int .i64 (wrap64 (Int.tmod (IntKind.u64.wrap (a1)) 16)), .int .i64 x157001_4, .int .i64 t155]) ?_ 2 _ rfl; (with_reducible repeat (first | refine blk_drewN ?_ _ | refine blk_drew ?_ | refine blk_alloc ?_ _)); exact BK156.out) hb); have n1_ := Aside0.mk (below_step (by repeat (first | (with_reducible first | exact HB.out | apply below_alloc | apply pw_below_drewN | apply below_drew1 | refine below_set ?_ GE156.out) | exact HB.out)) hb); clear BK156; clear HB; have BK156 := n0_; have HB := n1_; clear n0_ n1_; (try clear hb); (try clear hb2); (try clear hk); (try clear hi)))
          go_ret
          exact ⟨by first | rfl | (simp [errW_none, errW_some] <;> rfl) | (simp [*, errW_none, errW_some] <;> rfl), by repeat (first | (with_reducible first | exact HB.out | apply below_alloc | apply pw_below_drewN | apply below_drew1 | refine below_set ?_ GE156.out) | exact HB.out)⟩

end Go.Proofs.Ytbdgjcmljjfomaa.Flo
