-- Made by a program of this workplace (wip/pr.sh) out of Lean's print of the translation; Lean checks it.
import Derived.Test.YtbdgjcmljjfomaaMatx0
import Derived.Test.YtbdgjcmljjfomaaMatx6
namespace Go.Proofs.Ytbdgjcmljjfomaa.Mat
open Go.RowKit Go.Proofs.YtbdgjcmljjfomaaW.PrintWords Go.Proofs.YtbdgjcmljjfomaaW.PrintLast Go.Proofs.YtbdgjcmljjfomaaW.PrintMore
attribute [local go_sem] max2_int min2_int max_two min_two max_three min_three max_four min_four   -- for this text's walks alone
set_option linter.unusedVariables false
set_option linter.unusedSimpArgs false

/-! ### mantletref13_First: function 16 -/
def mantletref13_First.l0 : Nat → List (S32) → Int → Int → Int → Int → Int → Int → Int → Int → Option (Int × Bool)
  | 0, _, _, _, _, _, _, _, _, _ => none
  | k + 1, x0, x6, x116000, x116001, x116002, x116003, x116004, x116005, x116006 => if x6 < (x0.length : Int) then (if 0 ≤ x6 then ((mantletref13_Matches.f k ((rd_T32 x0 x6).f0) ((rd_T32 x0 x6).f1) ((rd_T32 x0 x6).f2.f0) ((rd_T32 x0 x6).f2.f1) ((rd_T32 x0 x6).f3.f0) ((rd_T32 x0 x6).f3.f1) ((rd_T32 x0 x6).f4.f0) ((rd_T32 x0 x6).f4.f1) ((rd_T32 x0 x6).f5.f0) ((rd_T32 x0 x6).f5.f1) x116000 x116001 x116002 x116003 x116004 x116005 x116006).bind fun t117 => (if t117 = true then (some (x6, (rd_T32 x0 x6).f0)) else (mantletref13_First.l0 k x0 (wrap64 (x6 + 1)) x116000 x116001 x116002 x116003 x116004 x116005 x116006))) else (none)) else (some ((-1), false))
def mantletref13_First.f (k : Nat) (l0 : List (S32)) (a1_0 : Int) (a1_1 : Int) (a1_2 : Int) (a1_3 : Int) (a1_4 : Int) (a1_5 : Int) (a1_6 : Int) : Option (Int × Bool) := mantletref13_First.l0 k l0 0 a1_0 a1_1 a1_2 a1_3 a1_4 a1_5 a1_6
theorem mantletref13_First.mono_l : ∀ k, (∀ y0 y1 y2 y3 y4 y5 y6 y7 y8, LeO (mantletref13_First.l0 k y0 y1 y2 y3 y4 y5 y6 y7 y8) (mantletref13_First.l0 (k + 1) y0 y1 y2 y3 y4 y5 y6 y7 y8))
  | 0 => fun _ _ _ _ _ _ _ _ _ r h => by simp [mantletref13_First.l0] at h
  | k + 1 => by
    have ih0 := mantletref13_First.mono_l k
    · intro y0 y1 y2 y3 y4 y5 y6 y7 y8
      unfold mantletref13_First.l0
      repeat' first
      | (with_reducible exact ih0 _ _ _ _ _ _ _ _ _)
      | (with_reducible exact mantletref13_Matches.mono _ _ _ _ _ _ _ _ _ _ _ _ _ _ _ _ _ _)
      | (with_reducible exact LeO.refl _)
      | (with_reducible exact LeO.none _)
      | (with_reducible refine LeO.ite ?_ ?_)
      | (with_reducible refine LeO.bind ?_ (fun _ => ?_))
      | exact ih0 _ _ _ _ _ _ _ _ _
      | exact mantletref13_Matches.mono _ _ _ _ _ _ _ _ _ _ _ _ _ _ _ _ _ _
      | exact LeO.none _
      | refine LeO.ite ?_ ?_
      | refine LeO.bind ?_ (fun _ => ?_)
theorem mantletref13_First.mono : ∀ a0 a1 a2 a3 a4 a5 a6 a7 k, LeO (mantletref13_First.f k a0 a1 a2 a3 a4 a5 a6 a7) (mantletref13_First.f (k + 1) a0 a1 a2 a3 a4 a5 a6 a7) := by
  intro a0 a1 a2 a3 a4 a5 a6 a7 k
  have ih0 := mantletref13_First.mono_l k
  unfold mantletref13_First.f
  repeat' first
      | (with_reducible exact ih0 _ _ _ _ _ _ _ _ _)
      | (with_reducible exact mantletref13_Matches.mono _ _ _ _ _ _ _ _ _ _ _ _ _ _ _ _ _ _)
      | (with_reducible exact LeO.refl _)
      | (with_reducible exact LeO.none _)
      | (with_reducible refine LeO.ite ?_ ?_)
      | (with_reducible refine LeO.bind ?_ (fun _ => ?_))
      | exact ih0 _ _ _ _ _ _ _ _ _
      | exact mantletref13_Matches.mono _ _ _ _ _ _ _ _ _ _ _ _ _ _ _ _ _ _
      | exact LeO.none _
      | refine LeO.ite ?_ ?_
      | refine LeO.bind ?_ (fun _ => ?_)
def mantletref13_First.T5 : Bool × List (List Nat × List Nat) := (true, [([], []), ([], []), ([], []), ([1, 2], [1, 2]), ([3], [3]), ([4], [4]), ([0, 0], [0]), ([5, 6, 0, 1, 2, 3, 4, 5, 6], [5])])
def mantletref13_First.B5 : List Nat := [0, 0, 0, 6, 14, 30, 1, 127]
theorem mantletref13_First.tab5 : rtab .any (opsOf Try.f16 5) = mantletref13_First.T5 := by kernel_rfl
theorem mantletref13_First.bits5 : waitsOk mantletref13_First.T5.2 mantletref13_First.B5 = true := by kernel_rfl
set_option maxHeartbeats 8000000 in
set_option maxRecDepth 100000 in
theorem mantletref13_First.calls (k : Nat) (A0 : Option Addr) (c0 : Nat) (l0 : List (S32)) (a1_0 : Int) (a1_1 : Int) (a1_2 : Int) (a1_3 : Int) (a1_4 : Int) (a1_5 : Int) (a1_6 : Int) (r1 : Int) (r2 : Bool) (w : World) (hr0 : Kd.C k32 w A0 l0.length l0) (hc0 : l0.length ≤ c0) (h : mantletref13_First.f k l0 a1_0 a1_1 a1_2 a1_3 a1_4 a1_5 a1_6 = some (r1, r2)) :
    Calls Try.prog 16 #[.slice A0 l0.length c0, .agg #[.int .u8 a1_0, .int .u32 a1_1, .int .u32 a1_2, .int .u16 a1_3, .int .u16 a1_4, .int .u8 a1_5, .int .u8 a1_6]] w fun e w' => e = .returned (.tuple #[.int .i64 r1, .bool r2]) ∧ Below w.heap.size w w' := by
  have hu26 := Try.underlying26
  have hu32 := Try.underlying32
  have HR0 := Aside0.mk hr0
  have HC0 := Aside0.mk hc0
  clear hr0 hc0
  have HB := Aside0.mk (Below.refl w.heap.size w)
  have H : (mantletref13_First.l0 k l0 0 a1_0 a1_1 a1_2 a1_3 a1_4 a1_5 a1_6) = some (r1, r2) := h
  clear h
  have H' := Aside0.mk H
  clear H
  go_enter Try.func16, Try.ntmps16
  go_wp2_with (first | ((with_reducible refine gate_dst (N := 3) rfl ?_); refine box_event ?hg (N := 3) ?hd (cs := #[.int .u8 a1_0, .int .u32 a1_1, .int .u32 a1_2, .int .u16 a1_3, .int .u16 a1_4, .int .u8 a1_5, .int .u8 a1_6]) (t := 26) ?hr ?_; (case hd => rfl); (case hg => rfl); (case hr => first | (go_simp; done) | (go_simp; rfl)); intro gb115 hg w3 hbox hb; have n0_ := Aside0.mk (below_step (by repeat first | (with_reducible first | exact HB.out | apply below_alloc | apply pw_below_drewN | apply below_drew1) | exact HB.out) hb); have n1_ := Aside0.mk (hbox); have n2_ := Aside0.mk ((by rw [hg]; exact (below_size (by repeat first | (with_reducible first | exact HB.out | apply below_alloc | apply pw_below_drewN | apply below_drew1) | exact HB.out)) : w.heap.size ≤ gb115)); have n3_ := Aside0.mk ((by rw [hg]; exact (below_size (by repeat first | (with_reducible first | exact HB.out | apply below_alloc | apply pw_below_drewN | apply below_drew1) | exact HB.out)) : w.heap.size ≤ gb115)); clear HB; have HB := n0_; have BK115 := n1_; have GW115 := n2_; have GE115 := n3_; clear n0_ n1_ n2_ n3_; clear hb hbox hg))
  go_loopg [6] k (fun kq v6 w' => ∃ (x6_1 : Int), v6 = .int .i64 x6_1 ∧ Aside0 (mantletref13_First.l0 kq l0 x6_1 a1_0 a1_1 a1_2 a1_3 a1_4 a1_5 a1_6 = some (r1, r2)) ∧ Aside0 (kq ≤ k) ∧ Aside0 (w'.heap[gb115]? = some (.cells #[.int .u8 a1_0, .int .u32 a1_1, .int .u32 a1_2, .int .u16 a1_3, .int .u16 a1_4, .int .u8 a1_5, .int .u8 a1_6] 26 (0, 0))) ∧ Aside0 (Below w.heap.size w w'))
  case atStart => exact ⟨(0), (by first | rfl | (simp; done) | (simp [*]; done)), H', ⟨Nat.le_refl _⟩, ⟨by (with_reducible repeat first | apply blk_drewN | apply blk_drew | apply blk_alloc); exact BK115.out⟩, ⟨by repeat first | (with_reducible first | exact HB.out | apply below_alloc | apply pw_below_drewN | apply below_drew1 | refine below_set ?_ GE115.out) | exact HB.out⟩⟩
  case round =>
    clear H'
    try clear c1
    try clear p2
    obtain ⟨x6_1, rfl, HA, HK1, BK115, HB⟩ := hrel
    cases gk with
    | zero => exact absurd HA.out (by simp [mantletref13_First.l0])
    | succ k1 =>
      have H := HA.out
      clear HA
      simp only [mantletref13_First.l0] at H
      by_cases c4 : x6_1 < (l0.length : Int)
      · rw [if_pos c4] at H
        have c4b0 : decide (x6_1 < (l0.length : Int)) = true := decide_eq_true c4
        clear c4
        by_cases c5 : 0 ≤ x6_1
        · rw [if_pos c5] at H
          have c5b0 : decide (0 ≤ x6_1) = true := decide_eq_true c5
          clear c5
          replace H := Option.bind_eq_some_iff.mp H
          obtain ⟨t117, A60, H⟩ := H
          replace H : (if t117 = true then (some (x6_1, (rd_T32 l0 x6_1).f0)) else (mantletref13_First.l0 k1 l0 (wrap64 (x6_1 + 1)) a1_0 a1_1 a1_2 a1_3 a1_4 a1_5 a1_6)) = some (r1, r2) := H
          have A6 := Aside0.mk A60
          clear A60
          by_cases c7 : t117 = true
          · subst c7
            have H1 : (some (x6_1, (rd_T32 l0 x6_1).f0)) = some (r1, r2) := by rw [if_pos rfl] at H; exact H
            clear H
            have H := H1
            clear H1
            simp only [Option.some.injEq, Prod.mk.injEq] at H
            obtain ⟨rfl, rfl⟩ := H
            try go_wp2
            have n0_ := Aside0.mk (blk_drew BK115.out)
            have n1_ := Aside0.mk (below_drew1 HB.out)
            clear BK115
            clear HB
            have BK115 := n0_
            have HB := n1_
            clear n0_ n1_
            have p116 : 0 ≤ (x6_1 : Int) := of_decide_eq_true (by first | (with_reducible assumption) | assumption)
            have q116 : x6_1 < (l0.length : Int) := of_decide_eq_true (by first | (with_reducible assumption) | assumption)
            obtain ⟨ad116, e116, hx116_0, hx116_1, hx116_2, hx116_3, hx116_4, hx116_5, hx116_6, hx116_7, hx116_8, hx116_9⟩ := at_T32 HR0.out x6_1 p116 q116
            have hw116_9 := hx116_9
            have hw116_8 := hx116_8
            have hw116_7 := hx116_7
            have hw116_6 := hx116_6
            have hw116_5 := hx116_5
            have hw116_4 := hx116_4
            have hw116_3 := hx116_3
            have hw116_2 := hx116_2
            have hw116_1 := hx116_1
            have hw116_0 := hx116_0
            cases e116
            replace hx116_0 := (HB.out.cell (World.block_lt_of_cell? w _ hx116_0)).trans hx116_0
            replace hx116_1 := (HB.out.cell (World.block_lt_of_cell? w _ hx116_1)).trans hx116_1
            replace hx116_2 := (HB.out.cell (World.block_lt_of_cell? w _ hx116_2)).trans hx116_2
            replace hx116_3 := (HB.out.cell (World.block_lt_of_cell? w _ hx116_3)).trans hx116_3
            replace hx116_4 := (HB.out.cell (World.block_lt_of_cell? w _ hx116_4)).trans hx116_4
            replace hx116_5 := (HB.out.cell (World.block_lt_of_cell? w _ hx116_5)).trans hx116_5
            replace hx116_6 := (HB.out.cell (World.block_lt_of_cell? w _ hx116_6)).trans hx116_6
            replace hx116_7 := (HB.out.cell (World.block_lt_of_cell? w _ hx116_7)).trans hx116_7
            replace hx116_8 := (HB.out.cell (World.block_lt_of_cell? w _ hx116_8)).trans hx116_8
            replace hx116_9 := (HB.out.cell (World.block_lt_of_cell? w _ hx116_9)).trans hx116_9
            replace p116 := eq_true p116
            replace q116 := eq_true q116
            refine start_ (n := 6) (S := fun w' => w'.cell? ⟨gb115, 0, none⟩ = some (.int .u8 a1_0) ∧ w'.cell? ⟨gb115, 1, none⟩ = some (.int .u32 a1_1) ∧ w'.cell? ⟨gb115, 2, none⟩ = some (.int .u32 a1_2) ∧ w'.cell? ⟨gb115, 3, none⟩ = some (.int .u16 a1_3) ∧ w'.cell? ⟨gb115, 4, none⟩ = some (.int .u16 a1_4) ∧ w'.cell? ⟨gb115, 5, none⟩ = some (.int .u8 a1_5) ∧ w'.cell? ⟨gb115, 6, none⟩ = some (.int .u8 a1_6) ∧ w'.cell? (ad116.add ((x6_1).toNat * 10)) = some (.bool ((rd_T32 l0 x6_1).f0)) ∧ w'.cell? ⟨(ad116.add ((x6_1).toNat * 10)).block, (ad116.add ((x6_1).toNat * 10)).off + 1, none⟩ = some (.int .u8 ((rd_T32 l0 x6_1).f1)) ∧ w'.cell? ⟨(ad116.add ((x6_1).toNat * 10)).block, (ad116.add ((x6_1).toNat * 10)).off + 2, none⟩ = some (.int .u32 ((rd_T32 l0 x6_1).f2.f0)) ∧ w'.cell? ⟨(ad116.add ((x6_1).toNat * 10)).block, (ad116.add ((x6_1).toNat * 10)).off + 3, none⟩ = some (.int .i64 ((rd_T32 l0 x6_1).f2.f1)) ∧ w'.cell? ⟨(ad116.add ((x6_1).toNat * 10)).block, (ad116.add ((x6_1).toNat * 10)).off + 4, none⟩ = some (.int .u32 ((rd_T32 l0 x6_1).f3.f0)) ∧ w'.cell? ⟨(ad116.add ((x6_1).toNat * 10)).block, (ad116.add ((x6_1).toNat * 10)).off + 5, none⟩ = some (.int .i64 ((rd_T32 l0 x6_1).f3.f1)) ∧ w'.cell? ⟨(ad116.add ((x6_1).toNat * 10)).block, (ad116.add ((x6_1).toNat * 10)).off + 6, none⟩ = some (.int .u16 ((rd_T32 l0 x6_1).f4.f0)) ∧ w'.cell? ⟨(ad116.add ((x6_1).toNat * 10)).block, (ad116.add ((x6_1).toNat * 10)).off + 7, none⟩ = some (.int .u16 ((rd_T32 l0 x6_1).f4.f1)) ∧ w'.cell? ⟨(ad116.add ((x6_1).toNat * 10)).block, (ad116.add ((x6_1).toNat * 10)).off + 8, none⟩ = some (.int .u16 ((rd_T32 l0 x6_1).f5.f0)) ∧ w'.cell? ⟨(ad116.add ((x6_1).toNat * 10)).block, (ad116.add ((x6_1).toNat * 10)).off + 9, none⟩ = some (.int .u16 ((rd_T32 l0 x6_1).f5.f1))) (ds := []) #[false, false, false, false, false, false] (by kernel_rfl) rfl rfl ⟨(blk_cell BK115.out 0).trans rfl, (blk_cell BK115.out 1).trans rfl, (blk_cell BK115.out 2).trans rfl, (blk_cell BK115.out 3).trans rfl, (blk_cell BK115.out 4).trans rfl, (blk_cell BK115.out 5).trans rfl, (blk_cell BK115.out 6).trans rfl, ((HB.out.cell (World.block_lt_of_cell? w _ hw116_0)).trans hw116_0), ((HB.out.cell (World.block_lt_of_cell? w _ hw116_1)).trans hw116_1), ((HB.out.cell (World.block_lt_of_cell? w _ hw116_2)).trans hw116_2), ((HB.out.cell (World.block_lt_of_cell? w _ hw116_3)).trans hw116_3), ((HB.out.cell (World.block_lt_of_cell? w _ hw116_4)).trans hw116_4), ((HB.out.cell (World.block_lt_of_cell? w _ hw116_5)).trans hw116_5), ((HB.out.cell (World.block_lt_of_cell? w _ hw116_6)).trans hw116_6), ((HB.out.cell (World.block_lt_of_cell? w _ hw116_7)).trans hw116_7), ((HB.out.cell (World.block_lt_of_cell? w _ hw116_8)).trans hw116_8), ((HB.out.cell (World.block_lt_of_cell? w _ hw116_9)).trans hw116_9)⟩ (fun hHeld => ?_)
            generalize wr.drew = w8 at BK115 HB hx116_0 hx116_1 hx116_2 hx116_3 hx116_4 hx116_5 hx116_6 hx116_7 hx116_8 hx116_9 hHeld ⊢
            refine pure_ (i := 0) (N := some 13) (v := ?_) (a' := ?_) #[true, false, false, false, false, false] rfl rfl (by kernel_rfl) (fun _ _ _ h => h) (Or.inl ⟨by rfl, ?_⟩) ?_ ?_
            rotate_left
            · intro w'
              go_simp
              with_reducible rfl
            rotate_left
            · simp only [Act.put, List.setIfInBounds_toArray, List.set_cons_zero, List.set_cons_succ, i64_w, i32_w]
              rfl
            refine pure_ (i := 1) (N := some 14) (v := ?_) (a' := ?_) #[true, true, false, false, false, false] rfl rfl (by kernel_rfl) (fun _ _ _ h => h) (Or.inl ⟨by rfl, ?_⟩) ?_ ?_
            rotate_left
            · intro w'
              go_simp
              with_reducible rfl
            rotate_left
            · simp only [Act.put, List.setIfInBounds_toArray, List.set_cons_zero, List.set_cons_succ, i64_w, i32_w]
              rfl
            refine pure_ (i := 2) (N := some 15) (v := ?_) (a' := ?_) #[true, true, true, false, false, false] rfl rfl (by kernel_rfl) (fun _ _ _ h => h) (Or.inl ⟨by rfl, ?_⟩) ?_ ?_
            rotate_left
            · intro w'
              go_simp
              with_reducible rfl
            rotate_left
            · simp only [Act.put, List.setIfInBounds_toArray, List.set_cons_zero, List.set_cons_succ, i64_w, i32_w]
              rfl
            refine take_ (i := 3) (N := some 16) (v := ?_) (a' := ?_) #[true, true, true, true, false, false] rfl rfl (by kernel_rfl) (fun _ _ _ h => h) (Or.inl ⟨by rfl, ?_⟩) hHeld ?_ ?_
            rotate_left
            · rintro w' ⟨s0, s1, s2, s3, s4, s5, s6, s7, s8, s9, s10, s11, s12, s13, s14, s15, s16⟩
              go_simp
              with_reducible rfl
            rotate_left
            · simp only [Act.put, List.setIfInBounds_toArray, List.set_cons_zero, List.set_cons_succ, i64_w, i32_w]
              rfl
            refine take_ (i := 4) (N := some 17) (v := ?_) (a' := ?_) #[true, true, true, true, true, false] rfl rfl (by kernel_rfl) (fun _ _ _ h => h) (Or.inl ⟨by rfl, ?_⟩) hHeld ?_ ?_
            rotate_left
            · rintro w' ⟨s0, s1, s2, s3, s4, s5, s6, s7, s8, s9, s10, s11, s12, s13, s14, s15, s16⟩
              go_simp
              with_reducible rfl
            rotate_left
            · simp only [Act.put, List.setIfInBounds_toArray, List.set_cons_zero, List.set_cons_succ, i64_w, i32_w]
              rfl
            refine one_ (i := 5) (N := some 18) #[true, true, true, true, true, true] rfl rfl (by kernel_rfl) (by decide) (fun K hK => ?_)
            refine goes_ Try.func19 (by kernel_rfl) rfl #[.agg #[.bool ((rd_T32 l0 x6_1).f0), .int .u8 ((rd_T32 l0 x6_1).f1), .int .u32 ((rd_T32 l0 x6_1).f2.f0), .int .i64 ((rd_T32 l0 x6_1).f2.f1), .int .u32 ((rd_T32 l0 x6_1).f3.f0), .int .i64 ((rd_T32 l0 x6_1).f3.f1), .int .u16 ((rd_T32 l0 x6_1).f4.f0), .int .u16 ((rd_T32 l0 x6_1).f4.f1), .int .u16 ((rd_T32 l0 x6_1).f5.f0), .int .u16 ((rd_T32 l0 x6_1).f5.f1)], .agg #[.int .u8 a1_0, .int .u32 a1_1, .int .u32 a1_2, .int .u16 a1_3, .int .u16 a1_4, .int .u8 a1_5, .int .u8 a1_6]] (by rfl) rfl rfl (by (try simp only [List.map_toArray, List.map_cons, List.map_nil]); first | done | rfl) ?_
            with_reducible refine (mantletref13_Matches.calls k1 ((rd_T32 l0 x6_1).f0) ((rd_T32 l0 x6_1).f1) ((rd_T32 l0 x6_1).f2.f0) ((rd_T32 l0 x6_1).f2.f1) ((rd_T32 l0 x6_1).f3.f0) ((rd_T32 l0 x6_1).f3.f1) ((rd_T32 l0 x6_1).f4.f0) ((rd_T32 l0 x6_1).f4.f1) ((rd_T32 l0 x6_1).f5.f0) ((rd_T32 l0 x6_1).f5.f1) a1_0 a1_1 a1_2 a1_3 a1_4 a1_5 a1_6 true _ A6.out).mono ?_
            rintro e w9 ⟨rfl, hb⟩
            refine ⟨_, rfl, ?_⟩
            have n0_ := Aside0.mk (blk_below (g := gb115) (o := .cells #[.int .u8 a1_0, .int .u32 a1_1, .int .u32 a1_2, .int .u16 a1_3, .int .u16 a1_4, .int .u8 a1_5, .int .u8 a1_6] 26 (0, 0)) (by (with_reducible repeat first | apply blk_drewN | apply blk_drew | apply blk_alloc); exact BK115.out) hb)
            have n1_ := Aside0.mk (below_step (by repeat first | (with_reducible first | exact HB.out | apply below_alloc | apply pw_below_drewN | apply below_drew1 | refine below_set ?_ GE115.out) | exact HB.out) hb)
            clear BK115
            clear HB
            have BK115 := n0_
            have HB := n1_
            clear n0_ n1_
            (try clear hb)
            (try clear hb2)
            (try clear hk)
            (try clear hi)
            refine hK.out _ _ ⟨(blk_cell BK115.out 0).trans rfl, (blk_cell BK115.out 1).trans rfl, (blk_cell BK115.out 2).trans rfl, (blk_cell BK115.out 3).trans rfl, (blk_cell BK115.out 4).trans rfl, (blk_cell BK115.out 5).trans rfl, (blk_cell BK115.out 6).trans rfl, ((HB.out.cell (World.block_lt_of_cell? w _ hw116_0)).trans hw116_0), ((HB.out.cell (World.block_lt_of_cell? w _ hw116_1)).trans hw116_1), ((HB.out.cell (World.block_lt_of_cell? w _ hw116_2)).trans hw116_2), ((HB.out.cell (World.block_lt_of_cell? w _ hw116_3)).trans hw116_3), ((HB.out.cell (World.block_lt_of_cell? w _ hw116_4)).trans hw116_4), ((HB.out.cell (World.block_lt_of_cell? w _ hw116_5)).trans hw116_5), ((HB.out.cell (World.block_lt_of_cell? w _ hw116_6)).trans hw116_6), ((HB.out.cell (World.block_lt_of_cell? w _ hw116_7)).trans hw116_7), ((HB.out.cell (World.block_lt_of_cell? w _ hw116_8)).trans hw116_8), ((HB.out.cell (World.block_lt_of_cell? w _ hw116_9)).trans hw116_9)⟩ (fun hHeld => ?_)
            clear hK K
            refine norm_ (a' := ?_) ?_ ?_
            rotate_left
            · show Act.put _ (some 18) _ = _
              simp only [Act.put, List.setIfInBounds_toArray, List.set_cons_zero, List.set_cons_succ, i64_w, i32_w]
              rfl
            refine done_ (by kernel_rfl) ?_
            try go_wp2
            have n0_ := Aside0.mk (blk_drew BK115.out)
            have n1_ := Aside0.mk (below_drew1 HB.out)
            clear BK115
            clear HB
            have BK115 := n0_
            have HB := n1_
            clear n0_ n1_
            have p118 : 0 ≤ (x6_1 : Int) := of_decide_eq_true (by first | (with_reducible assumption) | assumption)
            have q118 : x6_1 < (l0.length : Int) := of_decide_eq_true (by first | (with_reducible assumption) | assumption)
            obtain ⟨ad118, e118, hx118_0, hx118_1, hx118_2, hx118_3, hx118_4, hx118_5, hx118_6, hx118_7, hx118_8, hx118_9⟩ := at_T32 HR0.out x6_1 p118 q118
            have hw118_9 := hx118_9
            have hw118_8 := hx118_8
            have hw118_7 := hx118_7
            have hw118_6 := hx118_6
            have hw118_5 := hx118_5
            have hw118_4 := hx118_4
            have hw118_3 := hx118_3
            have hw118_2 := hx118_2
            have hw118_1 := hx118_1
            have hw118_0 := hx118_0
            obtain rfl : ad116 = ad118 := (by injection e118)
            replace hx118_0 := (HB.out.cell (World.block_lt_of_cell? w _ hx118_0)).trans hx118_0
            replace hx118_1 := (HB.out.cell (World.block_lt_of_cell? w _ hx118_1)).trans hx118_1
            replace hx118_2 := (HB.out.cell (World.block_lt_of_cell? w _ hx118_2)).trans hx118_2
            replace hx118_3 := (HB.out.cell (World.block_lt_of_cell? w _ hx118_3)).trans hx118_3
            replace hx118_4 := (HB.out.cell (World.block_lt_of_cell? w _ hx118_4)).trans hx118_4
            replace hx118_5 := (HB.out.cell (World.block_lt_of_cell? w _ hx118_5)).trans hx118_5
            replace hx118_6 := (HB.out.cell (World.block_lt_of_cell? w _ hx118_6)).trans hx118_6
            replace hx118_7 := (HB.out.cell (World.block_lt_of_cell? w _ hx118_7)).trans hx118_7
            replace hx118_8 := (HB.out.cell (World.block_lt_of_cell? w _ hx118_8)).trans hx118_8
            replace hx118_9 := (HB.out.cell (World.block_lt_of_cell? w _ hx118_9)).trans hx118_9
            replace p118 := eq_true p118
            replace q118 := eq_true q118
            refine start_ (n := 8) (S := fun w' => w'.cell? (ad116.add ((x6_1).toNat * 10)) = some (.bool ((rd_T32 l0 x6_1).f0)) ∧ w'.cell? ⟨(ad116.add ((x6_1).toNat * 10)).block, (ad116.add ((x6_1).toNat * 10)).off + 1, none⟩ = some (.int .u8 ((rd_T32 l0 x6_1).f1)) ∧ w'.cell? ⟨(ad116.add ((x6_1).toNat * 10)).block, (ad116.add ((x6_1).toNat * 10)).off + 2, none⟩ = some (.int .u32 ((rd_T32 l0 x6_1).f2.f0)) ∧ w'.cell? ⟨(ad116.add ((x6_1).toNat * 10)).block, (ad116.add ((x6_1).toNat * 10)).off + 3, none⟩ = some (.int .i64 ((rd_T32 l0 x6_1).f2.f1)) ∧ w'.cell? ⟨(ad116.add ((x6_1).toNat * 10)).block, (ad116.add ((x6_1).toNat * 10)).off + 4, none⟩ = some (.int .u32 ((rd_T32 l0 x6_1).f3.f0)) ∧ w'.cell? ⟨(ad116.add ((x6_1).toNat * 10)).block, (ad116.add ((x6_1).toNat * 10)).off + 5, none⟩ = some (.int .i64 ((rd_T32 l0 x6_1).f3.f1)) ∧ w'.cell? ⟨(ad116.add ((x6_1).toNat * 10)).block, (ad116.add ((x6_1).toNat * 10)).off + 6, none⟩ = some (.int .u16 ((rd_T32 l0 x6_1).f4.f0)) ∧ w'.cell? ⟨(ad116.add ((x6_1).toNat * 10)).block, (ad116.add ((x6_1).toNat * 10)).off + 7, none⟩ = some (.int .u16 ((rd_T32 l0 x6_1).f4.f1)) ∧ w'.cell? ⟨(ad116.add ((x6_1).toNat * 10)).block, (ad116.add ((x6_1).toNat * 10)).off + 8, none⟩ = some (.int .u16 ((rd_T32 l0 x6_1).f5.f0)) ∧ w'.cell? ⟨(ad116.add ((x6_1).toNat * 10)).block, (ad116.add ((x6_1).toNat * 10)).off + 9, none⟩ = some (.int .u16 ((rd_T32 l0 x6_1).f5.f1))) (ds := []) #[false, false, false, false, false, false, false, false] (by kernel_rfl) rfl rfl ⟨((HB.out.cell (World.block_lt_of_cell? w _ hw118_0)).trans hw118_0), ((HB.out.cell (World.block_lt_of_cell? w _ hw118_1)).trans hw118_1), ((HB.out.cell (World.block_lt_of_cell? w _ hw118_2)).trans hw118_2), ((HB.out.cell (World.block_lt_of_cell? w _ hw118_3)).trans hw118_3), ((HB.out.cell (World.block_lt_of_cell? w _ hw118_4)).trans hw118_4), ((HB.out.cell (World.block_lt_of_cell? w _ hw118_5)).trans hw118_5), ((HB.out.cell (World.block_lt_of_cell? w _ hw118_6)).trans hw118_6), ((HB.out.cell (World.block_lt_of_cell? w _ hw118_7)).trans hw118_7), ((HB.out.cell (World.block_lt_of_cell? w _ hw118_8)).trans hw118_8), ((HB.out.cell (World.block_lt_of_cell? w _ hw118_9)).trans hw118_9)⟩ (fun hHeld => ?_); refine with_tabW mantletref13_First.tab5 mantletref13_First.bits5 (fun HT_ HW_ => ?_)
            generalize w9.drew = w10 at BK115 HB hx118_0 hx118_1 hx118_2 hx118_3 hx118_4 hx118_5 hx118_6 hx118_7 hx118_8 hx118_9 hHeld ⊢
            refine pure_ (i := 0) (N := some 19) (v := ?_) (a' := ?_) #[true, false, false, false, false, false, false, false] rfl rfl (any_of HT_.out (by kernel_rfl)) (fun _ _ _ h => h) (Or.inl ⟨by rfl, ?_⟩) ?_ ?_
            rotate_left
            · intro w'
              go_simp
              with_reducible rfl
            rotate_left
            · simp only [Act.put, List.setIfInBounds_toArray, List.set_cons_zero, List.set_cons_succ, i64_w, i32_w]
              rfl
            refine pure_ (i := 1) (N := some 20) (v := ?_) (a' := ?_) #[true, true, false, false, false, false, false, false] rfl rfl (any_of HT_.out (by kernel_rfl)) (fun _ _ _ h => h) (Or.inl ⟨by rfl, ?_⟩) ?_ ?_
            rotate_left
            · intro w'
              go_simp
              with_reducible rfl
            rotate_left
            · simp only [Act.put, List.setIfInBounds_toArray, List.set_cons_zero, List.set_cons_succ, i64_w, i32_w]
              rfl
            refine pure_ (i := 2) (N := some 21) (v := ?_) (a' := ?_) #[true, true, true, false, false, false, false, false] rfl rfl (any_of HT_.out (by kernel_rfl)) (fun _ _ _ h => h) (Or.inl ⟨by rfl, ?_⟩) ?_ ?_
            rotate_left
            · intro w'
              go_simp
              with_reducible rfl
            rotate_left
            · simp only [Act.put, List.setIfInBounds_toArray, List.set_cons_zero, List.set_cons_succ, i64_w, i32_w]
              rfl
            refine pure_ (i := 3) (N := some 22) (v := ?_) (a' := ?_) #[true, true, true, true, false, false, false, false] rfl rfl (any_of HT_.out (by kernel_rfl)) (fun _ _ _ h => h) (Or.inl ⟨by rfl, ?_⟩) ?_ ?_
            rotate_left
            · intro w'
              go_simp
              with_reducible rfl
            rotate_left
            · simp only [Act.put, List.setIfInBounds_toArray, List.set_cons_zero, List.set_cons_succ, i64_w, i32_w]
              rfl
            refine pure_ (i := 4) (N := some 23) (v := ?_) (a' := ?_) #[true, true, true, true, true, false, false, false] rfl rfl (any_of HT_.out (by kernel_rfl)) (fun _ _ _ h => h) (Or.inl ⟨by rfl, ?_⟩) ?_ ?_
            rotate_left
            · intro w'
              go_simp
              with_reducible rfl
            rotate_left
            · simp only [Act.put, List.setIfInBounds_toArray, List.set_cons_zero, List.set_cons_succ, i64_w, i32_w]
              rfl
            refine pure_ (i := 6) (N := some 4) (v := ?_) (a' := ?_) #[true, true, true, true, true, false, true, false] rfl rfl (any_of HT_.out (by kernel_rfl)) (fun _ _ _ h => h) (Or.inl ⟨by rfl, ?_⟩) ?_ ?_
            rotate_left
            · intro w'
              go_simp
              with_reducible rfl
            rotate_left
            · simp only [Act.put, List.setIfInBounds_toArray, List.set_cons_zero, List.set_cons_succ, i64_w, i32_w]
              rfl
            refine take_ (i := 5) (N := some 24) (v := ?_) (a' := ?_) #[true, true, true, true, true, true, true, false] rfl rfl (take_ofW HT_.out HW_.out (by kernel_rfl)) (fun _ _ _ h => h) (Or.inl ⟨by rfl, ?_⟩) hHeld ?_ ?_
            rotate_left
            · rintro w' ⟨s0, s1, s2, s3, s4, s5, s6, s7, s8, s9⟩
              go_simp
              with_reducible rfl
            rotate_left
            · simp only [Act.put, List.setIfInBounds_toArray, List.set_cons_zero, List.set_cons_succ, i64_w, i32_w]
              rfl
            refine pure_ (i := 7) (N := some 5) (v := ?_) (a' := ?_) #[true, true, true, true, true, true, true, true] rfl rfl (any_of HT_.out (by kernel_rfl)) (fun _ _ _ h => h) (Or.inl ⟨by rfl, ?_⟩) ?_ ?_
            rotate_left
            · intro w'
              go_simp
              with_reducible rfl
            rotate_left
            · simp only [Act.put, List.setIfInBounds_toArray, List.set_cons_zero, List.set_cons_succ, i64_w, i32_w]
              rfl
            refine done_ (done_of HT_.out (by kernel_rfl)) ?_
            try go_wp2
            go_ret2
            exact ⟨by first | rfl | (simp [errW_none, errW_some] <;> rfl) | (simp [*, errW_none, errW_some] <;> rfl), by repeat first | (with_reducible first | exact HB.out | apply below_alloc | apply pw_below_drewN | apply below_drew1 | refine below_set ?_ GE115.out) | exact HB.out⟩
          · replace c7 := Bool.eq_false_iff.mpr c7
            subst c7
            have H1 : (mantletref13_First.l0 k1 l0 (wrap64 (x6_1 + 1)) a1_0 a1_1 a1_2 a1_3 a1_4 a1_5 a1_6) = some (r1, r2) := by rw [if_neg (show ¬ (false = true) by decide)] at H; exact H
            clear H
            have H := H1
            clear H1
            have H' := Aside0.mk H
            clear H
            try go_wp2
            have n0_ := Aside0.mk (blk_drew BK115.out)
            have n1_ := Aside0.mk (below_drew1 HB.out)
            clear BK115
            clear HB
            have BK115 := n0_
            have HB := n1_
            clear n0_ n1_
            have p116 : 0 ≤ (x6_1 : Int) := of_decide_eq_true (by first | (with_reducible assumption) | assumption)
            have q116 : x6_1 < (l0.length : Int) := of_decide_eq_true (by first | (with_reducible assumption) | assumption)
            obtain ⟨ad116, e116, hx116_0, hx116_1, hx116_2, hx116_3, hx116_4, hx116_5, hx116_6, hx116_7, hx116_8, hx116_9⟩ := at_T32 HR0.out x6_1 p116 q116
            have hw116_9 := hx116_9
            have hw116_8 := hx116_8
            have hw116_7 := hx116_7
            have hw116_6 := hx116_6
            have hw116_5 := hx116_5
            have hw116_4 := hx116_4
            have hw116_3 := hx116_3
            have hw116_2 := hx116_2
            have hw116_1 := hx116_1
            have hw116_0 := hx116_0
            cases e116
            replace hx116_0 := (HB.out.cell (World.block_lt_of_cell? w _ hx116_0)).trans hx116_0
            replace hx116_1 := (HB.out.cell (World.block_lt_of_cell? w _ hx116_1)).trans hx116_1
            replace hx116_2 := (HB.out.cell (World.block_lt_of_cell? w _ hx116_2)).trans hx116_2
            replace hx116_3 := (HB.out.cell (World.block_lt_of_cell? w _ hx116_3)).trans hx116_3
            replace hx116_4 := (HB.out.cell (World.block_lt_of_cell? w _ hx116_4)).trans hx116_4
            replace hx116_5 := (HB.out.cell (World.block_lt_of_cell? w _ hx116_5)).trans hx116_5
            replace hx116_6 := (HB.out.cell (World.block_lt_of_cell? w _ hx116_6)).trans hx116_6
            replace hx116_7 := (HB.out.cell (World.block_lt_of_cell? w _ hx116_7)).trans hx116_7
            replace hx116_8 := (HB.out.cell (World.block_lt_of_cell? w _ hx116_8)).trans hx116_8
            replace hx116_9 := (HB.out.cell (World.block_lt_of_cell? w _ hx116_9)).trans hx116_9
            replace p116 := eq_true p116
            replace q116 := eq_true q116
            refine start_ (n := 6) (S := fun w' => w'.cell? ⟨gb115, 0, none⟩ = some (.int .u8 a1_0) ∧ w'.cell? ⟨gb115, 1, none⟩ = some (.int .u32 a1_1) ∧ w'.cell? ⟨gb115, 2, none⟩ = some (.int .u32 a1_2) ∧ w'.cell? ⟨gb115, 3, none⟩ = some (.int .u16 a1_3) ∧ w'.cell? ⟨gb115, 4, none⟩ = some (.int .u16 a1_4) ∧ w'.cell? ⟨gb115, 5, none⟩ = some (.int .u8 a1_5) ∧ w'.cell? ⟨gb115, 6, none⟩ = some (.int .u8 a1_6) ∧ w'.cell? (ad116.add ((x6_1).toNat * 10)) = some (.bool ((rd_T32 l0 x6_1).f0)) ∧ w'.cell? ⟨(ad116.add ((x6_1).toNat * 10)).block, (ad116.add ((x6_1).toNat * 10)).off + 1, none⟩ = some (.int .u8 ((rd_T32 l0 x6_1).f1)) ∧ w'.cell? ⟨(ad116.add ((x6_1).toNat * 10)).block, (ad116.add ((x6_1).toNat * 10)).off + 2, none⟩ = some (.int .u32 ((rd_T32 l0 x6_1).f2.f0)) ∧ w'.cell? ⟨(ad116.add ((x6_1).toNat * 10)).block, (ad116.add ((x6_1).toNat * 10)).off + 3, none⟩ = some (.int .i64 ((rd_T32 l0 x6_1).f2.f1)) ∧ w'.cell? ⟨(ad116.add ((x6_1).toNat * 10)).block, (ad116.add ((x6_1).toNat * 10)).off + 4, none⟩ = some (.int .u32 ((rd_T32 l0 x6_1).f3.f0)) ∧ w'.cell? ⟨(ad116.add ((x6_1).toNat * 10)).block, (ad116.add ((x6_1).toNat * 10)).off + 5, none⟩ = some (.int .i64 ((rd_T32 l0 x6_1).f3.f1)) ∧ w'.cell? ⟨(ad116.add ((x6_1).toNat * 10)).block, (ad116.add ((x6_1).toNat * 10)).off + 6, none⟩ = some (.int .u16 ((rd_T32 l0 x6_1).f4.f0)) ∧ w'.cell? ⟨(ad116.add ((x6_1).toNat * 10)).block, (ad116.add ((x6_1).toNat * 10)).off + 7, none⟩ = some (.int .u16 ((rd_T32 l0 x6_1).f4.f1)) ∧ w'.cell? ⟨(ad116.add ((x6_1).toNat * 10)).block, (ad116.add ((x6_1).toNat * 10)).off + 8, none⟩ = some (.int .u16 ((rd_T32 l0 x6_1).f5.f0)) ∧ w'.cell? ⟨(ad116.add ((x6_1).toNat * 10)).block, (ad116.add ((x6_1).toNat * 10)).off + 9, none⟩ = some (.int .u16 ((rd_T32 l0 x6_1).f5.f1))) (ds := []) #[false, false, false, false, false, false] (by kernel_rfl) rfl rfl ⟨(blk_cell BK115.out 0).trans rfl, (blk_cell BK115.out 1).trans rfl, (blk_cell BK115.out 2).trans rfl, (blk_cell BK115.out 3).trans rfl, (blk_cell BK115.out 4).trans rfl, (blk_cell BK115.out 5).trans rfl, (blk_cell BK115.out 6).trans rfl, ((HB.out.cell (World.block_lt_of_cell? w _ hw116_0)).trans hw116_0), ((HB.out.cell (World.block_lt_of_cell? w _ hw116_1)).trans hw116_1), ((HB.out.cell (World.block_lt_of_cell? w _ hw116_2)).trans hw116_2), ((HB.out.cell (World.block_lt_of_cell? w _ hw116_3)).trans hw116_3), ((HB.out.cell (World.block_lt_of_cell? w _ hw116_4)).trans hw116_4), ((HB.out.cell (World.block_lt_of_cell? w _ hw116_5)).trans hw116_5), ((HB.out.cell (World.block_lt_of_cell? w _ hw116_6)).trans hw116_6), ((HB.out.cell (World.block_lt_of_cell? w _ hw116_7)).trans hw116_7), ((HB.out.cell (World.block_lt_of_cell? w _ hw116_8)).trans hw116_8), ((HB.out.cell (World.block_lt_of_cell? w _ hw116_9)).trans hw116_9)⟩ (fun hHeld => ?_)
            generalize wr.drew = w11 at BK115 HB hx116_0 hx116_1 hx116_2 hx116_3 hx116_4 hx116_5 hx116_6 hx116_7 hx116_8 hx116_9 hHeld ⊢
            refine pure_ (i := 0) (N := some 13) (v := ?_) (a' := ?_) #[true, false, false, false, false, false] rfl rfl (by kernel_rfl) (fun _ _ _ h => h) (Or.inl ⟨by rfl, ?_⟩) ?_ ?_
            rotate_left
            · intro w'
              go_simp
              with_reducible rfl
            rotate_left
            · simp only [Act.put, List.setIfInBounds_toArray, List.set_cons_zero, List.set_cons_succ, i64_w, i32_w]
              rfl
            refine pure_ (i := 1) (N := some 14) (v := ?_) (a' := ?_) #[true, true, false, false, false, false] rfl rfl (by kernel_rfl) (fun _ _ _ h => h) (Or.inl ⟨by rfl, ?_⟩) ?_ ?_
            rotate_left
            · intro w'
              go_simp
              with_reducible rfl
            rotate_left
            · simp only [Act.put, List.setIfInBounds_toArray, List.set_cons_zero, List.set_cons_succ, i64_w, i32_w]
              rfl
            refine pure_ (i := 2) (N := some 15) (v := ?_) (a' := ?_) #[true, true, true, false, false, false] rfl rfl (by kernel_rfl) (fun _ _ _ h => h) (Or.inl ⟨by rfl, ?_⟩) ?_ ?_
            rotate_left
            · intro w'
              go_simp
              with_reducible rfl
            rotate_left
            · simp only [Act.put, List.setIfInBounds_toArray, List.set_cons_zero, List.set_cons_succ, i64_w, i32_w]
              rfl
            refine take_ (i := 3) (N := some 16) (v := ?_) (a' := ?_) #[true, true, true, true, false, false] rfl rfl (by kernel_rfl) (fun _ _ _ h => h) (Or.inl ⟨by rfl, ?_⟩) hHeld ?_ ?_
            rotate_left
            · rintro w' ⟨s0, s1, s2, s3, s4, s5, s6, s7, s8, s9, s10, s11, s12, s13, s14, s15, s16⟩
              go_simp
              with_reducible rfl
            rotate_left
            · simp only [Act.put, List.setIfInBounds_toArray, List.set_cons_zero, List.set_cons_succ, i64_w, i32_w]
              rfl
            refine take_ (i := 4) (N := some 17) (v := ?_) (a' := ?_) #[true, true, true, true, true, false] rfl rfl (by kernel_rfl) (fun _ _ _ h => h) (Or.inl ⟨by rfl, ?_⟩) hHeld ?_ ?_
            rotate_left
            · rintro w' ⟨s0, s1, s2, s3, s4, s5, s6, s7, s8, s9, s10, s11, s12, s13, s14, s15, s16⟩
              go_simp
              with_reducible rfl
            rotate_left
            · simp only [Act.put, List.setIfInBounds_toArray, List.set_cons_zero, List.set_cons_succ, i64_w, i32_w]
              rfl
            refine one_ (i := 5) (N := some 18) #[true, true, true, true, true, true] rfl rfl (by kernel_rfl) (by decide) (fun K hK => ?_)
            refine goes_ Try.func19 (by kernel_rfl) rfl #[.agg #[.bool ((rd_T32 l0 x6_1).f0), .int .u8 ((rd_T32 l0 x6_1).f1), .int .u32 ((rd_T32 l0 x6_1).f2.f0), .int .i64 ((rd_T32 l0 x6_1).f2.f1), .int .u32 ((rd_T32 l0 x6_1).f3.f0), .int .i64 ((rd_T32 l0 x6_1).f3.f1), .int .u16 ((rd_T32 l0 x6_1).f4.f0), .int .u16 ((rd_T32 l0 x6_1).f4.f1), .int .u16 ((rd_T32 l0 x6_1).f5.f0), .int .u16 ((rd_T32 l0 x6_1).f5.f1)], .agg #[.int .u8 a1_0, .int .u32 a1_1, .int .u32 a1_2, .int .u16 a1_3, .int .u16 a1_4, .int .u8 a1_5, .int .u8 a1_6]] (by rfl) rfl rfl (by (try simp only [List.map_toArray, List.map_cons, List.map_nil]); first | done | rfl) ?_
            with_reducible refine (mantletref13_Matches.calls k1 ((rd_T32 l0 x6_1).f0) ((rd_T32 l0 x6_1).f1) ((rd_T32 l0 x6_1).f2.f0) ((rd_T32 l0 x6_1).f2.f1) ((rd_T32 l0 x6_1).f3.f0) ((rd_T32 l0 x6_1).f3.f1) ((rd_T32 l0 x6_1).f4.f0) ((rd_T32 l0 x6_1).f4.f1) ((rd_T32 l0 x6_1).f5.f0) ((rd_T32 l0 x6_1).f5.f1) a1_0 a1_1 a1_2 a1_3 a1_4 a1_5 a1_6 false _ A6.out).mono ?_
            rintro e w12 ⟨rfl, hb⟩
            refine ⟨_, rfl, ?_⟩
            have n0_ := Aside0.mk (blk_below (g := gb115) (o := .cells #[.int .u8 a1_0, .int .u32 a1_1, .int .u32 a1_2, .int .u16 a1_3, .int .u16 a1_4, .int .u8 a1_5, .int .u8 a1_6] 26 (0, 0)) (by (with_reducible repeat first | apply blk_drewN | apply blk_drew | apply blk_alloc); exact BK115.out) hb)
            have n1_ := Aside0.mk (below_step (by repeat first | (with_reducible first | exact HB.out | apply below_alloc | apply pw_below_drewN | apply below_drew1 | refine below_set ?_ GE115.out) | exact HB.out) hb)
            clear BK115
            clear HB
            have BK115 := n0_
            have HB := n1_
            clear n0_ n1_
            (try clear hb)
            (try clear hb2)
            (try clear hk)
            (try clear hi)
            refine hK.out _ _ ⟨(blk_cell BK115.out 0).trans rfl, (blk_cell BK115.out 1).trans rfl, (blk_cell BK115.out 2).trans rfl, (blk_cell BK115.out 3).trans rfl, (blk_cell BK115.out 4).trans rfl, (blk_cell BK115.out 5).trans rfl, (blk_cell BK115.out 6).trans rfl, ((HB.out.cell (World.block_lt_of_cell? w _ hw116_0)).trans hw116_0), ((HB.out.cell (World.block_lt_of_cell? w _ hw116_1)).trans hw116_1), ((HB.out.cell (World.block_lt_of_cell? w _ hw116_2)).trans hw116_2), ((HB.out.cell (World.block_lt_of_cell? w _ hw116_3)).trans hw116_3), ((HB.out.cell (World.block_lt_of_cell? w _ hw116_4)).trans hw116_4), ((HB.out.cell (World.block_lt_of_cell? w _ hw116_5)).trans hw116_5), ((HB.out.cell (World.block_lt_of_cell? w _ hw116_6)).trans hw116_6), ((HB.out.cell (World.block_lt_of_cell? w _ hw116_7)).trans hw116_7), ((HB.out.cell (World.block_lt_of_cell? w _ hw116_8)).trans hw116_8), ((HB.out.cell (World.block_lt_of_cell? w _ hw116_9)).trans hw116_9)⟩ (fun hHeld => ?_)
            clear hK K
            refine norm_ (a' := ?_) ?_ ?_
            rotate_left
            · show Act.put _ (some 18) _ = _
              simp only [Act.put, List.setIfInBounds_toArray, List.set_cons_zero, List.set_cons_succ, i64_w, i32_w]
              rfl
            refine done_ (by kernel_rfl) ?_
            try go_wp2
            go_roundg k1
            case measure => have := HK1.out; omega
            case rel => exact ⟨(wrap64 (x6_1 + 1)), (by first | rfl | (simp; done) | (simp [*]; done)), H', ⟨by have := HK1.out; omega⟩, ⟨by (with_reducible repeat first | apply blk_drewN | apply blk_drew | apply blk_alloc); exact BK115.out⟩, ⟨by repeat first | (with_reducible first | exact HB.out | apply below_alloc | apply pw_below_drewN | apply below_drew1 | refine below_set ?_ GE115.out) | exact HB.out⟩⟩
        · rw [if_neg c5] at H
          exact absurd H (by simp)
      · rw [if_neg c4] at H
        have c4b0 : decide (x6_1 < (l0.length : Int)) = false := decide_eq_false c4
        clear c4
        simp only [Option.some.injEq, Prod.mk.injEq] at H
        obtain ⟨rfl, rfl⟩ := H
        go_wp2
        go_ret2
        exact ⟨by first | rfl | (simp [errW_none, errW_some] <;> rfl) | (simp [*, errW_none, errW_some] <;> rfl), by repeat first | (with_reducible first | exact HB.out | apply below_alloc | apply pw_below_drewN | apply below_drew1 | refine below_set ?_ GE115.out) | exact HB.out⟩

end Go.Proofs.Ytbdgjcmljjfomaa.Mat
