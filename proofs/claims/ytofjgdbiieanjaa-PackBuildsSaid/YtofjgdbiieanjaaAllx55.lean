-- Made by a program of this workplace (wip/pr.sh) out of Lean's print of the translation; Lean checks it.
import Derived.Test.YtofjgdbiieanjaaAllx0
import Derived.Test.YtofjgdbiieanjaaAllx53
import Derived.Test.YtofjgdbiieanjaaOwn
namespace Go.Proofs.Ytofjgdbiieanjaa.All
open Go.Proofs.Ytofjgdbiieanjaa.Ext
open Go.RowKit Go.Proofs.YtofjgdbiieanjaaW.PrintWords Go.Proofs.YtofjgdbiieanjaaW.PrintLast Go.Proofs.YtofjgdbiieanjaaW.PrintMore
attribute [local go_sem] max2_int min2_int max_two min_two max_three min_three max_four min_four   -- for this text's walks alone
set_option linter.unusedVariables false
set_option linter.unusedSimpArgs false

/-! ### ip_Build: function 50 -/
def ip_Build.f (k : Nat) (a0_0 : Int) (a0_1 : Int) (a0_2 : Int) (a0_3 : Int) (a0_4 : Int) (a0_5 : Int) (a0_6 : Int) (l1 : List Int) : Option (List Int × Int) := if (l1.length : Int) > 1480 then (some (([] : List Int), 2)) else ((field_Cut.f k (IntKind.u64.wrap (wrap64 (20 + (l1.length : Int)))) 2).bind fun t716 => ((field_Cut.f k (IntKind.u64.wrap (a0_6)) 2).bind fun t719 => ((field_Cut.f k (IntKind.u64.wrap (a0_1)) 4).bind fun t725 => ((field_Cut.f k (IntKind.u64.wrap (a0_2)) 4).bind fun t728 => ((slices_Concat_byte_byte.f k (([(([69, 0] : List Int)), t716, t719, (([0, 0, a0_5, a0_0, 0, 0] : List Int)), t725, t728] : List (List Int)))).bind fun t734 => (if 10 ≤ (t734.length : Int) then ((sum_Of.f k t734).bind fun t742 => ((field_Cut.f k (IntKind.u64.wrap (t742)) 2).bind fun t743 => (if t743.length + 10 ≤ t734.length then ((some (splice t734 ((10 : Int).toNat) t743 : List Int)).bind fun y746 => (if y746.length + l1.length < 140737488355328 then ((slices_Clip.f (y746 ++ l1)).bind fun t752 => (some (t752, 0))) else (none))) else (none)))) else (none)))))))
theorem ip_Build.mono : ∀ a0 a1 a2 a3 a4 a5 a6 a7 k, LeO (ip_Build.f k a0 a1 a2 a3 a4 a5 a6 a7) (ip_Build.f (k + 1) a0 a1 a2 a3 a4 a5 a6 a7) := by
  intro a0 a1 a2 a3 a4 a5 a6 a7 k
  unfold ip_Build.f
  repeat' first
      | (with_reducible exact field_Cut.mono _ _ _)
      | (with_reducible exact slices_Concat_byte_byte.mono _ _)
      | (with_reducible exact sum_Of.mono _ _)
      | (with_reducible exact LeO.refl _)
      | (with_reducible exact LeO.none _)
      | (with_reducible refine LeO.ite ?_ ?_)
      | (with_reducible refine LeO.bind ?_ (fun _ => ?_))
      | exact field_Cut.mono _ _ _
      | exact slices_Concat_byte_byte.mono _ _
      | exact sum_Of.mono _ _
      | exact LeO.none _
      | refine LeO.ite ?_ ?_
      | refine LeO.bind ?_ (fun _ => ?_)
def ip_Build.T3 : Bool × List (List Nat × List Nat) := (true, [([], []), ([], []), ([1], [1]), ([2], [2]), ([3], [3]), ([4], [4]), ([], []), ([6], [6]), ([7], [7]), ([8, 5], [8]), ([], []), ([10], [10]), ([], []), ([12], [12]), ([11, 13], [11, 13]), ([], []), ([15], [15]), ([16], [16]), ([17, 9], [17]), ([], []), ([19], [19]), ([20], [20]), ([21, 18], [21]), ([0, 5, 9, 14, 18, 22], [0, 5, 9, 14, 18, 22]), ([23, 22], [23]), ([24, 24, 0, 1, 2, 3, 4, 5, 6, 7, 8, 9, 10, 11, 12, 13, 14, 15, 16, 17, 18, 19, 20, 21, 22, 23, 24], [24])])
def ip_Build.B3 : List Nat := [0, 0, 2, 6, 14, 30, 0, 64, 192, 510, 0, 1024, 0, 4096, 15360, 0, 32768, 98304, 230398, 0, 524288, 1572864, 4162558, 8388607, 16777215, 33554431]
theorem ip_Build.tab3 : rtab .any (opsOf Try.f50 3) = ip_Build.T3 := by kernel_rfl
theorem ip_Build.bits3 : waitsOk ip_Build.T3.2 ip_Build.B3 = true := by kernel_rfl
set_option maxHeartbeats 8000000 in
set_option maxRecDepth 100000 in
theorem ip_Build.strong (k : Nat) (a0_0 : Int) (a0_1 : Int) (a0_2 : Int) (a0_3 : Int) (a0_4 : Int) (a0_5 : Int) (a0_6 : Int) (A1 : Option Addr) (c1 : Nat) (l1 : List Int) (r1 : List Int) (r2 : Int) (w : World) (hr1 : Kd.C (Kd.int .u8) w A1 l1.length l1) (hc1 : l1.length ≤ c1) (h : ip_Build.f k a0_0 a0_1 a0_2 a0_3 a0_4 a0_5 a0_6 l1 = some (r1, r2)) :
    Calls Try.prog 50 #[.agg #[.int .u8 a0_0, .int .u32 a0_1, .int .u32 a0_2, .int .i64 a0_3, .int .i64 a0_4, .int .u8 a0_5, .int .u16 a0_6], .slice A1 l1.length c1] w fun e w' => ∃ v0_ : Value, e = .returned (.tuple #[v0_, .int .i64 r2]) ∧ Kd.K (Kd.int .u8) 5 w' w.heap.size (fun _ => True) v0_ r1 ∧ Below w.heap.size w w' := by
 have hu61 := Try.underlying61
 have HR1 := aS hr1
 have HC1 := aS hc1
 clear hr1 hc1
 have HB := aS (Below.refl w.heap.size w)
 have H := h
 unfold ip_Build.f at H
 clear h
 by_cases c3 : (l1.length : Int) > 1480
 ·rw [if_pos c3] at H
  have c3b0 : decide (1480 < (l1.length : Int)) = true := decide_eq_true c3
  have c3b1 : decide (1480 < l1.length) = true := decide_eq_true (by omega)
  clear c3
  simp only [Option.some.injEq, Prod.mk.injEq] at H
  obtain ⟨rfl, rfl⟩ := H
  go_enter Try.func50, Try.ntmps50
  go_wp2_with (first | ((with_reducible refine gate_dst (N := 2) rfl ?_); refine box_event ?hg (N := 2) ?hd (cs := #[.int .u8 a0_0, .int .u32 a0_1, .int .u32 a0_2, .int .i64 a0_3, .int .i64 a0_4, .int .u8 a0_5, .int .u16 a0_6]) (t := 61) ?hr ?_; (case hd => rfl); (case hg => rfl); (case hr => first | (go_simp; done) | (go_simp; rfl)); intro gb712 hg w4 hbox hb; have BK712 := aS (hbox); have GW712 := aS ((by rw [hg]; exact (below_size (tB HB.out)) : w.heap.size ≤ gb712)); have GE712 := aS ((by rw [hg]; exact (below_size (tB HB.out)) : w.heap.size ≤ gb712)); replace HB := aS (below_step (tB HB.out) hb); clear hb hbox hg))
  go_ret2
  exact ⟨_, by first | rfl | (simp [errW_none, errW_some] <;> rfl) | (simp [*, errW_none, errW_some] <;> rfl), Kd.K_nil _ _ _ _ _, tB HB.out⟩
 ·rw [if_neg c3] at H
  have c3b0 : decide (1480 < (l1.length : Int)) = false := decide_eq_false c3
  have c3b1 : decide (1480 < l1.length) = false := decide_eq_false (by omega)
  clear c3
  obtain ⟨y713, hy713⟩ : ∃ y_ : List Int, y_ = (([69, 0] : List Int)) := ⟨_, rfl⟩
  first | with_reducible replace H := bindY hy713 H | rw [← hy713] at H | skip
  try dsimp -simprocs only at H
  have Ny713 := aS hy713
  clear hy713
  replace H := Option.bind_eq_some_iff.mp H
  obtain ⟨t716, A50, H⟩ := H
  try dsimp -simprocs only at H
  have A5 := aS A50
  clear A50
  replace H := Option.bind_eq_some_iff.mp H
  obtain ⟨t719, A60, H⟩ := H
  try dsimp -simprocs only at H
  have A6 := aS A60
  clear A60
  obtain ⟨y722, hy722⟩ : ∃ y_ : List Int, y_ = (([0, 0, a0_5, a0_0, 0, 0] : List Int)) := ⟨_, rfl⟩
  first | with_reducible replace H := bindY hy722 H | rw [← hy722] at H | skip
  try dsimp -simprocs only at H
  have Ny722 := aS hy722
  clear hy722
  replace H := Option.bind_eq_some_iff.mp H
  obtain ⟨t725, A70, H⟩ := H
  try dsimp -simprocs only at H
  have A7 := aS A70
  clear A70
  replace H := Option.bind_eq_some_iff.mp H
  obtain ⟨t728, A80, H⟩ := H
  try dsimp -simprocs only at H
  have A8 := aS A80
  clear A80
  obtain ⟨y731, hy731⟩ : ∃ y_ : List (List Int), y_ = (([y713, t716, t719, y722, t725, t728] : List (List Int))) := ⟨_, rfl⟩
  first | with_reducible replace H := bindY hy731 H | rw [← hy731] at H | skip
  try dsimp -simprocs only at H
  have Ny731 := aS hy731
  clear hy731
  replace H := Option.bind_eq_some_iff.mp H
  obtain ⟨t734, A90, H⟩ := H
  try dsimp -simprocs only at H
  have A9 := aS A90
  clear A90
  by_cases c10 : 10 ≤ (t734.length : Int)
  ·rw [if_pos c10] at H
   have c10b0 := eq_true c10
   have c10b1 : decide (10 ≤ (t734.length : Int)) = true := decide_eq_true c10
   clear c10
   obtain ⟨y737, hy737⟩ : ∃ y_ : List Int, y_ = (t734.drop 10) := ⟨_, rfl⟩
   try dsimp -simprocs only at H
   have Ny737 := aS hy737
   clear hy737
   replace H := Option.bind_eq_some_iff.mp H
   obtain ⟨t742, A110, H⟩ := H
   try dsimp -simprocs only at H
   have A11 := aS A110
   clear A110
   replace H := Option.bind_eq_some_iff.mp H
   obtain ⟨t743, A120, H⟩ := H
   try dsimp -simprocs only at H
   have A12 := aS A120
   clear A120
   by_cases c13 : t743.length + 10 ≤ t734.length
   ·rw [if_pos c13] at H
    have LMc13 := aS c13
    clear c13
    obtain ⟨y746, hy746⟩ : ∃ y_ : List Int, y_ = (splice t734 ((10 : Int).toNat) t743) := ⟨_, rfl⟩
    first | with_reducible replace H := bindY hy746 H | rw [← hy746] at H | skip
    try dsimp -simprocs only at H
    have Ny746 := aS hy746
    clear hy746
    by_cases c14 : y746.length + l1.length < 140737488355328
    ·rw [if_pos c14] at H
     have LMc14 := aS c14
     clear c14
     obtain ⟨y749, hy749⟩ : ∃ y_ : List Int, y_ = (y746 ++ l1) := ⟨_, rfl⟩
     first | with_reducible replace H := bindY hy749 H | rw [← hy749] at H | skip
     try dsimp -simprocs only at H
     have Ny749 := aS hy749
     clear hy749
     replace H := Option.bind_eq_some_iff.mp H
     obtain ⟨t752, A150, H⟩ := H
     try dsimp -simprocs only at H
     have A15 := aS A150
     clear A150
     simp only [Option.some.injEq, Prod.mk.injEq] at H
     obtain ⟨rfl, rfl⟩ := H
     go_enter Try.func50, Try.ntmps50
     try go_wp2_with (first | ((with_reducible refine gate_dst (N := 2) rfl ?_); refine box_event ?hg (N := 2) ?hd (cs := #[.int .u8 a0_0, .int .u32 a0_1, .int .u32 a0_2, .int .i64 a0_3, .int .i64 a0_4, .int .u8 a0_5, .int .u16 a0_6]) (t := 61) ?hr ?_; (case hd => rfl); (case hg => rfl); (case hr => first | (go_simp; done) | (go_simp; rfl)); intro gb712 hg w16 hbox hb; have BK712 := aS (hbox); have GW712 := aS ((by rw [hg]; exact (below_size (tB HB.out)) : w.heap.size ≤ gb712)); have GE712 := aS ((by rw [hg]; exact (below_size (tB HB.out)) : w.heap.size ≤ gb712)); replace HB := aS (below_step (tB HB.out) hb); clear hb hbox hg))
     replace BK712 := aS (blk_drew BK712.out)
     replace HB := aS (below_drew1 HB.out)
     refine start_ (n := 26) (S := fun w' => True) (ds := []) #[false, false, false, false, false, false, false, false, false, false, false, false, false, false, false, false, false, false, false, false, false, false, false, false, false, false] (by kernel_rfl) rfl rfl trivial (fun hHeld => ?_); refine with_tabW ip_Build.tab3 ip_Build.bits3 (fun HT_ HW_ => ?_)
     generalize w16.drew = w17 at BK712 HB hHeld ⊢
     refine pure_ (i := 1) (N := some 11) (v := ?_) (a' := ?_) (fl 26 2) rfl rfl (any_of HT_.out (by kernel_rfl)) (fun _ _ _ h => h) (Or.inl ⟨by rfl, ?_⟩) ?_ ?_
     rotate_left; (· intro w'; go_simp; with_reducible rfl); rotate_left; (· simp only [Act.put, q1_, q2_, q3_, i64_w, i32_w]; rfl)
     refine pure_ (i := 6) (N := some 16) (v := ?_) (a' := ?_) (fl 26 66) rfl rfl (any_of HT_.out (by kernel_rfl)) (fun _ _ _ h => h) (Or.inl ⟨by rfl, ?_⟩) ?_ ?_
     rotate_left; (· intro w'; go_simp; with_reducible rfl); rotate_left; (· simp only [Act.put, q1_, q2_, q3_, i64_w, i32_w]; rfl)
     refine pure_ (i := 10) (N := some 20) (v := ?_) (a' := ?_) (fl 26 1090) rfl rfl (any_of HT_.out (by kernel_rfl)) (fun _ _ _ h => h) (Or.inl ⟨by rfl, ?_⟩) ?_ ?_
     rotate_left; (· intro w'; go_simp; with_reducible rfl); rotate_left; (· simp only [Act.put, q1_, q2_, q3_, i64_w, i32_w]; rfl)
     refine pure_ (i := 12) (N := some 22) (v := ?_) (a' := ?_) (fl 26 5186) rfl rfl (any_of HT_.out (by kernel_rfl)) (fun _ _ _ h => h) (Or.inl ⟨by rfl, ?_⟩) ?_ ?_
     rotate_left; (· intro w'; go_simp; with_reducible rfl); rotate_left; (· simp only [Act.put, q1_, q2_, q3_, i64_w, i32_w]; rfl)
     refine pure_ (i := 15) (N := some 25) (v := ?_) (a' := ?_) (fl 26 37954) rfl rfl (any_of HT_.out (by kernel_rfl)) (fun _ _ _ h => h) (Or.inl ⟨by rfl, ?_⟩) ?_ ?_
     rotate_left; (· intro w'; go_simp; with_reducible rfl); rotate_left; (· simp only [Act.put, q1_, q2_, q3_, i64_w, i32_w]; rfl)
     refine pure_ (i := 19) (N := some 29) (v := ?_) (a' := ?_) (fl 26 562242) rfl rfl (any_of HT_.out (by kernel_rfl)) (fun _ _ _ h => h) (Or.inl ⟨by rfl, ?_⟩) ?_ ?_
     rotate_left; (· intro w'; go_simp; with_reducible rfl); rotate_left; (· simp only [Act.put, q1_, q2_, q3_, i64_w, i32_w]; rfl)
     refine inv_at [0, 2, 3, 4, 5, 7, 8, 9, 11, 13, 14, 16, 17, 18, 20, 21, 22, 23, 24, 25] (fun a0_ b a w' => ∃ (v714 : Value) (v717 : Value) (v720 : Value) (v723 : Value) (v726 : Value) (v729 : Value) (v732 : Value) (v735 : Value) (m25_ : Value), a = putSel a0_ b [(0, 10, v714), (2, 12, .int .i64 (l1.length : Int)), (3, 13, .int .i64 (wrap64 (20 + (l1.length : Int)))), (4, 14, .int .u64 (IntKind.u64.wrap (wrap64 (20 + (l1.length : Int))))), (5, 15, v717), (7, 17, .int .u16 a0_6), (8, 18, .int .u64 (IntKind.u64.wrap (a0_6))), (9, 19, v720), (11, 21, .int .u8 a0_5), (13, 23, .int .u8 a0_0), (14, 24, v723), (16, 26, .int .u32 a0_1), (17, 27, .int .u64 (IntKind.u64.wrap (a0_1))), (18, 28, v726), (20, 30, .int .u32 a0_2), (21, 31, .int .u64 (IntKind.u64.wrap (a0_2))), (22, 32, v729), (23, 33, v732), (24, 34, v735), (25, 6, m25_)] ∧ (w'.heap[gb712]? = some (.cells #[.int .u8 a0_0, .int .u32 a0_1, .int .u32 a0_2, .int .i64 a0_3, .int .i64 a0_4, .int .u8 a0_5, .int .u16 a0_6] 61 (0, 0))) ∧ (Below w.heap.size w w') ∧ (b 0 = true → b 23 = false → Kd.R (Kd.int .u8) 5 w' w.heap.size (fun k_ => (w.heap.size ≤ k_)) v714 y713) ∧ (b 5 = true → b 23 = false → Kd.R (Kd.int .u8) 5 w' w.heap.size (fun k_ => (w.heap.size ≤ k_)) v717 t716) ∧ (b 9 = true → b 23 = false → Kd.R (Kd.int .u8) 5 w' w.heap.size (fun k_ => (w.heap.size ≤ k_)) v720 t719) ∧ (b 14 = true → b 23 = false → Kd.R (Kd.int .u8) 5 w' w.heap.size (fun k_ => (w.heap.size ≤ k_)) v723 y722) ∧ (b 18 = true → b 23 = false → Kd.R (Kd.int .u8) 5 w' w.heap.size (fun k_ => (w.heap.size ≤ k_)) v726 t725) ∧ (b 22 = true → b 23 = false → Kd.R (Kd.int .u8) 5 w' w.heap.size (fun k_ => (w.heap.size ≤ k_)) v729 t728) ∧ (b 23 = true → Kd.N (Kd.slice 5 (Kd.int .u8)) 22 w' w.heap.size (fun k_ => (w.heap.size ≤ k_) ∧ k_ ≠ gb712) v732 y731) ∧ (b 24 = true → Kd.R (Kd.int .u8) 5 w' w.heap.size (fun k_ => (w.heap.size ≤ k_)) v735 t734) ∧ (b 25 = true → (m25_ : Value) = v735)) HT_.out HW_.out (by kernel_rfl) (by kernel_rfl) ?_ ?_ ?_
     ·exact ⟨.bool false, .bool false, .bool false, .bool false, .bool false, .bool false, .bool false, .bool false, .bool false, by simp only [putSel, Bool.false_eq_true, if_false], BK712.out, HB.out, fun h_ => absurd h_ (by decide), fun h_ => absurd h_ (by decide), fun h_ => absurd h_ (by decide), fun h_ => absurd h_ (by decide), fun h_ => absurd h_ (by decide), fun h_ => absurd h_ (by decide), fun h_ => absurd h_ (by decide), fun h_ => absurd h_ (by decide), fun h_ => absurd h_ (by decide)⟩
     ·skip
      clear BK712 HB
      refine steps_cons ?_ ?_
      ·rintro b a w' ⟨v714, v717, v720, v723, v726, v729, v732, v735, m25_, ha, Q_BK712, Q_HB, Q_HO715, Q_HO718, Q_HO721, Q_HO724, Q_HO727, Q_HO730, Q_HO733, Q_HO736, Q_X25_⟩ hb_ hon hoff
       refine ⟨_, rfl, fun K hK => ?_⟩
       replace ha := aS ha
       have BK712 := aS Q_BK712
       have HB := aS Q_HB
       refine Kd.R_lit_step (Kd.int .u8) _ 5 ?hg (N := 10) ?hd (xs := ([69, 0] : List Int)) (inner := [.int .u8 69, .int .u8 0]) (ok := fun _ => True) (okp := fun _ => True) ?hr ?hp (fun _ hk => by first | exact hk | exact hk.1 | exact hk.1.1 | (simp_all; done)) trivial (Below.refl _ _) (Nat.le_refl _) (by simp) ?_; (case hd => rfl); (case hg => rfl); (case hr => first | (go_simp; done) | (go_simp; rfl)); (case hp => exact (Reps.one (show Kd.M (Kd.int .u8) _ _ _ 69 [.int .u8 69] from rfl) (Reps.one (show Kd.M (Kd.int .u8) _ _ _ 0 [.int .u8 0] from rfl) (Reps.none _ _))))
       intro v714 w18 ho19 hb hg_ hnew_; clear hg_ hnew_
       (first | rw [← Ny713.out] at ho19 | (simp only [Int.reduceToNat] at ho19; rw [← Ny713.out] at ho19))
       have n0_ := aS (Kd.R_lower (Kd.R_newM (M := fun k_ => (w.heap.size ≤ k_)) ho19 (below_size (tB HB.out)) (fun k_ h_ => h_)) (below_size (tB HB.out)))
       have n1_ := aS (blk_below (g := gb712) (o := .cells #[.int .u8 a0_0, .int .u32 a0_1, .int .u32 a0_2, .int .i64 a0_3, .int .i64 a0_4, .int .u8 a0_5, .int .u16 a0_6] 61 (0, 0)) (tk BK712.out) hb)
       have n2_ := aS (below_step (tB HB.out) hb)
       have z_HO718 := fun (h0_ : b 5 = true) (h1_ : b 23 = false) => (show Kd.R (Kd.int .u8) 5 w18 w.heap.size (fun k_ => (w.heap.size ≤ k_)) v717 t716 from by first | exact (Kd.R_elder' (tR (Q_HO718 h0_ h1_)) (Kd.R_base ho19) hb) | exact Kd.R_mono (Kd.R_elder' (tR (Q_HO718 h0_ h1_)) (Kd.R_base ho19) hb) (fun _ h_ => by first | trivial | exact h_ | exact h_.1))
       have z_HO721 := fun (h0_ : b 9 = true) (h1_ : b 23 = false) => (show Kd.R (Kd.int .u8) 5 w18 w.heap.size (fun k_ => (w.heap.size ≤ k_)) v720 t719 from by first | exact (Kd.R_elder' (tR (Q_HO721 h0_ h1_)) (Kd.R_base ho19) hb) | exact Kd.R_mono (Kd.R_elder' (tR (Q_HO721 h0_ h1_)) (Kd.R_base ho19) hb) (fun _ h_ => by first | trivial | exact h_ | exact h_.1))
       have z_HO724 := fun (h0_ : b 14 = true) (h1_ : b 23 = false) => (show Kd.R (Kd.int .u8) 5 w18 w.heap.size (fun k_ => (w.heap.size ≤ k_)) v723 y722 from by first | exact (Kd.R_elder' (tR (Q_HO724 h0_ h1_)) (Kd.R_base ho19) hb) | exact Kd.R_mono (Kd.R_elder' (tR (Q_HO724 h0_ h1_)) (Kd.R_base ho19) hb) (fun _ h_ => by first | trivial | exact h_ | exact h_.1))
       have z_HO727 := fun (h0_ : b 18 = true) (h1_ : b 23 = false) => (show Kd.R (Kd.int .u8) 5 w18 w.heap.size (fun k_ => (w.heap.size ≤ k_)) v726 t725 from by first | exact (Kd.R_elder' (tR (Q_HO727 h0_ h1_)) (Kd.R_base ho19) hb) | exact Kd.R_mono (Kd.R_elder' (tR (Q_HO727 h0_ h1_)) (Kd.R_base ho19) hb) (fun _ h_ => by first | trivial | exact h_ | exact h_.1))
       have z_HO730 := fun (h0_ : b 22 = true) (h1_ : b 23 = false) => (show Kd.R (Kd.int .u8) 5 w18 w.heap.size (fun k_ => (w.heap.size ≤ k_)) v729 t728 from by first | exact (Kd.R_elder' (tR (Q_HO730 h0_ h1_)) (Kd.R_base ho19) hb) | exact Kd.R_mono (Kd.R_elder' (tR (Q_HO730 h0_ h1_)) (Kd.R_base ho19) hb) (fun _ h_ => by first | trivial | exact h_ | exact h_.1))
       clear BK712 HB; have HO715 := n0_; have BK712 := n1_; have HB := n2_; clear n0_ n1_ n2_ hb ho19
       refine hK.out _ _ ⟨v714, v717, v720, v723, v726, v729, v732, v735, m25_, (by rw [ha.out]; exact putSel_upk 0 hb_ rfl rfl rfl), (tk BK712.out), (tB HB.out), fun _ _ => (tR (Kd.R_mono HO715.out (fun _ hk => by first | exact hk.1 | exact hk | exact hk.1.1 | (simp_all; done)))), z_HO718, z_HO721, z_HO724, z_HO727, z_HO730, fun h0_ => absurd ((hoff 23 (by kernel_rfl)).symm.trans h0_) (by decide), fun h0_ => absurd ((hoff 24 (by kernel_rfl)).symm.trans h0_) (by decide), fun h0_ => absurd ((hoff 25 (by kernel_rfl)).symm.trans h0_) (by decide)⟩
      refine steps_cons ?_ ?_
      ·rintro b a w' ⟨v714, v717, v720, v723, v726, v729, v732, v735, m25_, ha, Q_BK712, Q_HB, Q_HO715, Q_HO718, Q_HO721, Q_HO724, Q_HO727, Q_HO730, Q_HO733, Q_HO736, Q_X25_⟩ hb_ hon hoff
       refine ⟨_, rfl, fun K hK => ?_⟩
       have e11 : a.tmps[11]? = some (.slice A1 l1.length c1) := by rw [ha]; exact (putSel_off rfl).trans rfl
       replace ha := aS ha
       have BK712 := aS Q_BK712
       have HB := aS Q_HB
       refine value_ (w1 := w') (v := .int .i64 (l1.length : Int)) (by rfl) rfl ?_ ?_
       ·go_simp
        (try simp only [i64_w])
        try rfl
       refine hK.out _ _ ⟨v714, v717, v720, v723, v726, v729, v732, v735, m25_, (by rw [ha.out]; exact putSel_upk 1 hb_ rfl rfl rfl), Q_BK712, Q_HB, Q_HO715, fun h0_ _ => absurd ((hoff 5 (by kernel_rfl)).symm.trans h0_) (by decide), fun h0_ _ => absurd ((hoff 9 (by kernel_rfl)).symm.trans h0_) (by decide), Q_HO724, fun h0_ _ => absurd ((hoff 18 (by kernel_rfl)).symm.trans h0_) (by decide), fun h0_ _ => absurd ((hoff 22 (by kernel_rfl)).symm.trans h0_) (by decide), fun h0_ => absurd ((hoff 23 (by kernel_rfl)).symm.trans h0_) (by decide), fun h0_ => absurd ((hoff 24 (by kernel_rfl)).symm.trans h0_) (by decide), fun h0_ => absurd ((hoff 25 (by kernel_rfl)).symm.trans h0_) (by decide)⟩
      refine steps_cons ?_ ?_
      ·rintro b a w' ⟨v714, v717, v720, v723, v726, v729, v732, v735, m25_, ha, Q_BK712, Q_HB, Q_HO715, Q_HO718, Q_HO721, Q_HO724, Q_HO727, Q_HO730, Q_HO733, Q_HO736, Q_X25_⟩ hb_ hon hoff
       refine ⟨_, rfl, fun K hK => ?_⟩
       have e12 : a.tmps[12]? = some (.int .i64 (l1.length : Int)) := by rw [ha]; exact putSel_on (e := (2, 12, .int .i64 (l1.length : Int))) 1 rfl rfl (hon 2 (by kernel_rfl)) rfl
       replace ha := aS ha
       have BK712 := aS Q_BK712
       have HB := aS Q_HB
       refine value_ (w1 := w') (v := .int .i64 (wrap64 (20 + (l1.length : Int)))) (by rfl) rfl ?_ ?_
       ·go_simp
        (try simp only [i64_w])
        try rfl
       refine hK.out _ _ ⟨v714, v717, v720, v723, v726, v729, v732, v735, m25_, (by rw [ha.out]; exact putSel_upk 2 hb_ rfl rfl rfl), Q_BK712, Q_HB, Q_HO715, fun h0_ _ => absurd ((hoff 5 (by kernel_rfl)).symm.trans h0_) (by decide), fun h0_ _ => absurd ((hoff 9 (by kernel_rfl)).symm.trans h0_) (by decide), Q_HO724, fun h0_ _ => absurd ((hoff 18 (by kernel_rfl)).symm.trans h0_) (by decide), fun h0_ _ => absurd ((hoff 22 (by kernel_rfl)).symm.trans h0_) (by decide), fun h0_ => absurd ((hoff 23 (by kernel_rfl)).symm.trans h0_) (by decide), fun h0_ => absurd ((hoff 24 (by kernel_rfl)).symm.trans h0_) (by decide), fun h0_ => absurd ((hoff 25 (by kernel_rfl)).symm.trans h0_) (by decide)⟩
      refine steps_cons ?_ ?_
      ·rintro b a w' ⟨v714, v717, v720, v723, v726, v729, v732, v735, m25_, ha, Q_BK712, Q_HB, Q_HO715, Q_HO718, Q_HO721, Q_HO724, Q_HO727, Q_HO730, Q_HO733, Q_HO736, Q_X25_⟩ hb_ hon hoff
       refine ⟨_, rfl, fun K hK => ?_⟩
       have e13 : a.tmps[13]? = some (.int .i64 (wrap64 (20 + (l1.length : Int)))) := by rw [ha]; exact putSel_on (e := (3, 13, .int .i64 (wrap64 (20 + (l1.length : Int))))) 2 rfl rfl (hon 3 (by kernel_rfl)) rfl
       replace ha := aS ha
       have BK712 := aS Q_BK712
       have HB := aS Q_HB
       refine value_ (w1 := w') (v := .int .u64 (IntKind.u64.wrap (wrap64 (20 + (l1.length : Int))))) (by rfl) rfl ?_ ?_
       ·go_simp
        (try simp only [i64_w])
        try rfl
       refine hK.out _ _ ⟨v714, v717, v720, v723, v726, v729, v732, v735, m25_, (by rw [ha.out]; exact putSel_upk 3 hb_ rfl rfl rfl), Q_BK712, Q_HB, Q_HO715, fun h0_ _ => absurd ((hoff 5 (by kernel_rfl)).symm.trans h0_) (by decide), fun h0_ _ => absurd ((hoff 9 (by kernel_rfl)).symm.trans h0_) (by decide), Q_HO724, fun h0_ _ => absurd ((hoff 18 (by kernel_rfl)).symm.trans h0_) (by decide), fun h0_ _ => absurd ((hoff 22 (by kernel_rfl)).symm.trans h0_) (by decide), fun h0_ => absurd ((hoff 23 (by kernel_rfl)).symm.trans h0_) (by decide), fun h0_ => absurd ((hoff 24 (by kernel_rfl)).symm.trans h0_) (by decide), fun h0_ => absurd ((hoff 25 (by kernel_rfl)).symm.trans h0_) (by decide)⟩
      refine steps_cons ?_ ?_
      ·rintro b a w' ⟨v714, v717, v720, v723, v726, v729, v732, v735, m25_, ha, Q_BK712, Q_HB, Q_HO715, Q_HO718, Q_HO721, Q_HO724, Q_HO727, Q_HO730, Q_HO733, Q_HO736, Q_X25_⟩ hb_ hon hoff
       refine ⟨_, rfl, fun K hK => ?_⟩
       have e14 : a.tmps[14]? = some (.int .u64 (IntKind.u64.wrap (wrap64 (20 + (l1.length : Int))))) := by rw [ha]; exact putSel_on (e := (4, 14, .int .u64 (IntKind.u64.wrap (wrap64 (20 + (l1.length : Int)))))) 3 rfl rfl (hon 4 (by kernel_rfl)) rfl
       replace ha := aS ha
       have BK712 := aS Q_BK712
       have HB := aS Q_HB
       refine goes_ Try.func68 (by kernel_rfl) rfl #[.int .u64 (IntKind.u64.wrap (wrap64 (20 + (l1.length : Int)))), .int .i64 2] (by rfl) rfl rfl (by first | (simp only [List.map_toArray, List.map_cons, List.map_nil, Act.eval, Array.getD_eq_getD_getElem?, Option.getD_some, e14]; done) | (simp only [List.map_toArray, List.map_cons, List.map_nil, Act.eval, Array.getD_eq_getD_getElem?, Option.getD_some, e14]; rfl)) ?_
       with_reducible refine (field_Cut.calls k (IntKind.u64.wrap (wrap64 (20 + (l1.length : Int)))) 2 t716 _ A5.out).mono ?_
       rintro e w18 ⟨v717, rfl, ho0, hb⟩; refine ⟨_, rfl, ?_⟩
       have n0_ := aS (Kd.R_lower (Kd.R_newM (M := fun k_ => (w.heap.size ≤ k_)) ho0 (below_size (tB HB.out)) (fun k_ h_ => h_)) (below_size (tB HB.out)))
       have n1_ := aS (blk_below (g := gb712) (o := .cells #[.int .u8 a0_0, .int .u32 a0_1, .int .u32 a0_2, .int .i64 a0_3, .int .i64 a0_4, .int .u8 a0_5, .int .u16 a0_6] 61 (0, 0)) (tk BK712.out) hb)
       have n2_ := aS (below_step (tB HB.out) hb)
       have z_HO715 := fun (h0_ : b 0 = true) (h1_ : b 23 = false) => (show Kd.R (Kd.int .u8) 5 w18 w.heap.size (fun k_ => (w.heap.size ≤ k_)) v714 y713 from by first | exact (Kd.R_elder' (tR (Q_HO715 h0_ h1_)) (Kd.R_base ho0) hb) | exact Kd.R_mono (Kd.R_elder' (tR (Q_HO715 h0_ h1_)) (Kd.R_base ho0) hb) (fun _ h_ => by first | trivial | exact h_ | exact h_.1))
       have z_HO724 := fun (h0_ : b 14 = true) (h1_ : b 23 = false) => (show Kd.R (Kd.int .u8) 5 w18 w.heap.size (fun k_ => (w.heap.size ≤ k_)) v723 y722 from by first | exact (Kd.R_elder' (tR (Q_HO724 h0_ h1_)) (Kd.R_base ho0) hb) | exact Kd.R_mono (Kd.R_elder' (tR (Q_HO724 h0_ h1_)) (Kd.R_base ho0) hb) (fun _ h_ => by first | trivial | exact h_ | exact h_.1))
       clear BK712 HB; have HO718 := n0_; have BK712 := n1_; have HB := n2_; clear n0_ n1_ n2_; (try clear hb); (try clear hb2); (try clear hk); (try clear hi); (try clear ho0)
       refine hK.out _ _ ⟨v714, v717, v720, v723, v726, v729, v732, v735, m25_, (by rw [ha.out]; exact putSel_upk 4 hb_ rfl rfl rfl), (tk BK712.out), (tB HB.out), z_HO715, fun _ _ => (tR (Kd.R_mono HO718.out (fun _ hk => by first | exact hk.1 | exact hk | exact hk.1.1 | (simp_all; done)))), fun h0_ _ => absurd ((hoff 9 (by kernel_rfl)).symm.trans h0_) (by decide), z_HO724, fun h0_ _ => absurd ((hoff 18 (by kernel_rfl)).symm.trans h0_) (by decide), fun h0_ _ => absurd ((hoff 22 (by kernel_rfl)).symm.trans h0_) (by decide), fun h0_ => absurd ((hoff 23 (by kernel_rfl)).symm.trans h0_) (by decide), fun h0_ => absurd ((hoff 24 (by kernel_rfl)).symm.trans h0_) (by decide), fun h0_ => absurd ((hoff 25 (by kernel_rfl)).symm.trans h0_) (by decide)⟩
      refine steps_cons ?_ ?_
      ·rintro b a w' ⟨v714, v717, v720, v723, v726, v729, v732, v735, m25_, ha, Q_BK712, Q_HB, Q_HO715, Q_HO718, Q_HO721, Q_HO724, Q_HO727, Q_HO730, Q_HO733, Q_HO736, Q_X25_⟩ hb_ hon hoff
       refine ⟨_, rfl, fun K hK => ?_⟩
       have e16 : a.tmps[16]? = some (.pointer (some ⟨gb712, 6, none⟩)) := by rw [ha]; exact (putSel_off rfl).trans rfl
       replace ha := aS ha
       have BK712 := aS Q_BK712
       have HB := aS Q_HB
       have hc0_ : w'.cell? ⟨gb712, 0, none⟩ = some (.int .u8 a0_0) := (blk_cell BK712.out 0).trans rfl
       have hc1_ : w'.cell? ⟨gb712, 1, none⟩ = some (.int .u32 a0_1) := (blk_cell BK712.out 1).trans rfl
       have hc2_ : w'.cell? ⟨gb712, 2, none⟩ = some (.int .u32 a0_2) := (blk_cell BK712.out 2).trans rfl
       have hc3_ : w'.cell? ⟨gb712, 3, none⟩ = some (.int .i64 a0_3) := (blk_cell BK712.out 3).trans rfl
       have hc4_ : w'.cell? ⟨gb712, 4, none⟩ = some (.int .i64 a0_4) := (blk_cell BK712.out 4).trans rfl
       have hc5_ : w'.cell? ⟨gb712, 5, none⟩ = some (.int .u8 a0_5) := (blk_cell BK712.out 5).trans rfl
       have hc6_ : w'.cell? ⟨gb712, 6, none⟩ = some (.int .u16 a0_6) := (blk_cell BK712.out 6).trans rfl
       refine value_ (w1 := w') (v := .int .u16 a0_6) (by rfl) rfl ?_ ?_
       ·go_simp
        (try simp only [i64_w])
        try rfl
       refine hK.out _ _ ⟨v714, v717, v720, v723, v726, v729, v732, v735, m25_, (by rw [ha.out]; exact putSel_upk 5 hb_ rfl rfl rfl), Q_BK712, Q_HB, Q_HO715, Q_HO718, fun h0_ _ => absurd ((hoff 9 (by kernel_rfl)).symm.trans h0_) (by decide), Q_HO724, fun h0_ _ => absurd ((hoff 18 (by kernel_rfl)).symm.trans h0_) (by decide), fun h0_ _ => absurd ((hoff 22 (by kernel_rfl)).symm.trans h0_) (by decide), fun h0_ => absurd ((hoff 23 (by kernel_rfl)).symm.trans h0_) (by decide), fun h0_ => absurd ((hoff 24 (by kernel_rfl)).symm.trans h0_) (by decide), fun h0_ => absurd ((hoff 25 (by kernel_rfl)).symm.trans h0_) (by decide)⟩
      refine steps_cons ?_ ?_
      ·rintro b a w' ⟨v714, v717, v720, v723, v726, v729, v732, v735, m25_, ha, Q_BK712, Q_HB, Q_HO715, Q_HO718, Q_HO721, Q_HO724, Q_HO727, Q_HO730, Q_HO733, Q_HO736, Q_X25_⟩ hb_ hon hoff
       refine ⟨_, rfl, fun K hK => ?_⟩
       have e17 : a.tmps[17]? = some (.int .u16 a0_6) := by rw [ha]; exact putSel_on (e := (7, 17, .int .u16 a0_6)) 5 rfl rfl (hon 7 (by kernel_rfl)) rfl
       replace ha := aS ha
       have BK712 := aS Q_BK712
       have HB := aS Q_HB
       refine value_ (w1 := w') (v := .int .u64 (IntKind.u64.wrap (a0_6))) (by rfl) rfl ?_ ?_
       ·go_simp
        (try simp only [i64_w])
        try rfl
       refine hK.out _ _ ⟨v714, v717, v720, v723, v726, v729, v732, v735, m25_, (by rw [ha.out]; exact putSel_upk 6 hb_ rfl rfl rfl), Q_BK712, Q_HB, Q_HO715, Q_HO718, fun h0_ _ => absurd ((hoff 9 (by kernel_rfl)).symm.trans h0_) (by decide), Q_HO724, fun h0_ _ => absurd ((hoff 18 (by kernel_rfl)).symm.trans h0_) (by decide), fun h0_ _ => absurd ((hoff 22 (by kernel_rfl)).symm.trans h0_) (by decide), fun h0_ => absurd ((hoff 23 (by kernel_rfl)).symm.trans h0_) (by decide), fun h0_ => absurd ((hoff 24 (by kernel_rfl)).symm.trans h0_) (by decide), fun h0_ => absurd ((hoff 25 (by kernel_rfl)).symm.trans h0_) (by decide)⟩
      refine steps_cons ?_ ?_
      ·rintro b a w' ⟨v714, v717, v720, v723, v726, v729, v732, v735, m25_, ha, Q_BK712, Q_HB, Q_HO715, Q_HO718, Q_HO721, Q_HO724, Q_HO727, Q_HO730, Q_HO733, Q_HO736, Q_X25_⟩ hb_ hon hoff
       refine ⟨_, rfl, fun K hK => ?_⟩
       have e18 : a.tmps[18]? = some (.int .u64 (IntKind.u64.wrap (a0_6))) := by rw [ha]; exact putSel_on (e := (8, 18, .int .u64 (IntKind.u64.wrap (a0_6)))) 6 rfl rfl (hon 8 (by kernel_rfl)) rfl
       replace ha := aS ha
       have BK712 := aS Q_BK712
       have HB := aS Q_HB
       have HO718 := aS (Q_HO718 (hon 5 (by kernel_rfl)) (hoff 23 (by kernel_rfl)))
       refine goes_ Try.func68 (by kernel_rfl) rfl #[.int .u64 (IntKind.u64.wrap (a0_6)), .int .i64 2] (by rfl) rfl rfl (by first | (simp only [List.map_toArray, List.map_cons, List.map_nil, Act.eval, Array.getD_eq_getD_getElem?, Option.getD_some, e18]; done) | (simp only [List.map_toArray, List.map_cons, List.map_nil, Act.eval, Array.getD_eq_getD_getElem?, Option.getD_some, e18]; rfl)) ?_
       with_reducible refine (field_Cut.calls k (IntKind.u64.wrap (a0_6)) 2 t719 _ A6.out).mono ?_
       rintro e w20 ⟨v720, rfl, ho0, hb⟩; refine ⟨_, rfl, ?_⟩
       have n0_ := aS (Kd.R_elder' (tR HO718.out) (Kd.R_base ho0) hb)
       have n1_ := aS (Kd.R_lower (Kd.R_new' (Kd.R_newM (M := fun k_ => (w.heap.size ≤ k_)) ho0 (below_size (tB HB.out)) (fun k_ h_ => h_)) (Kd.R_lt (tR HO718.out))) (below_size (tB HB.out)))
       have n2_ := aS (blk_below (g := gb712) (o := .cells #[.int .u8 a0_0, .int .u32 a0_1, .int .u32 a0_2, .int .i64 a0_3, .int .i64 a0_4, .int .u8 a0_5, .int .u16 a0_6] 61 (0, 0)) (tk BK712.out) hb)
       have n3_ := aS (below_step (tB HB.out) hb)
       have z_HO715 := fun (h0_ : b 0 = true) (h1_ : b 23 = false) => (show Kd.R (Kd.int .u8) 5 w20 w.heap.size (fun k_ => (w.heap.size ≤ k_)) v714 y713 from by first | exact (Kd.R_elder' (tR (Q_HO715 h0_ h1_)) (Kd.R_base ho0) hb) | exact Kd.R_mono (Kd.R_elder' (tR (Q_HO715 h0_ h1_)) (Kd.R_base ho0) hb) (fun _ h_ => by first | trivial | exact h_ | exact h_.1))
       have z_HO724 := fun (h0_ : b 14 = true) (h1_ : b 23 = false) => (show Kd.R (Kd.int .u8) 5 w20 w.heap.size (fun k_ => (w.heap.size ≤ k_)) v723 y722 from by first | exact (Kd.R_elder' (tR (Q_HO724 h0_ h1_)) (Kd.R_base ho0) hb) | exact Kd.R_mono (Kd.R_elder' (tR (Q_HO724 h0_ h1_)) (Kd.R_base ho0) hb) (fun _ h_ => by first | trivial | exact h_ | exact h_.1))
       clear HO718 BK712 HB; have HO718 := n0_; have HO721 := n1_; have BK712 := n2_; have HB := n3_; clear n0_ n1_ n2_ n3_; (try clear hb); (try clear hb2); (try clear hk); (try clear hi); (try clear ho0)
       refine hK.out _ _ ⟨v714, v717, v720, v723, v726, v729, v732, v735, m25_, (by rw [ha.out]; exact putSel_upk 7 hb_ rfl rfl rfl), (tk BK712.out), (tB HB.out), z_HO715, fun _ _ => (by (with_reducible repeat apply mR); first | exact HO718.out | exact Kd.R_mono HO718.out (fun _ hk => by first | exact hk | exact hk.1 | exact hk.1.1 | (simp_all; done))), fun _ _ => (tR (Kd.R_mono HO721.out (fun _ hk => by first | exact ⟨hk.1.1, hk.2⟩ | exact ⟨hk.1, hk.2⟩ | exact hk | exact hk.1 | exact hk.1.1 | (simp_all; done)))), z_HO724, fun h0_ _ => absurd ((hoff 18 (by kernel_rfl)).symm.trans h0_) (by decide), fun h0_ _ => absurd ((hoff 22 (by kernel_rfl)).symm.trans h0_) (by decide), fun h0_ => absurd ((hoff 23 (by kernel_rfl)).symm.trans h0_) (by decide), fun h0_ => absurd ((hoff 24 (by kernel_rfl)).symm.trans h0_) (by decide), fun h0_ => absurd ((hoff 25 (by kernel_rfl)).symm.trans h0_) (by decide)⟩
      refine steps_cons ?_ ?_
      ·rintro b a w' ⟨v714, v717, v720, v723, v726, v729, v732, v735, m25_, ha, Q_BK712, Q_HB, Q_HO715, Q_HO718, Q_HO721, Q_HO724, Q_HO727, Q_HO730, Q_HO733, Q_HO736, Q_X25_⟩ hb_ hon hoff
       refine ⟨_, rfl, fun K hK => ?_⟩
       have e20 : a.tmps[20]? = some (.pointer (some ⟨gb712, 5, none⟩)) := by rw [ha]; exact (putSel_off rfl).trans rfl
       replace ha := aS ha
       have BK712 := aS Q_BK712
       have HB := aS Q_HB
       have hc0_ : w'.cell? ⟨gb712, 0, none⟩ = some (.int .u8 a0_0) := (blk_cell BK712.out 0).trans rfl
       have hc1_ : w'.cell? ⟨gb712, 1, none⟩ = some (.int .u32 a0_1) := (blk_cell BK712.out 1).trans rfl
       have hc2_ : w'.cell? ⟨gb712, 2, none⟩ = some (.int .u32 a0_2) := (blk_cell BK712.out 2).trans rfl
       have hc3_ : w'.cell? ⟨gb712, 3, none⟩ = some (.int .i64 a0_3) := (blk_cell BK712.out 3).trans rfl
       have hc4_ : w'.cell? ⟨gb712, 4, none⟩ = some (.int .i64 a0_4) := (blk_cell BK712.out 4).trans rfl
       have hc5_ : w'.cell? ⟨gb712, 5, none⟩ = some (.int .u8 a0_5) := (blk_cell BK712.out 5).trans rfl
       have hc6_ : w'.cell? ⟨gb712, 6, none⟩ = some (.int .u16 a0_6) := (blk_cell BK712.out 6).trans rfl
       refine value_ (w1 := w') (v := .int .u8 a0_5) (by rfl) rfl ?_ ?_
       ·go_simp
        (try simp only [i64_w])
        try rfl
       refine hK.out _ _ ⟨v714, v717, v720, v723, v726, v729, v732, v735, m25_, (by rw [ha.out]; exact putSel_upk 8 hb_ rfl rfl rfl), Q_BK712, Q_HB, Q_HO715, Q_HO718, Q_HO721, fun h0_ _ => absurd ((hoff 14 (by kernel_rfl)).symm.trans h0_) (by decide), Q_HO727, Q_HO730, fun h0_ => absurd ((hoff 23 (by kernel_rfl)).symm.trans h0_) (by decide), fun h0_ => absurd ((hoff 24 (by kernel_rfl)).symm.trans h0_) (by decide), fun h0_ => absurd ((hoff 25 (by kernel_rfl)).symm.trans h0_) (by decide)⟩
      refine steps_cons ?_ ?_
      ·rintro b a w' ⟨v714, v717, v720, v723, v726, v729, v732, v735, m25_, ha, Q_BK712, Q_HB, Q_HO715, Q_HO718, Q_HO721, Q_HO724, Q_HO727, Q_HO730, Q_HO733, Q_HO736, Q_X25_⟩ hb_ hon hoff
       refine ⟨_, rfl, fun K hK => ?_⟩
       have e22 : a.tmps[22]? = some (.pointer (some ⟨gb712, 0, none⟩)) := by rw [ha]; exact (putSel_off rfl).trans rfl
       replace ha := aS ha
       have BK712 := aS Q_BK712
       have HB := aS Q_HB
       have hc0_ : w'.cell? ⟨gb712, 0, none⟩ = some (.int .u8 a0_0) := (blk_cell BK712.out 0).trans rfl
       have hc1_ : w'.cell? ⟨gb712, 1, none⟩ = some (.int .u32 a0_1) := (blk_cell BK712.out 1).trans rfl
       have hc2_ : w'.cell? ⟨gb712, 2, none⟩ = some (.int .u32 a0_2) := (blk_cell BK712.out 2).trans rfl
       have hc3_ : w'.cell? ⟨gb712, 3, none⟩ = some (.int .i64 a0_3) := (blk_cell BK712.out 3).trans rfl
       have hc4_ : w'.cell? ⟨gb712, 4, none⟩ = some (.int .i64 a0_4) := (blk_cell BK712.out 4).trans rfl
       have hc5_ : w'.cell? ⟨gb712, 5, none⟩ = some (.int .u8 a0_5) := (blk_cell BK712.out 5).trans rfl
       have hc6_ : w'.cell? ⟨gb712, 6, none⟩ = some (.int .u16 a0_6) := (blk_cell BK712.out 6).trans rfl
       refine value_ (w1 := w') (v := .int .u8 a0_0) (by rfl) rfl ?_ ?_
       ·go_simp
        (try simp only [i64_w])
        try rfl
       refine hK.out _ _ ⟨v714, v717, v720, v723, v726, v729, v732, v735, m25_, (by rw [ha.out]; exact putSel_upk 9 hb_ rfl rfl rfl), Q_BK712, Q_HB, Q_HO715, Q_HO718, Q_HO721, fun h0_ _ => absurd ((hoff 14 (by kernel_rfl)).symm.trans h0_) (by decide), Q_HO727, Q_HO730, fun h0_ => absurd ((hoff 23 (by kernel_rfl)).symm.trans h0_) (by decide), fun h0_ => absurd ((hoff 24 (by kernel_rfl)).symm.trans h0_) (by decide), fun h0_ => absurd ((hoff 25 (by kernel_rfl)).symm.trans h0_) (by decide)⟩
      refine steps_cons ?_ ?_
      ·rintro b a w' ⟨v714, v717, v720, v723, v726, v729, v732, v735, m25_, ha, Q_BK712, Q_HB, Q_HO715, Q_HO718, Q_HO721, Q_HO724, Q_HO727, Q_HO730, Q_HO733, Q_HO736, Q_X25_⟩ hb_ hon hoff
       refine ⟨_, rfl, fun K hK => ?_⟩
       have e21 : a.tmps[21]? = some (.int .u8 a0_5) := by rw [ha]; exact putSel_on (e := (11, 21, .int .u8 a0_5)) 8 rfl rfl (hon 11 (by kernel_rfl)) rfl
       have e23 : a.tmps[23]? = some (.int .u8 a0_0) := by rw [ha]; exact putSel_on (e := (13, 23, .int .u8 a0_0)) 9 rfl rfl (hon 13 (by kernel_rfl)) rfl
       replace ha := aS ha
       have BK712 := aS Q_BK712
       have HB := aS Q_HB
       refine Kd.R_lit_step (Kd.int .u8) _ 5 ?hg (N := 24) ?hd (xs := ([0, 0, a0_5, a0_0, 0, 0] : List Int)) (inner := [.int .u8 0, .int .u8 0, .int .u8 a0_5, .int .u8 a0_0, .int .u8 0, .int .u8 0]) (ok := fun _ => True) (okp := fun _ => True) ?hr ?hp (fun _ hk => by first | exact hk | exact hk.1 | exact hk.1.1 | (simp_all; done)) trivial (Below.refl _ _) (Nat.le_refl _) (by simp) ?_; (case hd => rfl); (case hg => rfl); (case hr => first | (go_simp; done) | (go_simp; rfl)); (case hp => exact (Reps.one (show Kd.M (Kd.int .u8) _ _ _ 0 [.int .u8 0] from rfl) (Reps.one (show Kd.M (Kd.int .u8) _ _ _ 0 [.int .u8 0] from rfl) (Reps.one (show Kd.M (Kd.int .u8) _ _ _ a0_5 [.int .u8 a0_5] from rfl) (Reps.one (show Kd.M (Kd.int .u8) _ _ _ a0_0 [.int .u8 a0_0] from rfl) (Reps.one (show Kd.M (Kd.int .u8) _ _ _ 0 [.int .u8 0] from rfl) (Reps.one (show Kd.M (Kd.int .u8) _ _ _ 0 [.int .u8 0] from rfl) (Reps.none _ _))))))))
       intro v723 w18 ho19 hb hg_ hnew_; clear hg_ hnew_
       (first | rw [← Ny722.out] at ho19 | (simp only [Int.reduceToNat] at ho19; rw [← Ny722.out] at ho19))
       have n0_ := aS (Kd.R_lower (Kd.R_newM (M := fun k_ => (w.heap.size ≤ k_)) ho19 (below_size (tB HB.out)) (fun k_ h_ => h_)) (below_size (tB HB.out)))
       have n1_ := aS (blk_below (g := gb712) (o := .cells #[.int .u8 a0_0, .int .u32 a0_1, .int .u32 a0_2, .int .i64 a0_3, .int .i64 a0_4, .int .u8 a0_5, .int .u16 a0_6] 61 (0, 0)) (tk BK712.out) hb)
       have n2_ := aS (below_step (tB HB.out) hb)
       have z_HO715 := fun (h0_ : b 0 = true) (h1_ : b 23 = false) => (show Kd.R (Kd.int .u8) 5 w18 w.heap.size (fun k_ => (w.heap.size ≤ k_)) v714 y713 from by first | exact (Kd.R_elder' (tR (Q_HO715 h0_ h1_)) (Kd.R_base ho19) hb) | exact Kd.R_mono (Kd.R_elder' (tR (Q_HO715 h0_ h1_)) (Kd.R_base ho19) hb) (fun _ h_ => by first | trivial | exact h_ | exact h_.1))
       have z_HO718 := fun (h0_ : b 5 = true) (h1_ : b 23 = false) => (show Kd.R (Kd.int .u8) 5 w18 w.heap.size (fun k_ => (w.heap.size ≤ k_)) v717 t716 from by first | exact (Kd.R_elder' (tR (Q_HO718 h0_ h1_)) (Kd.R_base ho19) hb) | exact Kd.R_mono (Kd.R_elder' (tR (Q_HO718 h0_ h1_)) (Kd.R_base ho19) hb) (fun _ h_ => by first | trivial | exact h_ | exact h_.1))
       have z_HO721 := fun (h0_ : b 9 = true) (h1_ : b 23 = false) => (show Kd.R (Kd.int .u8) 5 w18 w.heap.size (fun k_ => (w.heap.size ≤ k_)) v720 t719 from by first | exact (Kd.R_elder' (tR (Q_HO721 h0_ h1_)) (Kd.R_base ho19) hb) | exact Kd.R_mono (Kd.R_elder' (tR (Q_HO721 h0_ h1_)) (Kd.R_base ho19) hb) (fun _ h_ => by first | trivial | exact h_ | exact h_.1))
       have z_HO727 := fun (h0_ : b 18 = true) (h1_ : b 23 = false) => (show Kd.R (Kd.int .u8) 5 w18 w.heap.size (fun k_ => (w.heap.size ≤ k_)) v726 t725 from by first | exact (Kd.R_elder' (tR (Q_HO727 h0_ h1_)) (Kd.R_base ho19) hb) | exact Kd.R_mono (Kd.R_elder' (tR (Q_HO727 h0_ h1_)) (Kd.R_base ho19) hb) (fun _ h_ => by first | trivial | exact h_ | exact h_.1))
       have z_HO730 := fun (h0_ : b 22 = true) (h1_ : b 23 = false) => (show Kd.R (Kd.int .u8) 5 w18 w.heap.size (fun k_ => (w.heap.size ≤ k_)) v729 t728 from by first | exact (Kd.R_elder' (tR (Q_HO730 h0_ h1_)) (Kd.R_base ho19) hb) | exact Kd.R_mono (Kd.R_elder' (tR (Q_HO730 h0_ h1_)) (Kd.R_base ho19) hb) (fun _ h_ => by first | trivial | exact h_ | exact h_.1))
       clear BK712 HB; have HO724 := n0_; have BK712 := n1_; have HB := n2_; clear n0_ n1_ n2_ hb ho19
       refine hK.out _ _ ⟨v714, v717, v720, v723, v726, v729, v732, v735, m25_, (by rw [ha.out]; exact putSel_upk 10 hb_ rfl rfl rfl), (tk BK712.out), (tB HB.out), z_HO715, z_HO718, z_HO721, fun _ _ => (tR (Kd.R_mono HO724.out (fun _ hk => by first | exact hk.1 | exact hk | exact hk.1.1 | (simp_all; done)))), z_HO727, z_HO730, fun h0_ => absurd ((hoff 23 (by kernel_rfl)).symm.trans h0_) (by decide), fun h0_ => absurd ((hoff 24 (by kernel_rfl)).symm.trans h0_) (by decide), fun h0_ => absurd ((hoff 25 (by kernel_rfl)).symm.trans h0_) (by decide)⟩
      refine steps_cons ?_ ?_
      ·rintro b a w' ⟨v714, v717, v720, v723, v726, v729, v732, v735, m25_, ha, Q_BK712, Q_HB, Q_HO715, Q_HO718, Q_HO721, Q_HO724, Q_HO727, Q_HO730, Q_HO733, Q_HO736, Q_X25_⟩ hb_ hon hoff
       refine ⟨_, rfl, fun K hK => ?_⟩
       have e25 : a.tmps[25]? = some (.pointer (some ⟨gb712, 1, none⟩)) := by rw [ha]; exact (putSel_off rfl).trans rfl
       replace ha := aS ha
       have BK712 := aS Q_BK712
       have HB := aS Q_HB
       have hc0_ : w'.cell? ⟨gb712, 0, none⟩ = some (.int .u8 a0_0) := (blk_cell BK712.out 0).trans rfl
       have hc1_ : w'.cell? ⟨gb712, 1, none⟩ = some (.int .u32 a0_1) := (blk_cell BK712.out 1).trans rfl
       have hc2_ : w'.cell? ⟨gb712, 2, none⟩ = some (.int .u32 a0_2) := (blk_cell BK712.out 2).trans rfl
       have hc3_ : w'.cell? ⟨gb712, 3, none⟩ = some (.int .i64 a0_3) := (blk_cell BK712.out 3).trans rfl
       have hc4_ : w'.cell? ⟨gb712, 4, none⟩ = some (.int .i64 a0_4) := (blk_cell BK712.out 4).trans rfl
       have hc5_ : w'.cell? ⟨gb712, 5, none⟩ = some (.int .u8 a0_5) := (blk_cell BK712.out 5).trans rfl
       have hc6_ : w'.cell? ⟨gb712, 6, none⟩ = some (.int .u16 a0_6) := (blk_cell BK712.out 6).trans rfl
       refine value_ (w1 := w') (v := .int .u32 a0_1) (by rfl) rfl ?_ ?_
       ·go_simp
        (try simp only [i64_w])
        try rfl
       refine hK.out _ _ ⟨v714, v717, v720, v723, v726, v729, v732, v735, m25_, (by rw [ha.out]; exact putSel_upk 11 hb_ rfl rfl rfl), Q_BK712, Q_HB, Q_HO715, Q_HO718, Q_HO721, Q_HO724, fun h0_ _ => absurd ((hoff 18 (by kernel_rfl)).symm.trans h0_) (by decide), fun h0_ _ => absurd ((hoff 22 (by kernel_rfl)).symm.trans h0_) (by decide), fun h0_ => absurd ((hoff 23 (by kernel_rfl)).symm.trans h0_) (by decide), fun h0_ => absurd ((hoff 24 (by kernel_rfl)).symm.trans h0_) (by decide), fun h0_ => absurd ((hoff 25 (by kernel_rfl)).symm.trans h0_) (by decide)⟩
      refine steps_cons ?_ ?_
      ·rintro b a w' ⟨v714, v717, v720, v723, v726, v729, v732, v735, m25_, ha, Q_BK712, Q_HB, Q_HO715, Q_HO718, Q_HO721, Q_HO724, Q_HO727, Q_HO730, Q_HO733, Q_HO736, Q_X25_⟩ hb_ hon hoff
       refine ⟨_, rfl, fun K hK => ?_⟩
       have e26 : a.tmps[26]? = some (.int .u32 a0_1) := by rw [ha]; exact putSel_on (e := (16, 26, .int .u32 a0_1)) 11 rfl rfl (hon 16 (by kernel_rfl)) rfl
       replace ha := aS ha
       have BK712 := aS Q_BK712
       have HB := aS Q_HB
       refine value_ (w1 := w') (v := .int .u64 (IntKind.u64.wrap (a0_1))) (by rfl) rfl ?_ ?_
       ·go_simp
        (try simp only [i64_w])
        try rfl
       refine hK.out _ _ ⟨v714, v717, v720, v723, v726, v729, v732, v735, m25_, (by rw [ha.out]; exact putSel_upk 12 hb_ rfl rfl rfl), Q_BK712, Q_HB, Q_HO715, Q_HO718, Q_HO721, Q_HO724, fun h0_ _ => absurd ((hoff 18 (by kernel_rfl)).symm.trans h0_) (by decide), fun h0_ _ => absurd ((hoff 22 (by kernel_rfl)).symm.trans h0_) (by decide), fun h0_ => absurd ((hoff 23 (by kernel_rfl)).symm.trans h0_) (by decide), fun h0_ => absurd ((hoff 24 (by kernel_rfl)).symm.trans h0_) (by decide), fun h0_ => absurd ((hoff 25 (by kernel_rfl)).symm.trans h0_) (by decide)⟩
      refine steps_cons ?_ ?_
      ·rintro b a w' ⟨v714, v717, v720, v723, v726, v729, v732, v735, m25_, ha, Q_BK712, Q_HB, Q_HO715, Q_HO718, Q_HO721, Q_HO724, Q_HO727, Q_HO730, Q_HO733, Q_HO736, Q_X25_⟩ hb_ hon hoff
       refine ⟨_, rfl, fun K hK => ?_⟩
       have e27 : a.tmps[27]? = some (.int .u64 (IntKind.u64.wrap (a0_1))) := by rw [ha]; exact putSel_on (e := (17, 27, .int .u64 (IntKind.u64.wrap (a0_1)))) 12 rfl rfl (hon 17 (by kernel_rfl)) rfl
       replace ha := aS ha
       have BK712 := aS Q_BK712
       have HB := aS Q_HB
       have HO718 := aS (Q_HO718 (hon 5 (by kernel_rfl)) (hoff 23 (by kernel_rfl)))
       have HO721 := aS (Q_HO721 (hon 9 (by kernel_rfl)) (hoff 23 (by kernel_rfl)))
       refine goes_ Try.func68 (by kernel_rfl) rfl #[.int .u64 (IntKind.u64.wrap (a0_1)), .int .i64 4] (by rfl) rfl rfl (by first | (simp only [List.map_toArray, List.map_cons, List.map_nil, Act.eval, Array.getD_eq_getD_getElem?, Option.getD_some, e27]; done) | (simp only [List.map_toArray, List.map_cons, List.map_nil, Act.eval, Array.getD_eq_getD_getElem?, Option.getD_some, e27]; rfl)) ?_
       with_reducible refine (field_Cut.calls k (IntKind.u64.wrap (a0_1)) 4 t725 _ A7.out).mono ?_
       rintro e w21 ⟨v726, rfl, ho0, hb⟩; refine ⟨_, rfl, ?_⟩
       have n0_ := aS (Kd.R_elder' (tR HO718.out) (Kd.R_base ho0) hb)
       have n1_ := aS (Kd.R_elder' (tR HO721.out) (Kd.R_base ho0) hb)
       have n2_ := aS (Kd.R_lower (Kd.R_new' (Kd.R_new' (Kd.R_newM (M := fun k_ => (w.heap.size ≤ k_)) ho0 (below_size (tB HB.out)) (fun k_ h_ => h_)) (Kd.R_lt (tR HO718.out))) (Kd.R_lt (tR HO721.out))) (below_size (tB HB.out)))
       have n3_ := aS (blk_below (g := gb712) (o := .cells #[.int .u8 a0_0, .int .u32 a0_1, .int .u32 a0_2, .int .i64 a0_3, .int .i64 a0_4, .int .u8 a0_5, .int .u16 a0_6] 61 (0, 0)) (tk BK712.out) hb)
       have n4_ := aS (below_step (tB HB.out) hb)
       have z_HO715 := fun (h0_ : b 0 = true) (h1_ : b 23 = false) => (show Kd.R (Kd.int .u8) 5 w21 w.heap.size (fun k_ => (w.heap.size ≤ k_)) v714 y713 from by first | exact (Kd.R_elder' (tR (Q_HO715 h0_ h1_)) (Kd.R_base ho0) hb) | exact Kd.R_mono (Kd.R_elder' (tR (Q_HO715 h0_ h1_)) (Kd.R_base ho0) hb) (fun _ h_ => by first | trivial | exact h_ | exact h_.1))
       have z_HO724 := fun (h0_ : b 14 = true) (h1_ : b 23 = false) => (show Kd.R (Kd.int .u8) 5 w21 w.heap.size (fun k_ => (w.heap.size ≤ k_)) v723 y722 from by first | exact (Kd.R_elder' (tR (Q_HO724 h0_ h1_)) (Kd.R_base ho0) hb) | exact Kd.R_mono (Kd.R_elder' (tR (Q_HO724 h0_ h1_)) (Kd.R_base ho0) hb) (fun _ h_ => by first | trivial | exact h_ | exact h_.1))
       clear HO718 HO721 BK712 HB; have HO718 := n0_; have HO721 := n1_; have HO727 := n2_; have BK712 := n3_; have HB := n4_; clear n0_ n1_ n2_ n3_ n4_; (try clear hb); (try clear hb2); (try clear hk); (try clear hi); (try clear ho0)
       refine hK.out _ _ ⟨v714, v717, v720, v723, v726, v729, v732, v735, m25_, (by rw [ha.out]; exact putSel_upk 13 hb_ rfl rfl rfl), (tk BK712.out), (tB HB.out), z_HO715, fun _ _ => (tR (Kd.R_mono HO718.out (fun _ hk => by first | exact ⟨hk.1.1, ⟨hk.1.2, hk.2⟩⟩ | exact ⟨hk.1, ⟨hk.1.2, hk.2⟩⟩ | exact hk | exact hk.1 | exact hk.1.1 | (simp_all; done)))), fun _ _ => (tR (Kd.R_mono HO721.out (fun _ hk => by first | exact ⟨hk.1.1, ⟨hk.1.2, hk.2⟩⟩ | exact ⟨hk.1, ⟨hk.1.2, hk.2⟩⟩ | exact hk | exact hk.1 | exact hk.1.1 | (simp_all; done)))), z_HO724, fun _ _ => (tR (Kd.R_mono HO727.out (fun _ hk => by first | exact ⟨hk.1.1.1, ⟨hk.1.2, hk.2⟩⟩ | exact ⟨hk.1.1, ⟨hk.1.2, hk.2⟩⟩ | exact hk | exact hk.1 | exact hk.1.1 | (simp_all; done)))), fun h0_ _ => absurd ((hoff 22 (by kernel_rfl)).symm.trans h0_) (by decide), fun h0_ => absurd ((hoff 23 (by kernel_rfl)).symm.trans h0_) (by decide), fun h0_ => absurd ((hoff 24 (by kernel_rfl)).symm.trans h0_) (by decide), fun h0_ => absurd ((hoff 25 (by kernel_rfl)).symm.trans h0_) (by decide)⟩
      refine steps_cons ?_ ?_
      ·rintro b a w' ⟨v714, v717, v720, v723, v726, v729, v732, v735, m25_, ha, Q_BK712, Q_HB, Q_HO715, Q_HO718, Q_HO721, Q_HO724, Q_HO727, Q_HO730, Q_HO733, Q_HO736, Q_X25_⟩ hb_ hon hoff
       refine ⟨_, rfl, fun K hK => ?_⟩
       have e29 : a.tmps[29]? = some (.pointer (some ⟨gb712, 2, none⟩)) := by rw [ha]; exact (putSel_off rfl).trans rfl
       replace ha := aS ha
       have BK712 := aS Q_BK712
       have HB := aS Q_HB
       have hc0_ : w'.cell? ⟨gb712, 0, none⟩ = some (.int .u8 a0_0) := (blk_cell BK712.out 0).trans rfl
       have hc1_ : w'.cell? ⟨gb712, 1, none⟩ = some (.int .u32 a0_1) := (blk_cell BK712.out 1).trans rfl
       have hc2_ : w'.cell? ⟨gb712, 2, none⟩ = some (.int .u32 a0_2) := (blk_cell BK712.out 2).trans rfl
       have hc3_ : w'.cell? ⟨gb712, 3, none⟩ = some (.int .i64 a0_3) := (blk_cell BK712.out 3).trans rfl
       have hc4_ : w'.cell? ⟨gb712, 4, none⟩ = some (.int .i64 a0_4) := (blk_cell BK712.out 4).trans rfl
       have hc5_ : w'.cell? ⟨gb712, 5, none⟩ = some (.int .u8 a0_5) := (blk_cell BK712.out 5).trans rfl
       have hc6_ : w'.cell? ⟨gb712, 6, none⟩ = some (.int .u16 a0_6) := (blk_cell BK712.out 6).trans rfl
       refine value_ (w1 := w') (v := .int .u32 a0_2) (by rfl) rfl ?_ ?_
       ·go_simp
        (try simp only [i64_w])
        try rfl
       refine hK.out _ _ ⟨v714, v717, v720, v723, v726, v729, v732, v735, m25_, (by rw [ha.out]; exact putSel_upk 14 hb_ rfl rfl rfl), Q_BK712, Q_HB, Q_HO715, Q_HO718, Q_HO721, Q_HO724, Q_HO727, fun h0_ _ => absurd ((hoff 22 (by kernel_rfl)).symm.trans h0_) (by decide), fun h0_ => absurd ((hoff 23 (by kernel_rfl)).symm.trans h0_) (by decide), fun h0_ => absurd ((hoff 24 (by kernel_rfl)).symm.trans h0_) (by decide), fun h0_ => absurd ((hoff 25 (by kernel_rfl)).symm.trans h0_) (by decide)⟩
      refine steps_cons ?_ ?_
      ·rintro b a w' ⟨v714, v717, v720, v723, v726, v729, v732, v735, m25_, ha, Q_BK712, Q_HB, Q_HO715, Q_HO718, Q_HO721, Q_HO724, Q_HO727, Q_HO730, Q_HO733, Q_HO736, Q_X25_⟩ hb_ hon hoff
       refine ⟨_, rfl, fun K hK => ?_⟩
       have e30 : a.tmps[30]? = some (.int .u32 a0_2) := by rw [ha]; exact putSel_on (e := (20, 30, .int .u32 a0_2)) 14 rfl rfl (hon 20 (by kernel_rfl)) rfl
       replace ha := aS ha
       have BK712 := aS Q_BK712
       have HB := aS Q_HB
       refine value_ (w1 := w') (v := .int .u64 (IntKind.u64.wrap (a0_2))) (by rfl) rfl ?_ ?_
       ·go_simp
        (try simp only [i64_w])
        try rfl
       refine hK.out _ _ ⟨v714, v717, v720, v723, v726, v729, v732, v735, m25_, (by rw [ha.out]; exact putSel_upk 15 hb_ rfl rfl rfl), Q_BK712, Q_HB, Q_HO715, Q_HO718, Q_HO721, Q_HO724, Q_HO727, fun h0_ _ => absurd ((hoff 22 (by kernel_rfl)).symm.trans h0_) (by decide), fun h0_ => absurd ((hoff 23 (by kernel_rfl)).symm.trans h0_) (by decide), fun h0_ => absurd ((hoff 24 (by kernel_rfl)).symm.trans h0_) (by decide), fun h0_ => absurd ((hoff 25 (by kernel_rfl)).symm.trans h0_) (by decide)⟩
      refine steps_cons ?_ ?_
      ·rintro b a w' ⟨v714, v717, v720, v723, v726, v729, v732, v735, m25_, ha, Q_BK712, Q_HB, Q_HO715, Q_HO718, Q_HO721, Q_HO724, Q_HO727, Q_HO730, Q_HO733, Q_HO736, Q_X25_⟩ hb_ hon hoff
       refine ⟨_, rfl, fun K hK => ?_⟩
       have e31 : a.tmps[31]? = some (.int .u64 (IntKind.u64.wrap (a0_2))) := by rw [ha]; exact putSel_on (e := (21, 31, .int .u64 (IntKind.u64.wrap (a0_2)))) 15 rfl rfl (hon 21 (by kernel_rfl)) rfl
       replace ha := aS ha
       have BK712 := aS Q_BK712
       have HB := aS Q_HB
       have HO718 := aS (Q_HO718 (hon 5 (by kernel_rfl)) (hoff 23 (by kernel_rfl)))
       have HO721 := aS (Q_HO721 (hon 9 (by kernel_rfl)) (hoff 23 (by kernel_rfl)))
       have HO727 := aS (Q_HO727 (hon 18 (by kernel_rfl)) (hoff 23 (by kernel_rfl)))
       refine goes_ Try.func68 (by kernel_rfl) rfl #[.int .u64 (IntKind.u64.wrap (a0_2)), .int .i64 4] (by rfl) rfl rfl (by first | (simp only [List.map_toArray, List.map_cons, List.map_nil, Act.eval, Array.getD_eq_getD_getElem?, Option.getD_some, e31]; done) | (simp only [List.map_toArray, List.map_cons, List.map_nil, Act.eval, Array.getD_eq_getD_getElem?, Option.getD_some, e31]; rfl)) ?_
       with_reducible refine (field_Cut.calls k (IntKind.u64.wrap (a0_2)) 4 t728 _ A8.out).mono ?_
       rintro e w22 ⟨v729, rfl, ho0, hb⟩; refine ⟨_, rfl, ?_⟩
       have n0_ := aS (Kd.R_elder' (tR HO718.out) (Kd.R_base ho0) hb)
       have n1_ := aS (Kd.R_elder' (tR HO721.out) (Kd.R_base ho0) hb)
       have n2_ := aS (Kd.R_elder' (tR HO727.out) (Kd.R_base ho0) hb)
       have n3_ := aS (Kd.R_lower (Kd.R_new' (Kd.R_new' (Kd.R_new' (Kd.R_newM (M := fun k_ => (w.heap.size ≤ k_)) ho0 (below_size (tB HB.out)) (fun k_ h_ => h_)) (Kd.R_lt (tR HO718.out))) (Kd.R_lt (tR HO721.out))) (Kd.R_lt (tR HO727.out))) (below_size (tB HB.out)))
       have n4_ := aS (blk_below (g := gb712) (o := .cells #[.int .u8 a0_0, .int .u32 a0_1, .int .u32 a0_2, .int .i64 a0_3, .int .i64 a0_4, .int .u8 a0_5, .int .u16 a0_6] 61 (0, 0)) (tk BK712.out) hb)
       have n5_ := aS (below_step (tB HB.out) hb)
       have z_HO715 := fun (h0_ : b 0 = true) (h1_ : b 23 = false) => (show Kd.R (Kd.int .u8) 5 w22 w.heap.size (fun k_ => (w.heap.size ≤ k_)) v714 y713 from by first | exact (Kd.R_elder' (tR (Q_HO715 h0_ h1_)) (Kd.R_base ho0) hb) | exact Kd.R_mono (Kd.R_elder' (tR (Q_HO715 h0_ h1_)) (Kd.R_base ho0) hb) (fun _ h_ => by first | trivial | exact h_ | exact h_.1))
       have z_HO724 := fun (h0_ : b 14 = true) (h1_ : b 23 = false) => (show Kd.R (Kd.int .u8) 5 w22 w.heap.size (fun k_ => (w.heap.size ≤ k_)) v723 y722 from by first | exact (Kd.R_elder' (tR (Q_HO724 h0_ h1_)) (Kd.R_base ho0) hb) | exact Kd.R_mono (Kd.R_elder' (tR (Q_HO724 h0_ h1_)) (Kd.R_base ho0) hb) (fun _ h_ => by first | trivial | exact h_ | exact h_.1))
       clear HO718 HO721 HO727 BK712 HB; have HO718 := n0_; have HO721 := n1_; have HO727 := n2_; have HO730 := n3_; have BK712 := n4_; have HB := n5_; clear n0_ n1_ n2_ n3_ n4_ n5_; (try clear hb); (try clear hb2); (try clear hk); (try clear hi); (try clear ho0)
       refine hK.out _ _ ⟨v714, v717, v720, v723, v726, v729, v732, v735, m25_, (by rw [ha.out]; exact putSel_upk 16 hb_ rfl rfl rfl), (tk BK712.out), (tB HB.out), z_HO715, fun _ _ => (tR (Kd.R_mono HO718.out (fun _ hk => by first | exact ⟨hk.1.1, ⟨hk.1.2.1, ⟨hk.1.2.2, hk.2⟩⟩⟩ | exact ⟨hk.1, ⟨hk.1.2.1, ⟨hk.1.2.2, hk.2⟩⟩⟩ | exact hk | exact hk.1 | exact hk.1.1 | (simp_all; done)))), fun _ _ => (tR (Kd.R_mono HO721.out (fun _ hk => by first | exact ⟨hk.1.1, ⟨hk.1.2.1, ⟨hk.1.2.2, hk.2⟩⟩⟩ | exact ⟨hk.1, ⟨hk.1.2.1, ⟨hk.1.2.2, hk.2⟩⟩⟩ | exact hk | exact hk.1 | exact hk.1.1 | (simp_all; done)))), z_HO724, fun _ _ => (tR (Kd.R_mono HO727.out (fun _ hk => by first | exact ⟨hk.1.1, ⟨hk.1.2.1, ⟨hk.1.2.2, hk.2⟩⟩⟩ | exact ⟨hk.1, ⟨hk.1.2.1, ⟨hk.1.2.2, hk.2⟩⟩⟩ | exact hk | exact hk.1 | exact hk.1.1 | (simp_all; done)))), fun _ _ => (tR (Kd.R_mono HO730.out (fun _ hk => by first | exact ⟨hk.1.1.1.1, ⟨hk.1.1.2, ⟨hk.1.2, hk.2⟩⟩⟩ | exact ⟨hk.1.1.1, ⟨hk.1.2, ⟨hk.1.2, hk.2⟩⟩⟩ | exact ⟨hk.1.1.1, ⟨hk.1.1.2, ⟨hk.1.2, hk.2⟩⟩⟩ | exact hk | exact hk.1 | exact hk.1.1 | (simp_all; done)))), fun h0_ => absurd ((hoff 23 (by kernel_rfl)).symm.trans h0_) (by decide), fun h0_ => absurd ((hoff 24 (by kernel_rfl)).symm.trans h0_) (by decide), fun h0_ => absurd ((hoff 25 (by kernel_rfl)).symm.trans h0_) (by decide)⟩
      refine steps_cons ?_ ?_
      ·rintro b a w' ⟨v714, v717, v720, v723, v726, v729, v732, v735, m25_, ha, Q_BK712, Q_HB, Q_HO715, Q_HO718, Q_HO721, Q_HO724, Q_HO727, Q_HO730, Q_HO733, Q_HO736, Q_X25_⟩ hb_ hon hoff
       refine ⟨_, rfl, fun K hK => ?_⟩
       have e10 : a.tmps[10]? = some (v714) := by rw [ha]; exact putSel_on (e := (0, 10, v714)) 0 rfl rfl (hon 0 (by kernel_rfl)) rfl
       have e15 : a.tmps[15]? = some (v717) := by rw [ha]; exact putSel_on (e := (5, 15, v717)) 4 rfl rfl (hon 5 (by kernel_rfl)) rfl
       have e19 : a.tmps[19]? = some (v720) := by rw [ha]; exact putSel_on (e := (9, 19, v720)) 7 rfl rfl (hon 9 (by kernel_rfl)) rfl
       have e24 : a.tmps[24]? = some (v723) := by rw [ha]; exact putSel_on (e := (14, 24, v723)) 10 rfl rfl (hon 14 (by kernel_rfl)) rfl
       have e28 : a.tmps[28]? = some (v726) := by rw [ha]; exact putSel_on (e := (18, 28, v726)) 13 rfl rfl (hon 18 (by kernel_rfl)) rfl
       have e32 : a.tmps[32]? = some (v729) := by rw [ha]; exact putSel_on (e := (22, 32, v729)) 16 rfl rfl (hon 22 (by kernel_rfl)) rfl
       replace ha := aS ha
       have BK712 := aS Q_BK712
       have HB := aS Q_HB
       have HO715 := aS (Q_HO715 (hon 0 (by kernel_rfl)) hb_)
       have HO718 := aS (Q_HO718 (hon 5 (by kernel_rfl)) hb_)
       have HO721 := aS (Q_HO721 (hon 9 (by kernel_rfl)) hb_)
       have HO724 := aS (Q_HO724 (hon 14 (by kernel_rfl)) hb_)
       have HO727 := aS (Q_HO727 (hon 18 (by kernel_rfl)) hb_)
       have HO730 := aS (Q_HO730 (hon 22 (by kernel_rfl)) hb_)
       obtain ⟨Ao27, co27, eo27⟩ := Kd.R_slice HO715.out
       (first | subst eo27 | (injection eo27 with f1_ f2_ f3_; have f4_ := f1_.symm; have f5_ := f3_.symm; clear f1_ f2_ f3_; subst f4_; subst f5_))
       obtain ⟨Ao28, co28, eo28⟩ := Kd.R_slice HO718.out
       (first | subst eo28 | (injection eo28 with f1_ f2_ f3_; have f4_ := f1_.symm; have f5_ := f3_.symm; clear f1_ f2_ f3_; subst f4_; subst f5_))
       obtain ⟨Ao29, co29, eo29⟩ := Kd.R_slice HO721.out
       (first | subst eo29 | (injection eo29 with f1_ f2_ f3_; have f4_ := f1_.symm; have f5_ := f3_.symm; clear f1_ f2_ f3_; subst f4_; subst f5_))
       obtain ⟨Ao30, co30, eo30⟩ := Kd.R_slice HO724.out
       (first | subst eo30 | (injection eo30 with f1_ f2_ f3_; have f4_ := f1_.symm; have f5_ := f3_.symm; clear f1_ f2_ f3_; subst f4_; subst f5_))
       obtain ⟨Ao31, co31, eo31⟩ := Kd.R_slice HO727.out
       (first | subst eo31 | (injection eo31 with f1_ f2_ f3_; have f4_ := f1_.symm; have f5_ := f3_.symm; clear f1_ f2_ f3_; subst f4_; subst f5_))
       obtain ⟨Ao32, co32, eo32⟩ := Kd.R_slice HO730.out
       (first | subst eo32 | (injection eo32 with f1_ f2_ f3_; have f4_ := f1_.symm; have f5_ := f3_.symm; clear f1_ f2_ f3_; subst f4_; subst f5_))
       refine Kd.N_lit_step (Kd.slice 5 (Kd.int .u8)) _ 22 ?hg (N' := 33) ?hd (xs := ([y713, t716, t719, y722, t725, t728] : List (List Int))) (inner := [.slice Ao27 y713.length co27, .slice Ao28 t716.length co28, .slice Ao29 t719.length co29, .slice Ao30 y722.length co30, .slice Ao31 t725.length co31, .slice Ao32 t728.length co32]) (ok := (fun k_ => (w.heap.size ≤ k_) ∧ k_ ≠ gb712)) (okp := (fun k_ => (w.heap.size ≤ k_) ∧ k_ ≠ gb712)) ?hr ?hp (fun _ hk => by first | exact hk | exact hk.1 | exact hk.1.1 | (simp_all; done)) ((show ∀ k_, w'.heap.size ≤ k_ → (fun k_ => (w.heap.size ≤ k_) ∧ k_ ≠ gb712) k_ from fun k_ hk => ⟨(Nat.le_trans (below_size (tB HB.out)) hk), Kd.freshB (g := gb712) (o := .cells #[.int .u8 a0_0, .int .u32 a0_1, .int .u32 a0_2, .int .i64 a0_3, .int .i64 a0_4, .int .u8 a0_5, .int .u16 a0_6] 61 (0, 0)) (tk BK712.out) k_ hk⟩) _ (Nat.le_refl _)) (Below.refl _ _) (Nat.le_refl _) (by simp) ?_; (case hd => rfl); (case hg => rfl); (case hr => first | (go_simp; done) | (go_simp; rfl)); (case hp => exact (Reps.one (show Kd.FK (Kd.slice 5 (Kd.int .u8)) _ _ y713 [.slice Ao27 y713.length co27] from (Kd.FK_slice_mk (Kd.R_reads' (Kd.R_mono (ok' := (fun k_ => (w.heap.size ≤ k_) ∧ k_ ≠ gb712)) (Kd.R_types (HO715.out) BK712.out (by decide)) (fun k_ hk => by first | exact ⟨hk.1.1, hk.2⟩ | exact ⟨hk.1, hk.2⟩ | exact hk | exact hk.1 | exact hk.1.1 | (simp_all; done)))).2.1 (Kd.R_F (Kd.R_mono (ok' := (fun k_ => (w.heap.size ≤ k_) ∧ k_ ≠ gb712)) (Kd.R_types (HO715.out) BK712.out (by decide)) (fun k_ hk => by first | exact ⟨hk.1.1, hk.2⟩ | exact ⟨hk.1, hk.2⟩ | exact hk | exact hk.1 | exact hk.1.1 | (simp_all; done)))))) (Reps.one (show Kd.FK (Kd.slice 5 (Kd.int .u8)) _ _ t716 [.slice Ao28 t716.length co28] from (Kd.FK_slice_mk (Kd.R_reads' (Kd.R_mono (ok' := (fun k_ => (w.heap.size ≤ k_) ∧ k_ ≠ gb712)) (Kd.R_types (HO718.out) BK712.out (by decide)) (fun k_ hk => by first | exact ⟨hk.1.1, hk.2⟩ | exact ⟨hk.1, hk.2⟩ | exact hk | exact hk.1 | exact hk.1.1 | (simp_all; done)))).2.1 (Kd.R_F (Kd.R_mono (ok' := (fun k_ => (w.heap.size ≤ k_) ∧ k_ ≠ gb712)) (Kd.R_types (HO718.out) BK712.out (by decide)) (fun k_ hk => by first | exact ⟨hk.1.1, hk.2⟩ | exact ⟨hk.1, hk.2⟩ | exact hk | exact hk.1 | exact hk.1.1 | (simp_all; done)))))) (Reps.one (show Kd.FK (Kd.slice 5 (Kd.int .u8)) _ _ t719 [.slice Ao29 t719.length co29] from (Kd.FK_slice_mk (Kd.R_reads' (Kd.R_mono (ok' := (fun k_ => (w.heap.size ≤ k_) ∧ k_ ≠ gb712)) (Kd.R_types (HO721.out) BK712.out (by decide)) (fun k_ hk => by first | exact ⟨hk.1.1, hk.2⟩ | exact ⟨hk.1, hk.2⟩ | exact hk | exact hk.1 | exact hk.1.1 | (simp_all; done)))).2.1 (Kd.R_F (Kd.R_mono (ok' := (fun k_ => (w.heap.size ≤ k_) ∧ k_ ≠ gb712)) (Kd.R_types (HO721.out) BK712.out (by decide)) (fun k_ hk => by first | exact ⟨hk.1.1, hk.2⟩ | exact ⟨hk.1, hk.2⟩ | exact hk | exact hk.1 | exact hk.1.1 | (simp_all; done)))))) (Reps.one (show Kd.FK (Kd.slice 5 (Kd.int .u8)) _ _ y722 [.slice Ao30 y722.length co30] from (Kd.FK_slice_mk (Kd.R_reads' (Kd.R_mono (ok' := (fun k_ => (w.heap.size ≤ k_) ∧ k_ ≠ gb712)) (Kd.R_types (HO724.out) BK712.out (by decide)) (fun k_ hk => by first | exact ⟨hk.1.1, hk.2⟩ | exact ⟨hk.1, hk.2⟩ | exact hk | exact hk.1 | exact hk.1.1 | (simp_all; done)))).2.1 (Kd.R_F (Kd.R_mono (ok' := (fun k_ => (w.heap.size ≤ k_) ∧ k_ ≠ gb712)) (Kd.R_types (HO724.out) BK712.out (by decide)) (fun k_ hk => by first | exact ⟨hk.1.1, hk.2⟩ | exact ⟨hk.1, hk.2⟩ | exact hk | exact hk.1 | exact hk.1.1 | (simp_all; done)))))) (Reps.one (show Kd.FK (Kd.slice 5 (Kd.int .u8)) _ _ t725 [.slice Ao31 t725.length co31] from (Kd.FK_slice_mk (Kd.R_reads' (Kd.R_mono (ok' := (fun k_ => (w.heap.size ≤ k_) ∧ k_ ≠ gb712)) (Kd.R_types (HO727.out) BK712.out (by decide)) (fun k_ hk => by first | exact ⟨hk.1.1, hk.2⟩ | exact ⟨hk.1, hk.2⟩ | exact hk | exact hk.1 | exact hk.1.1 | (simp_all; done)))).2.1 (Kd.R_F (Kd.R_mono (ok' := (fun k_ => (w.heap.size ≤ k_) ∧ k_ ≠ gb712)) (Kd.R_types (HO727.out) BK712.out (by decide)) (fun k_ hk => by first | exact ⟨hk.1.1, hk.2⟩ | exact ⟨hk.1, hk.2⟩ | exact hk | exact hk.1 | exact hk.1.1 | (simp_all; done)))))) (Reps.one (show Kd.FK (Kd.slice 5 (Kd.int .u8)) _ _ t728 [.slice Ao32 t728.length co32] from (Kd.FK_slice_mk (Kd.R_reads' (Kd.R_mono (ok' := (fun k_ => (w.heap.size ≤ k_) ∧ k_ ≠ gb712)) (Kd.R_types (HO730.out) BK712.out (by decide)) (fun k_ hk => by first | exact ⟨hk.1.1, hk.2⟩ | exact ⟨hk.1, hk.2⟩ | exact hk | exact hk.1 | exact hk.1.1 | (simp_all; done)))).2.1 (Kd.R_F (Kd.R_mono (ok' := (fun k_ => (w.heap.size ≤ k_) ∧ k_ ≠ gb712)) (Kd.R_types (HO730.out) BK712.out (by decide)) (fun k_ hk => by first | exact ⟨hk.1.1, hk.2⟩ | exact ⟨hk.1, hk.2⟩ | exact hk | exact hk.1 | exact hk.1.1 | (simp_all; done)))))) (Reps.none _ _))))))))
       intro v732 w33 ho34 hb hg_ hnew_; clear hg_ hnew_
       (first | rw [← Ny731.out] at ho34 | (simp only [Int.reduceToNat] at ho34; rw [← Ny731.out] at ho34))
       have n0_ := aS (Kd.N_lower ho34 (below_size (tB HB.out)))
       have n1_ := aS (blk_below (g := gb712) (o := .cells #[.int .u8 a0_0, .int .u32 a0_1, .int .u32 a0_2, .int .i64 a0_3, .int .i64 a0_4, .int .u8 a0_5, .int .u16 a0_6] 61 (0, 0)) (tk BK712.out) hb)
       have n2_ := aS (below_step (tB HB.out) hb)
       clear BK712 HB HO715 HO718 HO721 HO724 HO727 HO730; have HO733 := n0_; have BK712 := n1_; have HB := n2_; clear n0_ n1_ n2_ hb ho34
       refine hK.out _ _ ⟨.slice Ao27 y713.length co27, .slice Ao28 t716.length co28, .slice Ao29 t719.length co29, .slice Ao30 y722.length co30, .slice Ao31 t725.length co31, .slice Ao32 t728.length co32, v732, v735, m25_, (by rw [ha.out]; exact putSel_upk 17 hb_ rfl rfl rfl), (tk BK712.out), (tB HB.out), fun _ h1_ => absurd ((up_self b 23).symm.trans h1_) (by decide), fun _ h1_ => absurd ((up_self b 23).symm.trans h1_) (by decide), fun _ h1_ => absurd ((up_self b 23).symm.trans h1_) (by decide), fun _ h1_ => absurd ((up_self b 23).symm.trans h1_) (by decide), fun _ h1_ => absurd ((up_self b 23).symm.trans h1_) (by decide), fun _ h1_ => absurd ((up_self b 23).symm.trans h1_) (by decide), fun _ => (by (with_reducible repeat (first | apply Kd.N_alloc | apply Kd.N_drewN | apply Kd.N_drew)); first | exact HO733.out | exact Kd.N_mono HO733.out (fun _ hk => by first | exact hk | exact hk.1 | exact hk.1.1 | (simp_all; done))), fun h0_ => absurd ((hoff 24 (by kernel_rfl)).symm.trans h0_) (by decide), fun h0_ => absurd ((hoff 25 (by kernel_rfl)).symm.trans h0_) (by decide)⟩
      refine steps_cons ?_ ?_
      ·rintro b a w' ⟨v714, v717, v720, v723, v726, v729, v732, v735, m25_, ha, Q_BK712, Q_HB, Q_HO715, Q_HO718, Q_HO721, Q_HO724, Q_HO727, Q_HO730, Q_HO733, Q_HO736, Q_X25_⟩ hb_ hon hoff
       refine ⟨_, rfl, fun K hK => ?_⟩
       have e33 : a.tmps[33]? = some (v732) := by rw [ha]; exact putSel_on (e := (23, 33, v732)) 17 rfl rfl (hon 23 (by kernel_rfl)) rfl
       replace ha := aS ha
       have BK712 := aS Q_BK712
       have HB := aS Q_HB
       have HO733 := aS (Q_HO733 (hon 23 (by kernel_rfl)))
       obtain ⟨Ao35, co35, eo35⟩ := Kd.N_slice HO733.out
       (first | subst eo35 | (injection eo35 with f1_ f2_ f3_; have f4_ := f1_.symm; have f5_ := f3_.symm; clear f1_ f2_ f3_; subst f4_; subst f5_))
       refine goes_ Try.func67 (by kernel_rfl) rfl #[.slice Ao35 y731.length co35] (by rfl) rfl rfl (by first | (simp only [List.map_toArray, List.map_cons, List.map_nil, Act.eval, Array.getD_eq_getD_getElem?, Option.getD_some, e33]; done) | (simp only [List.map_toArray, List.map_cons, List.map_nil, Act.eval, Array.getD_eq_getD_getElem?, Option.getD_some, e33]; rfl)) ?_
       with_reducible refine (slices_Concat_byte_byte.calls k _ _ y731 t734 _ ?side1 ?side2 A9.out).mono ?_
       (case side1 => repeat (first | exact (Kd.N_reads' HO733.out).2.2 | (with_reducible refine Kd.C_alloc ?_ _) | (with_reducible refine Kd.C_drewN ?_ _) | (with_reducible refine Kd.C_drew ?_)))
       (case side2 => exact (Kd.N_reads' HO733.out).2.1)
       rintro e w36 ⟨v735, rfl, ho0, hb⟩; refine ⟨_, rfl, ?_⟩
       replace HO733 := aS (Kd.N_elder' (by (with_reducible repeat (first | apply Kd.N_alloc | apply Kd.N_drewN | apply Kd.N_drew)); exact HO733.out) (Kd.R_base ho0) hb)
       have HO736 := aS (Kd.R_lower (Kd.R_newM (M := fun k_ => (w.heap.size ≤ k_)) ho0 (below_size (tB HB.out)) (fun k_ h_ => h_)) (below_size (tB HB.out)))
       replace BK712 := aS (blk_below (g := gb712) (o := .cells #[.int .u8 a0_0, .int .u32 a0_1, .int .u32 a0_2, .int .i64 a0_3, .int .i64 a0_4, .int .u8 a0_5, .int .u16 a0_6] 61 (0, 0)) (tk BK712.out) hb)
       replace HB := aS (below_step (tB HB.out) hb)
       (try clear hb); (try clear hb2); (try clear hk); (try clear hi); (try clear ho0)
       refine hK.out _ _ ⟨v714, v717, v720, v723, v726, v729, .slice Ao35 y731.length co35, v735, m25_, (by rw [ha.out]; exact putSel_upk 18 hb_ rfl rfl rfl), (tk BK712.out), (tB HB.out), fun _ h1_ => absurd ((hon 23 (by kernel_rfl)).symm.trans h1_) (by decide), fun _ h1_ => absurd ((hon 23 (by kernel_rfl)).symm.trans h1_) (by decide), fun _ h1_ => absurd ((hon 23 (by kernel_rfl)).symm.trans h1_) (by decide), fun _ h1_ => absurd ((hon 23 (by kernel_rfl)).symm.trans h1_) (by decide), fun _ h1_ => absurd ((hon 23 (by kernel_rfl)).symm.trans h1_) (by decide), fun _ h1_ => absurd ((hon 23 (by kernel_rfl)).symm.trans h1_) (by decide), fun _ => (by (with_reducible repeat (first | apply Kd.N_alloc | apply Kd.N_drewN | apply Kd.N_drew)); exact Kd.N_mono HO733.out (fun _ hk => by first | exact ⟨hk.1.1, ⟨hk.2, hk.1.2⟩⟩ | exact ⟨hk.1, ⟨hk.2, hk.1.2⟩⟩ | exact hk | exact hk.1 | exact hk.1.1 | (simp_all; done))), fun _ => (tR (Kd.R_mono HO736.out (fun _ hk => by first | exact hk.1 | exact hk | exact hk.1.1 | (simp_all; done)))), fun h0_ => absurd ((hoff 25 (by kernel_rfl)).symm.trans h0_) (by decide)⟩
      refine steps_cons ?_ ?_
      ·rintro b a w' ⟨v714, v717, v720, v723, v726, v729, v732, v735, m25_, ha, Q_BK712, Q_HB, Q_HO715, Q_HO718, Q_HO721, Q_HO724, Q_HO727, Q_HO730, Q_HO733, Q_HO736, Q_X25_⟩ hb_ hon hoff
       refine ⟨_, rfl, fun K hK => ?_⟩
       have e34 : a.tmps[34]? = some (v735) := by rw [ha]; exact putSel_on (e := (24, 34, v735)) 18 rfl rfl (hon 24 (by kernel_rfl)) rfl
       replace ha := aS ha
       have BK712 := aS Q_BK712
       have HB := aS Q_HB
       have HO733 := aS (Q_HO733 (hon 23 (by kernel_rfl)))
       have HO736 := aS (Q_HO736 (hon 24 (by kernel_rfl)))
       refine value_ (w1 := w') (v := v735) (by rfl) rfl ?_ ?_
       ·go_simp
        (try simp only [i64_w])
        try rfl
       refine hK.out _ _ ⟨v714, v717, v720, v723, v726, v729, v732, v735, (v735), (by rw [ha.out]; exact putSel_upk 19 hb_ rfl rfl rfl), Q_BK712, Q_HB, fun _ h1_ => absurd ((hon 23 (by kernel_rfl)).symm.trans h1_) (by decide), fun _ h1_ => absurd ((hon 23 (by kernel_rfl)).symm.trans h1_) (by decide), fun _ h1_ => absurd ((hon 23 (by kernel_rfl)).symm.trans h1_) (by decide), fun _ h1_ => absurd ((hon 23 (by kernel_rfl)).symm.trans h1_) (by decide), fun _ h1_ => absurd ((hon 23 (by kernel_rfl)).symm.trans h1_) (by decide), fun _ h1_ => absurd ((hon 23 (by kernel_rfl)).symm.trans h1_) (by decide), Q_HO733, Q_HO736, fun _ => rfl⟩
      exact steps_nil
     rintro b a w36 hall ⟨v714, v717, v720, v723, v726, v729, v732, v735, m25_, ha, Q_BK712, Q_HB, Q_HO715, Q_HO718, Q_HO721, Q_HO724, Q_HO727, Q_HO730, Q_HO733, Q_HO736, Q_X25_⟩; clear BK712 HB
     have hb0_ := hall 0 (by kernel_rfl)
     have hb2_ := hall 2 (by kernel_rfl)
     have hb3_ := hall 3 (by kernel_rfl)
     have hb4_ := hall 4 (by kernel_rfl)
     have hb5_ := hall 5 (by kernel_rfl)
     have hb7_ := hall 7 (by kernel_rfl)
     have hb8_ := hall 8 (by kernel_rfl)
     have hb9_ := hall 9 (by kernel_rfl)
     have hb11_ := hall 11 (by kernel_rfl)
     have hb13_ := hall 13 (by kernel_rfl)
     have hb14_ := hall 14 (by kernel_rfl)
     have hb16_ := hall 16 (by kernel_rfl)
     have hb17_ := hall 17 (by kernel_rfl)
     have hb18_ := hall 18 (by kernel_rfl)
     have hb20_ := hall 20 (by kernel_rfl)
     have hb21_ := hall 21 (by kernel_rfl)
     have hb22_ := hall 22 (by kernel_rfl)
     have hb23_ := hall 23 (by kernel_rfl)
     have hb24_ := hall 24 (by kernel_rfl)
     have hb25_ := hall 25 (by kernel_rfl)
     subst ha
     obtain rfl := Q_X25_ hb25_
     simp only [putSel, hb0_, hb2_, hb3_, hb4_, hb5_, hb7_, hb8_, hb9_, hb11_, hb13_, hb14_, hb16_, hb17_, hb18_, hb20_, hb21_, hb22_, hb23_, hb24_, hb25_, if_true, Act.put, q1_, q2_, q3_]
     have BK712 := aS Q_BK712
     clear Q_BK712
     have HB := aS Q_HB
     clear Q_HB Q_HO715 Q_HO718 Q_HO721 Q_HO724 Q_HO727 Q_HO730
     have HO733 := aS (Q_HO733 hb23_)
     clear Q_HO733
     have HO736 := aS (Q_HO736 hb24_)
     clear Q_HO736 hall hb0_ hb2_ hb3_ hb4_ hb5_ hb7_ hb8_ hb9_ hb11_ hb13_ hb14_ hb16_ hb17_ hb18_ hb20_ hb21_ hb22_ hb23_ hb24_ hb25_
     try go_wp2
     replace HO733 := aS (Kd.N_drew HO733.out)
     replace HO736 := aS (Kd.R_drew HO736.out)
     replace BK712 := aS (blk_drew BK712.out)
     replace HB := aS (below_drew1 HB.out)
     obtain ⟨Ao39, co39, eo39⟩ := Kd.R_slice HO736.out
     (first | subst eo39 | (injection eo39 with f1_ f2_ f3_; have f4_ := f1_.symm; have f5_ := f3_.symm; clear f1_ f2_ f3_; subst f4_; subst f5_))
     have q38 : (10 : Int) ≤ ((t734.length : Int) : Int) := of_decide_eq_true (by first | (with_reducible assumption) | assumption)
     obtain ⟨i038, hi038, _, hsz38, _⟩ := info_parts info5
     have hroom38 : t734.length ≤ co39 := (Kd.R_reads' HO736.out).2.1
     have hC38 : Kd.F (Kd.int .u8) _ _ Ao39 t734.length t734 := (Kd.V_at (base := w.heap.size) (Kd.R_V (Kd.R_types (Kd.R_apart' (HO736.out) (Kd.N_typed HO733.out) (by decide)) BK712.out (by decide)))).2.2
     have hcut38 := cut_from (P := Try.prog) 22 5 .i64 Try.underlying22 hi038 1 hsz38 Ao39 t734.length co39 10 (by omega) q38
     have hr38 := Kd.F_cut (m := (10 : Int).toNat) (c := co39) hC38 (by omega) hroom38
     obtain ⟨A38, hA38⟩ : ∃ A1, A1 = (if co39 = (10 : Int).toNat then Ao39 else (Ao39 : Option Addr).map (·.add ((10 : Int).toNat * 1))) := ⟨_, rfl⟩
     obtain ⟨c38, hc38⟩ : ∃ c1, c1 = co39 - (10 : Int).toNat := ⟨_, rfl⟩
     have hy38 : y737.length = t734.length - (10 : Int).toNat := (by rw [Ny737.out, List.length_drop] <;> omega)
     rw [show (t734).drop (10 : Int).toNat = y737 from Ny737.out.symm] at hr38
     replace hr38 : Kd.F (Kd.int .u8) _ _ A38 y737.length y737 := (by rw [hA38]; exact hr38)
     rw [← hy38, ← hA38, ← hc38] at hcut38
     have HO741 := aS (show Kd.V (Kd.int .u8) 5 _ w.heap.size _ (.slice A38 y737.length c38) y737 from Kd.V_mk (by rw [hy38, hc38]; exact Nat.sub_le_sub_right hroom38 _) hr38)
     have HC741 := aS (show y737.length ≤ c38 from by rw [hy38, hc38]; exact Nat.sub_le_sub_right hroom38 _)
     clear hr38 hC38 hroom38 hi038 hsz38 hc38
     have KY38 := aS hy38
     have KA38 := aS hA38
     clear hy38 hA38
     replace q38 := eq_true q38
     refine start_ (n := 7) (S := fun w' => True) (ds := []) #[false, false, false, false, false, false, false] (by kernel_rfl) rfl rfl trivial (fun hHeld => ?_)
     generalize w36.drew = w37 at HO733 HO736 BK712 HB HO741 hHeld ⊢
     refine pure_ (i := 0) (N := some 35) (v := ?_) (a' := ?_) (fl 7 1) rfl rfl (by kernel_rfl) (fun _ _ _ h => h) (Or.inl ⟨by rfl, ?_⟩) ?_ ?_
     rotate_left; (· intro w'; go_simp; with_reducible rfl); rotate_left; (· simp only [Act.put, q1_, q2_, q3_, i64_w, i32_w]; rfl)
     refine pure_ (i := 1) (N := some 36) (v := ?_) (a' := ?_) (fl 7 3) rfl rfl (by kernel_rfl) (fun _ _ _ h => h) (Or.inl ⟨by rfl, ?_⟩) ?_ ?_
     rotate_left; (· intro w'; go_simp; with_reducible rfl); rotate_left; (· simp only [Act.put, q1_, q2_, q3_, i64_w, i32_w]; rfl)
     refine pure_ (i := 2) (N := some 37) (v := ?_) (a' := ?_) (fl 7 7) rfl rfl (by kernel_rfl) (fun _ _ _ h => h) (Or.inl ⟨by rfl, ?_⟩) ?_ ?_
     rotate_left; (· intro w'; go_simp; with_reducible rfl); rotate_left; (· simp only [Act.put, q1_, q2_, q3_, i64_w, i32_w]; rfl)
     refine one_ (i := 3) (N := some 38) (fl 7 15) rfl rfl (by kernel_rfl) (by decide) (fun K hK => ?_)
     refine goes_ Try.func69 (by kernel_rfl) rfl #[.slice Ao39 t734.length co39] (by rfl) rfl rfl (by (try simp only [List.map_toArray, List.map_cons, List.map_nil]); first | done | rfl) ?_
     with_reducible refine (sum_Of.calls k _ _ t734 t742 _ ?side1 ?side2 A11.out).mono ?_
     (case side1 => repeat (first | exact (Kd.R_reads' HO736.out).2.2 | (with_reducible refine Kd.C_alloc ?_ _) | (with_reducible refine Kd.C_drewN ?_ _) | (with_reducible refine Kd.C_drew ?_)))
     (case side2 => exact (Kd.R_reads' HO736.out).2.1)
     rintro e w' ⟨rfl, ⟨nd, rfl⟩⟩
     refine ⟨_, rfl, ?_⟩
     refine hK.out _ _ trivial (fun hHeld => ?_)
     clear hK K
     refine norm_ (a' := ?_) ?_ ?_
     rotate_left
     ·show Act.put _ (some 38) _ = _
      simp only [Act.put, q1_, q2_, q3_, i64_w, i32_w]
      rfl
     refine pure_ (i := 4) (N := some 39) (v := ?_) (a' := ?_) (fl 7 31) rfl rfl (by kernel_rfl) (fun _ _ _ h => h) (Or.inl ⟨by rfl, ?_⟩) ?_ ?_
     rotate_left; (· intro w'; go_simp; with_reducible rfl); rotate_left; (· simp only [Act.put, q1_, q2_, q3_, i64_w, i32_w]; rfl)
     refine one_ (i := 5) (N := some 40) (fl 7 63) rfl rfl (by kernel_rfl) (by decide) (fun K hK => ?_)
     refine goes_ Try.func68 (by kernel_rfl) rfl #[.int .u64 (IntKind.u64.wrap (t742)), .int .i64 2] (by rfl) rfl rfl (by (try simp only [List.map_toArray, List.map_cons, List.map_nil]); first | done | rfl) ?_
     with_reducible refine (field_Cut.calls k (IntKind.u64.wrap (t742)) 2 t743 _ A12.out).mono ?_
     rintro e w40 ⟨v744, rfl, ho0, hb⟩; refine ⟨_, rfl, ?_⟩
     replace HO733 := aS (Kd.N_elder' (by (with_reducible repeat (first | apply Kd.N_alloc | apply Kd.N_drewN | apply Kd.N_drew)); exact HO733.out) (Kd.R_base ho0) hb)
     replace HO741 := aS (Kd.V_elder' (tV HO741.out) (Kd.R_base ho0) hb)
     have HO745 := aS (Kd.R_lower (Kd.R_new' (Kd.R_newM (M := fun k_ => (w.heap.size ≤ k_)) ho0 (below_size (tB HB.out)) (fun k_ h_ => h_)) (Kd.R_lt (tR HO736.out))) (below_size (tB HB.out)))
     replace HO736 := aS (Kd.R_elder' (tR HO736.out) (Kd.R_base ho0) hb)
     replace BK712 := aS (blk_below (g := gb712) (o := .cells #[.int .u8 a0_0, .int .u32 a0_1, .int .u32 a0_2, .int .i64 a0_3, .int .i64 a0_4, .int .u8 a0_5, .int .u16 a0_6] 61 (0, 0)) (tk BK712.out) hb)
     replace HB := aS (below_step (tB HB.out) hb)
     (try clear hb); (try clear hb2); (try clear hk); (try clear hi); (try clear ho0)
     obtain ⟨Ao42, co42, eo42⟩ := Kd.R_slice HO745.out
     (first | subst eo42 | (injection eo42 with f1_ f2_ f3_; have f4_ := f1_.symm; have f5_ := f3_.symm; clear f1_ f2_ f3_; subst f4_; subst f5_))
     refine hK.out _ _ trivial (fun hHeld => ?_)
     clear hK K
     refine norm_ (a' := ?_) ?_ ?_
     rotate_left
     ·show Act.put _ (some 40) _ = _
      simp only [Act.put, q1_, q2_, q3_, i64_w, i32_w]
      rfl
     refine one_ (i := 6) (N := some 41) (fl 7 127) rfl rfl (by kernel_rfl) (by decide) (fun K hK => ?_)
     refine R_copy_step (w0 := w) w.heap.size (by rfl) (.tmp 36) (.tmp 40) 22 rfl Try.underlying22 info5 ((10 : Int).toNat) Ao39 A38 _ t734.length co39 y737.length c38 _ _ t734 t743 (fun k_ => (w.heap.size ≤ k_) ∧ some k_ ≠ (.slice Ao42 t743.length co42 : Value).ownBlock) rfl rfl ?aA ?aM ?aL ?aO ?aR ?aB ?_
     (case aA => exact KA38.out)
     (case aM => have h_ := KY38.out; omega)
     (case aR => repeat (first | exact (Kd.R_reads' HO745.out).2.2 | (with_reducible refine Kd.C_alloc ?_ _) | (with_reducible refine Kd.C_drewN ?_ _) | (with_reducible refine Kd.C_drew ?_)))
     (case aB => exact (tB HB.out))
     (case aO => exact (tR HO736.out))
     (case aL => have := LMc13.out; omega)
     intro w41 ho hb hg hat
     rw [← Ny746.out] at ho
     have n0_ := aS (blk_grown (g := gb712) (o := .cells #[.int .u8 a0_0, .int .u32 a0_1, .int .u32 a0_2, .int .i64 a0_3, .int .i64 a0_4, .int .u8 a0_5, .int .u16 a0_6] 61 (0, 0)) (tk BK712.out) hg (Kd.R_ne HO736.out BK712.out (by decide)))
     have n1_ := aS (Kd.R_after (ok := (fun k_ => (w.heap.size ≤ k_))) (tR (Kd.R_mono HO745.out (fun _ hk => by first | exact ⟨hk.1.1, hk.2⟩ | exact ⟨hk.1, hk.2⟩ | exact hk | exact hk.1 | exact hk.1.1 | (simp_all; done)))) hg hat)
     have n2_ := aS (hb)
     have n3_ := aS (ho)
     clear BK712 HO745 HB HO736; have BK712 := n0_; have HO745 := n1_; have HB := n2_; have HO748 := n3_; clear n0_ n1_ n2_ n3_ ho hb hg hat
     refine hK.out _ _ trivial (fun hHeld => ?_)
     clear hK K
     refine norm_ (a' := ?_) ?_ ?_
     rotate_left
     ·show Act.put _ (some 41) _ = _
      simp only [Act.put, q1_, q2_, q3_, i64_w, i32_w]
      rfl
     refine done_ (by kernel_rfl) ?_
     try go_wp2_with (first | ((with_reducible refine gate_builtin (b := .append) (xs := #[.tmp 42, .tmp 43]) rfl ?_); at_builtin; refine Kd.R_append_rows (Kd.int .u8) (w0 := w) w.heap.size rfl (.tmp 42) (.tmp 43) 22 5 (.int .u8 0) 1 rfl Try.underlying22 info5 rfl (by decide) (by omega) (.slice Ao39 t734.length co39) y746 l1 _ _ _ (fun k_ => (w.heap.size ≤ k_) ∧ some k_ ≠ (.slice Ao42 t743.length co42 : Value).ownBlock) (fun _ => False) rfl rfl ?aO ?aR (fun _ _ h => h) (fun _ h => h.elim) ?aF ?aB ?aS ?aL ?_; (case aR => repeat (first | exact (Kd.C_below HR1.out HB.out) | (with_reducible refine Kd.C_alloc ?_ _) | (with_reducible refine Kd.C_drewN ?_ _) | (with_reducible refine Kd.C_drew ?_))); (case aB => exact (tB HB.out)); (case aF => exact (fun k_ hk => by first | exact ⟨(Nat.le_trans (below_size (tB HB.out)) hk), Kd.fresh' (Kd.R_lt (tR HO745.out)) k_ hk⟩ | exact hk | exact hk.1 | exact hk.1.1 | (simp_all; done))); (case aO => exact (tR HO748.out)); (case aS => exact (below_size (tB HB.out))); (case aL => have := LMc14.out; omega); intro v750 w43 ho hb hg hat; rw [← Ny749.out] at ho; replace BK712 := aS (blk_grown (g := gb712) (o := .cells #[.int .u8 a0_0, .int .u32 a0_1, .int .u32 a0_2, .int .i64 a0_3, .int .i64 a0_4, .int .u8 a0_5, .int .u16 a0_6] 61 (0, 0)) (tk BK712.out) hg (Kd.R_ne HO748.out BK712.out (by decide))); replace HO745 := aS (Kd.R_after (ok := (fun k_ => (w.heap.size ≤ k_))) (tR HO745.out) hg hat); replace HB := aS (hb); have HO751 := aS (ho); clear HO748; clear ho hb hg hat; obtain ⟨Ao44, co44, eo44⟩ := Kd.R_slice HO751.out; subst eo44) | ((with_reducible refine gate_callee (f := 70) rfl ?_); refine goesL_ (some 45) rfl rfl Try.func70 (by kernel_rfl) rfl #[.slice Ao44 y749.length co44] rfl (by (try simp only [List.map_toArray, List.map_cons, List.map_nil]); first | done | rfl) ?_; (refine (slices_Clip.strong (tR HO751.out) A15.out).mono ?_); rintro e w45 ⟨v753, rfl, ho0, hb⟩; refine ⟨_, rfl, ?_⟩; replace HO745 := aS (Kd.R_below (tR HO745.out) hb); replace HO751 := aS (Kd.R_below (tR HO751.out) hb); have HO754 := aS (Kd.K_mono (ok' := fun _ => True) ho0 (fun _ _ => trivial)); replace BK712 := aS (blk_below (g := gb712) (o := .cells #[.int .u8 a0_0, .int .u32 a0_1, .int .u32 a0_2, .int .i64 a0_3, .int .i64 a0_4, .int .u8 a0_5, .int .u16 a0_6] 61 (0, 0)) (tk BK712.out) hb); replace HB := aS (below_step (tB HB.out) hb); (try clear hb); (try clear hb2); (try clear hk); (try clear hi); (try clear ho0)))
     go_ret2
     exact ⟨_, by first | rfl | (simp [errW_none, errW_some] <;> rfl) | (simp [*, errW_none, errW_some] <;> rfl), HO754.out, tB HB.out⟩
    ·rw [if_neg c14] at H
     exact absurd H (by simp)
   ·rw [if_neg c13] at H
    exact absurd H (by simp)
  ·rw [if_neg c10] at H
   exact absurd H (by simp)
theorem ip_Build.calls (k : Nat) (a0_0 : Int) (a0_1 : Int) (a0_2 : Int) (a0_3 : Int) (a0_4 : Int) (a0_5 : Int) (a0_6 : Int) (A1 : Option Addr) (c1 : Nat) (l1 : List Int) (r1 : List Int) (r2 : Int) (w : World) (hr1 : Kd.C (Kd.int .u8) w A1 l1.length l1) (hc1 : l1.length ≤ c1) (h : ip_Build.f k a0_0 a0_1 a0_2 a0_3 a0_4 a0_5 a0_6 l1 = some (r1, r2)) :
    Calls Try.prog 50 #[.agg #[.int .u8 a0_0, .int .u32 a0_1, .int .u32 a0_2, .int .i64 a0_3, .int .i64 a0_4, .int .u8 a0_5, .int .u16 a0_6], .slice A1 l1.length c1] w fun e w' => ∃ v0_ : Value, e = .returned (.tuple #[v0_, .int .i64 r2]) ∧ Kd.V (Kd.int .u8) 5 w' w.heap.size (fun k_ => (w.heap.size ≤ k_)) v0_ r1 ∧ Below w.heap.size w w' :=
  (ip_Build.strong k a0_0 a0_1 a0_2 a0_3 a0_4 a0_5 a0_6 A1 c1 l1 r1 r2 w hr1 hc1 h).mono fun _ _ ⟨v0_, h1_, hK_, hB_⟩ => ⟨v0_, h1_, Kd.K_Vb hK_ (fun k_ hk_ => by first | exact hk_ | exact .inr hk_), hB_⟩

end Go.Proofs.Ytofjgdbiieanjaa.All
