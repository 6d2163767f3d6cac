-- Made by a program of this workplace (wip/pr.sh) out of Lean's print of the translation; Lean checks it.
import Derived.Test.YtofjgdbiieanjaaAllx0
import Derived.Test.YtofjgdbiieanjaaAllx69
import Derived.Test.YtofjgdbiieanjaaAllx71
import Derived.Test.YtofjgdbiieanjaaAllx72
import Derived.Test.YtofjgdbiieanjaaAllx73
import Derived.Test.YtofjgdbiieanjaaAllx74
import Derived.Test.YtofjgdbiieanjaaAllx75
namespace Go.Proofs.Ytofjgdbiieanjaa.All
open Go.Proofs.Ytofjgdbiieanjaa.Ext
open Go.RowKit Go.Proofs.YtofjgdbiieanjaaW.PrintWords Go.Proofs.YtofjgdbiieanjaaW.PrintLast Go.Proofs.YtofjgdbiieanjaaW.PrintMore
attribute [local go_sem] max2_int min2_int max_two min_two max_three min_three max_four min_four   -- for this text's walks alone
set_option linter.unusedVariables false
set_option linter.unusedSimpArgs false

/-! ### mantletlaw09_PackBuilds: function 21 -/
def mantletlaw09_PackBuilds.f (k : Nat) (a0_0 : Int) (a0_1 : Int) (a0_2 : Int) (a0_3 : Int) (a0_4 : Int) (a0_5 : Int) (a0_6 : Int) (l1 : List Int) : Option (Bool) := (mantletlaw09_short.f l1).bind fun t1163 => ((pack_Build.f k a0_0 a0_1 a0_2 a0_3 a0_4 a0_5 a0_6 t1163).bind fun bt1166 => ((mantletlaw09_short.f l1).bind fun t1170 => ((mantletref09_Build.f k a0_0 a0_1 a0_2 a0_3 a0_4 a0_5 a0_6 t1170).bind fun bt1173 => ((mantletlaw09_awake.f k).bind fun t1177 => (if t1177 = true then (if (strOfNums bt1166.1).toList = (strOfNums bt1173.1).toList then (if bt1166.2 = bt1173.2 then ((pack_Good.f a0_0 a0_1 a0_2 a0_3 a0_4 a0_5 a0_6).bind fun t1178 => ((mantletref09_Good.f a0_0 a0_1 a0_2 a0_3 a0_4 a0_5 a0_6).bind fun t1179 => (some (t1178 == t1179)))) else (some false)) else (some false)) else (some false))))))
theorem mantletlaw09_PackBuilds.mono : ∀ a0 a1 a2 a3 a4 a5 a6 a7 k, LeO (mantletlaw09_PackBuilds.f k a0 a1 a2 a3 a4 a5 a6 a7) (mantletlaw09_PackBuilds.f (k + 1) a0 a1 a2 a3 a4 a5 a6 a7) := by
  intro a0 a1 a2 a3 a4 a5 a6 a7 k
  unfold mantletlaw09_PackBuilds.f
  repeat' first
      | (with_reducible exact mantletlaw09_awake.mono _)
      | (with_reducible exact mantletref09_Build.mono _ _ _ _ _ _ _ _ _)
      | (with_reducible exact pack_Build.mono _ _ _ _ _ _ _ _ _)
      | (with_reducible exact LeO.refl _)
      | (with_reducible exact LeO.none _)
      | (with_reducible refine LeO.ite ?_ ?_)
      | (with_reducible refine LeO.bind ?_ (fun _ => ?_))
      | exact mantletlaw09_awake.mono _
      | exact mantletref09_Build.mono _ _ _ _ _ _ _ _ _
      | exact pack_Build.mono _ _ _ _ _ _ _ _ _
      | exact LeO.none _
      | refine LeO.ite ?_ ?_
      | refine LeO.bind ?_ (fun _ => ?_)
def mantletlaw09_PackBuilds.T1 : Bool × List (List Nat × List Nat) := (true, [([], []), ([], []), ([1], [1]), ([0, 2, 2], [0, 2]), ([3], [3]), ([4], [4]), ([4], [4]), ([5, 3, 0, 1, 2, 3, 4, 5], [5]), ([6, 7, 0, 1, 2, 3, 4, 5, 6, 7], [6])])
def mantletlaw09_PackBuilds.B1 : List Nat := [0, 0, 2, 7, 15, 31, 31, 63, 255]
theorem mantletlaw09_PackBuilds.tab1 : rtab .any (opsOf Try.f21 1) = mantletlaw09_PackBuilds.T1 := by kernel_rfl
theorem mantletlaw09_PackBuilds.bits1 : waitsOk mantletlaw09_PackBuilds.T1.2 mantletlaw09_PackBuilds.B1 = true := by kernel_rfl
def mantletlaw09_PackBuilds.T2 : Bool × List (List Nat × List Nat) := (true, [([], []), ([], []), ([1], [1]), ([0, 2, 2], [0, 2]), ([3], [3]), ([4], [4]), ([4], [4]), ([5, 3, 0, 1, 2, 3, 4, 5], [5]), ([6, 7, 0, 1, 2, 3, 4, 5, 6, 7], [6])])
def mantletlaw09_PackBuilds.B2 : List Nat := [0, 0, 2, 7, 15, 31, 31, 63, 255]
theorem mantletlaw09_PackBuilds.tab2 : rtab .any (opsOf Try.f21 2) = mantletlaw09_PackBuilds.T2 := by kernel_rfl
theorem mantletlaw09_PackBuilds.bits2 : waitsOk mantletlaw09_PackBuilds.T2.2 mantletlaw09_PackBuilds.B2 = true := by kernel_rfl
def mantletlaw09_PackBuilds.T3 : Bool × List (List Nat × List Nat) := (true, [([], []), ([0, 0], [0]), ([1], [1]), ([2, 1], [1, 2]), ([1], [1]), ([4, 1], [1, 4]), ([3, 5, 1], [1, 3, 5]), ([1, 6], [1, 6]), ([7, 1], [7]), ([8], [8]), ([8], [8]), ([9, 10, 8], [8, 9, 10]), ([8, 11], [8, 11]), ([12, 8], [12]), ([13], [13]), ([14, 13, 13], [13, 14]), ([13], [13]), ([16, 15, 13], [13, 16]), ([15, 17, 13], [13, 15, 17]), ([13, 18], [13, 18]), ([19, 17, 0, 1, 2, 3, 4, 5, 6, 7, 8, 9, 10, 11, 12, 13, 14, 15, 16, 17, 18, 19], [19])])
def mantletlaw09_PackBuilds.B3 : List Nat := [0, 1, 3, 7, 3, 19, 63, 127, 255, 511, 511, 2047, 4095, 8191, 16383, 32767, 16383, 131071, 262143, 524287, 1048575]
theorem mantletlaw09_PackBuilds.tab3 : rtab .any (opsOf Try.f21 3) = mantletlaw09_PackBuilds.T3 := by kernel_rfl
theorem mantletlaw09_PackBuilds.bits3 : waitsOk mantletlaw09_PackBuilds.T3.2 mantletlaw09_PackBuilds.B3 = true := by kernel_rfl
set_option maxHeartbeats 8000000 in
set_option maxRecDepth 100000 in
theorem mantletlaw09_PackBuilds.calls (k : Nat) (a0_0 : Int) (a0_1 : Int) (a0_2 : Int) (a0_3 : Int) (a0_4 : Int) (a0_5 : Int) (a0_6 : Int) (A1 : Option Addr) (c1 : Nat) (l1 : List Int) (r : Bool) (w : World) (hr1 : Kd.C (Kd.int .u8) w A1 l1.length l1) (hc1 : l1.length ≤ c1) (h : mantletlaw09_PackBuilds.f k a0_0 a0_1 a0_2 a0_3 a0_4 a0_5 a0_6 l1 = some r) (hT_ : r = true) :
    Calls Try.prog 21 #[.agg #[.int .u8 a0_0, .int .u32 a0_1, .int .u32 a0_2, .int .u16 a0_3, .int .u16 a0_4, .int .u8 a0_5, .int .u8 a0_6], .slice A1 l1.length c1] w fun e w' => e = .returned (.bool r) ∧ Below w.heap.size w w' := by
 have HT := aS hT_
 clear hT_
 have hu72 := Try.underlying72
 have HR1 := aS hr1
 have HC1 := aS hc1
 clear hr1 hc1
 have HB := aS (Below.refl w.heap.size w)
 have H := h
 unfold mantletlaw09_PackBuilds.f at H
 clear h
 replace H := Option.bind_eq_some_iff.mp H
 obtain ⟨t1163, A30, H⟩ := H
 try dsimp -simprocs only at H
 have A3 := aS A30
 clear A30
 replace H := Option.bind_eq_some_iff.mp H
 obtain ⟨⟨t1166, t1169⟩, A40, H⟩ := H
 try dsimp -simprocs only at H
 have A4 := aS A40
 clear A40
 replace H := Option.bind_eq_some_iff.mp H
 obtain ⟨t1170, A50, H⟩ := H
 try dsimp -simprocs only at H
 have A5 := aS A50
 clear A50
 replace H := Option.bind_eq_some_iff.mp H
 obtain ⟨⟨t1173, t1176⟩, A60, H⟩ := H
 try dsimp -simprocs only at H
 have A6 := aS A60
 clear A60
 replace H := Option.bind_eq_some_iff.mp H
 obtain ⟨t1177, A70, H⟩ := H
 try dsimp -simprocs only at H
 have A7 := aS A70
 clear A70
 by_cases c8 : t1177 = true
 ·subst c8
  rw [if_pos rfl] at H
  have H1 := H; clear H; have H := H1; clear H1
  by_cases c9 : (strOfNums t1166).toList = (strOfNums t1173).toList
  ·rw [if_pos c9] at H
   have c9b0 : ((strOfNums t1166).toList == (strOfNums t1173).toList) = true := beq_iff_eq.mpr c9
   have c9b1 : ((strOfNums t1166).toList != (strOfNums t1173).toList) = false := bne_eq_false_iff_eq.mpr c9
   clear c9
   by_cases c10 : t1169 = t1176
   ·rw [if_pos c10] at H
    have c10b0 : (t1169 == t1176) = true := beq_iff_eq.mpr c10
    have c10b1 : (t1169 != t1176) = false := bne_eq_false_iff_eq.mpr c10
    clear c10
    replace H := Option.bind_eq_some_iff.mp H
    obtain ⟨t1178, A110, H⟩ := H
    try dsimp -simprocs only at H
    have A11 := aS A110
    clear A110
    replace H := Option.bind_eq_some_iff.mp H
    obtain ⟨t1179, A120, H⟩ := H
    try dsimp -simprocs only at H
    have A12 := aS A120
    clear A120
    obtain rfl := Option.some.inj H
    go_enter Try.func21, Try.ntmps21
    try go_wp2_with (first | ((with_reducible refine gate_dst (N := 2) rfl ?_); refine box_event ?hg (N := 2) ?hd (cs := #[.int .u8 a0_0, .int .u32 a0_1, .int .u32 a0_2, .int .u16 a0_3, .int .u16 a0_4, .int .u8 a0_5, .int .u8 a0_6]) (t := 72) ?hr ?_; (case hd => rfl); (case hg => rfl); (case hr => first | (go_simp; done) | (go_simp; rfl)); intro gb1162 hg w13 hbox hb; have BK1162 := aS (hbox); have GW1162 := aS ((by rw [hg]; exact (below_size (tB HB.out)) : w.heap.size ≤ gb1162)); have GE1162 := aS ((by rw [hg]; exact (below_size (tB HB.out)) : w.heap.size ≤ gb1162)); replace HB := aS (below_step (tB HB.out) hb); clear hb hbox hg))
    replace BK1162 := aS (blk_drew BK1162.out)
    replace HB := aS (below_drew1 HB.out)
    refine start_ (n := 9) (S := fun w' => w'.cell? ⟨gb1162, 0, none⟩ = some (.int .u8 a0_0) ∧ w'.cell? ⟨gb1162, 1, none⟩ = some (.int .u32 a0_1) ∧ w'.cell? ⟨gb1162, 2, none⟩ = some (.int .u32 a0_2) ∧ w'.cell? ⟨gb1162, 3, none⟩ = some (.int .u16 a0_3) ∧ w'.cell? ⟨gb1162, 4, none⟩ = some (.int .u16 a0_4) ∧ w'.cell? ⟨gb1162, 5, none⟩ = some (.int .u8 a0_5) ∧ w'.cell? ⟨gb1162, 6, none⟩ = some (.int .u8 a0_6)) (ds := []) #[false, false, false, false, false, false, false, false, false] (by kernel_rfl) rfl rfl ⟨(blk_cell BK1162.out 0).trans rfl, (blk_cell BK1162.out 1).trans rfl, (blk_cell BK1162.out 2).trans rfl, (blk_cell BK1162.out 3).trans rfl, (blk_cell BK1162.out 4).trans rfl, (blk_cell BK1162.out 5).trans rfl, (blk_cell BK1162.out 6).trans rfl⟩ (fun hHeld => ?_); refine with_tabW mantletlaw09_PackBuilds.tab1 mantletlaw09_PackBuilds.bits1 (fun HT_ HW_ => ?_)
    generalize w13.drew = w14 at BK1162 HB hHeld ⊢
    refine pure_ (i := 1) (N := some 11) (v := ?_) (a' := ?_) (fl 9 2) rfl rfl (any_of HT_.out (by kernel_rfl)) (fun _ _ _ h => h) (Or.inl ⟨by rfl, ?_⟩) ?_ ?_
    rotate_left; (· intro w'; go_simp; with_reducible rfl); rotate_left; (· simp only [Act.put, q1_, q2_, q3_, i64_w, i32_w]; rfl)
    refine take_ (i := 0) (N := some 10) (v := ?_) (a' := ?_) (fl 9 3) rfl rfl (take_ofW HT_.out HW_.out (by kernel_rfl)) (fun _ _ _ h => h) (Or.inl ⟨by rfl, ?_⟩) hHeld ?_ ?_
    rotate_left; (· rintro w' ⟨s0, s1, s2, s3, s4, s5, s6⟩; go_simp; with_reducible rfl); rotate_left; (· simp only [Act.put, q1_, q2_, q3_, i64_w, i32_w]; rfl)
    refine one_ (i := 2) (N := some 12) (fl 9 7) rfl rfl (one_of HT_.out (by kernel_rfl)) (by decide) (fun K hK => ?_)
    refine goes_ Try.func57 (by kernel_rfl) rfl #[.slice A1 l1.length c1] (by rfl) rfl rfl (by (try simp only [List.map_toArray, List.map_cons, List.map_nil]); first | done | rfl) ?_
    with_reducible refine (mantletlaw09_short.calls (fun k_ => k_ < w.heap.size) _ _ l1 t1163 _ ?side1 A3.out).mono ?_
    (case side1 => exact Kd.V_mk HC1.out (Kd.F_below (Kd.C_F (Kd.heap_int .u8) HR1.out) (tB HB.out)))
    rintro e w15 ⟨v1164, rfl, ho0, hb⟩; refine ⟨_, rfl, ?_⟩
    have HO1165 := aS (Kd.V_lower (Kd.V_mono (ok' := fun k_ => k_ ≠ gb1162) ho0 (fun k_ hk_ => Or.elim hk_ (fun hs_ => fun e_ => Nat.not_le.2 hs_ (by rw [e_]; exact GW1162.out)) (fun hn_ => (Kd.freshB (g := gb1162) (o := .cells #[.int .u8 a0_0, .int .u32 a0_1, .int .u32 a0_2, .int .u16 a0_3, .int .u16 a0_4, .int .u8 a0_5, .int .u8 a0_6] 72 (0, 0)) (tk BK1162.out) k_ hn_)))) (below_size (tB HB.out)))
    replace BK1162 := aS (blk_below (g := gb1162) (o := .cells #[.int .u8 a0_0, .int .u32 a0_1, .int .u32 a0_2, .int .u16 a0_3, .int .u16 a0_4, .int .u8 a0_5, .int .u8 a0_6] 72 (0, 0)) (tk BK1162.out) hb)
    replace HB := aS (below_step (tB HB.out) hb)
    (try clear hb); (try clear hb2); (try clear hk); (try clear hi); (try clear ho0)
    obtain ⟨Ao16, co16, eo16⟩ := Kd.V_slice HO1165.out
    (first | subst eo16 | (injection eo16 with f1_ f2_ f3_; have f4_ := f1_.symm; have f5_ := f3_.symm; clear f1_ f2_ f3_; subst f4_; subst f5_))
    refine hK.out _ _ ⟨(blk_cell BK1162.out 0).trans rfl, (blk_cell BK1162.out 1).trans rfl, (blk_cell BK1162.out 2).trans rfl, (blk_cell BK1162.out 3).trans rfl, (blk_cell BK1162.out 4).trans rfl, (blk_cell BK1162.out 5).trans rfl, (blk_cell BK1162.out 6).trans rfl⟩ (fun hHeld => ?_)
    clear hK K
    refine norm_ (a' := ?_) ?_ ?_
    rotate_left
    ·show Act.put _ (some 12) _ = _
     simp only [Act.put, q1_, q2_, q3_, i64_w, i32_w]
     rfl
    refine one_ (i := 3) (N := some 13) (fl 9 15) rfl rfl (one_of HT_.out (by kernel_rfl)) (by decide) (fun K hK => ?_)
    refine goes_ Try.func56 (by kernel_rfl) rfl #[.agg #[.int .u8 a0_0, .int .u32 a0_1, .int .u32 a0_2, .int .u16 a0_3, .int .u16 a0_4, .int .u8 a0_5, .int .u8 a0_6], .slice Ao16 t1163.length co16] (by rfl) rfl rfl (by (try simp only [List.map_toArray, List.map_cons, List.map_nil]); first | done | rfl) ?_
    with_reducible refine (pack_Build.calls k a0_0 a0_1 a0_2 a0_3 a0_4 a0_5 a0_6 (fun k_ => k_ ≠ gb1162) _ _ t1163 t1166 t1169 _ ?side1 A4.out).mono ?_
    (case side1 => exact HO1165.out)
    rintro e w17 ⟨v1167, rfl, ho0, hb⟩; refine ⟨_, rfl, ?_⟩
    replace HO1165 := aS (Kd.V_below (tV HO1165.out) hb)
    have HO1168 := aS (Kd.V_lower (Kd.V_mono (ok' := fun k_ => k_ ≠ gb1162) ho0 (fun k_ hk_ => Or.elim hk_ (fun hs_ => hs_) (fun hn_ => (Kd.freshB (g := gb1162) (o := .cells #[.int .u8 a0_0, .int .u32 a0_1, .int .u32 a0_2, .int .u16 a0_3, .int .u16 a0_4, .int .u8 a0_5, .int .u8 a0_6] 72 (0, 0)) (tk BK1162.out) k_ hn_)))) (below_size (tB HB.out)))
    replace BK1162 := aS (blk_below (g := gb1162) (o := .cells #[.int .u8 a0_0, .int .u32 a0_1, .int .u32 a0_2, .int .u16 a0_3, .int .u16 a0_4, .int .u8 a0_5, .int .u8 a0_6] 72 (0, 0)) (tk BK1162.out) hb)
    replace HB := aS (below_step (tB HB.out) hb)
    (try clear hb); (try clear hb2); (try clear hk); (try clear hi); (try clear ho0)
    refine hK.out _ _ ⟨(blk_cell BK1162.out 0).trans rfl, (blk_cell BK1162.out 1).trans rfl, (blk_cell BK1162.out 2).trans rfl, (blk_cell BK1162.out 3).trans rfl, (blk_cell BK1162.out 4).trans rfl, (blk_cell BK1162.out 5).trans rfl, (blk_cell BK1162.out 6).trans rfl⟩ (fun hHeld => ?_)
    clear hK K
    refine norm_ (a' := ?_) ?_ ?_
    rotate_left
    ·show Act.put _ (some 13) _ = _
     simp only [Act.put, q1_, q2_, q3_, i64_w, i32_w]
     rfl
    refine pure_ (i := 4) (N := some 9) (v := ?_) (a' := ?_) (fl 9 31) rfl rfl (any_of HT_.out (by kernel_rfl)) (fun _ _ _ h => h) (Or.inl ⟨by rfl, ?_⟩) ?_ ?_
    rotate_left; (· intro w'; go_simp; with_reducible rfl); rotate_left; (· simp only [Act.put, q1_, q2_, q3_, i64_w, i32_w]; rfl)
    refine pure_ (i := 5) (N := some 14) (v := ?_) (a' := ?_) (fl 9 63) rfl rfl (any_of HT_.out (by kernel_rfl)) (fun _ _ _ h => h) (Or.inl ⟨by rfl, ?_⟩) ?_ ?_
    rotate_left; (· intro w'; go_simp; with_reducible rfl); rotate_left; (· simp only [Act.put, q1_, q2_, q3_, i64_w, i32_w]; rfl)
    refine pure_ (i := 6) (N := some 15) (v := ?_) (a' := ?_) (fl 9 127) rfl rfl (any_of HT_.out (by kernel_rfl)) (fun _ _ _ h => h) (Or.inl ⟨by rfl, ?_⟩) ?_ ?_
    rotate_left; (· intro w'; go_simp; with_reducible rfl); rotate_left; (· simp only [Act.put, q1_, q2_, q3_, i64_w, i32_w]; rfl)
    refine pure_ (i := 7) (N := some 5) (v := ?_) (a' := ?_) (fl 9 255) rfl rfl (any_of HT_.out (by kernel_rfl)) (fun _ _ _ h => h) (Or.inl ⟨by rfl, ?_⟩) ?_ ?_
    rotate_left; (· intro w'; go_simp; with_reducible rfl); rotate_left; (· simp only [Act.put, q1_, q2_, q3_, i64_w, i32_w]; rfl)
    refine pure_ (i := 8) (N := some 6) (v := ?_) (a' := ?_) (fl 9 511) rfl rfl (any_of HT_.out (by kernel_rfl)) (fun _ _ _ h => h) (Or.inl ⟨by rfl, ?_⟩) ?_ ?_
    rotate_left; (· intro w'; go_simp; with_reducible rfl); rotate_left; (· simp only [Act.put, q1_, q2_, q3_, i64_w, i32_w]; rfl)
    refine done_ (done_of HT_.out (by kernel_rfl)) ?_
    try go_wp2
    replace HO1165 := aS (Kd.V_drew HO1165.out)
    replace HO1168 := aS (Kd.V_drew HO1168.out)
    replace BK1162 := aS (blk_drew BK1162.out)
    replace HB := aS (below_drew1 HB.out)
    refine start_ (n := 9) (S := fun w' => w'.cell? ⟨gb1162, 0, none⟩ = some (.int .u8 a0_0) ∧ w'.cell? ⟨gb1162, 1, none⟩ = some (.int .u32 a0_1) ∧ w'.cell? ⟨gb1162, 2, none⟩ = some (.int .u32 a0_2) ∧ w'.cell? ⟨gb1162, 3, none⟩ = some (.int .u16 a0_3) ∧ w'.cell? ⟨gb1162, 4, none⟩ = some (.int .u16 a0_4) ∧ w'.cell? ⟨gb1162, 5, none⟩ = some (.int .u8 a0_5) ∧ w'.cell? ⟨gb1162, 6, none⟩ = some (.int .u8 a0_6)) (ds := []) #[false, false, false, false, false, false, false, false, false] (by kernel_rfl) rfl rfl ⟨(blk_cell BK1162.out 0).trans rfl, (blk_cell BK1162.out 1).trans rfl, (blk_cell BK1162.out 2).trans rfl, (blk_cell BK1162.out 3).trans rfl, (blk_cell BK1162.out 4).trans rfl, (blk_cell BK1162.out 5).trans rfl, (blk_cell BK1162.out 6).trans rfl⟩ (fun hHeld => ?_); refine with_tabW mantletlaw09_PackBuilds.tab2 mantletlaw09_PackBuilds.bits2 (fun HT_ HW_ => ?_)
    generalize w17.drew = w18 at HO1165 HO1168 BK1162 HB hHeld ⊢
    refine pure_ (i := 1) (N := some 18) (v := ?_) (a' := ?_) (fl 9 2) rfl rfl (any_of HT_.out (by kernel_rfl)) (fun _ _ _ h => h) (Or.inl ⟨by rfl, ?_⟩) ?_ ?_
    rotate_left; (· intro w'; go_simp; with_reducible rfl); rotate_left; (· simp only [Act.put, q1_, q2_, q3_, i64_w, i32_w]; rfl)
    refine take_ (i := 0) (N := some 17) (v := ?_) (a' := ?_) (fl 9 3) rfl rfl (take_ofW HT_.out HW_.out (by kernel_rfl)) (fun _ _ _ h => h) (Or.inl ⟨by rfl, ?_⟩) hHeld ?_ ?_
    rotate_left; (· rintro w' ⟨s0, s1, s2, s3, s4, s5, s6⟩; go_simp; with_reducible rfl); rotate_left; (· simp only [Act.put, q1_, q2_, q3_, i64_w, i32_w]; rfl)
    refine one_ (i := 2) (N := some 19) (fl 9 7) rfl rfl (one_of HT_.out (by kernel_rfl)) (by decide) (fun K hK => ?_)
    refine goes_ Try.func57 (by kernel_rfl) rfl #[.slice A1 l1.length c1] (by rfl) rfl rfl (by (try simp only [List.map_toArray, List.map_cons, List.map_nil]); first | done | rfl) ?_
    with_reducible refine (mantletlaw09_short.calls (fun k_ => k_ < w.heap.size) _ _ l1 t1170 _ ?side1 A5.out).mono ?_
    (case side1 => exact Kd.V_mk HC1.out (Kd.F_below (Kd.C_F (Kd.heap_int .u8) HR1.out) (tB HB.out)))
    rintro e w19 ⟨v1171, rfl, ho0, hb⟩; refine ⟨_, rfl, ?_⟩
    replace HO1165 := aS (Kd.V_below (tV HO1165.out) hb)
    replace HO1168 := aS (Kd.V_below (tV HO1168.out) hb)
    have HO1172 := aS (Kd.V_lower (Kd.V_mono (ok' := fun k_ => k_ ≠ gb1162) ho0 (fun k_ hk_ => Or.elim hk_ (fun hs_ => fun e_ => Nat.not_le.2 hs_ (by rw [e_]; exact GW1162.out)) (fun hn_ => (Kd.freshB (g := gb1162) (o := .cells #[.int .u8 a0_0, .int .u32 a0_1, .int .u32 a0_2, .int .u16 a0_3, .int .u16 a0_4, .int .u8 a0_5, .int .u8 a0_6] 72 (0, 0)) (tk BK1162.out) k_ hn_)))) (below_size (tB HB.out)))
    replace BK1162 := aS (blk_below (g := gb1162) (o := .cells #[.int .u8 a0_0, .int .u32 a0_1, .int .u32 a0_2, .int .u16 a0_3, .int .u16 a0_4, .int .u8 a0_5, .int .u8 a0_6] 72 (0, 0)) (tk BK1162.out) hb)
    replace HB := aS (below_step (tB HB.out) hb)
    (try clear hb); (try clear hb2); (try clear hk); (try clear hi); (try clear ho0)
    obtain ⟨Ao20, co20, eo20⟩ := Kd.V_slice HO1172.out
    (first | subst eo20 | (injection eo20 with f1_ f2_ f3_; have f4_ := f1_.symm; have f5_ := f3_.symm; clear f1_ f2_ f3_; subst f4_; subst f5_))
    refine hK.out _ _ ⟨(blk_cell BK1162.out 0).trans rfl, (blk_cell BK1162.out 1).trans rfl, (blk_cell BK1162.out 2).trans rfl, (blk_cell BK1162.out 3).trans rfl, (blk_cell BK1162.out 4).trans rfl, (blk_cell BK1162.out 5).trans rfl, (blk_cell BK1162.out 6).trans rfl⟩ (fun hHeld => ?_)
    clear hK K
    refine norm_ (a' := ?_) ?_ ?_
    rotate_left
    ·show Act.put _ (some 19) _ = _
     simp only [Act.put, q1_, q2_, q3_, i64_w, i32_w]
     rfl
    refine one_ (i := 3) (N := some 20) (fl 9 15) rfl rfl (one_of HT_.out (by kernel_rfl)) (by decide) (fun K hK => ?_)
    refine goes_ Try.func58 (by kernel_rfl) rfl #[.agg #[.int .u8 a0_0, .int .u32 a0_1, .int .u32 a0_2, .int .u16 a0_3, .int .u16 a0_4, .int .u8 a0_5, .int .u8 a0_6], .slice Ao20 t1170.length co20] (by rfl) rfl rfl (by (try simp only [List.map_toArray, List.map_cons, List.map_nil]); first | done | rfl) ?_
    with_reducible refine (mantletref09_Build.calls k a0_0 a0_1 a0_2 a0_3 a0_4 a0_5 a0_6 _ _ t1170 t1173 t1176 _ ?side1 ?side2 A6.out).mono ?_
    (case side1 => repeat (first | exact (Kd.V_reads' HO1172.out).2.2 | (with_reducible refine Kd.C_alloc ?_ _) | (with_reducible refine Kd.C_drewN ?_ _) | (with_reducible refine Kd.C_drew ?_)))
    (case side2 => exact (Kd.V_reads' HO1172.out).2.1)
    rintro e w21 ⟨v1174, rfl, ho0, hb⟩; refine ⟨_, rfl, ?_⟩
    replace HO1165 := aS (Kd.V_elder' (tV HO1165.out) (Kd.R_base ho0) hb)
    replace HO1168 := aS (Kd.V_elder' (tV HO1168.out) (Kd.R_base ho0) hb)
    replace HO1172 := aS (Kd.V_elder' (tV HO1172.out) (Kd.R_base ho0) hb)
    have HO1175 := aS (Kd.R_lower ho0 (below_size (tB HB.out)))
    replace BK1162 := aS (blk_below (g := gb1162) (o := .cells #[.int .u8 a0_0, .int .u32 a0_1, .int .u32 a0_2, .int .u16 a0_3, .int .u16 a0_4, .int .u8 a0_5, .int .u8 a0_6] 72 (0, 0)) (tk BK1162.out) hb)
    replace HB := aS (below_step (tB HB.out) hb)
    (try clear hb); (try clear hb2); (try clear hk); (try clear hi); (try clear ho0)
    refine hK.out _ _ ⟨(blk_cell BK1162.out 0).trans rfl, (blk_cell BK1162.out 1).trans rfl, (blk_cell BK1162.out 2).trans rfl, (blk_cell BK1162.out 3).trans rfl, (blk_cell BK1162.out 4).trans rfl, (blk_cell BK1162.out 5).trans rfl, (blk_cell BK1162.out 6).trans rfl⟩ (fun hHeld => ?_)
    clear hK K
    refine norm_ (a' := ?_) ?_ ?_
    rotate_left
    ·show Act.put _ (some 20) _ = _
     simp only [Act.put, q1_, q2_, q3_, i64_w, i32_w]
     rfl
    refine pure_ (i := 4) (N := some 16) (v := ?_) (a' := ?_) (fl 9 31) rfl rfl (any_of HT_.out (by kernel_rfl)) (fun _ _ _ h => h) (Or.inl ⟨by rfl, ?_⟩) ?_ ?_
    rotate_left; (· intro w'; go_simp; with_reducible rfl); rotate_left; (· simp only [Act.put, q1_, q2_, q3_, i64_w, i32_w]; rfl)
    refine pure_ (i := 5) (N := some 21) (v := ?_) (a' := ?_) (fl 9 63) rfl rfl (any_of HT_.out (by kernel_rfl)) (fun _ _ _ h => h) (Or.inl ⟨by rfl, ?_⟩) ?_ ?_
    rotate_left; (· intro w'; go_simp; with_reducible rfl); rotate_left; (· simp only [Act.put, q1_, q2_, q3_, i64_w, i32_w]; rfl)
    refine pure_ (i := 6) (N := some 22) (v := ?_) (a' := ?_) (fl 9 127) rfl rfl (any_of HT_.out (by kernel_rfl)) (fun _ _ _ h => h) (Or.inl ⟨by rfl, ?_⟩) ?_ ?_
    rotate_left; (· intro w'; go_simp; with_reducible rfl); rotate_left; (· simp only [Act.put, q1_, q2_, q3_, i64_w, i32_w]; rfl)
    refine pure_ (i := 7) (N := some 7) (v := ?_) (a' := ?_) (fl 9 255) rfl rfl (any_of HT_.out (by kernel_rfl)) (fun _ _ _ h => h) (Or.inl ⟨by rfl, ?_⟩) ?_ ?_
    rotate_left; (· intro w'; go_simp; with_reducible rfl); rotate_left; (· simp only [Act.put, q1_, q2_, q3_, i64_w, i32_w]; rfl)
    refine pure_ (i := 8) (N := some 8) (v := ?_) (a' := ?_) (fl 9 511) rfl rfl (any_of HT_.out (by kernel_rfl)) (fun _ _ _ h => h) (Or.inl ⟨by rfl, ?_⟩) ?_ ?_
    rotate_left; (· intro w'; go_simp; with_reducible rfl); rotate_left; (· simp only [Act.put, q1_, q2_, q3_, i64_w, i32_w]; rfl)
    refine done_ (done_of HT_.out (by kernel_rfl)) ?_
    try go_wp2
    replace HO1165 := aS (Kd.V_drew HO1165.out)
    replace HO1168 := aS (Kd.V_drew HO1168.out)
    replace HO1172 := aS (Kd.V_drew HO1172.out)
    replace HO1175 := aS (Kd.R_drew HO1175.out)
    replace BK1162 := aS (blk_drew BK1162.out)
    replace HB := aS (below_drew1 HB.out)
    refine start_ (n := 21) (S := fun w' => w'.cell? ⟨gb1162, 0, none⟩ = some (.int .u8 a0_0) ∧ w'.cell? ⟨gb1162, 1, none⟩ = some (.int .u32 a0_1) ∧ w'.cell? ⟨gb1162, 2, none⟩ = some (.int .u32 a0_2) ∧ w'.cell? ⟨gb1162, 3, none⟩ = some (.int .u16 a0_3) ∧ w'.cell? ⟨gb1162, 4, none⟩ = some (.int .u16 a0_4) ∧ w'.cell? ⟨gb1162, 5, none⟩ = some (.int .u8 a0_5) ∧ w'.cell? ⟨gb1162, 6, none⟩ = some (.int .u8 a0_6) ∧ (convert 22 9 (v1167)).run Try.prog w' = .ok (.string (strOfNums t1166)) w' ∧ (convert 22 9 (v1174)).run Try.prog w' = .ok (.string (strOfNums t1173)) w') (ds := []) #[false, false, false, false, false, false, false, false, false, false, false, false, false, false, false, false, false, false, false, false, false] (by kernel_rfl) rfl rfl ⟨(blk_cell BK1162.out 0).trans rfl, (blk_cell BK1162.out 1).trans rfl, (blk_cell BK1162.out 2).trans rfl, (blk_cell BK1162.out 3).trans rfl, (blk_cell BK1162.out 4).trans rfl, (blk_cell BK1162.out 5).trans rfl, (blk_cell BK1162.out 6).trans rfl, V_string (P := Try.prog) Try.underlying22 Try.underlying5 Try.underlying9 HO1168.out, own_string (P := Try.prog) Try.underlying22 Try.underlying5 Try.underlying9 (Kd.own_of_R HO1175.out)⟩ (fun hHeld => ?_); refine with_tabW mantletlaw09_PackBuilds.tab3 mantletlaw09_PackBuilds.bits3 (fun HT_ HW_ => ?_)
    generalize w21.drew = w22 at HO1165 HO1168 HO1172 HO1175 BK1162 HB hHeld ⊢
    refine one_ (i := 0) (N := some 23) (fl 21 1) rfl rfl (one_of HT_.out (by kernel_rfl)) (by decide) (fun K hK => ?_)
    refine goes_ Try.func59 (by kernel_rfl) rfl #[] (by rfl) rfl rfl (by (try simp only [List.map_toArray, List.map_cons, List.map_nil]); first | done | rfl) ?_
    with_reducible refine (mantletlaw09_awake.calls k  true _ A7.out).mono ?_
    rintro e w23 ⟨rfl, hb⟩; refine ⟨_, rfl, ?_⟩
    replace HO1165 := aS (Kd.V_below (tV HO1165.out) hb)
    replace HO1168 := aS (Kd.V_below (tV HO1168.out) hb)
    replace HO1172 := aS (Kd.V_below (tV HO1172.out) hb)
    replace HO1175 := aS (Kd.R_below (tR HO1175.out) hb)
    replace BK1162 := aS (blk_below (g := gb1162) (o := .cells #[.int .u8 a0_0, .int .u32 a0_1, .int .u32 a0_2, .int .u16 a0_3, .int .u16 a0_4, .int .u8 a0_5, .int .u8 a0_6] 72 (0, 0)) (tk BK1162.out) hb)
    replace HB := aS (below_step (tB HB.out) hb)
    (try clear hb); (try clear hb2); (try clear hk); (try clear hi)
    have hcv24 := V_string (P := Try.prog) Try.underlying22 Try.underlying5 Try.underlying9 HO1168.out
    have hcvd24 := fun m_ : Nat => V_string (P := Try.prog) Try.underlying22 Try.underlying5 Try.underlying9 (Kd.V_drewN HO1168.out m_)
    have hcv25 := own_string (P := Try.prog) Try.underlying22 Try.underlying5 Try.underlying9 (Kd.own_of_R HO1175.out)
    have hcvd25 := fun m_ : Nat => own_string (P := Try.prog) Try.underlying22 Try.underlying5 Try.underlying9 (Kd.own_of_R (Kd.R_drewN HO1175.out m_))
    refine hK.out _ _ ⟨(blk_cell BK1162.out 0).trans rfl, (blk_cell BK1162.out 1).trans rfl, (blk_cell BK1162.out 2).trans rfl, (blk_cell BK1162.out 3).trans rfl, (blk_cell BK1162.out 4).trans rfl, (blk_cell BK1162.out 5).trans rfl, (blk_cell BK1162.out 6).trans rfl, V_string (P := Try.prog) Try.underlying22 Try.underlying5 Try.underlying9 HO1168.out, own_string (P := Try.prog) Try.underlying22 Try.underlying5 Try.underlying9 (Kd.own_of_R HO1175.out)⟩ (fun hHeld => ?_)
    clear hK K
    refine norm_ (a' := ?_) ?_ ?_
    rotate_left
    ·show Act.put _ (some 23) _ = _
     simp only [Act.put, q1_, q2_, q3_, i64_w, i32_w]
     rfl
    refine pure_ (i := 1) (N := some 24) (v := ?_) (a' := ?_) (fl 21 3) rfl rfl (any_of HT_.out (by kernel_rfl)) (fun _ _ _ h => h) (Or.inl ⟨by rfl, ?_⟩) ?_ ?_
    rotate_left; (· intro w'; go_simp; with_reducible rfl); rotate_left; (· simp only [Act.put, q1_, q2_, q3_, i64_w, i32_w]; rfl)
    refine pure_ (i := 2) (N := some 25) (v := ?_) (a' := ?_) (fl 21 7) rfl rfl (any_of HT_.out (by kernel_rfl)) (fun _ _ _ h => h) (Or.inl ⟨by rfl, ?_⟩) ?_ ?_
    rotate_left; (· intro w'; go_simp; with_reducible rfl); rotate_left; (· simp only [Act.put, q1_, q2_, q3_, i64_w, i32_w]; rfl)
    refine take_ (i := 3) (N := some 26) (v := ?_) (a' := ?_) (fl 21 15) rfl rfl (take_ofW HT_.out HW_.out (by kernel_rfl)) (fun _ _ _ h => h) (Or.inl ⟨by rfl, ?_⟩) hHeld ?_ ?_
    rotate_left; (· rintro w' ⟨s0, s1, s2, s3, s4, s5, s6, s7, s8⟩; go_simp; with_reducible rfl); rotate_left; (· simp only [Act.put, q1_, q2_, q3_, i64_w, i32_w]; rfl)
    refine pure_ (i := 4) (N := some 27) (v := ?_) (a' := ?_) (fl 21 31) rfl rfl (any_of HT_.out (by kernel_rfl)) (fun _ _ _ h => h) (Or.inl ⟨by rfl, ?_⟩) ?_ ?_
    rotate_left; (· intro w'; go_simp; with_reducible rfl); rotate_left; (· simp only [Act.put, q1_, q2_, q3_, i64_w, i32_w]; rfl)
    refine take_ (i := 5) (N := some 28) (v := ?_) (a' := ?_) (fl 21 63) rfl rfl (take_ofW HT_.out HW_.out (by kernel_rfl)) (fun _ _ _ h => h) (Or.inl ⟨by rfl, ?_⟩) hHeld ?_ ?_
    rotate_left; (· rintro w' ⟨s0, s1, s2, s3, s4, s5, s6, s7, s8⟩; go_simp; with_reducible rfl); rotate_left; (· simp only [Act.put, q1_, q2_, q3_, i64_w, i32_w]; rfl)
    refine pure_ (i := 6) (N := some 29) (v := ?_) (a' := ?_) (fl 21 127) rfl rfl (any_of HT_.out (by kernel_rfl)) (fun _ _ _ h => h) (Or.inl ⟨by rfl, ?_⟩) ?_ ?_
    rotate_left; (· intro w'; go_simp; with_reducible rfl); rotate_left; (· simp only [Act.put, q1_, q2_, q3_, i64_w, i32_w]; rfl)
    refine pure_ (i := 7) (N := some 30) (v := ?_) (a' := ?_) (fl 21 255) rfl rfl (any_of HT_.out (by kernel_rfl)) (fun _ _ _ h => h) (Or.inl ⟨by rfl, ?_⟩) ?_ ?_
    rotate_left; (· intro w'; go_simp; with_reducible rfl); rotate_left; (· simp only [Act.put, q1_, q2_, q3_, i64_w, i32_w]; rfl)
    refine pure_ (i := 8) (N := some 31) (v := ?_) (a' := ?_) (fl 21 511) rfl rfl (any_of HT_.out (by kernel_rfl)) (fun _ _ _ h => h) (Or.inl ⟨by rfl, ?_⟩) ?_ ?_
    rotate_left; (· intro w'; go_simp; with_reducible rfl); rotate_left; (· simp only [Act.put, q1_, q2_, q3_, i64_w, i32_w]; rfl)
    refine pure_ (i := 9) (N := some 32) (v := ?_) (a' := ?_) (fl 21 1023) rfl rfl (any_of HT_.out (by kernel_rfl)) (fun _ _ _ h => h) (Or.inl ⟨by rfl, ?_⟩) ?_ ?_
    rotate_left; (· intro w'; go_simp; with_reducible rfl); rotate_left; (· simp only [Act.put, q1_, q2_, q3_, i64_w, i32_w]; rfl)
    refine pure_ (i := 10) (N := some 33) (v := ?_) (a' := ?_) (fl 21 2047) rfl rfl (any_of HT_.out (by kernel_rfl)) (fun _ _ _ h => h) (Or.inl ⟨by rfl, ?_⟩) ?_ ?_
    rotate_left; (· intro w'; go_simp; with_reducible rfl); rotate_left; (· simp only [Act.put, q1_, q2_, q3_, i64_w, i32_w]; rfl)
    refine pure_ (i := 11) (N := some 34) (v := ?_) (a' := ?_) (fl 21 4095) rfl rfl (any_of HT_.out (by kernel_rfl)) (fun _ _ _ h => h) (Or.inl ⟨by rfl, ?_⟩) ?_ ?_
    rotate_left; (· intro w'; go_simp; with_reducible rfl); rotate_left; (· simp only [Act.put, q1_, q2_, q3_, i64_w, i32_w]; rfl)
    refine pure_ (i := 12) (N := some 35) (v := ?_) (a' := ?_) (fl 21 8191) rfl rfl (any_of HT_.out (by kernel_rfl)) (fun _ _ _ h => h) (Or.inl ⟨by rfl, ?_⟩) ?_ ?_
    rotate_left; (· intro w'; go_simp; with_reducible rfl); rotate_left; (· simp only [Act.put, q1_, q2_, q3_, i64_w, i32_w]; rfl)
    refine pure_ (i := 13) (N := some 36) (v := ?_) (a' := ?_) (fl 21 16383) rfl rfl (any_of HT_.out (by kernel_rfl)) (fun _ _ _ h => h) (Or.inl ⟨by rfl, ?_⟩) ?_ ?_
    rotate_left; (· intro w'; go_simp; with_reducible rfl); rotate_left; (· simp only [Act.put, q1_, q2_, q3_, i64_w, i32_w]; rfl)
    refine take_ (i := 14) (N := some 37) (v := ?_) (a' := ?_) (fl 21 32767) rfl rfl (take_ofW HT_.out HW_.out (by kernel_rfl)) (fun _ _ _ h => h) (Or.inl ⟨by rfl, ?_⟩) hHeld ?_ ?_
    rotate_left; (· rintro w' ⟨s0, s1, s2, s3, s4, s5, s6, s7, s8⟩; go_simp; with_reducible rfl); rotate_left; (· simp only [Act.put, q1_, q2_, q3_, i64_w, i32_w]; rfl)
    refine take_ (i := 16) (N := some 39) (v := ?_) (a' := ?_) (fl 21 98303) rfl rfl (take_ofW HT_.out HW_.out (by kernel_rfl)) (fun _ _ _ h => h) (Or.inl ⟨by rfl, ?_⟩) hHeld ?_ ?_
    rotate_left; (· rintro w' ⟨s0, s1, s2, s3, s4, s5, s6, s7, s8⟩; go_simp; with_reducible rfl); rotate_left; (· simp only [Act.put, q1_, q2_, q3_, i64_w, i32_w]; rfl)
    refine one_ (i := 15) (N := some 38) (fl 21 131071) rfl rfl (one_of HT_.out (by kernel_rfl)) (by decide) (fun K hK => ?_)
    refine goes_ Try.func60 (by kernel_rfl) rfl #[.agg #[.int .u8 a0_0, .int .u32 a0_1, .int .u32 a0_2, .int .u16 a0_3, .int .u16 a0_4, .int .u8 a0_5, .int .u8 a0_6]] (by rfl) rfl rfl (by (try simp only [List.map_toArray, List.map_cons, List.map_nil]); first | done | rfl) ?_
    with_reducible refine (pack_Good.calls a0_0 a0_1 a0_2 a0_3 a0_4 a0_5 a0_6 t1178 _ A11.out).mono ?_
    rintro e w27 ⟨rfl, hb⟩; refine ⟨_, rfl, ?_⟩
    replace HO1165 := aS (Kd.V_below (tV HO1165.out) hb)
    replace HO1168 := aS (Kd.V_below (tV HO1168.out) hb)
    replace HO1172 := aS (Kd.V_below (tV HO1172.out) hb)
    replace HO1175 := aS (Kd.R_below (tR HO1175.out) hb)
    replace BK1162 := aS (blk_below (g := gb1162) (o := .cells #[.int .u8 a0_0, .int .u32 a0_1, .int .u32 a0_2, .int .u16 a0_3, .int .u16 a0_4, .int .u8 a0_5, .int .u8 a0_6] 72 (0, 0)) (tk BK1162.out) hb)
    replace HB := aS (below_step (tB HB.out) hb)
    (try clear hb); (try clear hb2); (try clear hk); (try clear hi)
    refine hK.out _ _ ⟨(blk_cell BK1162.out 0).trans rfl, (blk_cell BK1162.out 1).trans rfl, (blk_cell BK1162.out 2).trans rfl, (blk_cell BK1162.out 3).trans rfl, (blk_cell BK1162.out 4).trans rfl, (blk_cell BK1162.out 5).trans rfl, (blk_cell BK1162.out 6).trans rfl, V_string (P := Try.prog) Try.underlying22 Try.underlying5 Try.underlying9 HO1168.out, own_string (P := Try.prog) Try.underlying22 Try.underlying5 Try.underlying9 (Kd.own_of_R HO1175.out)⟩ (fun hHeld => ?_)
    clear hK K
    refine norm_ (a' := ?_) ?_ ?_
    rotate_left
    ·show Act.put _ (some 38) _ = _
     simp only [Act.put, q1_, q2_, q3_, i64_w, i32_w]
     rfl
    refine one_ (i := 17) (N := some 40) (fl 21 262143) rfl rfl (one_of HT_.out (by kernel_rfl)) (by decide) (fun K hK => ?_)
    refine goes_ Try.func61 (by kernel_rfl) rfl #[.agg #[.int .u8 a0_0, .int .u32 a0_1, .int .u32 a0_2, .int .u16 a0_3, .int .u16 a0_4, .int .u8 a0_5, .int .u8 a0_6]] (by rfl) rfl rfl (by (try simp only [List.map_toArray, List.map_cons, List.map_nil]); first | done | rfl) ?_
    with_reducible refine (mantletref09_Good.calls a0_0 a0_1 a0_2 a0_3 a0_4 a0_5 a0_6 t1179 _ A12.out).mono ?_
    rintro e w28 ⟨rfl, hb⟩; refine ⟨_, rfl, ?_⟩
    replace HO1165 := aS (Kd.V_below (tV HO1165.out) hb)
    replace HO1168 := aS (Kd.V_below (tV HO1168.out) hb)
    replace HO1172 := aS (Kd.V_below (tV HO1172.out) hb)
    replace HO1175 := aS (Kd.R_below (tR HO1175.out) hb)
    replace BK1162 := aS (blk_below (g := gb1162) (o := .cells #[.int .u8 a0_0, .int .u32 a0_1, .int .u32 a0_2, .int .u16 a0_3, .int .u16 a0_4, .int .u8 a0_5, .int .u8 a0_6] 72 (0, 0)) (tk BK1162.out) hb)
    replace HB := aS (below_step (tB HB.out) hb)
    (try clear hb); (try clear hb2); (try clear hk); (try clear hi)
    refine hK.out _ _ ⟨(blk_cell BK1162.out 0).trans rfl, (blk_cell BK1162.out 1).trans rfl, (blk_cell BK1162.out 2).trans rfl, (blk_cell BK1162.out 3).trans rfl, (blk_cell BK1162.out 4).trans rfl, (blk_cell BK1162.out 5).trans rfl, (blk_cell BK1162.out 6).trans rfl, V_string (P := Try.prog) Try.underlying22 Try.underlying5 Try.underlying9 HO1168.out, own_string (P := Try.prog) Try.underlying22 Try.underlying5 Try.underlying9 (Kd.own_of_R HO1175.out)⟩ (fun hHeld => ?_)
    clear hK K
    refine norm_ (a' := ?_) ?_ ?_
    rotate_left
    ·show Act.put _ (some 40) _ = _
     simp only [Act.put, q1_, q2_, q3_, i64_w, i32_w]
     rfl
    refine pure_ (i := 18) (N := some 41) (v := ?_) (a' := ?_) (fl 21 524287) rfl rfl (any_of HT_.out (by kernel_rfl)) (fun _ _ _ h => h) (Or.inl ⟨by rfl, ?_⟩) ?_ ?_
    rotate_left; (· intro w'; go_simp; with_reducible rfl); rotate_left; (· simp only [Act.put, q1_, q2_, q3_, i64_w, i32_w]; rfl)
    refine pure_ (i := 19) (N := some 42) (v := ?_) (a' := ?_) (fl 21 1048575) rfl rfl (any_of HT_.out (by kernel_rfl)) (fun _ _ _ h => h) (Or.inl ⟨by rfl, ?_⟩) ?_ ?_
    rotate_left; (· intro w'; go_simp; with_reducible rfl); rotate_left; (· simp only [Act.put, q1_, q2_, q3_, i64_w, i32_w]; rfl)
    refine pure_ (i := 20) (N := some 4) (v := ?_) (a' := ?_) (fl 21 2097151) rfl rfl (any_of HT_.out (by kernel_rfl)) (fun _ _ _ h => h) (Or.inl ⟨by rfl, ?_⟩) ?_ ?_
    rotate_left; (· intro w'; go_simp; with_reducible rfl); rotate_left; (· simp only [Act.put, q1_, q2_, q3_, i64_w, i32_w]; rfl)
    refine done_ (done_of HT_.out (by kernel_rfl)) ?_
    try go_wp2
    go_ret
    exact ⟨by first | rfl | (simp [errW_none, errW_some] <;> rfl) | (simp [*, errW_none, errW_some] <;> rfl), tB HB.out⟩
   ·rw [if_neg c10] at H
    have c10b0 : (t1169 == t1176) = false := beq_eq_false_iff_ne.mpr c10
    have c10b1 : (t1169 != t1176) = true := bne_iff_ne.mpr c10
    exact absurd ((Option.some.inj H).trans HT.out) (by decide)
  ·rw [if_neg c9] at H
   have c9b0 : ((strOfNums t1166).toList == (strOfNums t1173).toList) = false := beq_eq_false_iff_ne.mpr c9
   have c9b1 : ((strOfNums t1166).toList != (strOfNums t1173).toList) = true := bne_iff_ne.mpr c9
   exact absurd ((Option.some.inj H).trans HT.out) (by decide)
 ·replace c8 := Bool.eq_false_iff.mpr c8
  subst c8
  rw [if_neg (show ¬ (false = true) by decide)] at H
  have H1 := H; clear H; have H := H1; clear H1
  exact absurd ((Option.some.inj H).trans HT.out) (by decide)/-- THE ONE PURE STATEMENT of mantletlaw09_PackBuilds: yours. -/
def mantletlaw09_PackBuilds.Pure : Prop := ∀ (a0_0 : Int) (a0_1 : Int) (a0_2 : Int) (a0_3 : Int) (a0_4 : Int) (a0_5 : Int) (a0_6 : Int) (l1 : List Int), (Lit.int .u8 a0_0).wf = true → (Lit.int .u32 a0_1).wf = true → (Lit.int .u32 a0_2).wf = true → (Lit.int .u16 a0_3).wf = true → (Lit.int .u16 a0_4).wf = true → (Lit.int .u8 a0_5).wf = true → (Lit.int .u8 a0_6).wf = true → l1.length ≤ maxLen → l1.length * 1 ≤ 140737488351232 → (∀ x ∈ l1, (Lit.int .u8 x).wf = true) → ∃ k, mantletlaw09_PackBuilds.f k a0_0 a0_1 a0_2 a0_3 a0_4 a0_5 a0_6 l1 = some true
theorem mantletlaw09_PackBuilds.walk (P : mantletlaw09_PackBuilds.Pure) (a0_0 : Int) (a0_1 : Int) (a0_2 : Int) (a0_3 : Int) (a0_4 : Int) (a0_5 : Int) (a0_6 : Int) (a1 : Option Addr) (len1 cap1 : Nat) (z1 : List Int) (w : World) (w0_0 : (Lit.int .u8 a0_0).wf = true) (w0_1 : (Lit.int .u32 a0_1).wf = true) (w0_2 : (Lit.int .u32 a0_2).wf = true) (w0_3 : (Lit.int .u16 a0_3).wf = true) (w0_4 : (Lit.int .u16 a0_4).wf = true) (w0_5 : (Lit.int .u8 a0_5).wf = true) (w0_6 : (Lit.int .u8 a0_6).wf = true) (w1 : (a1 = none ∧ len1 = 0 ∧ cap1 = 0 ∧ z1 = []) ∨ ∃ x, a1 = some x ∧ len1 ≤ cap1 ∧ cap1 ≤ maxLen ∧ z1.length = cap1 ∧ (∀ i, i < z1.length → w.cell? (x.add i) = some (.int .u8 (z1.getD i 0))) ∧ ∀ n ∈ z1, (Lit.int .u8 n).wf = true) (y1 : len1 * 1 ≤ 140737488351232) :
    Calls Try.prog 21 #[.agg #[.int .u8 a0_0, .int .u32 a0_1, .int .u32 a0_2, .int .u16 a0_3, .int .u16 a0_4, .int .u8 a0_5, .int .u8 a0_6], .slice a1 len1 cap1] w fun e w' => e = .returned (.bool true) ∧ Below w.heap.size w w' := by
 obtain ⟨l1, rfl, hr1, hm1, hw1, hc1⟩ := ReadsInt.ofRowC w1
 obtain ⟨k, h⟩ := P a0_0 a0_1 a0_2 a0_3 a0_4 a0_5 a0_6 l1 w0_0 w0_1 w0_2 w0_3 w0_4 w0_5 w0_6 hm1 y1 hw1
 refine (mantletlaw09_PackBuilds.calls k a0_0 a0_1 a0_2 a0_3 a0_4 a0_5 a0_6 _ _ l1 true w (Kd.C_of_reads (d := (0 : Int)) (h1 := fun _ => rfl) hr1) hc1 h rfl).mono ?_
 rintro e w' ⟨rfl, hd⟩
 exact ⟨rfl, hd⟩

end Go.Proofs.Ytofjgdbiieanjaa.All
