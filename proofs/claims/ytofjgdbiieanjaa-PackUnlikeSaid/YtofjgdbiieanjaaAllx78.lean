-- Made by a program of this workplace (wip/pr.sh) out of Lean's print of the translation; Lean checks it.
import Derived.Test.YtofjgdbiieanjaaAllx0
import Derived.Test.YtofjgdbiieanjaaAllx2
import Derived.Test.YtofjgdbiieanjaaAllx71
import Derived.Test.YtofjgdbiieanjaaAllx72
import Derived.Test.YtofjgdbiieanjaaAllx75
namespace Go.Proofs.Ytofjgdbiieanjaa.All
open Go.Proofs.Ytofjgdbiieanjaa.Ext
open Go.RowKit Go.Proofs.YtofjgdbiieanjaaW.PrintWords Go.Proofs.YtofjgdbiieanjaaW.PrintLast Go.Proofs.YtofjgdbiieanjaaW.PrintMore
attribute [local go_sem] max2_int min2_int max_two min_two max_three min_three max_four min_four   -- for this text's walks alone
set_option linter.unusedVariables false
set_option linter.unusedSimpArgs false

attribute [local go_sem high] eqA72
/-! ### mantletlaw09_PackUnlike: function 23 -/
def mantletlaw09_PackUnlike.f (k : Nat) (a0_0 : Int) (a0_1 : Int) (a0_2 : Int) (a0_3 : Int) (a0_4 : Int) (a0_5 : Int) (a0_6 : Int) (a1_0 : Int) (a1_1 : Int) (a1_2 : Int) (a1_3 : Int) (a1_4 : Int) (a1_5 : Int) (a1_6 : Int) (l2 : List Int) (l3 : List Int) : Option (Bool) := (mantletlaw09_short.f l2).bind fun t1227 => ((pack_Build.f k a0_0 a0_1 a0_2 a0_3 a0_4 a0_5 a0_6 t1227).bind fun bt1230 => ((mantletlaw09_short.f l3).bind fun t1234 => ((pack_Build.f k a1_0 a1_1 a1_2 a1_3 a1_4 a1_5 a1_6 t1234).bind fun bt1237 => ((mantletlaw09_awake.f k).bind fun t1241 => (if t1241 = true then (if bt1230.2 = 0 then (if bt1237.2 = 0 then (if (a0_0 == a1_0 && (a0_1 == a1_1 && (a0_2 == a1_2 && (a0_3 == a1_3 && (a0_4 == a1_4 && (a0_5 == a1_5 && (a0_6 == a1_6))))))) = true then (some true) else (some ((strOfNums bt1230.1).toList != (strOfNums bt1237.1).toList))) else (some true)) else (some true)) else (some false))))))
theorem mantletlaw09_PackUnlike.mono : ∀ a0 a1 a2 a3 a4 a5 a6 a7 a8 a9 a10 a11 a12 a13 a14 a15 k, LeO (mantletlaw09_PackUnlike.f k a0 a1 a2 a3 a4 a5 a6 a7 a8 a9 a10 a11 a12 a13 a14 a15) (mantletlaw09_PackUnlike.f (k + 1) a0 a1 a2 a3 a4 a5 a6 a7 a8 a9 a10 a11 a12 a13 a14 a15) := by
  intro a0 a1 a2 a3 a4 a5 a6 a7 a8 a9 a10 a11 a12 a13 a14 a15 k
  unfold mantletlaw09_PackUnlike.f
  repeat' first
      | (with_reducible exact mantletlaw09_awake.mono _)
      | (with_reducible exact pack_Build.mono _ _ _ _ _ _ _ _ _)
      | (with_reducible exact LeO.refl _)
      | (with_reducible exact LeO.none _)
      | (with_reducible refine LeO.ite ?_ ?_)
      | (with_reducible refine LeO.bind ?_ (fun _ => ?_))
      | exact mantletlaw09_awake.mono _
      | exact pack_Build.mono _ _ _ _ _ _ _ _ _
      | exact LeO.none _
      | refine LeO.ite ?_ ?_
      | refine LeO.bind ?_ (fun _ => ?_)
def mantletlaw09_PackUnlike.T1 : Bool × List (List Nat × List Nat) := (true, [([], []), ([], []), ([1], [1]), ([0, 2, 2], [0, 2]), ([3], [3]), ([4], [4]), ([4], [4]), ([5, 3, 0, 1, 2, 3, 4, 5], [5]), ([6, 7, 0, 1, 2, 3, 4, 5, 6, 7], [6])])
def mantletlaw09_PackUnlike.B1 : List Nat := [0, 0, 2, 7, 15, 31, 31, 63, 255]
theorem mantletlaw09_PackUnlike.tab1 : rtab .any (opsOf Try.f23 1) = mantletlaw09_PackUnlike.T1 := by kernel_rfl
theorem mantletlaw09_PackUnlike.bits1 : waitsOk mantletlaw09_PackUnlike.T1.2 mantletlaw09_PackUnlike.B1 = true := by kernel_rfl
def mantletlaw09_PackUnlike.T2 : Bool × List (List Nat × List Nat) := (true, [([], []), ([], []), ([1], [1]), ([0, 2, 2], [0, 2]), ([3], [3]), ([4], [4]), ([4], [4]), ([5, 3, 0, 1, 2, 3, 4, 5], [5]), ([6, 7, 0, 1, 2, 3, 4, 5, 6, 7], [6])])
def mantletlaw09_PackUnlike.B2 : List Nat := [0, 0, 2, 7, 15, 31, 31, 63, 255]
theorem mantletlaw09_PackUnlike.tab2 : rtab .any (opsOf Try.f23 2) = mantletlaw09_PackUnlike.T2 := by kernel_rfl
theorem mantletlaw09_PackUnlike.bits2 : waitsOk mantletlaw09_PackUnlike.T2.2 mantletlaw09_PackUnlike.B2 = true := by kernel_rfl
set_option maxHeartbeats 8000000 in
set_option maxRecDepth 100000 in
theorem mantletlaw09_PackUnlike.calls (k : Nat) (a0_0 : Int) (a0_1 : Int) (a0_2 : Int) (a0_3 : Int) (a0_4 : Int) (a0_5 : Int) (a0_6 : Int) (a1_0 : Int) (a1_1 : Int) (a1_2 : Int) (a1_3 : Int) (a1_4 : Int) (a1_5 : Int) (a1_6 : Int) (A2 : Option Addr) (c2 : Nat) (l2 : List Int) (A3 : Option Addr) (c3 : Nat) (l3 : List Int) (r : Bool) (w : World) (hr2 : Kd.C (Kd.int .u8) w A2 l2.length l2) (hc2 : l2.length ≤ c2) (hr3 : Kd.C (Kd.int .u8) w A3 l3.length l3) (hc3 : l3.length ≤ c3) (h : mantletlaw09_PackUnlike.f k a0_0 a0_1 a0_2 a0_3 a0_4 a0_5 a0_6 a1_0 a1_1 a1_2 a1_3 a1_4 a1_5 a1_6 l2 l3 = some r) (hT_ : r = true) :
    Calls Try.prog 23 #[.agg #[.int .u8 a0_0, .int .u32 a0_1, .int .u32 a0_2, .int .u16 a0_3, .int .u16 a0_4, .int .u8 a0_5, .int .u8 a0_6], .agg #[.int .u8 a1_0, .int .u32 a1_1, .int .u32 a1_2, .int .u16 a1_3, .int .u16 a1_4, .int .u8 a1_5, .int .u8 a1_6], .slice A2 l2.length c2, .slice A3 l3.length c3] w fun e w' => e = .returned (.bool r) ∧ Below w.heap.size w w' := by
 have HT := Aside0.mk hT_
 clear hT_
 have hu72 := Try.underlying72
 have HR2 := Aside0.mk hr2
 have HC2 := Aside0.mk hc2
 clear hr2 hc2
 have HR3 := Aside0.mk hr3
 have HC3 := Aside0.mk hc3
 clear hr3 hc3
 have HB := Aside0.mk (Below.refl w.heap.size w)
 have H : ((mantletlaw09_short.f l2).bind fun t1227 => ((pack_Build.f k a0_0 a0_1 a0_2 a0_3 a0_4 a0_5 a0_6 t1227).bind fun bt1230 => ((mantletlaw09_short.f l3).bind fun t1234 => ((pack_Build.f k a1_0 a1_1 a1_2 a1_3 a1_4 a1_5 a1_6 t1234).bind fun bt1237 => ((mantletlaw09_awake.f k).bind fun t1241 => (if t1241 = true then (if bt1230.2 = 0 then (if bt1237.2 = 0 then (if (a0_0 == a1_0 && (a0_1 == a1_1 && (a0_2 == a1_2 && (a0_3 == a1_3 && (a0_4 == a1_4 && (a0_5 == a1_5 && (a0_6 == a1_6))))))) = true then (some true) else (some ((strOfNums bt1230.1).toList != (strOfNums bt1237.1).toList))) else (some true)) else (some true)) else (some false))))))) = some r := h
 clear h
 replace H := Option.bind_eq_some_iff.mp H
 obtain ⟨t1227, A50, H⟩ := H
 replace H : ((pack_Build.f k a0_0 a0_1 a0_2 a0_3 a0_4 a0_5 a0_6 t1227).bind fun bt1230 => ((mantletlaw09_short.f l3).bind fun t1234 => ((pack_Build.f k a1_0 a1_1 a1_2 a1_3 a1_4 a1_5 a1_6 t1234).bind fun bt1237 => ((mantletlaw09_awake.f k).bind fun t1241 => (if t1241 = true then (if bt1230.2 = 0 then (if bt1237.2 = 0 then (if (a0_0 == a1_0 && (a0_1 == a1_1 && (a0_2 == a1_2 && (a0_3 == a1_3 && (a0_4 == a1_4 && (a0_5 == a1_5 && (a0_6 == a1_6))))))) = true then (some true) else (some ((strOfNums bt1230.1).toList != (strOfNums bt1237.1).toList))) else (some true)) else (some true)) else (some false)))))) = some r := H
 have A5 := Aside0.mk A50
 clear A50
 replace H := Option.bind_eq_some_iff.mp H
 obtain ⟨⟨t1230, t1233⟩, A60, H⟩ := H
 replace H : ((mantletlaw09_short.f l3).bind fun t1234 => ((pack_Build.f k a1_0 a1_1 a1_2 a1_3 a1_4 a1_5 a1_6 t1234).bind fun bt1237 => ((mantletlaw09_awake.f k).bind fun t1241 => (if t1241 = true then (if t1233 = 0 then (if bt1237.2 = 0 then (if (a0_0 == a1_0 && (a0_1 == a1_1 && (a0_2 == a1_2 && (a0_3 == a1_3 && (a0_4 == a1_4 && (a0_5 == a1_5 && (a0_6 == a1_6))))))) = true then (some true) else (some ((strOfNums t1230).toList != (strOfNums bt1237.1).toList))) else (some true)) else (some true)) else (some false))))) = some r := H
 have A6 := Aside0.mk A60
 clear A60
 replace H := Option.bind_eq_some_iff.mp H
 obtain ⟨t1234, A70, H⟩ := H
 replace H : ((pack_Build.f k a1_0 a1_1 a1_2 a1_3 a1_4 a1_5 a1_6 t1234).bind fun bt1237 => ((mantletlaw09_awake.f k).bind fun t1241 => (if t1241 = true then (if t1233 = 0 then (if bt1237.2 = 0 then (if (a0_0 == a1_0 && (a0_1 == a1_1 && (a0_2 == a1_2 && (a0_3 == a1_3 && (a0_4 == a1_4 && (a0_5 == a1_5 && (a0_6 == a1_6))))))) = true then (some true) else (some ((strOfNums t1230).toList != (strOfNums bt1237.1).toList))) else (some true)) else (some true)) else (some false)))) = some r := H
 have A7 := Aside0.mk A70
 clear A70
 replace H := Option.bind_eq_some_iff.mp H
 obtain ⟨⟨t1237, t1240⟩, A80, H⟩ := H
 replace H : ((mantletlaw09_awake.f k).bind fun t1241 => (if t1241 = true then (if t1233 = 0 then (if t1240 = 0 then (if (a0_0 == a1_0 && (a0_1 == a1_1 && (a0_2 == a1_2 && (a0_3 == a1_3 && (a0_4 == a1_4 && (a0_5 == a1_5 && (a0_6 == a1_6))))))) = true then (some true) else (some ((strOfNums t1230).toList != (strOfNums t1237).toList))) else (some true)) else (some true)) else (some false))) = some r := H
 have A8 := Aside0.mk A80
 clear A80
 replace H := Option.bind_eq_some_iff.mp H
 obtain ⟨t1241, A90, H⟩ := H
 replace H : (if t1241 = true then (if t1233 = 0 then (if t1240 = 0 then (if (a0_0 == a1_0 && (a0_1 == a1_1 && (a0_2 == a1_2 && (a0_3 == a1_3 && (a0_4 == a1_4 && (a0_5 == a1_5 && (a0_6 == a1_6))))))) = true then (some true) else (some ((strOfNums t1230).toList != (strOfNums t1237).toList))) else (some true)) else (some true)) else (some false)) = some r := H
 have A9 := Aside0.mk A90
 clear A90
 by_cases c10 : t1241 = true
 ·subst c10
  have H1 : (if t1233 = 0 then (if t1240 = 0 then (if (a0_0 == a1_0 && (a0_1 == a1_1 && (a0_2 == a1_2 && (a0_3 == a1_3 && (a0_4 == a1_4 && (a0_5 == a1_5 && (a0_6 == a1_6))))))) = true then (some true) else (some ((strOfNums t1230).toList != (strOfNums t1237).toList))) else (some true)) else (some true)) = some r := by rw [if_pos rfl] at H; exact H
  clear H
  have H := H1
  clear H1
  have HH_ := Aside0.mk H
  clear H
  go_enter Try.func23, Try.ntmps23
  try go_wp2_with (first | ((with_reducible refine gate_dst (N := 4) rfl ?_); refine box_event ?hg (N := 4) ?hd (cs := #[.int .u8 a0_0, .int .u32 a0_1, .int .u32 a0_2, .int .u16 a0_3, .int .u16 a0_4, .int .u8 a0_5, .int .u8 a0_6]) (t := 72) ?hr ?_; (case hd => rfl); (case hg => rfl); (case hr => first | (go_simp; done) | (go_simp; rfl)); intro gb900 hg w901 hbox hb; have n0_ := Aside0.mk (below_step (by repeat first | (with_reducible first | exact HB.out | apply mB) | exact HB.out) hb); have n1_ := Aside0.mk (hbox); have n2_ := Aside0.mk ((by rw [hg]; exact (below_size (by repeat first | (with_reducible first | exact HB.out | apply mB) | exact HB.out)) : w.heap.size ≤ gb900)); have n3_ := Aside0.mk ((by rw [hg]; exact (below_size (by repeat first | (with_reducible first | exact HB.out | apply mB) | exact HB.out)) : w.heap.size ≤ gb900)); clear HB; have HB := n0_; have BK902 := n1_; have GW903 := n2_; have GE904 := n3_; clear n0_ n1_ n2_ n3_; clear hb hbox hg) | ((with_reducible refine gate_dst (N := 5) rfl ?_); refine box_event ?hg (N := 5) ?hd (cs := #[.int .u8 a1_0, .int .u32 a1_1, .int .u32 a1_2, .int .u16 a1_3, .int .u16 a1_4, .int .u8 a1_5, .int .u8 a1_6]) (t := 72) ?hr ?_; (case hd => rfl); (case hg => rfl); (case hr => first | (go_simp; done) | (go_simp; rfl)); intro gb905 hg w906 hbox hb; have n0_ := Aside0.mk (blk_below (g := gb900) (o := .cells #[.int .u8 a0_0, .int .u32 a0_1, .int .u32 a0_2, .int .u16 a0_3, .int .u16 a0_4, .int .u8 a0_5, .int .u8 a0_6] 72 (0, 0)) (by (with_reducible repeat apply mk_); exact BK902.out) hb); have n1_ := Aside0.mk (below_step (by repeat first | (with_reducible first | exact HB.out | apply mB | refine below_set ?_ GE904.out) | exact HB.out) hb); have n2_ := Aside0.mk (hbox); have n3_ := Aside0.mk ((by rw [hg]; exact (below_size (by repeat first | (with_reducible first | exact HB.out | apply mB | refine below_set ?_ GE904.out) | exact HB.out)) : w.heap.size ≤ gb905)); have n4_ := Aside0.mk ((by rw [hg]; exact (below_size (by repeat first | (with_reducible first | exact HB.out | apply mB | refine below_set ?_ GE904.out) | exact HB.out)) : w.heap.size ≤ gb905)); have n5_ := Aside0.mk ((by rw [hg]; exact Nat.ne_of_lt (blk_lt (g := gb900) (o := .cells #[.int .u8 a0_0, .int .u32 a0_1, .int .u32 a0_2, .int .u16 a0_3, .int .u16 a0_4, .int .u8 a0_5, .int .u8 a0_6] 72 (0, 0)) (by (with_reducible repeat apply mk_); exact BK902.out)) : gb900 ≠ gb905)); have n6_ := Aside0.mk ((by rw [hg]; exact Nat.ne_of_gt (blk_lt (g := gb900) (o := .cells #[.int .u8 a0_0, .int .u32 a0_1, .int .u32 a0_2, .int .u16 a0_3, .int .u16 a0_4, .int .u8 a0_5, .int .u8 a0_6] 72 (0, 0)) (by (with_reducible repeat apply mk_); exact BK902.out)) : gb905 ≠ gb900)); clear BK902; clear HB; have BK902 := n0_; have HB := n1_; have BK907 := n2_; have GW908 := n3_; have GE909 := n4_; have NB910 := n5_; have NB911 := n6_; clear n0_ n1_ n2_ n3_ n4_ n5_ n6_; clear hb hbox hg))
  have n0_ := Aside0.mk (blk_drew BK902.out)
  have n1_ := Aside0.mk (blk_drew BK907.out)
  have n2_ := Aside0.mk (below_drew1 HB.out)
  clear BK902
  clear BK907
  clear HB
  have BK902 := n0_
  have BK907 := n1_
  have HB := n2_
  clear n0_ n1_ n2_
  refine start_ (n := 9) (S := fun w' => w'.cell? ⟨gb900, 0, none⟩ = some (.int .u8 a0_0) ∧ w'.cell? ⟨gb900, 1, none⟩ = some (.int .u32 a0_1) ∧ w'.cell? ⟨gb900, 2, none⟩ = some (.int .u32 a0_2) ∧ w'.cell? ⟨gb900, 3, none⟩ = some (.int .u16 a0_3) ∧ w'.cell? ⟨gb900, 4, none⟩ = some (.int .u16 a0_4) ∧ w'.cell? ⟨gb900, 5, none⟩ = some (.int .u8 a0_5) ∧ w'.cell? ⟨gb900, 6, none⟩ = some (.int .u8 a0_6)) (ds := []) #[false, false, false, false, false, false, false, false, false] (by kernel_rfl) rfl rfl ⟨(blk_cell BK902.out 0).trans rfl, (blk_cell BK902.out 1).trans rfl, (blk_cell BK902.out 2).trans rfl, (blk_cell BK902.out 3).trans rfl, (blk_cell BK902.out 4).trans rfl, (blk_cell BK902.out 5).trans rfl, (blk_cell BK902.out 6).trans rfl⟩ (fun hHeld => ?_); refine with_tabW mantletlaw09_PackUnlike.tab1 mantletlaw09_PackUnlike.bits1 (fun HT_ HW_ => ?_)
  generalize w906.drew = w912 at BK902 BK907 HB hHeld ⊢
  refine pure_ (i := 1) (N := some 15) (v := ?_) (a' := ?_) #[false, true, false, false, false, false, false, false, false] rfl rfl (any_of HT_.out (by kernel_rfl)) (fun _ _ _ h => h) (Or.inl ⟨by rfl, ?_⟩) ?_ ?_
  rotate_left
  ·intro w'
   go_simp
   with_reducible rfl
  rotate_left
  ·simp only [Act.put, List.setIfInBounds_toArray, List.set_cons_zero, List.set_cons_succ, i64_w, i32_w]
   rfl
  refine take_ (i := 0) (N := some 14) (v := ?_) (a' := ?_) #[true, true, false, false, false, false, false, false, false] rfl rfl (take_ofW HT_.out HW_.out (by kernel_rfl)) (fun _ _ _ h => h) (Or.inl ⟨by rfl, ?_⟩) hHeld ?_ ?_
  rotate_left
  ·rintro w' ⟨s913, s914, s915, s916, s917, s918, s919⟩
   go_simp
   with_reducible rfl
  rotate_left
  ·simp only [Act.put, List.setIfInBounds_toArray, List.set_cons_zero, List.set_cons_succ, i64_w, i32_w]
   rfl
  refine one_ (i := 2) (N := some 16) #[true, true, true, false, false, false, false, false, false] rfl rfl (one_of HT_.out (by kernel_rfl)) (by decide) (fun K hK => ?_)
  refine goes_ Try.func57 (by kernel_rfl) rfl #[.slice A2 l2.length c2] (by rfl) rfl rfl (by (try simp only [List.map_toArray, List.map_cons, List.map_nil]); first | done | rfl) ?_
  with_reducible refine (mantletlaw09_short.calls (fun k_ => k_ < w.heap.size) _ _ l2 t1227 _ ?side920 A5.out).mono ?_
  (case side920 => exact Kd.V_mk HC2.out (Kd.F_below (Kd.C_F (Kd.heap_int .u8) HR2.out) (by repeat first | (with_reducible first | exact HB.out | apply mB | refine below_set ?_ GE904.out | refine below_set ?_ GE909.out) | exact HB.out)))
  rintro e w921 ⟨v922, rfl, ho923, hb⟩
  refine ⟨_, rfl, ?_⟩
  have n0_ := Aside0.mk (Kd.V_lower (Kd.V_mono (ok' := fun k_ => k_ ≠ gb900 ∧ k_ ≠ gb905) ho923 (fun k_ hk_ => ⟨Or.elim hk_ (fun hs_ => fun e_ => Nat.not_le.2 hs_ (by rw [e_]; exact GW903.out)) (fun hn_ => (Kd.freshB (g := gb900) (o := .cells #[.int .u8 a0_0, .int .u32 a0_1, .int .u32 a0_2, .int .u16 a0_3, .int .u16 a0_4, .int .u8 a0_5, .int .u8 a0_6] 72 (0, 0)) (by (with_reducible repeat apply mk_); exact BK902.out) k_ hn_)), Or.elim hk_ (fun hs_ => fun e_ => Nat.not_le.2 hs_ (by rw [e_]; exact GW908.out)) (fun hn_ => (Kd.freshB (g := gb905) (o := .cells #[.int .u8 a1_0, .int .u32 a1_1, .int .u32 a1_2, .int .u16 a1_3, .int .u16 a1_4, .int .u8 a1_5, .int .u8 a1_6] 72 (0, 0)) (by (with_reducible repeat apply mk_); exact BK907.out) k_ hn_))⟩)) (below_size (by repeat first | (with_reducible first | exact HB.out | apply mB | refine below_set ?_ GE904.out | refine below_set ?_ GE909.out) | exact HB.out)))
  have n1_ := Aside0.mk (blk_below (g := gb900) (o := .cells #[.int .u8 a0_0, .int .u32 a0_1, .int .u32 a0_2, .int .u16 a0_3, .int .u16 a0_4, .int .u8 a0_5, .int .u8 a0_6] 72 (0, 0)) (by (with_reducible repeat apply mk_); exact BK902.out) hb)
  have n2_ := Aside0.mk (blk_below (g := gb905) (o := .cells #[.int .u8 a1_0, .int .u32 a1_1, .int .u32 a1_2, .int .u16 a1_3, .int .u16 a1_4, .int .u8 a1_5, .int .u8 a1_6] 72 (0, 0)) (by (with_reducible repeat apply mk_); exact BK907.out) hb)
  have n3_ := Aside0.mk (below_step (by repeat first | (with_reducible first | exact HB.out | apply mB | refine below_set ?_ GE904.out | refine below_set ?_ GE909.out) | exact HB.out) hb)
  clear BK902
  clear BK907
  clear HB
  have HO924 := n0_
  have BK902 := n1_
  have BK907 := n2_
  have HB := n3_
  clear n0_ n1_ n2_ n3_
  (try clear hb)
  (try clear hb2)
  (try clear hk)
  (try clear hi)
  (try clear ho923)
  obtain ⟨Ao925, co926, eo927⟩ := Kd.V_slice HO924.out
  (first | subst eo927 | (injection eo927 with f1_ f2_ f3_; have f928 := f1_.symm; have f929 := f3_.symm; clear f1_ f2_ f3_; subst f928; subst f929))
  refine hK.out _ _ ⟨(blk_cell BK902.out 0).trans rfl, (blk_cell BK902.out 1).trans rfl, (blk_cell BK902.out 2).trans rfl, (blk_cell BK902.out 3).trans rfl, (blk_cell BK902.out 4).trans rfl, (blk_cell BK902.out 5).trans rfl, (blk_cell BK902.out 6).trans rfl⟩ (fun hHeld => ?_)
  clear hK K
  refine norm_ (a' := ?_) ?_ ?_
  rotate_left
  ·show Act.put _ (some 16) _ = _
   simp only [Act.put, List.setIfInBounds_toArray, List.set_cons_zero, List.set_cons_succ, i64_w, i32_w]
   rfl
  refine one_ (i := 3) (N := some 17) #[true, true, true, true, false, false, false, false, false] rfl rfl (one_of HT_.out (by kernel_rfl)) (by decide) (fun K hK => ?_)
  refine goes_ Try.func56 (by kernel_rfl) rfl #[.agg #[.int .u8 a0_0, .int .u32 a0_1, .int .u32 a0_2, .int .u16 a0_3, .int .u16 a0_4, .int .u8 a0_5, .int .u8 a0_6], .slice Ao925 t1227.length co926] (by rfl) rfl rfl (by (try simp only [List.map_toArray, List.map_cons, List.map_nil]); first | done | rfl) ?_
  with_reducible refine (pack_Build.calls k a0_0 a0_1 a0_2 a0_3 a0_4 a0_5 a0_6 (fun k_ => (k_ ≠ gb900 ∧ k_ ≠ gb905)) _ _ t1227 t1230 t1233 _ ?side920 A6.out).mono ?_
  (case side920 => exact HO924.out)
  rintro e w930 ⟨v931, rfl, ho923, hb⟩
  refine ⟨_, rfl, ?_⟩
  have n0_ := Aside0.mk (Kd.V_below (by (with_reducible repeat apply mV); exact HO924.out) hb)
  have n1_ := Aside0.mk (Kd.V_lower (Kd.V_mono (ok' := fun k_ => k_ ≠ gb900 ∧ k_ ≠ gb905) ho923 (fun k_ hk_ => ⟨Or.elim hk_ (fun hs_ => hs_.1) (fun hn_ => (Kd.freshB (g := gb900) (o := .cells #[.int .u8 a0_0, .int .u32 a0_1, .int .u32 a0_2, .int .u16 a0_3, .int .u16 a0_4, .int .u8 a0_5, .int .u8 a0_6] 72 (0, 0)) (by (with_reducible repeat apply mk_); exact BK902.out) k_ hn_)), Or.elim hk_ (fun hs_ => hs_.2) (fun hn_ => (Kd.freshB (g := gb905) (o := .cells #[.int .u8 a1_0, .int .u32 a1_1, .int .u32 a1_2, .int .u16 a1_3, .int .u16 a1_4, .int .u8 a1_5, .int .u8 a1_6] 72 (0, 0)) (by (with_reducible repeat apply mk_); exact BK907.out) k_ hn_))⟩)) (below_size (by repeat first | (with_reducible first | exact HB.out | apply mB | refine below_set ?_ GE904.out | refine below_set ?_ GE909.out) | exact HB.out)))
  have n2_ := Aside0.mk (blk_below (g := gb900) (o := .cells #[.int .u8 a0_0, .int .u32 a0_1, .int .u32 a0_2, .int .u16 a0_3, .int .u16 a0_4, .int .u8 a0_5, .int .u8 a0_6] 72 (0, 0)) (by (with_reducible repeat apply mk_); exact BK902.out) hb)
  have n3_ := Aside0.mk (blk_below (g := gb905) (o := .cells #[.int .u8 a1_0, .int .u32 a1_1, .int .u32 a1_2, .int .u16 a1_3, .int .u16 a1_4, .int .u8 a1_5, .int .u8 a1_6] 72 (0, 0)) (by (with_reducible repeat apply mk_); exact BK907.out) hb)
  have n4_ := Aside0.mk (below_step (by repeat first | (with_reducible first | exact HB.out | apply mB | refine below_set ?_ GE904.out | refine below_set ?_ GE909.out) | exact HB.out) hb)
  clear HO924
  clear BK902
  clear BK907
  clear HB
  have HO924 := n0_
  have HO932 := n1_
  have BK902 := n2_
  have BK907 := n3_
  have HB := n4_
  clear n0_ n1_ n2_ n3_ n4_
  (try clear hb)
  (try clear hb2)
  (try clear hk)
  (try clear hi)
  (try clear ho923)
  refine hK.out _ _ ⟨(blk_cell BK902.out 0).trans rfl, (blk_cell BK902.out 1).trans rfl, (blk_cell BK902.out 2).trans rfl, (blk_cell BK902.out 3).trans rfl, (blk_cell BK902.out 4).trans rfl, (blk_cell BK902.out 5).trans rfl, (blk_cell BK902.out 6).trans rfl⟩ (fun hHeld => ?_)
  clear hK K
  refine norm_ (a' := ?_) ?_ ?_
  rotate_left
  ·show Act.put _ (some 17) _ = _
   simp only [Act.put, List.setIfInBounds_toArray, List.set_cons_zero, List.set_cons_succ, i64_w, i32_w]
   rfl
  refine pure_ (i := 4) (N := some 13) (v := ?_) (a' := ?_) #[true, true, true, true, true, false, false, false, false] rfl rfl (any_of HT_.out (by kernel_rfl)) (fun _ _ _ h => h) (Or.inl ⟨by rfl, ?_⟩) ?_ ?_
  rotate_left
  ·intro w'
   go_simp
   with_reducible rfl
  rotate_left
  ·simp only [Act.put, List.setIfInBounds_toArray, List.set_cons_zero, List.set_cons_succ, i64_w, i32_w]
   rfl
  refine pure_ (i := 5) (N := some 18) (v := ?_) (a' := ?_) #[true, true, true, true, true, true, false, false, false] rfl rfl (any_of HT_.out (by kernel_rfl)) (fun _ _ _ h => h) (Or.inl ⟨by rfl, ?_⟩) ?_ ?_
  rotate_left
  ·intro w'
   go_simp
   with_reducible rfl
  rotate_left
  ·simp only [Act.put, List.setIfInBounds_toArray, List.set_cons_zero, List.set_cons_succ, i64_w, i32_w]
   rfl
  refine pure_ (i := 6) (N := some 19) (v := ?_) (a' := ?_) #[true, true, true, true, true, true, true, false, false] rfl rfl (any_of HT_.out (by kernel_rfl)) (fun _ _ _ h => h) (Or.inl ⟨by rfl, ?_⟩) ?_ ?_
  rotate_left
  ·intro w'
   go_simp
   with_reducible rfl
  rotate_left
  ·simp only [Act.put, List.setIfInBounds_toArray, List.set_cons_zero, List.set_cons_succ, i64_w, i32_w]
   rfl
  refine pure_ (i := 7) (N := some 9) (v := ?_) (a' := ?_) #[true, true, true, true, true, true, true, true, false] rfl rfl (any_of HT_.out (by kernel_rfl)) (fun _ _ _ h => h) (Or.inl ⟨by rfl, ?_⟩) ?_ ?_
  rotate_left
  ·intro w'
   go_simp
   with_reducible rfl
  rotate_left
  ·simp only [Act.put, List.setIfInBounds_toArray, List.set_cons_zero, List.set_cons_succ, i64_w, i32_w]
   rfl
  refine pure_ (i := 8) (N := some 10) (v := ?_) (a' := ?_) #[true, true, true, true, true, true, true, true, true] rfl rfl (any_of HT_.out (by kernel_rfl)) (fun _ _ _ h => h) (Or.inl ⟨by rfl, ?_⟩) ?_ ?_
  rotate_left
  ·intro w'
   go_simp
   with_reducible rfl
  rotate_left
  ·simp only [Act.put, List.setIfInBounds_toArray, List.set_cons_zero, List.set_cons_succ, i64_w, i32_w]
   rfl
  refine done_ (done_of HT_.out (by kernel_rfl)) ?_
  try go_wp2
  have n0_ := Aside0.mk (Kd.V_drew HO924.out)
  have n1_ := Aside0.mk (Kd.V_drew HO932.out)
  have n2_ := Aside0.mk (blk_drew BK902.out)
  have n3_ := Aside0.mk (blk_drew BK907.out)
  have n4_ := Aside0.mk (below_drew1 HB.out)
  clear HO924
  clear HO932
  clear BK902
  clear BK907
  clear HB
  have HO924 := n0_
  have HO932 := n1_
  have BK902 := n2_
  have BK907 := n3_
  have HB := n4_
  clear n0_ n1_ n2_ n3_ n4_
  refine start_ (n := 9) (S := fun w' => w'.cell? ⟨gb905, 0, none⟩ = some (.int .u8 a1_0) ∧ w'.cell? ⟨gb905, 1, none⟩ = some (.int .u32 a1_1) ∧ w'.cell? ⟨gb905, 2, none⟩ = some (.int .u32 a1_2) ∧ w'.cell? ⟨gb905, 3, none⟩ = some (.int .u16 a1_3) ∧ w'.cell? ⟨gb905, 4, none⟩ = some (.int .u16 a1_4) ∧ w'.cell? ⟨gb905, 5, none⟩ = some (.int .u8 a1_5) ∧ w'.cell? ⟨gb905, 6, none⟩ = some (.int .u8 a1_6)) (ds := []) #[false, false, false, false, false, false, false, false, false] (by kernel_rfl) rfl rfl ⟨(blk_cell BK907.out 0).trans rfl, (blk_cell BK907.out 1).trans rfl, (blk_cell BK907.out 2).trans rfl, (blk_cell BK907.out 3).trans rfl, (blk_cell BK907.out 4).trans rfl, (blk_cell BK907.out 5).trans rfl, (blk_cell BK907.out 6).trans rfl⟩ (fun hHeld => ?_); refine with_tabW mantletlaw09_PackUnlike.tab2 mantletlaw09_PackUnlike.bits2 (fun HT_ HW_ => ?_)
  generalize w930.drew = w933 at HO924 HO932 BK902 BK907 HB hHeld ⊢
  refine pure_ (i := 1) (N := some 22) (v := ?_) (a' := ?_) #[false, true, false, false, false, false, false, false, false] rfl rfl (any_of HT_.out (by kernel_rfl)) (fun _ _ _ h => h) (Or.inl ⟨by rfl, ?_⟩) ?_ ?_
  rotate_left
  ·intro w'
   go_simp
   with_reducible rfl
  rotate_left
  ·simp only [Act.put, List.setIfInBounds_toArray, List.set_cons_zero, List.set_cons_succ, i64_w, i32_w]
   rfl
  refine take_ (i := 0) (N := some 21) (v := ?_) (a' := ?_) #[true, true, false, false, false, false, false, false, false] rfl rfl (take_ofW HT_.out HW_.out (by kernel_rfl)) (fun _ _ _ h => h) (Or.inl ⟨by rfl, ?_⟩) hHeld ?_ ?_
  rotate_left
  ·rintro w' ⟨s913, s914, s915, s916, s917, s918, s919⟩
   go_simp
   with_reducible rfl
  rotate_left
  ·simp only [Act.put, List.setIfInBounds_toArray, List.set_cons_zero, List.set_cons_succ, i64_w, i32_w]
   rfl
  refine one_ (i := 2) (N := some 23) #[true, true, true, false, false, false, false, false, false] rfl rfl (one_of HT_.out (by kernel_rfl)) (by decide) (fun K hK => ?_)
  refine goes_ Try.func57 (by kernel_rfl) rfl #[.slice A3 l3.length c3] (by rfl) rfl rfl (by (try simp only [List.map_toArray, List.map_cons, List.map_nil]); first | done | rfl) ?_
  with_reducible refine (mantletlaw09_short.calls (fun k_ => k_ < w.heap.size) _ _ l3 t1234 _ ?side920 A7.out).mono ?_
  (case side920 => exact Kd.V_mk HC3.out (Kd.F_below (Kd.C_F (Kd.heap_int .u8) HR3.out) (by repeat first | (with_reducible first | exact HB.out | apply mB | refine below_set ?_ GE904.out | refine below_set ?_ GE909.out) | exact HB.out)))
  rintro e w934 ⟨v935, rfl, ho923, hb⟩
  refine ⟨_, rfl, ?_⟩
  have n0_ := Aside0.mk (Kd.V_below (by (with_reducible repeat apply mV); exact HO924.out) hb)
  have n1_ := Aside0.mk (Kd.V_below (by (with_reducible repeat apply mV); exact HO932.out) hb)
  have n2_ := Aside0.mk (Kd.V_lower (Kd.V_mono (ok' := fun k_ => k_ ≠ gb900 ∧ k_ ≠ gb905) ho923 (fun k_ hk_ => ⟨Or.elim hk_ (fun hs_ => fun e_ => Nat.not_le.2 hs_ (by rw [e_]; exact GW903.out)) (fun hn_ => (Kd.freshB (g := gb900) (o := .cells #[.int .u8 a0_0, .int .u32 a0_1, .int .u32 a0_2, .int .u16 a0_3, .int .u16 a0_4, .int .u8 a0_5, .int .u8 a0_6] 72 (0, 0)) (by (with_reducible repeat apply mk_); exact BK902.out) k_ hn_)), Or.elim hk_ (fun hs_ => fun e_ => Nat.not_le.2 hs_ (by rw [e_]; exact GW908.out)) (fun hn_ => (Kd.freshB (g := gb905) (o := .cells #[.int .u8 a1_0, .int .u32 a1_1, .int .u32 a1_2, .int .u16 a1_3, .int .u16 a1_4, .int .u8 a1_5, .int .u8 a1_6] 72 (0, 0)) (by (with_reducible repeat apply mk_); exact BK907.out) k_ hn_))⟩)) (below_size (by repeat first | (with_reducible first | exact HB.out | apply mB | refine below_set ?_ GE904.out | refine below_set ?_ GE909.out) | exact HB.out)))
  have n3_ := Aside0.mk (blk_below (g := gb900) (o := .cells #[.int .u8 a0_0, .int .u32 a0_1, .int .u32 a0_2, .int .u16 a0_3, .int .u16 a0_4, .int .u8 a0_5, .int .u8 a0_6] 72 (0, 0)) (by (with_reducible repeat apply mk_); exact BK902.out) hb)
  have n4_ := Aside0.mk (blk_below (g := gb905) (o := .cells #[.int .u8 a1_0, .int .u32 a1_1, .int .u32 a1_2, .int .u16 a1_3, .int .u16 a1_4, .int .u8 a1_5, .int .u8 a1_6] 72 (0, 0)) (by (with_reducible repeat apply mk_); exact BK907.out) hb)
  have n5_ := Aside0.mk (below_step (by repeat first | (with_reducible first | exact HB.out | apply mB | refine below_set ?_ GE904.out | refine below_set ?_ GE909.out) | exact HB.out) hb)
  clear HO924
  clear HO932
  clear BK902
  clear BK907
  clear HB
  have HO924 := n0_
  have HO932 := n1_
  have HO936 := n2_
  have BK902 := n3_
  have BK907 := n4_
  have HB := n5_
  clear n0_ n1_ n2_ n3_ n4_ n5_
  (try clear hb)
  (try clear hb2)
  (try clear hk)
  (try clear hi)
  (try clear ho923)
  obtain ⟨Ao937, co938, eo939⟩ := Kd.V_slice HO936.out
  (first | subst eo939 | (injection eo939 with f1_ f2_ f3_; have f928 := f1_.symm; have f929 := f3_.symm; clear f1_ f2_ f3_; subst f928; subst f929))
  refine hK.out _ _ ⟨(blk_cell BK907.out 0).trans rfl, (blk_cell BK907.out 1).trans rfl, (blk_cell BK907.out 2).trans rfl, (blk_cell BK907.out 3).trans rfl, (blk_cell BK907.out 4).trans rfl, (blk_cell BK907.out 5).trans rfl, (blk_cell BK907.out 6).trans rfl⟩ (fun hHeld => ?_)
  clear hK K
  refine norm_ (a' := ?_) ?_ ?_
  rotate_left
  ·show Act.put _ (some 23) _ = _
   simp only [Act.put, List.setIfInBounds_toArray, List.set_cons_zero, List.set_cons_succ, i64_w, i32_w]
   rfl
  refine one_ (i := 3) (N := some 24) #[true, true, true, true, false, false, false, false, false] rfl rfl (one_of HT_.out (by kernel_rfl)) (by decide) (fun K hK => ?_)
  refine goes_ Try.func56 (by kernel_rfl) rfl #[.agg #[.int .u8 a1_0, .int .u32 a1_1, .int .u32 a1_2, .int .u16 a1_3, .int .u16 a1_4, .int .u8 a1_5, .int .u8 a1_6], .slice Ao937 t1234.length co938] (by rfl) rfl rfl (by (try simp only [List.map_toArray, List.map_cons, List.map_nil]); first | done | rfl) ?_
  with_reducible refine (pack_Build.calls k a1_0 a1_1 a1_2 a1_3 a1_4 a1_5 a1_6 (fun k_ => (k_ ≠ gb900 ∧ k_ ≠ gb905)) _ _ t1234 t1237 t1240 _ ?side920 A8.out).mono ?_
  (case side920 => exact HO936.out)
  rintro e w940 ⟨v941, rfl, ho923, hb⟩
  refine ⟨_, rfl, ?_⟩
  have n0_ := Aside0.mk (Kd.V_below (by (with_reducible repeat apply mV); exact HO924.out) hb)
  have n1_ := Aside0.mk (Kd.V_below (by (with_reducible repeat apply mV); exact HO932.out) hb)
  have n2_ := Aside0.mk (Kd.V_below (by (with_reducible repeat apply mV); exact HO936.out) hb)
  have n3_ := Aside0.mk (Kd.V_lower (Kd.V_mono (ok' := fun k_ => k_ ≠ gb900 ∧ k_ ≠ gb905) ho923 (fun k_ hk_ => ⟨Or.elim hk_ (fun hs_ => hs_.1) (fun hn_ => (Kd.freshB (g := gb900) (o := .cells #[.int .u8 a0_0, .int .u32 a0_1, .int .u32 a0_2, .int .u16 a0_3, .int .u16 a0_4, .int .u8 a0_5, .int .u8 a0_6] 72 (0, 0)) (by (with_reducible repeat apply mk_); exact BK902.out) k_ hn_)), Or.elim hk_ (fun hs_ => hs_.2) (fun hn_ => (Kd.freshB (g := gb905) (o := .cells #[.int .u8 a1_0, .int .u32 a1_1, .int .u32 a1_2, .int .u16 a1_3, .int .u16 a1_4, .int .u8 a1_5, .int .u8 a1_6] 72 (0, 0)) (by (with_reducible repeat apply mk_); exact BK907.out) k_ hn_))⟩)) (below_size (by repeat first | (with_reducible first | exact HB.out | apply mB | refine below_set ?_ GE904.out | refine below_set ?_ GE909.out) | exact HB.out)))
  have n4_ := Aside0.mk (blk_below (g := gb900) (o := .cells #[.int .u8 a0_0, .int .u32 a0_1, .int .u32 a0_2, .int .u16 a0_3, .int .u16 a0_4, .int .u8 a0_5, .int .u8 a0_6] 72 (0, 0)) (by (with_reducible repeat apply mk_); exact BK902.out) hb)
  have n5_ := Aside0.mk (blk_below (g := gb905) (o := .cells #[.int .u8 a1_0, .int .u32 a1_1, .int .u32 a1_2, .int .u16 a1_3, .int .u16 a1_4, .int .u8 a1_5, .int .u8 a1_6] 72 (0, 0)) (by (with_reducible repeat apply mk_); exact BK907.out) hb)
  have n6_ := Aside0.mk (below_step (by repeat first | (with_reducible first | exact HB.out | apply mB | refine below_set ?_ GE904.out | refine below_set ?_ GE909.out) | exact HB.out) hb)
  clear HO924
  clear HO932
  clear HO936
  clear BK902
  clear BK907
  clear HB
  have HO924 := n0_
  have HO932 := n1_
  have HO936 := n2_
  have HO942 := n3_
  have BK902 := n4_
  have BK907 := n5_
  have HB := n6_
  clear n0_ n1_ n2_ n3_ n4_ n5_ n6_
  (try clear hb)
  (try clear hb2)
  (try clear hk)
  (try clear hi)
  (try clear ho923)
  refine hK.out _ _ ⟨(blk_cell BK907.out 0).trans rfl, (blk_cell BK907.out 1).trans rfl, (blk_cell BK907.out 2).trans rfl, (blk_cell BK907.out 3).trans rfl, (blk_cell BK907.out 4).trans rfl, (blk_cell BK907.out 5).trans rfl, (blk_cell BK907.out 6).trans rfl⟩ (fun hHeld => ?_)
  clear hK K
  refine norm_ (a' := ?_) ?_ ?_
  rotate_left
  ·show Act.put _ (some 24) _ = _
   simp only [Act.put, List.setIfInBounds_toArray, List.set_cons_zero, List.set_cons_succ, i64_w, i32_w]
   rfl
  refine pure_ (i := 4) (N := some 20) (v := ?_) (a' := ?_) #[true, true, true, true, true, false, false, false, false] rfl rfl (any_of HT_.out (by kernel_rfl)) (fun _ _ _ h => h) (Or.inl ⟨by rfl, ?_⟩) ?_ ?_
  rotate_left
  ·intro w'
   go_simp
   with_reducible rfl
  rotate_left
  ·simp only [Act.put, List.setIfInBounds_toArray, List.set_cons_zero, List.set_cons_succ, i64_w, i32_w]
   rfl
  refine pure_ (i := 5) (N := some 25) (v := ?_) (a' := ?_) #[true, true, true, true, true, true, false, false, false] rfl rfl (any_of HT_.out (by kernel_rfl)) (fun _ _ _ h => h) (Or.inl ⟨by rfl, ?_⟩) ?_ ?_
  rotate_left
  ·intro w'
   go_simp
   with_reducible rfl
  rotate_left
  ·simp only [Act.put, List.setIfInBounds_toArray, List.set_cons_zero, List.set_cons_succ, i64_w, i32_w]
   rfl
  refine pure_ (i := 6) (N := some 26) (v := ?_) (a' := ?_) #[true, true, true, true, true, true, true, false, false] rfl rfl (any_of HT_.out (by kernel_rfl)) (fun _ _ _ h => h) (Or.inl ⟨by rfl, ?_⟩) ?_ ?_
  rotate_left
  ·intro w'
   go_simp
   with_reducible rfl
  rotate_left
  ·simp only [Act.put, List.setIfInBounds_toArray, List.set_cons_zero, List.set_cons_succ, i64_w, i32_w]
   rfl
  refine pure_ (i := 7) (N := some 11) (v := ?_) (a' := ?_) #[true, true, true, true, true, true, true, true, false] rfl rfl (any_of HT_.out (by kernel_rfl)) (fun _ _ _ h => h) (Or.inl ⟨by rfl, ?_⟩) ?_ ?_
  rotate_left
  ·intro w'
   go_simp
   with_reducible rfl
  rotate_left
  ·simp only [Act.put, List.setIfInBounds_toArray, List.set_cons_zero, List.set_cons_succ, i64_w, i32_w]
   rfl
  refine pure_ (i := 8) (N := some 12) (v := ?_) (a' := ?_) #[true, true, true, true, true, true, true, true, true] rfl rfl (any_of HT_.out (by kernel_rfl)) (fun _ _ _ h => h) (Or.inl ⟨by rfl, ?_⟩) ?_ ?_
  rotate_left
  ·intro w'
   go_simp
   with_reducible rfl
  rotate_left
  ·simp only [Act.put, List.setIfInBounds_toArray, List.set_cons_zero, List.set_cons_succ, i64_w, i32_w]
   rfl
  refine done_ (done_of HT_.out (by kernel_rfl)) ?_
  have H := HH_.out
  clear HH_
  by_cases c11 : t1233 = 0
  ·rw [if_pos c11] at H
   have c11b0 : (t1233 == 0) = true := beq_iff_eq.mpr c11
   have c11b1 : (t1233 != 0) = false := bne_eq_false_iff_eq.mpr c11
   clear c11
   by_cases c12 : t1240 = 0
   ·rw [if_pos c12] at H
    have c12b0 : (t1240 == 0) = true := beq_iff_eq.mpr c12
    have c12b1 : (t1240 != 0) = false := bne_eq_false_iff_eq.mpr c12
    clear c12
    by_cases c13 : (a0_0 == a1_0 && (a0_1 == a1_1 && (a0_2 == a1_2 && (a0_3 == a1_3 && (a0_4 == a1_4 && (a0_5 == a1_5 && (a0_6 == a1_6))))))) = true
    ·rw [if_pos c13] at H
     have c13b0 : (a0_0 == a1_0 && (a0_1 == a1_1 && (a0_2 == a1_2 && (a0_3 == a1_3 && (a0_4 == a1_4 && (a0_5 == a1_5 && (a0_6 == a1_6))))))) = true := c13
     (try (have c13b1 : decide (a0_0 = a1_0 && (a0_1 == a1_1 && (a0_2 == a1_2 && (a0_3 == a1_3 && (a0_4 == a1_4 && (a0_5 == a1_5 && (a0_6 == a1_6))))))) = true := by simpa using c13))
     (try (have c13b2 : (a0_0 == a1_0 && (a0_1 == a1_1 && (a0_2 == a1_2 && (a0_3 == a1_3 && (a0_4 == a1_4 && (a0_5 == a1_5 && (a0_6 == a1_6))))))) = true := by simpa using c13))
     clear c13
     obtain rfl := Option.some.inj H
     try go_wp2_with (first | ((with_reducible refine gate_callee (f := 59) rfl ?_); refine goesL_ (some 27) rfl rfl Try.func59 (by kernel_rfl) rfl #[] rfl (by (try simp only [List.map_toArray, List.map_cons, List.map_nil]); first | done | rfl) ?_; (with_reducible refine (mantletlaw09_awake.calls k  true _ A9.out).mono ?_); rintro e w943 ⟨rfl, hb⟩; refine ⟨_, rfl, ?_⟩; have n0_ := Aside0.mk (Kd.V_below (by (with_reducible repeat apply mV); exact HO924.out) hb); have n1_ := Aside0.mk (Kd.V_below (by (with_reducible repeat apply mV); exact HO932.out) hb); have n2_ := Aside0.mk (Kd.V_below (by (with_reducible repeat apply mV); exact HO936.out) hb); have n3_ := Aside0.mk (Kd.V_below (by (with_reducible repeat apply mV); exact HO942.out) hb); have n4_ := Aside0.mk (blk_below (g := gb900) (o := .cells #[.int .u8 a0_0, .int .u32 a0_1, .int .u32 a0_2, .int .u16 a0_3, .int .u16 a0_4, .int .u8 a0_5, .int .u8 a0_6] 72 (0, 0)) (by (with_reducible repeat apply mk_); exact BK902.out) hb); have n5_ := Aside0.mk (blk_below (g := gb905) (o := .cells #[.int .u8 a1_0, .int .u32 a1_1, .int .u32 a1_2, .int .u16 a1_3, .int .u16 a1_4, .int .u8 a1_5, .int .u8 a1_6] 72 (0, 0)) (by (with_reducible repeat apply mk_); exact BK907.out) hb); have n6_ := Aside0.mk (below_step (by repeat first | (with_reducible first | exact HB.out | apply mB | refine below_set ?_ GE904.out | refine below_set ?_ GE909.out) | exact HB.out) hb); clear HO924; clear HO932; clear HO936; clear HO942; clear BK902; clear BK907; clear HB; have HO924 := n0_; have HO932 := n1_; have HO936 := n2_; have HO942 := n3_; have BK902 := n4_; have BK907 := n5_; have HB := n6_; clear n0_ n1_ n2_ n3_ n4_ n5_ n6_; (try clear hb); (try clear hb2); (try clear hk); (try clear hi); have hnb944 := NB910.out; have hnc945 := NB911.out; have hcz946 : w943.cell? ⟨gb900, 0, none⟩ = some (.int .u8 a0_0) := (blk_cell BK902.out 0).trans rfl; have hcz947 : w943.cell? ⟨gb900, 1, none⟩ = some (.int .u32 a0_1) := (blk_cell BK902.out 1).trans rfl; have hcz948 : w943.cell? ⟨gb900, 2, none⟩ = some (.int .u32 a0_2) := (blk_cell BK902.out 2).trans rfl; have hcz949 : w943.cell? ⟨gb900, 3, none⟩ = some (.int .u16 a0_3) := (blk_cell BK902.out 3).trans rfl; have hcz950 : w943.cell? ⟨gb900, 4, none⟩ = some (.int .u16 a0_4) := (blk_cell BK902.out 4).trans rfl; have hcz951 : w943.cell? ⟨gb900, 5, none⟩ = some (.int .u8 a0_5) := (blk_cell BK902.out 5).trans rfl; have hcz952 : w943.cell? ⟨gb900, 6, none⟩ = some (.int .u8 a0_6) := (blk_cell BK902.out 6).trans rfl; have hfz953 := blk_frozen BK902.out 0; have hfz954 := blk_frozen BK902.out 1; have hfz955 := blk_frozen BK902.out 2; have hfz956 := blk_frozen BK902.out 3; have hfz957 := blk_frozen BK902.out 4; have hfz958 := blk_frozen BK902.out 5; have hfz959 := blk_frozen BK902.out 6; have hcz960 : w943.cell? ⟨gb905, 0, none⟩ = some (.int .u8 a1_0) := (blk_cell BK907.out 0).trans rfl; have hcz961 : w943.cell? ⟨gb905, 1, none⟩ = some (.int .u32 a1_1) := (blk_cell BK907.out 1).trans rfl; have hcz962 : w943.cell? ⟨gb905, 2, none⟩ = some (.int .u32 a1_2) := (blk_cell BK907.out 2).trans rfl; have hcz963 : w943.cell? ⟨gb905, 3, none⟩ = some (.int .u16 a1_3) := (blk_cell BK907.out 3).trans rfl; have hcz964 : w943.cell? ⟨gb905, 4, none⟩ = some (.int .u16 a1_4) := (blk_cell BK907.out 4).trans rfl; have hcz965 : w943.cell? ⟨gb905, 5, none⟩ = some (.int .u8 a1_5) := (blk_cell BK907.out 5).trans rfl; have hcz966 : w943.cell? ⟨gb905, 6, none⟩ = some (.int .u8 a1_6) := (blk_cell BK907.out 6).trans rfl; have hfz967 := blk_frozen BK907.out 0; have hfz968 := blk_frozen BK907.out 1; have hfz969 := blk_frozen BK907.out 2; have hfz970 := blk_frozen BK907.out 3; have hfz971 := blk_frozen BK907.out 4; have hfz972 := blk_frozen BK907.out 5; have hfz973 := blk_frozen BK907.out 6))
     go_ret
     exact ⟨by first | rfl | (simp [errW_none, errW_some] <;> rfl) | (simp [*, errW_none, errW_some] <;> rfl), by repeat first | (with_reducible first | exact HB.out | apply mB | refine below_set ?_ GE904.out | refine below_set ?_ GE909.out) | exact HB.out⟩
    ·rw [if_neg c13] at H
     have c13b0 : (a0_0 == a1_0 && (a0_1 == a1_1 && (a0_2 == a1_2 && (a0_3 == a1_3 && (a0_4 == a1_4 && (a0_5 == a1_5 && (a0_6 == a1_6))))))) = false := by simpa using c13
     (try (have c13b1 : decide (a0_0 = a1_0 && (a0_1 == a1_1 && (a0_2 == a1_2 && (a0_3 == a1_3 && (a0_4 == a1_4 && (a0_5 == a1_5 && (a0_6 == a1_6))))))) = false := by simpa using c13))
     (try (have c13b2 : (a0_0 == a1_0 && (a0_1 == a1_1 && (a0_2 == a1_2 && (a0_3 == a1_3 && (a0_4 == a1_4 && (a0_5 == a1_5 && (a0_6 == a1_6))))))) = false := by simpa using c13))
     (try (have c13b3 : ¬ (a0_0 = a1_0 && (a0_1 == a1_1 && (a0_2 == a1_2 && (a0_3 == a1_3 && (a0_4 == a1_4 && (a0_5 == a1_5 && (a0_6 == a1_6))))))) := by simpa using c13))
     clear c13
     obtain rfl := Option.some.inj H
     try go_wp2_with (first | ((with_reducible refine gate_callee (f := 59) rfl ?_); refine goesL_ (some 27) rfl rfl Try.func59 (by kernel_rfl) rfl #[] rfl (by (try simp only [List.map_toArray, List.map_cons, List.map_nil]); first | done | rfl) ?_; (with_reducible refine (mantletlaw09_awake.calls k  true _ A9.out).mono ?_); rintro e w943 ⟨rfl, hb⟩; refine ⟨_, rfl, ?_⟩; have n0_ := Aside0.mk (Kd.V_below (by (with_reducible repeat apply mV); exact HO924.out) hb); have n1_ := Aside0.mk (Kd.V_below (by (with_reducible repeat apply mV); exact HO932.out) hb); have n2_ := Aside0.mk (Kd.V_below (by (with_reducible repeat apply mV); exact HO936.out) hb); have n3_ := Aside0.mk (Kd.V_below (by (with_reducible repeat apply mV); exact HO942.out) hb); have n4_ := Aside0.mk (blk_below (g := gb900) (o := .cells #[.int .u8 a0_0, .int .u32 a0_1, .int .u32 a0_2, .int .u16 a0_3, .int .u16 a0_4, .int .u8 a0_5, .int .u8 a0_6] 72 (0, 0)) (by (with_reducible repeat apply mk_); exact BK902.out) hb); have n5_ := Aside0.mk (blk_below (g := gb905) (o := .cells #[.int .u8 a1_0, .int .u32 a1_1, .int .u32 a1_2, .int .u16 a1_3, .int .u16 a1_4, .int .u8 a1_5, .int .u8 a1_6] 72 (0, 0)) (by (with_reducible repeat apply mk_); exact BK907.out) hb); have n6_ := Aside0.mk (below_step (by repeat first | (with_reducible first | exact HB.out | apply mB | refine below_set ?_ GE904.out | refine below_set ?_ GE909.out) | exact HB.out) hb); clear HO924; clear HO932; clear HO936; clear HO942; clear BK902; clear BK907; clear HB; have HO924 := n0_; have HO932 := n1_; have HO936 := n2_; have HO942 := n3_; have BK902 := n4_; have BK907 := n5_; have HB := n6_; clear n0_ n1_ n2_ n3_ n4_ n5_ n6_; (try clear hb); (try clear hb2); (try clear hk); (try clear hi); have hnb944 := NB910.out; have hnc945 := NB911.out; have hcz946 : w943.cell? ⟨gb900, 0, none⟩ = some (.int .u8 a0_0) := (blk_cell BK902.out 0).trans rfl; have hcz947 : w943.cell? ⟨gb900, 1, none⟩ = some (.int .u32 a0_1) := (blk_cell BK902.out 1).trans rfl; have hcz948 : w943.cell? ⟨gb900, 2, none⟩ = some (.int .u32 a0_2) := (blk_cell BK902.out 2).trans rfl; have hcz949 : w943.cell? ⟨gb900, 3, none⟩ = some (.int .u16 a0_3) := (blk_cell BK902.out 3).trans rfl; have hcz950 : w943.cell? ⟨gb900, 4, none⟩ = some (.int .u16 a0_4) := (blk_cell BK902.out 4).trans rfl; have hcz951 : w943.cell? ⟨gb900, 5, none⟩ = some (.int .u8 a0_5) := (blk_cell BK902.out 5).trans rfl; have hcz952 : w943.cell? ⟨gb900, 6, none⟩ = some (.int .u8 a0_6) := (blk_cell BK902.out 6).trans rfl; have hfz953 := blk_frozen BK902.out 0; have hfz954 := blk_frozen BK902.out 1; have hfz955 := blk_frozen BK902.out 2; have hfz956 := blk_frozen BK902.out 3; have hfz957 := blk_frozen BK902.out 4; have hfz958 := blk_frozen BK902.out 5; have hfz959 := blk_frozen BK902.out 6; have hcz960 : w943.cell? ⟨gb905, 0, none⟩ = some (.int .u8 a1_0) := (blk_cell BK907.out 0).trans rfl; have hcz961 : w943.cell? ⟨gb905, 1, none⟩ = some (.int .u32 a1_1) := (blk_cell BK907.out 1).trans rfl; have hcz962 : w943.cell? ⟨gb905, 2, none⟩ = some (.int .u32 a1_2) := (blk_cell BK907.out 2).trans rfl; have hcz963 : w943.cell? ⟨gb905, 3, none⟩ = some (.int .u16 a1_3) := (blk_cell BK907.out 3).trans rfl; have hcz964 : w943.cell? ⟨gb905, 4, none⟩ = some (.int .u16 a1_4) := (blk_cell BK907.out 4).trans rfl; have hcz965 : w943.cell? ⟨gb905, 5, none⟩ = some (.int .u8 a1_5) := (blk_cell BK907.out 5).trans rfl; have hcz966 : w943.cell? ⟨gb905, 6, none⟩ = some (.int .u8 a1_6) := (blk_cell BK907.out 6).trans rfl; have hfz967 := blk_frozen BK907.out 0; have hfz968 := blk_frozen BK907.out 1; have hfz969 := blk_frozen BK907.out 2; have hfz970 := blk_frozen BK907.out 3; have hfz971 := blk_frozen BK907.out 4; have hfz972 := blk_frozen BK907.out 5; have hfz973 := blk_frozen BK907.out 6; have hcv974 := V_string (P := Try.prog) Try.underlying22 Try.underlying5 Try.underlying9 HO932.out; have hcvd975 := fun m_ : Nat => V_string (P := Try.prog) Try.underlying22 Try.underlying5 Try.underlying9 (Kd.V_drewN HO932.out m_); have hcv976 := V_string (P := Try.prog) Try.underlying22 Try.underlying5 Try.underlying9 HO942.out; have hcvd977 := fun m_ : Nat => V_string (P := Try.prog) Try.underlying22 Try.underlying5 Try.underlying9 (Kd.V_drewN HO942.out m_)))
     go_ret
     exact ⟨by first | rfl | (simp [errW_none, errW_some] <;> rfl) | (simp [*, errW_none, errW_some] <;> rfl), by repeat first | (with_reducible first | exact HB.out | apply mB | refine below_set ?_ GE904.out | refine below_set ?_ GE909.out) | exact HB.out⟩
   ·rw [if_neg c12] at H
    have c12b0 : (t1240 == 0) = false := beq_eq_false_iff_ne.mpr c12
    have c12b1 : (t1240 != 0) = true := bne_iff_ne.mpr c12
    obtain rfl := Option.some.inj H
    try go_wp2_with (first | ((with_reducible refine gate_callee (f := 59) rfl ?_); refine goesL_ (some 27) rfl rfl Try.func59 (by kernel_rfl) rfl #[] rfl (by (try simp only [List.map_toArray, List.map_cons, List.map_nil]); first | done | rfl) ?_; (with_reducible refine (mantletlaw09_awake.calls k  true _ A9.out).mono ?_); rintro e w943 ⟨rfl, hb⟩; refine ⟨_, rfl, ?_⟩; have n0_ := Aside0.mk (Kd.V_below (by (with_reducible repeat apply mV); exact HO924.out) hb); have n1_ := Aside0.mk (Kd.V_below (by (with_reducible repeat apply mV); exact HO932.out) hb); have n2_ := Aside0.mk (Kd.V_below (by (with_reducible repeat apply mV); exact HO936.out) hb); have n3_ := Aside0.mk (Kd.V_below (by (with_reducible repeat apply mV); exact HO942.out) hb); have n4_ := Aside0.mk (blk_below (g := gb900) (o := .cells #[.int .u8 a0_0, .int .u32 a0_1, .int .u32 a0_2, .int .u16 a0_3, .int .u16 a0_4, .int .u8 a0_5, .int .u8 a0_6] 72 (0, 0)) (by (with_reducible repeat apply mk_); exact BK902.out) hb); have n5_ := Aside0.mk (blk_below (g := gb905) (o := .cells #[.int .u8 a1_0, .int .u32 a1_1, .int .u32 a1_2, .int .u16 a1_3, .int .u16 a1_4, .int .u8 a1_5, .int .u8 a1_6] 72 (0, 0)) (by (with_reducible repeat apply mk_); exact BK907.out) hb); have n6_ := Aside0.mk (below_step (by repeat first | (with_reducible first | exact HB.out | apply mB | refine below_set ?_ GE904.out | refine below_set ?_ GE909.out) | exact HB.out) hb); clear HO924; clear HO932; clear HO936; clear HO942; clear BK902; clear BK907; clear HB; have HO924 := n0_; have HO932 := n1_; have HO936 := n2_; have HO942 := n3_; have BK902 := n4_; have BK907 := n5_; have HB := n6_; clear n0_ n1_ n2_ n3_ n4_ n5_ n6_; (try clear hb); (try clear hb2); (try clear hk); (try clear hi)))
    go_ret
    exact ⟨by first | rfl | (simp [errW_none, errW_some] <;> rfl) | (simp [*, errW_none, errW_some] <;> rfl), by repeat first | (with_reducible first | exact HB.out | apply mB | refine below_set ?_ GE904.out | refine below_set ?_ GE909.out) | exact HB.out⟩
  ·rw [if_neg c11] at H
   have c11b0 : (t1233 == 0) = false := beq_eq_false_iff_ne.mpr c11
   have c11b1 : (t1233 != 0) = true := bne_iff_ne.mpr c11
   obtain rfl := Option.some.inj H
   try go_wp2_with (first | ((with_reducible refine gate_callee (f := 59) rfl ?_); refine goesL_ (some 27) rfl rfl Try.func59 (by kernel_rfl) rfl #[] rfl (by (try simp only [List.map_toArray, List.map_cons, List.map_nil]); first | done | rfl) ?_; (with_reducible refine (mantletlaw09_awake.calls k  true _ A9.out).mono ?_); rintro e w943 ⟨rfl, hb⟩; refine ⟨_, rfl, ?_⟩; have n0_ := Aside0.mk (Kd.V_below (by (with_reducible repeat apply mV); exact HO924.out) hb); have n1_ := Aside0.mk (Kd.V_below (by (with_reducible repeat apply mV); exact HO932.out) hb); have n2_ := Aside0.mk (Kd.V_below (by (with_reducible repeat apply mV); exact HO936.out) hb); have n3_ := Aside0.mk (Kd.V_below (by (with_reducible repeat apply mV); exact HO942.out) hb); have n4_ := Aside0.mk (blk_below (g := gb900) (o := .cells #[.int .u8 a0_0, .int .u32 a0_1, .int .u32 a0_2, .int .u16 a0_3, .int .u16 a0_4, .int .u8 a0_5, .int .u8 a0_6] 72 (0, 0)) (by (with_reducible repeat apply mk_); exact BK902.out) hb); have n5_ := Aside0.mk (blk_below (g := gb905) (o := .cells #[.int .u8 a1_0, .int .u32 a1_1, .int .u32 a1_2, .int .u16 a1_3, .int .u16 a1_4, .int .u8 a1_5, .int .u8 a1_6] 72 (0, 0)) (by (with_reducible repeat apply mk_); exact BK907.out) hb); have n6_ := Aside0.mk (below_step (by repeat first | (with_reducible first | exact HB.out | apply mB | refine below_set ?_ GE904.out | refine below_set ?_ GE909.out) | exact HB.out) hb); clear HO924; clear HO932; clear HO936; clear HO942; clear BK902; clear BK907; clear HB; have HO924 := n0_; have HO932 := n1_; have HO936 := n2_; have HO942 := n3_; have BK902 := n4_; have BK907 := n5_; have HB := n6_; clear n0_ n1_ n2_ n3_ n4_ n5_ n6_; (try clear hb); (try clear hb2); (try clear hk); (try clear hi)))
   go_ret
   exact ⟨by first | rfl | (simp [errW_none, errW_some] <;> rfl) | (simp [*, errW_none, errW_some] <;> rfl), by repeat first | (with_reducible first | exact HB.out | apply mB | refine below_set ?_ GE904.out | refine below_set ?_ GE909.out) | exact HB.out⟩
 ·replace c10 := Bool.eq_false_iff.mpr c10
  subst c10
  have H1 : (some false) = some r := by rw [if_neg (show ¬ (false = true) by decide)] at H; exact H
  clear H
  have H := H1
  clear H1
  exact absurd ((Option.some.inj H).trans HT.out) (by decide)/-- THE ONE PURE STATEMENT of mantletlaw09_PackUnlike: yours. -/
def mantletlaw09_PackUnlike.Pure : Prop := ∀ (a0_0 : Int) (a0_1 : Int) (a0_2 : Int) (a0_3 : Int) (a0_4 : Int) (a0_5 : Int) (a0_6 : Int) (a1_0 : Int) (a1_1 : Int) (a1_2 : Int) (a1_3 : Int) (a1_4 : Int) (a1_5 : Int) (a1_6 : Int) (l2 : List Int) (l3 : List Int), (Lit.int .u8 a0_0).wf = true → (Lit.int .u32 a0_1).wf = true → (Lit.int .u32 a0_2).wf = true → (Lit.int .u16 a0_3).wf = true → (Lit.int .u16 a0_4).wf = true → (Lit.int .u8 a0_5).wf = true → (Lit.int .u8 a0_6).wf = true → (Lit.int .u8 a1_0).wf = true → (Lit.int .u32 a1_1).wf = true → (Lit.int .u32 a1_2).wf = true → (Lit.int .u16 a1_3).wf = true → (Lit.int .u16 a1_4).wf = true → (Lit.int .u8 a1_5).wf = true → (Lit.int .u8 a1_6).wf = true → l2.length ≤ maxLen → l2.length * 1 ≤ 140737488351232 → (∀ x ∈ l2, (Lit.int .u8 x).wf = true) → l3.length ≤ maxLen → l3.length * 1 ≤ 140737488351232 → (∀ x ∈ l3, (Lit.int .u8 x).wf = true) → ∃ k, mantletlaw09_PackUnlike.f k a0_0 a0_1 a0_2 a0_3 a0_4 a0_5 a0_6 a1_0 a1_1 a1_2 a1_3 a1_4 a1_5 a1_6 l2 l3 = some true
theorem mantletlaw09_PackUnlike.walk (P : mantletlaw09_PackUnlike.Pure) (a0_0 : Int) (a0_1 : Int) (a0_2 : Int) (a0_3 : Int) (a0_4 : Int) (a0_5 : Int) (a0_6 : Int) (a1_0 : Int) (a1_1 : Int) (a1_2 : Int) (a1_3 : Int) (a1_4 : Int) (a1_5 : Int) (a1_6 : Int) (a2 : Option Addr) (len2 cap2 : Nat) (z2 : List Int) (a3 : Option Addr) (len3 cap3 : Nat) (z3 : List Int) (w : World) (w0_0 : (Lit.int .u8 a0_0).wf = true) (w0_1 : (Lit.int .u32 a0_1).wf = true) (w0_2 : (Lit.int .u32 a0_2).wf = true) (w0_3 : (Lit.int .u16 a0_3).wf = true) (w0_4 : (Lit.int .u16 a0_4).wf = true) (w0_5 : (Lit.int .u8 a0_5).wf = true) (w0_6 : (Lit.int .u8 a0_6).wf = true) (w1_0 : (Lit.int .u8 a1_0).wf = true) (w1_1 : (Lit.int .u32 a1_1).wf = true) (w1_2 : (Lit.int .u32 a1_2).wf = true) (w1_3 : (Lit.int .u16 a1_3).wf = true) (w1_4 : (Lit.int .u16 a1_4).wf = true) (w1_5 : (Lit.int .u8 a1_5).wf = true) (w1_6 : (Lit.int .u8 a1_6).wf = true) (w2 : (a2 = none ∧ len2 = 0 ∧ cap2 = 0 ∧ z2 = []) ∨ ∃ x, a2 = some x ∧ len2 ≤ cap2 ∧ cap2 ≤ maxLen ∧ z2.length = cap2 ∧ (∀ i, i < z2.length → w.cell? (x.add i) = some (.int .u8 (z2.getD i 0))) ∧ ∀ n ∈ z2, (Lit.int .u8 n).wf = true) (y2 : len2 * 1 ≤ 140737488351232) (w3 : (a3 = none ∧ len3 = 0 ∧ cap3 = 0 ∧ z3 = []) ∨ ∃ x, a3 = some x ∧ len3 ≤ cap3 ∧ cap3 ≤ maxLen ∧ z3.length = cap3 ∧ (∀ i, i < z3.length → w.cell? (x.add i) = some (.int .u8 (z3.getD i 0))) ∧ ∀ n ∈ z3, (Lit.int .u8 n).wf = true) (y3 : len3 * 1 ≤ 140737488351232) :
    Calls Try.prog 23 #[.agg #[.int .u8 a0_0, .int .u32 a0_1, .int .u32 a0_2, .int .u16 a0_3, .int .u16 a0_4, .int .u8 a0_5, .int .u8 a0_6], .agg #[.int .u8 a1_0, .int .u32 a1_1, .int .u32 a1_2, .int .u16 a1_3, .int .u16 a1_4, .int .u8 a1_5, .int .u8 a1_6], .slice a2 len2 cap2, .slice a3 len3 cap3] w fun e w' => e = .returned (.bool true) ∧ Below w.heap.size w w' := by
 obtain ⟨l2, rfl, hr2, hm2, hw2, hc2⟩ := ReadsInt.ofRowC w2
 obtain ⟨l3, rfl, hr3, hm3, hw3, hc3⟩ := ReadsInt.ofRowC w3
 obtain ⟨k, h⟩ := P a0_0 a0_1 a0_2 a0_3 a0_4 a0_5 a0_6 a1_0 a1_1 a1_2 a1_3 a1_4 a1_5 a1_6 l2 l3 w0_0 w0_1 w0_2 w0_3 w0_4 w0_5 w0_6 w1_0 w1_1 w1_2 w1_3 w1_4 w1_5 w1_6 hm2 y2 hw2 hm3 y3 hw3
 refine (mantletlaw09_PackUnlike.calls k a0_0 a0_1 a0_2 a0_3 a0_4 a0_5 a0_6 a1_0 a1_1 a1_2 a1_3 a1_4 a1_5 a1_6 _ _ l2 _ _ l3 true w (Kd.C_of_reads (d := (0 : Int)) (h1 := fun _ => rfl) hr2) hc2 (Kd.C_of_reads (d := (0 : Int)) (h1 := fun _ => rfl) hr3) hc3 h rfl).mono ?_
 rintro e w' ⟨rfl, hd⟩
 exact ⟨rfl, hd⟩

end Go.Proofs.Ytofjgdbiieanjaa.All
