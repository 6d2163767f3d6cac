-- Made by a program of this workplace (wip/pr.sh) out of Lean's print of the translation; Lean checks it.
import Derived.Test.YtbdgjcmljjfomaaMatFirst
import Derived.Test.YtbdgjcmljjfomaaMatx0
import Derived.Test.YtbdgjcmljjfomaaMatx2
import Derived.Test.YtbdgjcmljjfomaaMatx6
import Derived.Test.YtbdgjcmljjfomaaMatx7
import Derived.Test.YtbdgjcmljjfomaaMatx12
import Derived.Test.YtbdgjcmljjfomaaMatx13
namespace Go.Proofs.Ytbdgjcmljjfomaa.Mat
open Go.RowKit Go.Proofs.YtbdgjcmljjfomaaW.PrintWords Go.Proofs.YtbdgjcmljjfomaaW.PrintLast Go.Proofs.YtbdgjcmljjfomaaW.PrintMore
attribute [local go_sem] max2_int min2_int max_two min_two max_three min_three max_four min_four   -- for this text's walks alone
set_option linter.unusedVariables false
set_option linter.unusedSimpArgs false

/-! ### mantletlaw13_MatchFirst: function 3 -/
def mantletlaw13_MatchFirst.f (k : Nat) (l0 : List (S32)) (a1_0 : Int) (a1_1 : Int) (a1_2 : Int) (a1_3 : Int) (a1_4 : Int) (a1_5 : Int) (a1_6 : Int) (a2_0 : Bool) (a2_1 : Int) (a2_2 : Int) (a2_3 : Int) (a2_4 : Int) (a2_5 : Int) (a2_6 : Int) (a2_7 : Int) (a2_8 : Int) (a2_9 : Int) : Option (Bool) := (mantletlaw13_few.f l0).bind fun t149 => ((match_First.f t149 a1_0 a1_1 a1_2 a1_3 a1_4 a1_5 a1_6).bind fun bt152 => ((mantletlaw13_few.f l0).bind fun t154 => ((mantletref13_First.f k t154 a1_0 a1_1 a1_2 a1_3 a1_4 a1_5 a1_6).bind fun bt157 => ((mantletlaw13_awake.f).bind fun t159 => (if t159 = true then (if bt152.1 = bt157.1 then (if (bt152.2 == bt157.2) = true then ((match_Matches.f a2_0 a2_1 a2_2 a2_3 a2_4 a2_5 a2_6 a2_7 a2_8 a2_9 a1_0 a1_1 a1_2 a1_3 a1_4 a1_5 a1_6).bind fun t160 => ((mantletref13_Matches.f k a2_0 a2_1 a2_2 a2_3 a2_4 a2_5 a2_6 a2_7 a2_8 a2_9 a1_0 a1_1 a1_2 a1_3 a1_4 a1_5 a1_6).bind fun t161 => (some (t160 == t161)))) else (some false)) else (some false)) else (some false))))))
theorem mantletlaw13_MatchFirst.mono : ∀ a0 a1 a2 a3 a4 a5 a6 a7 a8 a9 a10 a11 a12 a13 a14 a15 a16 a17 k, LeO (mantletlaw13_MatchFirst.f k a0 a1 a2 a3 a4 a5 a6 a7 a8 a9 a10 a11 a12 a13 a14 a15 a16 a17) (mantletlaw13_MatchFirst.f (k + 1) a0 a1 a2 a3 a4 a5 a6 a7 a8 a9 a10 a11 a12 a13 a14 a15 a16 a17) := by
  intro a0 a1 a2 a3 a4 a5 a6 a7 a8 a9 a10 a11 a12 a13 a14 a15 a16 a17 k
  unfold mantletlaw13_MatchFirst.f
  repeat' first
      | (with_reducible exact mantletref13_First.mono _ _ _ _ _ _ _ _ _)
      | (with_reducible exact mantletref13_Matches.mono _ _ _ _ _ _ _ _ _ _ _ _ _ _ _ _ _ _)
      | (with_reducible exact LeO.refl _)
      | (with_reducible exact LeO.none _)
      | (with_reducible refine LeO.ite ?_ ?_)
      | (with_reducible refine LeO.bind ?_ (fun _ => ?_))
      | exact mantletref13_First.mono _ _ _ _ _ _ _ _ _
      | exact mantletref13_Matches.mono _ _ _ _ _ _ _ _ _ _ _ _ _ _ _ _ _ _
      | exact LeO.none _
      | refine LeO.ite ?_ ?_
      | refine LeO.bind ?_ (fun _ => ?_)
def mantletlaw13_MatchFirst.T1 : Bool × List (List Nat × List Nat) := (true, [([], []), ([0], [0]), ([], []), ([1, 2, 1], [1, 2]), ([3], [3]), ([4], [4]), ([4], [4]), ([5, 3, 0, 1, 2, 3, 4, 5], [5]), ([6, 7, 0, 1, 2, 3, 4, 5, 6, 7], [6])])
def mantletlaw13_MatchFirst.B1 : List Nat := [0, 1, 0, 7, 15, 31, 31, 63, 255]
theorem mantletlaw13_MatchFirst.tab1 : rtab .any (opsOf Try.f3 1) = mantletlaw13_MatchFirst.T1 := by kernel_rfl
theorem mantletlaw13_MatchFirst.bits1 : waitsOk mantletlaw13_MatchFirst.T1.2 mantletlaw13_MatchFirst.B1 = true := by kernel_rfl
def mantletlaw13_MatchFirst.T2 : Bool × List (List Nat × List Nat) := (true, [([], []), ([0], [0]), ([], []), ([1, 2, 1], [1, 2]), ([3], [3]), ([4], [4]), ([4], [4]), ([5, 3, 0, 1, 2, 3, 4, 5], [5]), ([6, 7, 0, 1, 2, 3, 4, 5, 6, 7], [6])])
def mantletlaw13_MatchFirst.B2 : List Nat := [0, 1, 0, 7, 15, 31, 31, 63, 255]
theorem mantletlaw13_MatchFirst.tab2 : rtab .any (opsOf Try.f3 2) = mantletlaw13_MatchFirst.T2 := by kernel_rfl
theorem mantletlaw13_MatchFirst.bits2 : waitsOk mantletlaw13_MatchFirst.T2.2 mantletlaw13_MatchFirst.B2 = true := by kernel_rfl
def mantletlaw13_MatchFirst.T3 : Bool × List (List Nat × List Nat) := (true, [([], []), ([0, 0], [0]), ([1], [1]), ([1], [1]), ([2, 3, 1], [1, 2, 3]), ([1, 4], [1, 4]), ([5, 1], [5]), ([6], [6]), ([6], [6]), ([7, 8, 6], [6, 7, 8]), ([6, 9], [6, 9]), ([10, 6], [10]), ([11], [11]), ([11], [11]), ([12, 13, 11, 11], [11, 12, 13]), ([11], [11]), ([11], [11]), ([15, 16, 14, 11], [11, 15, 16]), ([14, 17, 11], [11, 14, 17]), ([11, 18], [11, 18]), ([19, 17, 0, 1, 2, 3, 4, 5, 6, 7, 8, 9, 10, 11, 12, 13, 14, 15, 16, 17, 18, 19], [19])])
def mantletlaw13_MatchFirst.B3 : List Nat := [0, 1, 3, 3, 15, 31, 63, 127, 127, 511, 1023, 2047, 4095, 4095, 16383, 4095, 4095, 131071, 262143, 524287, 1048575]
theorem mantletlaw13_MatchFirst.tab3 : rtab .any (opsOf Try.f3 3) = mantletlaw13_MatchFirst.T3 := by kernel_rfl
theorem mantletlaw13_MatchFirst.bits3 : waitsOk mantletlaw13_MatchFirst.T3.2 mantletlaw13_MatchFirst.B3 = true := by kernel_rfl
set_option maxHeartbeats 8000000 in
set_option maxRecDepth 100000 in
theorem mantletlaw13_MatchFirst.calls (k : Nat) (A0 : Option Addr) (c0 : Nat) (l0 : List (S32)) (a1_0 : Int) (a1_1 : Int) (a1_2 : Int) (a1_3 : Int) (a1_4 : Int) (a1_5 : Int) (a1_6 : Int) (a2_0 : Bool) (a2_1 : Int) (a2_2 : Int) (a2_3 : Int) (a2_4 : Int) (a2_5 : Int) (a2_6 : Int) (a2_7 : Int) (a2_8 : Int) (a2_9 : Int) (r : Bool) (w : World) (hr0 : Kd.C k32 w A0 l0.length l0) (hc0 : l0.length ≤ c0) (h : mantletlaw13_MatchFirst.f k l0 a1_0 a1_1 a1_2 a1_3 a1_4 a1_5 a1_6 a2_0 a2_1 a2_2 a2_3 a2_4 a2_5 a2_6 a2_7 a2_8 a2_9 = some r) (hT_ : r = true) :
    Calls Try.prog 3 #[.slice A0 l0.length c0, .agg #[.int .u8 a1_0, .int .u32 a1_1, .int .u32 a1_2, .int .u16 a1_3, .int .u16 a1_4, .int .u8 a1_5, .int .u8 a1_6], .agg #[.bool a2_0, .int .u8 a2_1, .int .u32 a2_2, .int .i64 a2_3, .int .u32 a2_4, .int .i64 a2_5, .int .u16 a2_6, .int .u16 a2_7, .int .u16 a2_8, .int .u16 a2_9]] w fun e w' => e = .returned (.bool r) ∧ Below w.heap.size w w' := by
 have HT := Aside0.mk hT_
 clear hT_
 have hu26 := Try.underlying26
 have hu32 := Try.underlying32
 have HR0 := Aside0.mk hr0
 have HC0 := Aside0.mk hc0
 clear hr0 hc0
 have HB := Aside0.mk (Below.refl w.heap.size w)
 have H : ((mantletlaw13_few.f l0).bind fun t149 => ((match_First.f t149 a1_0 a1_1 a1_2 a1_3 a1_4 a1_5 a1_6).bind fun bt152 => ((mantletlaw13_few.f l0).bind fun t154 => ((mantletref13_First.f k t154 a1_0 a1_1 a1_2 a1_3 a1_4 a1_5 a1_6).bind fun bt157 => ((mantletlaw13_awake.f).bind fun t159 => (if t159 = true then (if bt152.1 = bt157.1 then (if (bt152.2 == bt157.2) = true then ((match_Matches.f a2_0 a2_1 a2_2 a2_3 a2_4 a2_5 a2_6 a2_7 a2_8 a2_9 a1_0 a1_1 a1_2 a1_3 a1_4 a1_5 a1_6).bind fun t160 => ((mantletref13_Matches.f k a2_0 a2_1 a2_2 a2_3 a2_4 a2_5 a2_6 a2_7 a2_8 a2_9 a1_0 a1_1 a1_2 a1_3 a1_4 a1_5 a1_6).bind fun t161 => (some (t160 == t161)))) else (some false)) else (some false)) else (some false))))))) = some r := h
 clear h
 replace H := Option.bind_eq_some_iff.mp H
 obtain ⟨t149, A40, H⟩ := H
 replace H : ((match_First.f t149 a1_0 a1_1 a1_2 a1_3 a1_4 a1_5 a1_6).bind fun bt152 => ((mantletlaw13_few.f l0).bind fun t154 => ((mantletref13_First.f k t154 a1_0 a1_1 a1_2 a1_3 a1_4 a1_5 a1_6).bind fun bt157 => ((mantletlaw13_awake.f).bind fun t159 => (if t159 = true then (if bt152.1 = bt157.1 then (if (bt152.2 == bt157.2) = true then ((match_Matches.f a2_0 a2_1 a2_2 a2_3 a2_4 a2_5 a2_6 a2_7 a2_8 a2_9 a1_0 a1_1 a1_2 a1_3 a1_4 a1_5 a1_6).bind fun t160 => ((mantletref13_Matches.f k a2_0 a2_1 a2_2 a2_3 a2_4 a2_5 a2_6 a2_7 a2_8 a2_9 a1_0 a1_1 a1_2 a1_3 a1_4 a1_5 a1_6).bind fun t161 => (some (t160 == t161)))) else (some false)) else (some false)) else (some false)))))) = some r := H
 have A4 := Aside0.mk A40
 clear A40
 replace H := Option.bind_eq_some_iff.mp H
 obtain ⟨⟨t152, t153⟩, A50, H⟩ := H
 replace H : ((mantletlaw13_few.f l0).bind fun t154 => ((mantletref13_First.f k t154 a1_0 a1_1 a1_2 a1_3 a1_4 a1_5 a1_6).bind fun bt157 => ((mantletlaw13_awake.f).bind fun t159 => (if t159 = true then (if t152 = bt157.1 then (if (t153 == bt157.2) = true then ((match_Matches.f a2_0 a2_1 a2_2 a2_3 a2_4 a2_5 a2_6 a2_7 a2_8 a2_9 a1_0 a1_1 a1_2 a1_3 a1_4 a1_5 a1_6).bind fun t160 => ((mantletref13_Matches.f k a2_0 a2_1 a2_2 a2_3 a2_4 a2_5 a2_6 a2_7 a2_8 a2_9 a1_0 a1_1 a1_2 a1_3 a1_4 a1_5 a1_6).bind fun t161 => (some (t160 == t161)))) else (some false)) else (some false)) else (some false))))) = some r := H
 have A5 := Aside0.mk A50
 clear A50
 replace H := Option.bind_eq_some_iff.mp H
 obtain ⟨t154, A60, H⟩ := H
 replace H : ((mantletref13_First.f k t154 a1_0 a1_1 a1_2 a1_3 a1_4 a1_5 a1_6).bind fun bt157 => ((mantletlaw13_awake.f).bind fun t159 => (if t159 = true then (if t152 = bt157.1 then (if (t153 == bt157.2) = true then ((match_Matches.f a2_0 a2_1 a2_2 a2_3 a2_4 a2_5 a2_6 a2_7 a2_8 a2_9 a1_0 a1_1 a1_2 a1_3 a1_4 a1_5 a1_6).bind fun t160 => ((mantletref13_Matches.f k a2_0 a2_1 a2_2 a2_3 a2_4 a2_5 a2_6 a2_7 a2_8 a2_9 a1_0 a1_1 a1_2 a1_3 a1_4 a1_5 a1_6).bind fun t161 => (some (t160 == t161)))) else (some false)) else (some false)) else (some false)))) = some r := H
 have A6 := Aside0.mk A60
 clear A60
 replace H := Option.bind_eq_some_iff.mp H
 obtain ⟨⟨t157, t158⟩, A70, H⟩ := H
 replace H : ((mantletlaw13_awake.f).bind fun t159 => (if t159 = true then (if t152 = t157 then (if (t153 == t158) = true then ((match_Matches.f a2_0 a2_1 a2_2 a2_3 a2_4 a2_5 a2_6 a2_7 a2_8 a2_9 a1_0 a1_1 a1_2 a1_3 a1_4 a1_5 a1_6).bind fun t160 => ((mantletref13_Matches.f k a2_0 a2_1 a2_2 a2_3 a2_4 a2_5 a2_6 a2_7 a2_8 a2_9 a1_0 a1_1 a1_2 a1_3 a1_4 a1_5 a1_6).bind fun t161 => (some (t160 == t161)))) else (some false)) else (some false)) else (some false))) = some r := H
 have A7 := Aside0.mk A70
 clear A70
 replace H := Option.bind_eq_some_iff.mp H
 obtain ⟨t159, A80, H⟩ := H
 replace H : (if t159 = true then (if t152 = t157 then (if (t153 == t158) = true then ((match_Matches.f a2_0 a2_1 a2_2 a2_3 a2_4 a2_5 a2_6 a2_7 a2_8 a2_9 a1_0 a1_1 a1_2 a1_3 a1_4 a1_5 a1_6).bind fun t160 => ((mantletref13_Matches.f k a2_0 a2_1 a2_2 a2_3 a2_4 a2_5 a2_6 a2_7 a2_8 a2_9 a1_0 a1_1 a1_2 a1_3 a1_4 a1_5 a1_6).bind fun t161 => (some (t160 == t161)))) else (some false)) else (some false)) else (some false)) = some r := H
 have A8 := Aside0.mk A80
 clear A80
 by_cases c9 : t159 = true
 ·subst c9
  have H1 : (if t152 = t157 then (if (t153 == t158) = true then ((match_Matches.f a2_0 a2_1 a2_2 a2_3 a2_4 a2_5 a2_6 a2_7 a2_8 a2_9 a1_0 a1_1 a1_2 a1_3 a1_4 a1_5 a1_6).bind fun t160 => ((mantletref13_Matches.f k a2_0 a2_1 a2_2 a2_3 a2_4 a2_5 a2_6 a2_7 a2_8 a2_9 a1_0 a1_1 a1_2 a1_3 a1_4 a1_5 a1_6).bind fun t161 => (some (t160 == t161)))) else (some false)) else (some false)) = some r := by rw [if_pos rfl] at H; exact H
  clear H
  have H := H1
  clear H1
  by_cases c10 : t152 = t157
  ·rw [if_pos c10] at H
   have c10b0 : (t152 == t157) = true := beq_iff_eq.mpr c10
   have c10b1 : (t152 != t157) = false := bne_eq_false_iff_eq.mpr c10
   clear c10
   by_cases c11 : (t153 == t158) = true
   ·rw [if_pos c11] at H
    have c11b0 : (t153 == t158) = true := c11
    (try (have c11b1 : decide (t153 = t158) = true := by simpa using c11))
    (try (have c11b2 : (t153 == t158) = true := by simpa using c11))
    clear c11
    replace H := Option.bind_eq_some_iff.mp H
    obtain ⟨t160, A120, H⟩ := H
    replace H : ((mantletref13_Matches.f k a2_0 a2_1 a2_2 a2_3 a2_4 a2_5 a2_6 a2_7 a2_8 a2_9 a1_0 a1_1 a1_2 a1_3 a1_4 a1_5 a1_6).bind fun t161 => (some (t160 == t161))) = some r := H
    have A12 := Aside0.mk A120
    clear A120
    replace H := Option.bind_eq_some_iff.mp H
    obtain ⟨t161, A130, H⟩ := H
    replace H : (some (t160 == t161)) = some r := H
    have A13 := Aside0.mk A130
    clear A130
    obtain rfl := Option.some.inj H
    go_enter Try.func3, Try.ntmps3
    try go_wp2_with (first | ((with_reducible refine gate_dst (N := 4) rfl ?_); refine box_event ?hg (N := 4) ?hd (cs := #[.int .u8 a1_0, .int .u32 a1_1, .int .u32 a1_2, .int .u16 a1_3, .int .u16 a1_4, .int .u8 a1_5, .int .u8 a1_6]) (t := 26) ?hr ?_; (case hd => rfl); (case hg => rfl); (case hr => first | (go_simp; done) | (go_simp; rfl)); intro gb147 hg w14 hbox hb; have n0_ := Aside0.mk (below_step (by repeat first | (with_reducible first | exact HB.out | apply below_alloc | apply pw_below_drewN | apply below_drew1) | exact HB.out) hb); have n1_ := Aside0.mk (hbox); have n2_ := Aside0.mk ((by rw [hg]; exact (below_size (by repeat first | (with_reducible first | exact HB.out | apply below_alloc | apply pw_below_drewN | apply below_drew1) | exact HB.out)) : w.heap.size ≤ gb147)); have n3_ := Aside0.mk ((by rw [hg]; exact (below_size (by repeat first | (with_reducible first | exact HB.out | apply below_alloc | apply pw_below_drewN | apply below_drew1) | exact HB.out)) : w.heap.size ≤ gb147)); clear HB; have HB := n0_; have BK147 := n1_; have GW147 := n2_; have GE147 := n3_; clear n0_ n1_ n2_ n3_; clear hb hbox hg) | ((with_reducible refine gate_dst (N := 5) rfl ?_); refine box_event ?hg (N := 5) ?hd (cs := #[.bool a2_0, .int .u8 a2_1, .int .u32 a2_2, .int .i64 a2_3, .int .u32 a2_4, .int .i64 a2_5, .int .u16 a2_6, .int .u16 a2_7, .int .u16 a2_8, .int .u16 a2_9]) (t := 32) ?hr ?_; (case hd => rfl); (case hg => rfl); (case hr => first | (go_simp; done) | (go_simp; rfl)); intro gb148 hg w15 hbox hb; have n0_ := Aside0.mk (blk_below (g := gb147) (o := .cells #[.int .u8 a1_0, .int .u32 a1_1, .int .u32 a1_2, .int .u16 a1_3, .int .u16 a1_4, .int .u8 a1_5, .int .u8 a1_6] 26 (0, 0)) (by (with_reducible repeat first | apply blk_drewN | apply blk_drew | apply blk_alloc); exact BK147.out) hb); have n1_ := Aside0.mk (below_step (by repeat first | (with_reducible first | exact HB.out | apply below_alloc | apply pw_below_drewN | apply below_drew1 | refine below_set ?_ GE147.out) | exact HB.out) hb); have n2_ := Aside0.mk (hbox); have n3_ := Aside0.mk ((by rw [hg]; exact (below_size (by repeat first | (with_reducible first | exact HB.out | apply below_alloc | apply pw_below_drewN | apply below_drew1 | refine below_set ?_ GE147.out) | exact HB.out)) : w.heap.size ≤ gb148)); have n4_ := Aside0.mk ((by rw [hg]; exact (below_size (by repeat first | (with_reducible first | exact HB.out | apply below_alloc | apply pw_below_drewN | apply below_drew1 | refine below_set ?_ GE147.out) | exact HB.out)) : w.heap.size ≤ gb148)); have n5_ := Aside0.mk ((by rw [hg]; exact Nat.ne_of_lt (blk_lt (g := gb147) (o := .cells #[.int .u8 a1_0, .int .u32 a1_1, .int .u32 a1_2, .int .u16 a1_3, .int .u16 a1_4, .int .u8 a1_5, .int .u8 a1_6] 26 (0, 0)) (by (with_reducible repeat first | apply blk_drewN | apply blk_drew | apply blk_alloc); exact BK147.out)) : gb147 ≠ gb148)); have n6_ := Aside0.mk ((by rw [hg]; exact Nat.ne_of_gt (blk_lt (g := gb147) (o := .cells #[.int .u8 a1_0, .int .u32 a1_1, .int .u32 a1_2, .int .u16 a1_3, .int .u16 a1_4, .int .u8 a1_5, .int .u8 a1_6] 26 (0, 0)) (by (with_reducible repeat first | apply blk_drewN | apply blk_drew | apply blk_alloc); exact BK147.out)) : gb148 ≠ gb147)); clear BK147; clear HB; have BK147 := n0_; have HB := n1_; have BK148 := n2_; have GW148 := n3_; have GE148 := n4_; have NB147_148 := n5_; have NB148_147 := n6_; clear n0_ n1_ n2_ n3_ n4_ n5_ n6_; clear hb hbox hg))
    have n0_ := Aside0.mk (blk_drew BK147.out)
    have n1_ := Aside0.mk (blk_drew BK148.out)
    have n2_ := Aside0.mk (below_drew1 HB.out)
    clear BK147
    clear BK148
    clear HB
    have BK147 := n0_
    have BK148 := n1_
    have HB := n2_
    clear n0_ n1_ n2_
    refine start_ (n := 9) (S := fun w' => w'.cell? ⟨gb147, 0, none⟩ = some (.int .u8 a1_0) ∧ w'.cell? ⟨gb147, 1, none⟩ = some (.int .u32 a1_1) ∧ w'.cell? ⟨gb147, 2, none⟩ = some (.int .u32 a1_2) ∧ w'.cell? ⟨gb147, 3, none⟩ = some (.int .u16 a1_3) ∧ w'.cell? ⟨gb147, 4, none⟩ = some (.int .u16 a1_4) ∧ w'.cell? ⟨gb147, 5, none⟩ = some (.int .u8 a1_5) ∧ w'.cell? ⟨gb147, 6, none⟩ = some (.int .u8 a1_6)) (ds := []) #[false, false, false, false, false, false, false, false, false] (by kernel_rfl) rfl rfl ⟨(blk_cell BK147.out 0).trans rfl, (blk_cell BK147.out 1).trans rfl, (blk_cell BK147.out 2).trans rfl, (blk_cell BK147.out 3).trans rfl, (blk_cell BK147.out 4).trans rfl, (blk_cell BK147.out 5).trans rfl, (blk_cell BK147.out 6).trans rfl⟩ (fun hHeld => ?_); refine with_tabW mantletlaw13_MatchFirst.tab1 mantletlaw13_MatchFirst.bits1 (fun HT_ HW_ => ?_)
    generalize w15.drew = w16 at BK147 BK148 HB hHeld ⊢
    refine pure_ (i := 0) (N := some 12) (v := ?_) (a' := ?_) #[true, false, false, false, false, false, false, false, false] rfl rfl (any_of HT_.out (by kernel_rfl)) (fun _ _ _ h => h) (Or.inl ⟨by rfl, ?_⟩) ?_ ?_
    rotate_left
    ·intro w'
     go_simp
     with_reducible rfl
    rotate_left
    ·simp only [Act.put, List.setIfInBounds_toArray, List.set_cons_zero, List.set_cons_succ, i64_w, i32_w]
     rfl
    refine take_ (i := 2) (N := some 14) (v := ?_) (a' := ?_) #[true, false, true, false, false, false, false, false, false] rfl rfl (take_ofW HT_.out HW_.out (by kernel_rfl)) (fun _ _ _ h => h) (Or.inl ⟨by rfl, ?_⟩) hHeld ?_ ?_
    rotate_left
    ·rintro w' ⟨s0, s1, s2, s3, s4, s5, s6⟩
     go_simp
     with_reducible rfl
    rotate_left
    ·simp only [Act.put, List.setIfInBounds_toArray, List.set_cons_zero, List.set_cons_succ, i64_w, i32_w]
     rfl
    refine one_ (i := 1) (N := some 13) #[true, true, true, false, false, false, false, false, false] rfl rfl (one_of HT_.out (by kernel_rfl)) (by decide) (fun K hK => ?_)
    refine goes_ Try.func15 (by kernel_rfl) rfl #[.slice A0 l0.length c0] (by rfl) rfl rfl (by (try simp only [List.map_toArray, List.map_cons, List.map_nil]); first | done | rfl) ?_
    with_reducible refine (mantletlaw13_few.calls (fun k_ => k_ < w.heap.size) _ _ l0 t149 _ ?side1 A4.out).mono ?_
    (case side1 => exact Kd.V_mk HC0.out (Kd.F_below (Kd.C_F k32_heap HR0.out) (by repeat first | (with_reducible first | exact HB.out | apply below_alloc | apply pw_below_drewN | apply below_drew1 | refine below_set ?_ GE147.out | refine below_set ?_ GE148.out) | exact HB.out)))
    rintro e w17 ⟨v150, rfl, ho0, hb⟩
    refine ⟨_, rfl, ?_⟩
    have n0_ := Aside0.mk (Kd.V_lower (Kd.V_mono (ok' := fun k_ => k_ ≠ gb147 ∧ k_ ≠ gb148) ho0 (fun k_ hk_ => ⟨Or.elim hk_ (fun hs_ => fun e_ => Nat.not_le.2 hs_ (by rw [e_]; exact GW147.out)) (fun hn_ => (Kd.freshB (g := gb147) (o := .cells #[.int .u8 a1_0, .int .u32 a1_1, .int .u32 a1_2, .int .u16 a1_3, .int .u16 a1_4, .int .u8 a1_5, .int .u8 a1_6] 26 (0, 0)) (by (with_reducible repeat first | apply blk_drewN | apply blk_drew | apply blk_alloc); exact BK147.out) k_ hn_)), Or.elim hk_ (fun hs_ => fun e_ => Nat.not_le.2 hs_ (by rw [e_]; exact GW148.out)) (fun hn_ => (Kd.freshB (g := gb148) (o := .cells #[.bool a2_0, .int .u8 a2_1, .int .u32 a2_2, .int .i64 a2_3, .int .u32 a2_4, .int .i64 a2_5, .int .u16 a2_6, .int .u16 a2_7, .int .u16 a2_8, .int .u16 a2_9] 32 (0, 0)) (by (with_reducible repeat first | apply blk_drewN | apply blk_drew | apply blk_alloc); exact BK148.out) k_ hn_))⟩)) (below_size (by repeat first | (with_reducible first | exact HB.out | apply below_alloc | apply pw_below_drewN | apply below_drew1 | refine below_set ?_ GE147.out | refine below_set ?_ GE148.out) | exact HB.out)))
    have n1_ := Aside0.mk (blk_below (g := gb147) (o := .cells #[.int .u8 a1_0, .int .u32 a1_1, .int .u32 a1_2, .int .u16 a1_3, .int .u16 a1_4, .int .u8 a1_5, .int .u8 a1_6] 26 (0, 0)) (by (with_reducible repeat first | apply blk_drewN | apply blk_drew | apply blk_alloc); exact BK147.out) hb)
    have n2_ := Aside0.mk (blk_below (g := gb148) (o := .cells #[.bool a2_0, .int .u8 a2_1, .int .u32 a2_2, .int .i64 a2_3, .int .u32 a2_4, .int .i64 a2_5, .int .u16 a2_6, .int .u16 a2_7, .int .u16 a2_8, .int .u16 a2_9] 32 (0, 0)) (by (with_reducible repeat first | apply blk_drewN | apply blk_drew | apply blk_alloc); exact BK148.out) hb)
    have n3_ := Aside0.mk (below_step (by repeat first | (with_reducible first | exact HB.out | apply below_alloc | apply pw_below_drewN | apply below_drew1 | refine below_set ?_ GE147.out | refine below_set ?_ GE148.out) | exact HB.out) hb)
    clear BK147
    clear BK148
    clear HB
    have HO151 := n0_
    have BK147 := n1_
    have BK148 := n2_
    have HB := n3_
    clear n0_ n1_ n2_ n3_
    (try clear hb)
    (try clear hb2)
    (try clear hk)
    (try clear hi)
    (try clear ho0)
    obtain ⟨Ao18, co18, eo18⟩ := Kd.V_slice HO151.out
    (first | subst eo18 | (injection eo18 with f1_ f2_ f3_; have f4_ := f1_.symm; have f5_ := f3_.symm; clear f1_ f2_ f3_; subst f4_; subst f5_))
    refine hK.out _ _ ⟨(blk_cell BK147.out 0).trans rfl, (blk_cell BK147.out 1).trans rfl, (blk_cell BK147.out 2).trans rfl, (blk_cell BK147.out 3).trans rfl, (blk_cell BK147.out 4).trans rfl, (blk_cell BK147.out 5).trans rfl, (blk_cell BK147.out 6).trans rfl⟩ (fun hHeld => ?_)
    clear hK K
    refine norm_ (a' := ?_) ?_ ?_
    rotate_left
    ·show Act.put _ (some 13) _ = _
     simp only [Act.put, List.setIfInBounds_toArray, List.set_cons_zero, List.set_cons_succ, i64_w, i32_w]
     rfl
    refine one_ (i := 3) (N := some 15) #[true, true, true, true, false, false, false, false, false] rfl rfl (one_of HT_.out (by kernel_rfl)) (by decide) (fun K hK => ?_)
    refine goes_ Try.func14 (by kernel_rfl) rfl #[.slice Ao18 t149.length co18, .agg #[.int .u8 a1_0, .int .u32 a1_1, .int .u32 a1_2, .int .u16 a1_3, .int .u16 a1_4, .int .u8 a1_5, .int .u8 a1_6]] (by rfl) rfl rfl (by (try simp only [List.map_toArray, List.map_cons, List.map_nil]); first | done | rfl) ?_
    with_reducible refine (match_First.calls _ _ t149 a1_0 a1_1 a1_2 a1_3 a1_4 a1_5 a1_6 t152 t153 _ ?side1 ?side2 A5.out).mono ?_
    (case side1 => repeat (first | exact (Kd.V_reads' HO151.out).2.2 | (with_reducible refine Kd.C_alloc ?_ _) | (with_reducible refine Kd.C_drewN ?_ _) | (with_reducible refine Kd.C_drew ?_)))
    (case side2 => exact (Kd.V_reads' HO151.out).2.1)
    rintro e w19 ⟨rfl, hb⟩
    refine ⟨_, rfl, ?_⟩
    have n0_ := Aside0.mk (Kd.V_below (by (with_reducible repeat (first | apply Kd.V_alloc | apply Kd.V_drewN | apply Kd.V_drew)); exact HO151.out) hb)
    have n1_ := Aside0.mk (blk_below (g := gb147) (o := .cells #[.int .u8 a1_0, .int .u32 a1_1, .int .u32 a1_2, .int .u16 a1_3, .int .u16 a1_4, .int .u8 a1_5, .int .u8 a1_6] 26 (0, 0)) (by (with_reducible repeat first | apply blk_drewN | apply blk_drew | apply blk_alloc); exact BK147.out) hb)
    have n2_ := Aside0.mk (blk_below (g := gb148) (o := .cells #[.bool a2_0, .int .u8 a2_1, .int .u32 a2_2, .int .i64 a2_3, .int .u32 a2_4, .int .i64 a2_5, .int .u16 a2_6, .int .u16 a2_7, .int .u16 a2_8, .int .u16 a2_9] 32 (0, 0)) (by (with_reducible repeat first | apply blk_drewN | apply blk_drew | apply blk_alloc); exact BK148.out) hb)
    have n3_ := Aside0.mk (below_step (by repeat first | (with_reducible first | exact HB.out | apply below_alloc | apply pw_below_drewN | apply below_drew1 | refine below_set ?_ GE147.out | refine below_set ?_ GE148.out) | exact HB.out) hb)
    clear HO151
    clear BK147
    clear BK148
    clear HB
    have HO151 := n0_
    have BK147 := n1_
    have BK148 := n2_
    have HB := n3_
    clear n0_ n1_ n2_ n3_
    (try clear hb)
    (try clear hb2)
    (try clear hk)
    (try clear hi)
    refine hK.out _ _ ⟨(blk_cell BK147.out 0).trans rfl, (blk_cell BK147.out 1).trans rfl, (blk_cell BK147.out 2).trans rfl, (blk_cell BK147.out 3).trans rfl, (blk_cell BK147.out 4).trans rfl, (blk_cell BK147.out 5).trans rfl, (blk_cell BK147.out 6).trans rfl⟩ (fun hHeld => ?_)
    clear hK K
    refine norm_ (a' := ?_) ?_ ?_
    rotate_left
    ·show Act.put _ (some 15) _ = _
     simp only [Act.put, List.setIfInBounds_toArray, List.set_cons_zero, List.set_cons_succ, i64_w, i32_w]
     rfl
    refine pure_ (i := 4) (N := some 11) (v := ?_) (a' := ?_) #[true, true, true, true, true, false, false, false, false] rfl rfl (any_of HT_.out (by kernel_rfl)) (fun _ _ _ h => h) (Or.inl ⟨by rfl, ?_⟩) ?_ ?_
    rotate_left
    ·intro w'
     go_simp
     with_reducible rfl
    rotate_left
    ·simp only [Act.put, List.setIfInBounds_toArray, List.set_cons_zero, List.set_cons_succ, i64_w, i32_w]
     rfl
    refine pure_ (i := 5) (N := some 16) (v := ?_) (a' := ?_) #[true, true, true, true, true, true, false, false, false] rfl rfl (any_of HT_.out (by kernel_rfl)) (fun _ _ _ h => h) (Or.inl ⟨by rfl, ?_⟩) ?_ ?_
    rotate_left
    ·intro w'
     go_simp
     with_reducible rfl
    rotate_left
    ·simp only [Act.put, List.setIfInBounds_toArray, List.set_cons_zero, List.set_cons_succ, i64_w, i32_w]
     rfl
    refine pure_ (i := 6) (N := some 17) (v := ?_) (a' := ?_) #[true, true, true, true, true, true, true, false, false] rfl rfl (any_of HT_.out (by kernel_rfl)) (fun _ _ _ h => h) (Or.inl ⟨by rfl, ?_⟩) ?_ ?_
    rotate_left
    ·intro w'
     go_simp
     with_reducible rfl
    rotate_left
    ·simp only [Act.put, List.setIfInBounds_toArray, List.set_cons_zero, List.set_cons_succ, i64_w, i32_w]
     rfl
    refine pure_ (i := 7) (N := some 7) (v := ?_) (a' := ?_) #[true, true, true, true, true, true, true, true, false] rfl rfl (any_of HT_.out (by kernel_rfl)) (fun _ _ _ h => h) (Or.inl ⟨by rfl, ?_⟩) ?_ ?_
    rotate_left
    ·intro w'
     go_simp
     with_reducible rfl
    rotate_left
    ·simp only [Act.put, List.setIfInBounds_toArray, List.set_cons_zero, List.set_cons_succ, i64_w, i32_w]
     rfl
    refine pure_ (i := 8) (N := some 8) (v := ?_) (a' := ?_) #[true, true, true, true, true, true, true, true, true] rfl rfl (any_of HT_.out (by kernel_rfl)) (fun _ _ _ h => h) (Or.inl ⟨by rfl, ?_⟩) ?_ ?_
    rotate_left
    ·intro w'
     go_simp
     with_reducible rfl
    rotate_left
    ·simp only [Act.put, List.setIfInBounds_toArray, List.set_cons_zero, List.set_cons_succ, i64_w, i32_w]
     rfl
    refine done_ (done_of HT_.out (by kernel_rfl)) ?_
    try go_wp2
    have n0_ := Aside0.mk (Kd.V_drew HO151.out)
    have n1_ := Aside0.mk (blk_drew BK147.out)
    have n2_ := Aside0.mk (blk_drew BK148.out)
    have n3_ := Aside0.mk (below_drew1 HB.out)
    clear HO151
    clear BK147
    clear BK148
    clear HB
    have HO151 := n0_
    have BK147 := n1_
    have BK148 := n2_
    have HB := n3_
    clear n0_ n1_ n2_ n3_
    refine start_ (n := 9) (S := fun w' => w'.cell? ⟨gb147, 0, none⟩ = some (.int .u8 a1_0) ∧ w'.cell? ⟨gb147, 1, none⟩ = some (.int .u32 a1_1) ∧ w'.cell? ⟨gb147, 2, none⟩ = some (.int .u32 a1_2) ∧ w'.cell? ⟨gb147, 3, none⟩ = some (.int .u16 a1_3) ∧ w'.cell? ⟨gb147, 4, none⟩ = some (.int .u16 a1_4) ∧ w'.cell? ⟨gb147, 5, none⟩ = some (.int .u8 a1_5) ∧ w'.cell? ⟨gb147, 6, none⟩ = some (.int .u8 a1_6)) (ds := []) #[false, false, false, false, false, false, false, false, false] (by kernel_rfl) rfl rfl ⟨(blk_cell BK147.out 0).trans rfl, (blk_cell BK147.out 1).trans rfl, (blk_cell BK147.out 2).trans rfl, (blk_cell BK147.out 3).trans rfl, (blk_cell BK147.out 4).trans rfl, (blk_cell BK147.out 5).trans rfl, (blk_cell BK147.out 6).trans rfl⟩ (fun hHeld => ?_); refine with_tabW mantletlaw13_MatchFirst.tab2 mantletlaw13_MatchFirst.bits2 (fun HT_ HW_ => ?_)
    generalize w19.drew = w20 at HO151 BK147 BK148 HB hHeld ⊢
    refine pure_ (i := 0) (N := some 19) (v := ?_) (a' := ?_) #[true, false, false, false, false, false, false, false, false] rfl rfl (any_of HT_.out (by kernel_rfl)) (fun _ _ _ h => h) (Or.inl ⟨by rfl, ?_⟩) ?_ ?_
    rotate_left
    ·intro w'
     go_simp
     with_reducible rfl
    rotate_left
    ·simp only [Act.put, List.setIfInBounds_toArray, List.set_cons_zero, List.set_cons_succ, i64_w, i32_w]
     rfl
    refine take_ (i := 2) (N := some 21) (v := ?_) (a' := ?_) #[true, false, true, false, false, false, false, false, false] rfl rfl (take_ofW HT_.out HW_.out (by kernel_rfl)) (fun _ _ _ h => h) (Or.inl ⟨by rfl, ?_⟩) hHeld ?_ ?_
    rotate_left
    ·rintro w' ⟨s0, s1, s2, s3, s4, s5, s6⟩
     go_simp
     with_reducible rfl
    rotate_left
    ·simp only [Act.put, List.setIfInBounds_toArray, List.set_cons_zero, List.set_cons_succ, i64_w, i32_w]
     rfl
    refine one_ (i := 1) (N := some 20) #[true, true, true, false, false, false, false, false, false] rfl rfl (one_of HT_.out (by kernel_rfl)) (by decide) (fun K hK => ?_)
    refine goes_ Try.func15 (by kernel_rfl) rfl #[.slice A0 l0.length c0] (by rfl) rfl rfl (by (try simp only [List.map_toArray, List.map_cons, List.map_nil]); first | done | rfl) ?_
    with_reducible refine (mantletlaw13_few.calls (fun k_ => k_ < w.heap.size) _ _ l0 t154 _ ?side1 A6.out).mono ?_
    (case side1 => exact Kd.V_mk HC0.out (Kd.F_below (Kd.C_F k32_heap HR0.out) (by repeat first | (with_reducible first | exact HB.out | apply below_alloc | apply pw_below_drewN | apply below_drew1 | refine below_set ?_ GE147.out | refine below_set ?_ GE148.out) | exact HB.out)))
    rintro e w21 ⟨v155, rfl, ho0, hb⟩
    refine ⟨_, rfl, ?_⟩
    have n0_ := Aside0.mk (Kd.V_below (by (with_reducible repeat (first | apply Kd.V_alloc | apply Kd.V_drewN | apply Kd.V_drew)); exact HO151.out) hb)
    have n1_ := Aside0.mk (Kd.V_lower (Kd.V_mono (ok' := fun k_ => k_ ≠ gb147 ∧ k_ ≠ gb148) ho0 (fun k_ hk_ => ⟨Or.elim hk_ (fun hs_ => fun e_ => Nat.not_le.2 hs_ (by rw [e_]; exact GW147.out)) (fun hn_ => (Kd.freshB (g := gb147) (o := .cells #[.int .u8 a1_0, .int .u32 a1_1, .int .u32 a1_2, .int .u16 a1_3, .int .u16 a1_4, .int .u8 a1_5, .int .u8 a1_6] 26 (0, 0)) (by (with_reducible repeat first | apply blk_drewN | apply blk_drew | apply blk_alloc); exact BK147.out) k_ hn_)), Or.elim hk_ (fun hs_ => fun e_ => Nat.not_le.2 hs_ (by rw [e_]; exact GW148.out)) (fun hn_ => (Kd.freshB (g := gb148) (o := .cells #[.bool a2_0, .int .u8 a2_1, .int .u32 a2_2, .int .i64 a2_3, .int .u32 a2_4, .int .i64 a2_5, .int .u16 a2_6, .int .u16 a2_7, .int .u16 a2_8, .int .u16 a2_9] 32 (0, 0)) (by (with_reducible repeat first | apply blk_drewN | apply blk_drew | apply blk_alloc); exact BK148.out) k_ hn_))⟩)) (below_size (by repeat first | (with_reducible first | exact HB.out | apply below_alloc | apply pw_below_drewN | apply below_drew1 | refine below_set ?_ GE147.out | refine below_set ?_ GE148.out) | exact HB.out)))
    have n2_ := Aside0.mk (blk_below (g := gb147) (o := .cells #[.int .u8 a1_0, .int .u32 a1_1, .int .u32 a1_2, .int .u16 a1_3, .int .u16 a1_4, .int .u8 a1_5, .int .u8 a1_6] 26 (0, 0)) (by (with_reducible repeat first | apply blk_drewN | apply blk_drew | apply blk_alloc); exact BK147.out) hb)
    have n3_ := Aside0.mk (blk_below (g := gb148) (o := .cells #[.bool a2_0, .int .u8 a2_1, .int .u32 a2_2, .int .i64 a2_3, .int .u32 a2_4, .int .i64 a2_5, .int .u16 a2_6, .int .u16 a2_7, .int .u16 a2_8, .int .u16 a2_9] 32 (0, 0)) (by (with_reducible repeat first | apply blk_drewN | apply blk_drew | apply blk_alloc); exact BK148.out) hb)
    have n4_ := Aside0.mk (below_step (by repeat first | (with_reducible first | exact HB.out | apply below_alloc | apply pw_below_drewN | apply below_drew1 | refine below_set ?_ GE147.out | refine below_set ?_ GE148.out) | exact HB.out) hb)
    clear HO151
    clear BK147
    clear BK148
    clear HB
    have HO151 := n0_
    have HO156 := n1_
    have BK147 := n2_
    have BK148 := n3_
    have HB := n4_
    clear n0_ n1_ n2_ n3_ n4_
    (try clear hb)
    (try clear hb2)
    (try clear hk)
    (try clear hi)
    (try clear ho0)
    obtain ⟨Ao22, co22, eo22⟩ := Kd.V_slice HO156.out
    (first | subst eo22 | (injection eo22 with f1_ f2_ f3_; have f4_ := f1_.symm; have f5_ := f3_.symm; clear f1_ f2_ f3_; subst f4_; subst f5_))
    refine hK.out _ _ ⟨(blk_cell BK147.out 0).trans rfl, (blk_cell BK147.out 1).trans rfl, (blk_cell BK147.out 2).trans rfl, (blk_cell BK147.out 3).trans rfl, (blk_cell BK147.out 4).trans rfl, (blk_cell BK147.out 5).trans rfl, (blk_cell BK147.out 6).trans rfl⟩ (fun hHeld => ?_)
    clear hK K
    refine norm_ (a' := ?_) ?_ ?_
    rotate_left
    ·show Act.put _ (some 20) _ = _
     simp only [Act.put, List.setIfInBounds_toArray, List.set_cons_zero, List.set_cons_succ, i64_w, i32_w]
     rfl
    refine one_ (i := 3) (N := some 22) #[true, true, true, true, false, false, false, false, false] rfl rfl (one_of HT_.out (by kernel_rfl)) (by decide) (fun K hK => ?_)
    refine goes_ Try.func16 (by kernel_rfl) rfl #[.slice Ao22 t154.length co22, .agg #[.int .u8 a1_0, .int .u32 a1_1, .int .u32 a1_2, .int .u16 a1_3, .int .u16 a1_4, .int .u8 a1_5, .int .u8 a1_6]] (by rfl) rfl rfl (by (try simp only [List.map_toArray, List.map_cons, List.map_nil]); first | done | rfl) ?_
    with_reducible refine (mantletref13_First.calls k _ _ t154 a1_0 a1_1 a1_2 a1_3 a1_4 a1_5 a1_6 t157 t158 _ ?side1 ?side2 A7.out).mono ?_
    (case side1 => repeat (first | exact (Kd.V_reads' HO156.out).2.2 | (with_reducible refine Kd.C_alloc ?_ _) | (with_reducible refine Kd.C_drewN ?_ _) | (with_reducible refine Kd.C_drew ?_)))
    (case side2 => exact (Kd.V_reads' HO156.out).2.1)
    rintro e w23 ⟨rfl, hb⟩
    refine ⟨_, rfl, ?_⟩
    have n0_ := Aside0.mk (Kd.V_below (by (with_reducible repeat (first | apply Kd.V_alloc | apply Kd.V_drewN | apply Kd.V_drew)); exact HO151.out) hb)
    have n1_ := Aside0.mk (Kd.V_below (by (with_reducible repeat (first | apply Kd.V_alloc | apply Kd.V_drewN | apply Kd.V_drew)); exact HO156.out) hb)
    have n2_ := Aside0.mk (blk_below (g := gb147) (o := .cells #[.int .u8 a1_0, .int .u32 a1_1, .int .u32 a1_2, .int .u16 a1_3, .int .u16 a1_4, .int .u8 a1_5, .int .u8 a1_6] 26 (0, 0)) (by (with_reducible repeat first | apply blk_drewN | apply blk_drew | apply blk_alloc); exact BK147.out) hb)
    have n3_ := Aside0.mk (blk_below (g := gb148) (o := .cells #[.bool a2_0, .int .u8 a2_1, .int .u32 a2_2, .int .i64 a2_3, .int .u32 a2_4, .int .i64 a2_5, .int .u16 a2_6, .int .u16 a2_7, .int .u16 a2_8, .int .u16 a2_9] 32 (0, 0)) (by (with_reducible repeat first | apply blk_drewN | apply blk_drew | apply blk_alloc); exact BK148.out) hb)
    have n4_ := Aside0.mk (below_step (by repeat first | (with_reducible first | exact HB.out | apply below_alloc | apply pw_below_drewN | apply below_drew1 | refine below_set ?_ GE147.out | refine below_set ?_ GE148.out) | exact HB.out) hb)
    clear HO151
    clear HO156
    clear BK147
    clear BK148
    clear HB
    have HO151 := n0_
    have HO156 := n1_
    have BK147 := n2_
    have BK148 := n3_
    have HB := n4_
    clear n0_ n1_ n2_ n3_ n4_
    (try clear hb)
    (try clear hb2)
    (try clear hk)
    (try clear hi)
    refine hK.out _ _ ⟨(blk_cell BK147.out 0).trans rfl, (blk_cell BK147.out 1).trans rfl, (blk_cell BK147.out 2).trans rfl, (blk_cell BK147.out 3).trans rfl, (blk_cell BK147.out 4).trans rfl, (blk_cell BK147.out 5).trans rfl, (blk_cell BK147.out 6).trans rfl⟩ (fun hHeld => ?_)
    clear hK K
    refine norm_ (a' := ?_) ?_ ?_
    rotate_left
    ·show Act.put _ (some 22) _ = _
     simp only [Act.put, List.setIfInBounds_toArray, List.set_cons_zero, List.set_cons_succ, i64_w, i32_w]
     rfl
    refine pure_ (i := 4) (N := some 18) (v := ?_) (a' := ?_) #[true, true, true, true, true, false, false, false, false] rfl rfl (any_of HT_.out (by kernel_rfl)) (fun _ _ _ h => h) (Or.inl ⟨by rfl, ?_⟩) ?_ ?_
    rotate_left
    ·intro w'
     go_simp
     with_reducible rfl
    rotate_left
    ·simp only [Act.put, List.setIfInBounds_toArray, List.set_cons_zero, List.set_cons_succ, i64_w, i32_w]
     rfl
    refine pure_ (i := 5) (N := some 23) (v := ?_) (a' := ?_) #[true, true, true, true, true, true, false, false, false] rfl rfl (any_of HT_.out (by kernel_rfl)) (fun _ _ _ h => h) (Or.inl ⟨by rfl, ?_⟩) ?_ ?_
    rotate_left
    ·intro w'
     go_simp
     with_reducible rfl
    rotate_left
    ·simp only [Act.put, List.setIfInBounds_toArray, List.set_cons_zero, List.set_cons_succ, i64_w, i32_w]
     rfl
    refine pure_ (i := 6) (N := some 24) (v := ?_) (a' := ?_) #[true, true, true, true, true, true, true, false, false] rfl rfl (any_of HT_.out (by kernel_rfl)) (fun _ _ _ h => h) (Or.inl ⟨by rfl, ?_⟩) ?_ ?_
    rotate_left
    ·intro w'
     go_simp
     with_reducible rfl
    rotate_left
    ·simp only [Act.put, List.setIfInBounds_toArray, List.set_cons_zero, List.set_cons_succ, i64_w, i32_w]
     rfl
    refine pure_ (i := 7) (N := some 9) (v := ?_) (a' := ?_) #[true, true, true, true, true, true, true, true, false] rfl rfl (any_of HT_.out (by kernel_rfl)) (fun _ _ _ h => h) (Or.inl ⟨by rfl, ?_⟩) ?_ ?_
    rotate_left
    ·intro w'
     go_simp
     with_reducible rfl
    rotate_left
    ·simp only [Act.put, List.setIfInBounds_toArray, List.set_cons_zero, List.set_cons_succ, i64_w, i32_w]
     rfl
    refine pure_ (i := 8) (N := some 10) (v := ?_) (a' := ?_) #[true, true, true, true, true, true, true, true, true] rfl rfl (any_of HT_.out (by kernel_rfl)) (fun _ _ _ h => h) (Or.inl ⟨by rfl, ?_⟩) ?_ ?_
    rotate_left
    ·intro w'
     go_simp
     with_reducible rfl
    rotate_left
    ·simp only [Act.put, List.setIfInBounds_toArray, List.set_cons_zero, List.set_cons_succ, i64_w, i32_w]
     rfl
    refine done_ (done_of HT_.out (by kernel_rfl)) ?_
    try go_wp2
    have n0_ := Aside0.mk (Kd.V_drew HO151.out)
    have n1_ := Aside0.mk (Kd.V_drew HO156.out)
    have n2_ := Aside0.mk (blk_drew BK147.out)
    have n3_ := Aside0.mk (blk_drew BK148.out)
    have n4_ := Aside0.mk (below_drew1 HB.out)
    clear HO151
    clear HO156
    clear BK147
    clear BK148
    clear HB
    have HO151 := n0_
    have HO156 := n1_
    have BK147 := n2_
    have BK148 := n3_
    have HB := n4_
    clear n0_ n1_ n2_ n3_ n4_
    refine start_ (n := 21) (S := fun w' => w'.cell? ⟨gb148, 0, none⟩ = some (.bool a2_0) ∧ w'.cell? ⟨gb148, 1, none⟩ = some (.int .u8 a2_1) ∧ w'.cell? ⟨gb148, 2, none⟩ = some (.int .u32 a2_2) ∧ w'.cell? ⟨gb148, 3, none⟩ = some (.int .i64 a2_3) ∧ w'.cell? ⟨gb148, 4, none⟩ = some (.int .u32 a2_4) ∧ w'.cell? ⟨gb148, 5, none⟩ = some (.int .i64 a2_5) ∧ w'.cell? ⟨gb148, 6, none⟩ = some (.int .u16 a2_6) ∧ w'.cell? ⟨gb148, 7, none⟩ = some (.int .u16 a2_7) ∧ w'.cell? ⟨gb148, 8, none⟩ = some (.int .u16 a2_8) ∧ w'.cell? ⟨gb148, 9, none⟩ = some (.int .u16 a2_9) ∧ w'.cell? ⟨gb147, 0, none⟩ = some (.int .u8 a1_0) ∧ w'.cell? ⟨gb147, 1, none⟩ = some (.int .u32 a1_1) ∧ w'.cell? ⟨gb147, 2, none⟩ = some (.int .u32 a1_2) ∧ w'.cell? ⟨gb147, 3, none⟩ = some (.int .u16 a1_3) ∧ w'.cell? ⟨gb147, 4, none⟩ = some (.int .u16 a1_4) ∧ w'.cell? ⟨gb147, 5, none⟩ = some (.int .u8 a1_5) ∧ w'.cell? ⟨gb147, 6, none⟩ = some (.int .u8 a1_6)) (ds := []) #[false, false, false, false, false, false, false, false, false, false, false, false, false, false, false, false, false, false, false, false, false] (by kernel_rfl) rfl rfl ⟨(blk_cell BK148.out 0).trans rfl, (blk_cell BK148.out 1).trans rfl, (blk_cell BK148.out 2).trans rfl, (blk_cell BK148.out 3).trans rfl, (blk_cell BK148.out 4).trans rfl, (blk_cell BK148.out 5).trans rfl, (blk_cell BK148.out 6).trans rfl, (blk_cell BK148.out 7).trans rfl, (blk_cell BK148.out 8).trans rfl, (blk_cell BK148.out 9).trans rfl, (blk_cell BK147.out 0).trans rfl, (blk_cell BK147.out 1).trans rfl, (blk_cell BK147.out 2).trans rfl, (blk_cell BK147.out 3).trans rfl, (blk_cell BK147.out 4).trans rfl, (blk_cell BK147.out 5).trans rfl, (blk_cell BK147.out 6).trans rfl⟩ (fun hHeld => ?_); refine with_tabW mantletlaw13_MatchFirst.tab3 mantletlaw13_MatchFirst.bits3 (fun HT_ HW_ => ?_)
    generalize w23.drew = w24 at HO151 HO156 BK147 BK148 HB hHeld ⊢
    refine one_ (i := 0) (N := some 25) #[true, false, false, false, false, false, false, false, false, false, false, false, false, false, false, false, false, false, false, false, false] rfl rfl (one_of HT_.out (by kernel_rfl)) (by decide) (fun K hK => ?_)
    refine goes_ Try.func17 (by kernel_rfl) rfl #[] (by rfl) rfl rfl (by (try simp only [List.map_toArray, List.map_cons, List.map_nil]); first | done | rfl) ?_
    with_reducible refine (mantletlaw13_awake.calls  true _ A8.out).mono ?_
    rintro e w25 ⟨rfl, hb⟩
    refine ⟨_, rfl, ?_⟩
    have n0_ := Aside0.mk (Kd.V_below (by (with_reducible repeat (first | apply Kd.V_alloc | apply Kd.V_drewN | apply Kd.V_drew)); exact HO151.out) hb)
    have n1_ := Aside0.mk (Kd.V_below (by (with_reducible repeat (first | apply Kd.V_alloc | apply Kd.V_drewN | apply Kd.V_drew)); exact HO156.out) hb)
    have n2_ := Aside0.mk (blk_below (g := gb147) (o := .cells #[.int .u8 a1_0, .int .u32 a1_1, .int .u32 a1_2, .int .u16 a1_3, .int .u16 a1_4, .int .u8 a1_5, .int .u8 a1_6] 26 (0, 0)) (by (with_reducible repeat first | apply blk_drewN | apply blk_drew | apply blk_alloc); exact BK147.out) hb)
    have n3_ := Aside0.mk (blk_below (g := gb148) (o := .cells #[.bool a2_0, .int .u8 a2_1, .int .u32 a2_2, .int .i64 a2_3, .int .u32 a2_4, .int .i64 a2_5, .int .u16 a2_6, .int .u16 a2_7, .int .u16 a2_8, .int .u16 a2_9] 32 (0, 0)) (by (with_reducible repeat first | apply blk_drewN | apply blk_drew | apply blk_alloc); exact BK148.out) hb)
    have n4_ := Aside0.mk (below_step (by repeat first | (with_reducible first | exact HB.out | apply below_alloc | apply pw_below_drewN | apply below_drew1 | refine below_set ?_ GE147.out | refine below_set ?_ GE148.out) | exact HB.out) hb)
    clear HO151
    clear HO156
    clear BK147
    clear BK148
    clear HB
    have HO151 := n0_
    have HO156 := n1_
    have BK147 := n2_
    have BK148 := n3_
    have HB := n4_
    clear n0_ n1_ n2_ n3_ n4_
    (try clear hb)
    (try clear hb2)
    (try clear hk)
    (try clear hi)
    refine hK.out _ _ ⟨(blk_cell BK148.out 0).trans rfl, (blk_cell BK148.out 1).trans rfl, (blk_cell BK148.out 2).trans rfl, (blk_cell BK148.out 3).trans rfl, (blk_cell BK148.out 4).trans rfl, (blk_cell BK148.out 5).trans rfl, (blk_cell BK148.out 6).trans rfl, (blk_cell BK148.out 7).trans rfl, (blk_cell BK148.out 8).trans rfl, (blk_cell BK148.out 9).trans rfl, (blk_cell BK147.out 0).trans rfl, (blk_cell BK147.out 1).trans rfl, (blk_cell BK147.out 2).trans rfl, (blk_cell BK147.out 3).trans rfl, (blk_cell BK147.out 4).trans rfl, (blk_cell BK147.out 5).trans rfl, (blk_cell BK147.out 6).trans rfl⟩ (fun hHeld => ?_)
    clear hK K
    refine norm_ (a' := ?_) ?_ ?_
    rotate_left
    ·show Act.put _ (some 25) _ = _
     simp only [Act.put, List.setIfInBounds_toArray, List.set_cons_zero, List.set_cons_succ, i64_w, i32_w]
     rfl
    refine pure_ (i := 1) (N := some 26) (v := ?_) (a' := ?_) #[true, true, false, false, false, false, false, false, false, false, false, false, false, false, false, false, false, false, false, false, false] rfl rfl (any_of HT_.out (by kernel_rfl)) (fun _ _ _ h => h) (Or.inl ⟨by rfl, ?_⟩) ?_ ?_
    rotate_left
    ·intro w'
     go_simp
     with_reducible rfl
    rotate_left
    ·simp only [Act.put, List.setIfInBounds_toArray, List.set_cons_zero, List.set_cons_succ, i64_w, i32_w]
     rfl
    refine pure_ (i := 2) (N := some 27) (v := ?_) (a' := ?_) #[true, true, true, false, false, false, false, false, false, false, false, false, false, false, false, false, false, false, false, false, false] rfl rfl (any_of HT_.out (by kernel_rfl)) (fun _ _ _ h => h) (Or.inl ⟨by rfl, ?_⟩) ?_ ?_
    rotate_left
    ·intro w'
     go_simp
     with_reducible rfl
    rotate_left
    ·simp only [Act.put, List.setIfInBounds_toArray, List.set_cons_zero, List.set_cons_succ, i64_w, i32_w]
     rfl
    refine pure_ (i := 3) (N := some 28) (v := ?_) (a' := ?_) #[true, true, true, true, false, false, false, false, false, false, false, false, false, false, false, false, false, false, false, false, false] rfl rfl (any_of HT_.out (by kernel_rfl)) (fun _ _ _ h => h) (Or.inl ⟨by rfl, ?_⟩) ?_ ?_
    rotate_left
    ·intro w'
     go_simp
     with_reducible rfl
    rotate_left
    ·simp only [Act.put, List.setIfInBounds_toArray, List.set_cons_zero, List.set_cons_succ, i64_w, i32_w]
     rfl
    refine pure_ (i := 4) (N := some 29) (v := ?_) (a' := ?_) #[true, true, true, true, true, false, false, false, false, false, false, false, false, false, false, false, false, false, false, false, false] rfl rfl (any_of HT_.out (by kernel_rfl)) (fun _ _ _ h => h) (Or.inl ⟨by rfl, ?_⟩) ?_ ?_
    rotate_left
    ·intro w'
     go_simp
     with_reducible rfl
    rotate_left
    ·simp only [Act.put, List.setIfInBounds_toArray, List.set_cons_zero, List.set_cons_succ, i64_w, i32_w]
     rfl
    refine pure_ (i := 5) (N := some 30) (v := ?_) (a' := ?_) #[true, true, true, true, true, true, false, false, false, false, false, false, false, false, false, false, false, false, false, false, false] rfl rfl (any_of HT_.out (by kernel_rfl)) (fun _ _ _ h => h) (Or.inl ⟨by rfl, ?_⟩) ?_ ?_
    rotate_left
    ·intro w'
     go_simp
     with_reducible rfl
    rotate_left
    ·simp only [Act.put, List.setIfInBounds_toArray, List.set_cons_zero, List.set_cons_succ, i64_w, i32_w]
     rfl
    refine pure_ (i := 6) (N := some 31) (v := ?_) (a' := ?_) #[true, true, true, true, true, true, true, false, false, false, false, false, false, false, false, false, false, false, false, false, false] rfl rfl (any_of HT_.out (by kernel_rfl)) (fun _ _ _ h => h) (Or.inl ⟨by rfl, ?_⟩) ?_ ?_
    rotate_left
    ·intro w'
     go_simp
     with_reducible rfl
    rotate_left
    ·simp only [Act.put, List.setIfInBounds_toArray, List.set_cons_zero, List.set_cons_succ, i64_w, i32_w]
     rfl
    refine pure_ (i := 7) (N := some 32) (v := ?_) (a' := ?_) #[true, true, true, true, true, true, true, true, false, false, false, false, false, false, false, false, false, false, false, false, false] rfl rfl (any_of HT_.out (by kernel_rfl)) (fun _ _ _ h => h) (Or.inl ⟨by rfl, ?_⟩) ?_ ?_
    rotate_left
    ·intro w'
     go_simp
     with_reducible rfl
    rotate_left
    ·simp only [Act.put, List.setIfInBounds_toArray, List.set_cons_zero, List.set_cons_succ, i64_w, i32_w]
     rfl
    refine pure_ (i := 8) (N := some 33) (v := ?_) (a' := ?_) #[true, true, true, true, true, true, true, true, true, false, false, false, false, false, false, false, false, false, false, false, false] rfl rfl (any_of HT_.out (by kernel_rfl)) (fun _ _ _ h => h) (Or.inl ⟨by rfl, ?_⟩) ?_ ?_
    rotate_left
    ·intro w'
     go_simp
     with_reducible rfl
    rotate_left
    ·simp only [Act.put, List.setIfInBounds_toArray, List.set_cons_zero, List.set_cons_succ, i64_w, i32_w]
     rfl
    refine pure_ (i := 9) (N := some 34) (v := ?_) (a' := ?_) #[true, true, true, true, true, true, true, true, true, true, false, false, false, false, false, false, false, false, false, false, false] rfl rfl (any_of HT_.out (by kernel_rfl)) (fun _ _ _ h => h) (Or.inl ⟨by rfl, ?_⟩) ?_ ?_
    rotate_left
    ·intro w'
     go_simp
     with_reducible rfl
    rotate_left
    ·simp only [Act.put, List.setIfInBounds_toArray, List.set_cons_zero, List.set_cons_succ, i64_w, i32_w]
     rfl
    refine pure_ (i := 10) (N := some 35) (v := ?_) (a' := ?_) #[true, true, true, true, true, true, true, true, true, true, true, false, false, false, false, false, false, false, false, false, false] rfl rfl (any_of HT_.out (by kernel_rfl)) (fun _ _ _ h => h) (Or.inl ⟨by rfl, ?_⟩) ?_ ?_
    rotate_left
    ·intro w'
     go_simp
     with_reducible rfl
    rotate_left
    ·simp only [Act.put, List.setIfInBounds_toArray, List.set_cons_zero, List.set_cons_succ, i64_w, i32_w]
     rfl
    refine pure_ (i := 11) (N := some 36) (v := ?_) (a' := ?_) #[true, true, true, true, true, true, true, true, true, true, true, true, false, false, false, false, false, false, false, false, false] rfl rfl (any_of HT_.out (by kernel_rfl)) (fun _ _ _ h => h) (Or.inl ⟨by rfl, ?_⟩) ?_ ?_
    rotate_left
    ·intro w'
     go_simp
     with_reducible rfl
    rotate_left
    ·simp only [Act.put, List.setIfInBounds_toArray, List.set_cons_zero, List.set_cons_succ, i64_w, i32_w]
     rfl
    refine take_ (i := 12) (N := some 37) (v := ?_) (a' := ?_) #[true, true, true, true, true, true, true, true, true, true, true, true, true, false, false, false, false, false, false, false, false] rfl rfl (take_ofW HT_.out HW_.out (by kernel_rfl)) (fun _ _ _ h => h) (Or.inl ⟨by rfl, ?_⟩) hHeld ?_ ?_
    rotate_left
    ·rintro w' ⟨s0, s1, s2, s3, s4, s5, s6, s7, s8, s9, s10, s11, s12, s13, s14, s15, s16⟩
     go_simp
     with_reducible rfl
    rotate_left
    ·simp only [Act.put, List.setIfInBounds_toArray, List.set_cons_zero, List.set_cons_succ, i64_w, i32_w]
     rfl
    refine take_ (i := 13) (N := some 38) (v := ?_) (a' := ?_) #[true, true, true, true, true, true, true, true, true, true, true, true, true, true, false, false, false, false, false, false, false] rfl rfl (take_ofW HT_.out HW_.out (by kernel_rfl)) (fun _ _ _ h => h) (Or.inl ⟨by rfl, ?_⟩) hHeld ?_ ?_
    rotate_left
    ·rintro w' ⟨s0, s1, s2, s3, s4, s5, s6, s7, s8, s9, s10, s11, s12, s13, s14, s15, s16⟩
     go_simp
     with_reducible rfl
    rotate_left
    ·simp only [Act.put, List.setIfInBounds_toArray, List.set_cons_zero, List.set_cons_succ, i64_w, i32_w]
     rfl
    refine take_ (i := 15) (N := some 40) (v := ?_) (a' := ?_) #[true, true, true, true, true, true, true, true, true, true, true, true, true, true, false, true, false, false, false, false, false] rfl rfl (take_ofW HT_.out HW_.out (by kernel_rfl)) (fun _ _ _ h => h) (Or.inl ⟨by rfl, ?_⟩) hHeld ?_ ?_
    rotate_left
    ·rintro w' ⟨s0, s1, s2, s3, s4, s5, s6, s7, s8, s9, s10, s11, s12, s13, s14, s15, s16⟩
     go_simp
     with_reducible rfl
    rotate_left
    ·simp only [Act.put, List.setIfInBounds_toArray, List.set_cons_zero, List.set_cons_succ, i64_w, i32_w]
     rfl
    refine take_ (i := 16) (N := some 41) (v := ?_) (a' := ?_) #[true, true, true, true, true, true, true, true, true, true, true, true, true, true, false, true, true, false, false, false, false] rfl rfl (take_ofW HT_.out HW_.out (by kernel_rfl)) (fun _ _ _ h => h) (Or.inl ⟨by rfl, ?_⟩) hHeld ?_ ?_
    rotate_left
    ·rintro w' ⟨s0, s1, s2, s3, s4, s5, s6, s7, s8, s9, s10, s11, s12, s13, s14, s15, s16⟩
     go_simp
     with_reducible rfl
    rotate_left
    ·simp only [Act.put, List.setIfInBounds_toArray, List.set_cons_zero, List.set_cons_succ, i64_w, i32_w]
     rfl
    refine one_ (i := 14) (N := some 39) #[true, true, true, true, true, true, true, true, true, true, true, true, true, true, true, true, true, false, false, false, false] rfl rfl (one_of HT_.out (by kernel_rfl)) (by decide) (fun K hK => ?_)
    refine goes_ Try.func18 (by kernel_rfl) rfl #[.agg #[.bool a2_0, .int .u8 a2_1, .int .u32 a2_2, .int .i64 a2_3, .int .u32 a2_4, .int .i64 a2_5, .int .u16 a2_6, .int .u16 a2_7, .int .u16 a2_8, .int .u16 a2_9], .agg #[.int .u8 a1_0, .int .u32 a1_1, .int .u32 a1_2, .int .u16 a1_3, .int .u16 a1_4, .int .u8 a1_5, .int .u8 a1_6]] (by rfl) rfl rfl (by (try simp only [List.map_toArray, List.map_cons, List.map_nil]); first | done | rfl) ?_
    with_reducible refine (match_Matches.calls a2_0 a2_1 a2_2 a2_3 a2_4 a2_5 a2_6 a2_7 a2_8 a2_9 a1_0 a1_1 a1_2 a1_3 a1_4 a1_5 a1_6 t160 _ A12.out).mono ?_
    rintro e w26 ⟨rfl, hb⟩
    refine ⟨_, rfl, ?_⟩
    have n0_ := Aside0.mk (Kd.V_below (by (with_reducible repeat (first | apply Kd.V_alloc | apply Kd.V_drewN | apply Kd.V_drew)); exact HO151.out) hb)
    have n1_ := Aside0.mk (Kd.V_below (by (with_reducible repeat (first | apply Kd.V_alloc | apply Kd.V_drewN | apply Kd.V_drew)); exact HO156.out) hb)
    have n2_ := Aside0.mk (blk_below (g := gb147) (o := .cells #[.int .u8 a1_0, .int .u32 a1_1, .int .u32 a1_2, .int .u16 a1_3, .int .u16 a1_4, .int .u8 a1_5, .int .u8 a1_6] 26 (0, 0)) (by (with_reducible repeat first | apply blk_drewN | apply blk_drew | apply blk_alloc); exact BK147.out) hb)
    have n3_ := Aside0.mk (blk_below (g := gb148) (o := .cells #[.bool a2_0, .int .u8 a2_1, .int .u32 a2_2, .int .i64 a2_3, .int .u32 a2_4, .int .i64 a2_5, .int .u16 a2_6, .int .u16 a2_7, .int .u16 a2_8, .int .u16 a2_9] 32 (0, 0)) (by (with_reducible repeat first | apply blk_drewN | apply blk_drew | apply blk_alloc); exact BK148.out) hb)
    have n4_ := Aside0.mk (below_step (by repeat first | (with_reducible first | exact HB.out | apply below_alloc | apply pw_below_drewN | apply below_drew1 | refine below_set ?_ GE147.out | refine below_set ?_ GE148.out) | exact HB.out) hb)
    clear HO151
    clear HO156
    clear BK147
    clear BK148
    clear HB
    have HO151 := n0_
    have HO156 := n1_
    have BK147 := n2_
    have BK148 := n3_
    have HB := n4_
    clear n0_ n1_ n2_ n3_ n4_
    (try clear hb)
    (try clear hb2)
    (try clear hk)
    (try clear hi)
    refine hK.out _ _ ⟨(blk_cell BK148.out 0).trans rfl, (blk_cell BK148.out 1).trans rfl, (blk_cell BK148.out 2).trans rfl, (blk_cell BK148.out 3).trans rfl, (blk_cell BK148.out 4).trans rfl, (blk_cell BK148.out 5).trans rfl, (blk_cell BK148.out 6).trans rfl, (blk_cell BK148.out 7).trans rfl, (blk_cell BK148.out 8).trans rfl, (blk_cell BK148.out 9).trans rfl, (blk_cell BK147.out 0).trans rfl, (blk_cell BK147.out 1).trans rfl, (blk_cell BK147.out 2).trans rfl, (blk_cell BK147.out 3).trans rfl, (blk_cell BK147.out 4).trans rfl, (blk_cell BK147.out 5).trans rfl, (blk_cell BK147.out 6).trans rfl⟩ (fun hHeld => ?_)
    clear hK K
    refine norm_ (a' := ?_) ?_ ?_
    rotate_left
    ·show Act.put _ (some 39) _ = _
     simp only [Act.put, List.setIfInBounds_toArray, List.set_cons_zero, List.set_cons_succ, i64_w, i32_w]
     rfl
    refine one_ (i := 17) (N := some 42) #[true, true, true, true, true, true, true, true, true, true, true, true, true, true, true, true, true, true, false, false, false] rfl rfl (one_of HT_.out (by kernel_rfl)) (by decide) (fun K hK => ?_)
    refine goes_ Try.func19 (by kernel_rfl) rfl #[.agg #[.bool a2_0, .int .u8 a2_1, .int .u32 a2_2, .int .i64 a2_3, .int .u32 a2_4, .int .i64 a2_5, .int .u16 a2_6, .int .u16 a2_7, .int .u16 a2_8, .int .u16 a2_9], .agg #[.int .u8 a1_0, .int .u32 a1_1, .int .u32 a1_2, .int .u16 a1_3, .int .u16 a1_4, .int .u8 a1_5, .int .u8 a1_6]] (by rfl) rfl rfl (by (try simp only [List.map_toArray, List.map_cons, List.map_nil]); first | done | rfl) ?_
    with_reducible refine (mantletref13_Matches.calls k a2_0 a2_1 a2_2 a2_3 a2_4 a2_5 a2_6 a2_7 a2_8 a2_9 a1_0 a1_1 a1_2 a1_3 a1_4 a1_5 a1_6 t161 _ A13.out).mono ?_
    rintro e w27 ⟨rfl, hb⟩
    refine ⟨_, rfl, ?_⟩
    have n0_ := Aside0.mk (Kd.V_below (by (with_reducible repeat (first | apply Kd.V_alloc | apply Kd.V_drewN | apply Kd.V_drew)); exact HO151.out) hb)
    have n1_ := Aside0.mk (Kd.V_below (by (with_reducible repeat (first | apply Kd.V_alloc | apply Kd.V_drewN | apply Kd.V_drew)); exact HO156.out) hb)
    have n2_ := Aside0.mk (blk_below (g := gb147) (o := .cells #[.int .u8 a1_0, .int .u32 a1_1, .int .u32 a1_2, .int .u16 a1_3, .int .u16 a1_4, .int .u8 a1_5, .int .u8 a1_6] 26 (0, 0)) (by (with_reducible repeat first | apply blk_drewN | apply blk_drew | apply blk_alloc); exact BK147.out) hb)
    have n3_ := Aside0.mk (blk_below (g := gb148) (o := .cells #[.bool a2_0, .int .u8 a2_1, .int .u32 a2_2, .int .i64 a2_3, .int .u32 a2_4, .int .i64 a2_5, .int .u16 a2_6, .int .u16 a2_7, .int .u16 a2_8, .int .u16 a2_9] 32 (0, 0)) (by (with_reducible repeat first | apply blk_drewN | apply blk_drew | apply blk_alloc); exact BK148.out) hb)
    have n4_ := Aside0.mk (below_step (by repeat first | (with_reducible first | exact HB.out | apply below_alloc | apply pw_below_drewN | apply below_drew1 | refine below_set ?_ GE147.out | refine below_set ?_ GE148.out) | exact HB.out) hb)
    clear HO151
    clear HO156
    clear BK147
    clear BK148
    clear HB
    have HO151 := n0_
    have HO156 := n1_
    have BK147 := n2_
    have BK148 := n3_
    have HB := n4_
    clear n0_ n1_ n2_ n3_ n4_
    (try clear hb)
    (try clear hb2)
    (try clear hk)
    (try clear hi)
    refine hK.out _ _ ⟨(blk_cell BK148.out 0).trans rfl, (blk_cell BK148.out 1).trans rfl, (blk_cell BK148.out 2).trans rfl, (blk_cell BK148.out 3).trans rfl, (blk_cell BK148.out 4).trans rfl, (blk_cell BK148.out 5).trans rfl, (blk_cell BK148.out 6).trans rfl, (blk_cell BK148.out 7).trans rfl, (blk_cell BK148.out 8).trans rfl, (blk_cell BK148.out 9).trans rfl, (blk_cell BK147.out 0).trans rfl, (blk_cell BK147.out 1).trans rfl, (blk_cell BK147.out 2).trans rfl, (blk_cell BK147.out 3).trans rfl, (blk_cell BK147.out 4).trans rfl, (blk_cell BK147.out 5).trans rfl, (blk_cell BK147.out 6).trans rfl⟩ (fun hHeld => ?_)
    clear hK K
    refine norm_ (a' := ?_) ?_ ?_
    rotate_left
    ·show Act.put _ (some 42) _ = _
     simp only [Act.put, List.setIfInBounds_toArray, List.set_cons_zero, List.set_cons_succ, i64_w, i32_w]
     rfl
    refine pure_ (i := 18) (N := some 43) (v := ?_) (a' := ?_) #[true, true, true, true, true, true, true, true, true, true, true, true, true, true, true, true, true, true, true, false, false] rfl rfl (any_of HT_.out (by kernel_rfl)) (fun _ _ _ h => h) (Or.inl ⟨by rfl, ?_⟩) ?_ ?_
    rotate_left
    ·intro w'
     go_simp
     with_reducible rfl
    rotate_left
    ·simp only [Act.put, List.setIfInBounds_toArray, List.set_cons_zero, List.set_cons_succ, i64_w, i32_w]
     rfl
    refine pure_ (i := 19) (N := some 44) (v := ?_) (a' := ?_) #[true, true, true, true, true, true, true, true, true, true, true, true, true, true, true, true, true, true, true, true, false] rfl rfl (any_of HT_.out (by kernel_rfl)) (fun _ _ _ h => h) (Or.inl ⟨by rfl, ?_⟩) ?_ ?_
    rotate_left
    ·intro w'
     go_simp
     with_reducible rfl
    rotate_left
    ·simp only [Act.put, List.setIfInBounds_toArray, List.set_cons_zero, List.set_cons_succ, i64_w, i32_w]
     rfl
    refine pure_ (i := 20) (N := some 6) (v := ?_) (a' := ?_) #[true, true, true, true, true, true, true, true, true, true, true, true, true, true, true, true, true, true, true, true, true] rfl rfl (any_of HT_.out (by kernel_rfl)) (fun _ _ _ h => h) (Or.inl ⟨by rfl, ?_⟩) ?_ ?_
    rotate_left
    ·intro w'
     go_simp
     with_reducible rfl
    rotate_left
    ·simp only [Act.put, List.setIfInBounds_toArray, List.set_cons_zero, List.set_cons_succ, i64_w, i32_w]
     rfl
    refine done_ (done_of HT_.out (by kernel_rfl)) ?_
    try go_wp2
    go_ret
    exact ⟨by first | rfl | (simp [errW_none, errW_some] <;> rfl) | (simp [*, errW_none, errW_some] <;> rfl), by repeat first | (with_reducible first | exact HB.out | apply below_alloc | apply pw_below_drewN | apply below_drew1 | refine below_set ?_ GE147.out | refine below_set ?_ GE148.out) | exact HB.out⟩
   ·rw [if_neg c11] at H
    have c11b0 : (t153 == t158) = false := by simpa using c11
    (try (have c11b1 : decide (t153 = t158) = false := by simpa using c11))
    (try (have c11b2 : (t153 == t158) = false := by simpa using c11))
    (try (have c11b3 : ¬ (t153 = t158) := by simpa using c11))
    clear c11
    exact absurd ((Option.some.inj H).trans HT.out) (by decide)
  ·rw [if_neg c10] at H
   have c10b0 : (t152 == t157) = false := beq_eq_false_iff_ne.mpr c10
   have c10b1 : (t152 != t157) = true := bne_iff_ne.mpr c10
   exact absurd ((Option.some.inj H).trans HT.out) (by decide)
 ·replace c9 := Bool.eq_false_iff.mpr c9
  subst c9
  have H1 : (some false) = some r := by rw [if_neg (show ¬ (false = true) by decide)] at H; exact H
  clear H
  have H := H1
  clear H1
  exact absurd ((Option.some.inj H).trans HT.out) (by decide)/-- THE ONE PURE STATEMENT of mantletlaw13_MatchFirst: yours. -/
def mantletlaw13_MatchFirst.Pure : Prop := ∀ (l0 : List (S32)) (a1_0 : Int) (a1_1 : Int) (a1_2 : Int) (a1_3 : Int) (a1_4 : Int) (a1_5 : Int) (a1_6 : Int) (a2_0 : Bool) (a2_1 : Int) (a2_2 : Int) (a2_3 : Int) (a2_4 : Int) (a2_5 : Int) (a2_6 : Int) (a2_7 : Int) (a2_8 : Int) (a2_9 : Int), l0.length ≤ maxLen → l0.length * 48 ≤ 140737488351232 → (∀ x ∈ l0, (Lit.int .u8 x.f1).wf = true ∧ (Lit.int .u32 x.f2.f0).wf = true ∧ (Lit.int .i64 x.f2.f1).wf = true ∧ (Lit.int .u32 x.f3.f0).wf = true ∧ (Lit.int .i64 x.f3.f1).wf = true ∧ (Lit.int .u16 x.f4.f0).wf = true ∧ (Lit.int .u16 x.f4.f1).wf = true ∧ (Lit.int .u16 x.f5.f0).wf = true ∧ (Lit.int .u16 x.f5.f1).wf = true) → (Lit.int .u8 a1_0).wf = true → (Lit.int .u32 a1_1).wf = true → (Lit.int .u32 a1_2).wf = true → (Lit.int .u16 a1_3).wf = true → (Lit.int .u16 a1_4).wf = true → (Lit.int .u8 a1_5).wf = true → (Lit.int .u8 a1_6).wf = true → (Lit.int .u8 a2_1).wf = true → (Lit.int .u32 a2_2).wf = true → (Lit.int .i64 a2_3).wf = true → (Lit.int .u32 a2_4).wf = true → (Lit.int .i64 a2_5).wf = true → (Lit.int .u16 a2_6).wf = true → (Lit.int .u16 a2_7).wf = true → (Lit.int .u16 a2_8).wf = true → (Lit.int .u16 a2_9).wf = true → ∃ k, mantletlaw13_MatchFirst.f k l0 a1_0 a1_1 a1_2 a1_3 a1_4 a1_5 a1_6 a2_0 a2_1 a2_2 a2_3 a2_4 a2_5 a2_6 a2_7 a2_8 a2_9 = some true
theorem mantletlaw13_MatchFirst.walk (P : mantletlaw13_MatchFirst.Pure) (a0 : Option Addr) (cap0 : Nat) (l0 : List (S32)) (a1_0 : Int) (a1_1 : Int) (a1_2 : Int) (a1_3 : Int) (a1_4 : Int) (a1_5 : Int) (a1_6 : Int) (a2_0 : Bool) (a2_1 : Int) (a2_2 : Int) (a2_3 : Int) (a2_4 : Int) (a2_5 : Int) (a2_6 : Int) (a2_7 : Int) (a2_8 : Int) (a2_9 : Int) (w : World) (hr0 : Kd.C k32 w a0 l0.length l0) (hc0 : l0.length ≤ cap0) (m0 : l0.length ≤ maxLen) (y0 : l0.length * 48 ≤ 140737488351232) (v0 : ∀ x ∈ l0, (Lit.int .u8 x.f1).wf = true ∧ (Lit.int .u32 x.f2.f0).wf = true ∧ (Lit.int .i64 x.f2.f1).wf = true ∧ (Lit.int .u32 x.f3.f0).wf = true ∧ (Lit.int .i64 x.f3.f1).wf = true ∧ (Lit.int .u16 x.f4.f0).wf = true ∧ (Lit.int .u16 x.f4.f1).wf = true ∧ (Lit.int .u16 x.f5.f0).wf = true ∧ (Lit.int .u16 x.f5.f1).wf = true) (w1_0 : (Lit.int .u8 a1_0).wf = true) (w1_1 : (Lit.int .u32 a1_1).wf = true) (w1_2 : (Lit.int .u32 a1_2).wf = true) (w1_3 : (Lit.int .u16 a1_3).wf = true) (w1_4 : (Lit.int .u16 a1_4).wf = true) (w1_5 : (Lit.int .u8 a1_5).wf = true) (w1_6 : (Lit.int .u8 a1_6).wf = true) (w2_1 : (Lit.int .u8 a2_1).wf = true) (w2_2 : (Lit.int .u32 a2_2).wf = true) (w2_3 : (Lit.int .i64 a2_3).wf = true) (w2_4 : (Lit.int .u32 a2_4).wf = true) (w2_5 : (Lit.int .i64 a2_5).wf = true) (w2_6 : (Lit.int .u16 a2_6).wf = true) (w2_7 : (Lit.int .u16 a2_7).wf = true) (w2_8 : (Lit.int .u16 a2_8).wf = true) (w2_9 : (Lit.int .u16 a2_9).wf = true) :
    Calls Try.prog 3 #[.slice a0 l0.length cap0, .agg #[.int .u8 a1_0, .int .u32 a1_1, .int .u32 a1_2, .int .u16 a1_3, .int .u16 a1_4, .int .u8 a1_5, .int .u8 a1_6], .agg #[.bool a2_0, .int .u8 a2_1, .int .u32 a2_2, .int .i64 a2_3, .int .u32 a2_4, .int .i64 a2_5, .int .u16 a2_6, .int .u16 a2_7, .int .u16 a2_8, .int .u16 a2_9]] w fun e w' => e = .returned (.bool true) ∧ Below w.heap.size w w' := by
 obtain ⟨k, h⟩ := P l0 a1_0 a1_1 a1_2 a1_3 a1_4 a1_5 a1_6 a2_0 a2_1 a2_2 a2_3 a2_4 a2_5 a2_6 a2_7 a2_8 a2_9 m0 y0 v0 w1_0 w1_1 w1_2 w1_3 w1_4 w1_5 w1_6 w2_1 w2_2 w2_3 w2_4 w2_5 w2_6 w2_7 w2_8 w2_9
 refine (mantletlaw13_MatchFirst.calls k _ _ l0 a1_0 a1_1 a1_2 a1_3 a1_4 a1_5 a1_6 a2_0 a2_1 a2_2 a2_3 a2_4 a2_5 a2_6 a2_7 a2_8 a2_9 true w hr0 hc0 h rfl).mono ?_
 rintro e w' ⟨rfl, hd⟩
 exact ⟨rfl, hd⟩

end Go.Proofs.Ytbdgjcmljjfomaa.Mat
