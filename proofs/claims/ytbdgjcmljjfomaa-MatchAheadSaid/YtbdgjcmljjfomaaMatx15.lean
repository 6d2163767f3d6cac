-- Made by a program of this workplace (wip/pr.sh) out of Lean's print of the translation; Lean checks it.
import Derived.Test.YtbdgjcmljjfomaaMatFirst
import Derived.Test.YtbdgjcmljjfomaaMatx0
import Derived.Test.YtbdgjcmljjfomaaMatx2
import Derived.Test.YtbdgjcmljjfomaaMatx12
import Derived.Test.YtbdgjcmljjfomaaMatx13
namespace Go.Proofs.Ytbdgjcmljjfomaa.Mat
open Go.RowKit Go.Proofs.YtbdgjcmljjfomaaW.PrintWords Go.Proofs.YtbdgjcmljjfomaaW.PrintLast Go.Proofs.YtbdgjcmljjfomaaW.PrintMore
attribute [local go_sem] max2_int min2_int max_two min_two max_three min_three max_four min_four   -- for this text's walks alone
set_option linter.unusedVariables false
set_option linter.unusedSimpArgs false

/-! ### mantletlaw13_MatchAhead: function 4 -/
def mantletlaw13_MatchAhead.f (l0 : List (S32)) (a1_0 : Bool) (a1_1 : Int) (a1_2 : Int) (a1_3 : Int) (a1_4 : Int) (a1_5 : Int) (a1_6 : Int) (a1_7 : Int) (a1_8 : Int) (a1_9 : Int) (a2_0 : Int) (a2_1 : Int) (a2_2 : Int) (a2_3 : Int) (a2_4 : Int) (a2_5 : Int) (a2_6 : Int) : Option (Bool) := (mantletlaw13_few.f l0).bind fun t164 => ((match_First.f t164 a2_0 a2_1 a2_2 a2_3 a2_4 a2_5 a2_6).bind fun bt167 => ((some (([(⟨a1_0, a1_1, (⟨a1_2, a1_3⟩ : S28), (⟨a1_4, a1_5⟩ : S28), (⟨a1_6, a1_7⟩ : S30), (⟨a1_8, a1_9⟩ : S30)⟩ : S32)] : List (S32)) : List (S32))).bind fun y169 => ((mantletlaw13_few.f l0).bind fun t172 => (if y169.length + t172.length < 2932031007402 then ((match_First.f (y169 ++ t172) a2_0 a2_1 a2_2 a2_3 a2_4 a2_5 a2_6).bind fun bt178 => ((match_Matches.f a1_0 a1_1 a1_2 a1_3 a1_4 a1_5 a1_6 a1_7 a1_8 a1_9 a2_0 a2_1 a2_2 a2_3 a2_4 a2_5 a2_6).bind fun t180 => (if t180 = true then ((mantletlaw13_awake.f).bind fun t181 => (if t181 = true then (if bt178.1 = 0 then (some (bt178.2 == a1_0)) else (some false)) else (some false))) else (if bt167.1 < 0 then ((mantletlaw13_awake.f).bind fun t182 => (if t182 = true then (if bt178.1 = (-1) then (if bt178.2 = true then (some false) else (some (!bt167.2))) else (some false)) else (some false))) else ((mantletlaw13_awake.f).bind fun t183 => (if t183 = true then (if bt178.1 = (wrap64 (bt167.1 + 1)) then (some (bt178.2 == bt167.2)) else (some false)) else (some false))))))) else (none)))))
def mantletlaw13_MatchAhead.T1 : Bool × List (List Nat × List Nat) := (true, [([], []), ([0], [0]), ([], []), ([1, 2, 1], [1, 2]), ([3], [3]), ([4], [4]), ([4], [4]), ([5, 3, 0, 1, 2, 3, 4, 5], [5]), ([6, 7, 0, 1, 2, 3, 4, 5, 6, 7], [6])])
def mantletlaw13_MatchAhead.B1 : List Nat := [0, 1, 0, 7, 15, 31, 31, 63, 255]
theorem mantletlaw13_MatchAhead.tab1 : rtab .any (opsOf Try.f4 1) = mantletlaw13_MatchAhead.T1 := by kernel_rfl
theorem mantletlaw13_MatchAhead.bits1 : waitsOk mantletlaw13_MatchAhead.T1.2 mantletlaw13_MatchAhead.B1 = true := by kernel_rfl
def mantletlaw13_MatchAhead.T2 : Bool × List (List Nat × List Nat) := (true, [([], []), ([0], [0]), ([], []), ([2], [2]), ([1, 3, 3], [1, 3]), ([], []), ([4, 5, 4], [4, 5]), ([6], [6]), ([7], [7]), ([7], [7]), ([8, 6, 0, 1, 2, 3, 4, 5, 6, 7, 8], [8]), ([9, 10, 0, 1, 2, 3, 4, 5, 6, 7, 8, 9, 10], [9])])
def mantletlaw13_MatchAhead.B2 : List Nat := [0, 1, 0, 4, 15, 0, 63, 127, 255, 255, 511, 2047]
theorem mantletlaw13_MatchAhead.tab2 : rtab .any (opsOf Try.f4 2) = mantletlaw13_MatchAhead.T2 := by kernel_rfl
theorem mantletlaw13_MatchAhead.bits2 : waitsOk mantletlaw13_MatchAhead.T2.2 mantletlaw13_MatchAhead.B2 = true := by kernel_rfl
set_option maxHeartbeats 8000000 in
set_option maxRecDepth 100000 in
theorem mantletlaw13_MatchAhead.calls (A0 : Option Addr) (c0 : Nat) (l0 : List (S32)) (a1_0 : Bool) (a1_1 : Int) (a1_2 : Int) (a1_3 : Int) (a1_4 : Int) (a1_5 : Int) (a1_6 : Int) (a1_7 : Int) (a1_8 : Int) (a1_9 : Int) (a2_0 : Int) (a2_1 : Int) (a2_2 : Int) (a2_3 : Int) (a2_4 : Int) (a2_5 : Int) (a2_6 : Int) (r : Bool) (w : World) (hr0 : Kd.C k32 w A0 l0.length l0) (hc0 : l0.length ≤ c0) (h : mantletlaw13_MatchAhead.f l0 a1_0 a1_1 a1_2 a1_3 a1_4 a1_5 a1_6 a1_7 a1_8 a1_9 a2_0 a2_1 a2_2 a2_3 a2_4 a2_5 a2_6 = some r) (hT_ : r = true) :
    Calls Try.prog 4 #[.slice A0 l0.length c0, .agg #[.bool a1_0, .int .u8 a1_1, .int .u32 a1_2, .int .i64 a1_3, .int .u32 a1_4, .int .i64 a1_5, .int .u16 a1_6, .int .u16 a1_7, .int .u16 a1_8, .int .u16 a1_9], .agg #[.int .u8 a2_0, .int .u32 a2_1, .int .u32 a2_2, .int .u16 a2_3, .int .u16 a2_4, .int .u8 a2_5, .int .u8 a2_6]] w fun e w' => e = .returned (.bool r) ∧ Below w.heap.size w w' := by
 have HT := Aside0.mk hT_
 clear hT_
 have hu32 := Try.underlying32
 have hu26 := Try.underlying26
 have HR0 := Aside0.mk hr0
 have HC0 := Aside0.mk hc0
 clear hr0 hc0
 have HB := Aside0.mk (Below.refl w.heap.size w)
 have H : ((mantletlaw13_few.f l0).bind fun t164 => ((match_First.f t164 a2_0 a2_1 a2_2 a2_3 a2_4 a2_5 a2_6).bind fun bt167 => ((some (([(⟨a1_0, a1_1, (⟨a1_2, a1_3⟩ : S28), (⟨a1_4, a1_5⟩ : S28), (⟨a1_6, a1_7⟩ : S30), (⟨a1_8, a1_9⟩ : S30)⟩ : S32)] : List (S32)) : List (S32))).bind fun y169 => ((mantletlaw13_few.f l0).bind fun t172 => (if y169.length + t172.length < 2932031007402 then ((match_First.f (y169 ++ t172) a2_0 a2_1 a2_2 a2_3 a2_4 a2_5 a2_6).bind fun bt178 => ((match_Matches.f a1_0 a1_1 a1_2 a1_3 a1_4 a1_5 a1_6 a1_7 a1_8 a1_9 a2_0 a2_1 a2_2 a2_3 a2_4 a2_5 a2_6).bind fun t180 => (if t180 = true then ((mantletlaw13_awake.f).bind fun t181 => (if t181 = true then (if bt178.1 = 0 then (some (bt178.2 == a1_0)) else (some false)) else (some false))) else (if bt167.1 < 0 then ((mantletlaw13_awake.f).bind fun t182 => (if t182 = true then (if bt178.1 = (-1) then (if bt178.2 = true then (some false) else (some (!bt167.2))) else (some false)) else (some false))) else ((mantletlaw13_awake.f).bind fun t183 => (if t183 = true then (if bt178.1 = (wrap64 (bt167.1 + 1)) then (some (bt178.2 == bt167.2)) else (some false)) else (some false))))))) else (none)))))) = some r := h
 clear h
 replace H := Option.bind_eq_some_iff.mp H
 obtain ⟨t164, A40, H⟩ := H
 replace H : ((match_First.f t164 a2_0 a2_1 a2_2 a2_3 a2_4 a2_5 a2_6).bind fun bt167 => ((some (([(⟨a1_0, a1_1, (⟨a1_2, a1_3⟩ : S28), (⟨a1_4, a1_5⟩ : S28), (⟨a1_6, a1_7⟩ : S30), (⟨a1_8, a1_9⟩ : S30)⟩ : S32)] : List (S32)) : List (S32))).bind fun y169 => ((mantletlaw13_few.f l0).bind fun t172 => (if y169.length + t172.length < 2932031007402 then ((match_First.f (y169 ++ t172) a2_0 a2_1 a2_2 a2_3 a2_4 a2_5 a2_6).bind fun bt178 => ((match_Matches.f a1_0 a1_1 a1_2 a1_3 a1_4 a1_5 a1_6 a1_7 a1_8 a1_9 a2_0 a2_1 a2_2 a2_3 a2_4 a2_5 a2_6).bind fun t180 => (if t180 = true then ((mantletlaw13_awake.f).bind fun t181 => (if t181 = true then (if bt178.1 = 0 then (some (bt178.2 == a1_0)) else (some false)) else (some false))) else (if bt167.1 < 0 then ((mantletlaw13_awake.f).bind fun t182 => (if t182 = true then (if bt178.1 = (-1) then (if bt178.2 = true then (some false) else (some (!bt167.2))) else (some false)) else (some false))) else ((mantletlaw13_awake.f).bind fun t183 => (if t183 = true then (if bt178.1 = (wrap64 (bt167.1 + 1)) then (some (bt178.2 == bt167.2)) else (some false)) else (some false))))))) else (none))))) = some r := H
 have A4 := Aside0.mk A40
 clear A40
 replace H := Option.bind_eq_some_iff.mp H
 obtain ⟨⟨t167, t168⟩, A50, H⟩ := H
 replace H : ((some (([(⟨a1_0, a1_1, (⟨a1_2, a1_3⟩ : S28), (⟨a1_4, a1_5⟩ : S28), (⟨a1_6, a1_7⟩ : S30), (⟨a1_8, a1_9⟩ : S30)⟩ : S32)] : List (S32)) : List (S32))).bind fun y169 => ((mantletlaw13_few.f l0).bind fun t172 => (if y169.length + t172.length < 2932031007402 then ((match_First.f (y169 ++ t172) a2_0 a2_1 a2_2 a2_3 a2_4 a2_5 a2_6).bind fun bt178 => ((match_Matches.f a1_0 a1_1 a1_2 a1_3 a1_4 a1_5 a1_6 a1_7 a1_8 a1_9 a2_0 a2_1 a2_2 a2_3 a2_4 a2_5 a2_6).bind fun t180 => (if t180 = true then ((mantletlaw13_awake.f).bind fun t181 => (if t181 = true then (if bt178.1 = 0 then (some (bt178.2 == a1_0)) else (some false)) else (some false))) else (if t167 < 0 then ((mantletlaw13_awake.f).bind fun t182 => (if t182 = true then (if bt178.1 = (-1) then (if bt178.2 = true then (some false) else (some (!t168))) else (some false)) else (some false))) else ((mantletlaw13_awake.f).bind fun t183 => (if t183 = true then (if bt178.1 = (wrap64 (t167 + 1)) then (some (bt178.2 == t168)) else (some false)) else (some false))))))) else (none)))) = some r := H
 have A5 := Aside0.mk A50
 clear A50
 obtain ⟨y169, hy169⟩ : ∃ y_ : List (S32), y_ = (([(⟨a1_0, a1_1, (⟨a1_2, a1_3⟩ : S28), (⟨a1_4, a1_5⟩ : S28), (⟨a1_6, a1_7⟩ : S30), (⟨a1_8, a1_9⟩ : S30)⟩ : S32)] : List (S32))) := ⟨_, rfl⟩
 replace H : ((mantletlaw13_few.f l0).bind fun t172 => (if y169.length + t172.length < 2932031007402 then ((match_First.f (y169 ++ t172) a2_0 a2_1 a2_2 a2_3 a2_4 a2_5 a2_6).bind fun bt178 => ((match_Matches.f a1_0 a1_1 a1_2 a1_3 a1_4 a1_5 a1_6 a1_7 a1_8 a1_9 a2_0 a2_1 a2_2 a2_3 a2_4 a2_5 a2_6).bind fun t180 => (if t180 = true then ((mantletlaw13_awake.f).bind fun t181 => (if t181 = true then (if bt178.1 = 0 then (some (bt178.2 == a1_0)) else (some false)) else (some false))) else (if t167 < 0 then ((mantletlaw13_awake.f).bind fun t182 => (if t182 = true then (if bt178.1 = (-1) then (if bt178.2 = true then (some false) else (some (!t168))) else (some false)) else (some false))) else ((mantletlaw13_awake.f).bind fun t183 => (if t183 = true then (if bt178.1 = (wrap64 (t167 + 1)) then (some (bt178.2 == t168)) else (some false)) else (some false))))))) else (none))) = some r := by first | (rw [hy169]; with_reducible exact H) | (have H2_ := (Option.bind_some _ _).symm.trans H; rw [hy169]; with_reducible exact H2_) | (have H2_ := (Option.bind_some _ _).symm.trans H; with_reducible exact H2_) | with_reducible exact H | (rw [hy169]; exact H) | exact H
 have Ny169 := Aside0.mk hy169
 clear hy169
 replace H := Option.bind_eq_some_iff.mp H
 obtain ⟨t172, A60, H⟩ := H
 replace H : (if y169.length + t172.length < 2932031007402 then ((match_First.f (y169 ++ t172) a2_0 a2_1 a2_2 a2_3 a2_4 a2_5 a2_6).bind fun bt178 => ((match_Matches.f a1_0 a1_1 a1_2 a1_3 a1_4 a1_5 a1_6 a1_7 a1_8 a1_9 a2_0 a2_1 a2_2 a2_3 a2_4 a2_5 a2_6).bind fun t180 => (if t180 = true then ((mantletlaw13_awake.f).bind fun t181 => (if t181 = true then (if bt178.1 = 0 then (some (bt178.2 == a1_0)) else (some false)) else (some false))) else (if t167 < 0 then ((mantletlaw13_awake.f).bind fun t182 => (if t182 = true then (if bt178.1 = (-1) then (if bt178.2 = true then (some false) else (some (!t168))) else (some false)) else (some false))) else ((mantletlaw13_awake.f).bind fun t183 => (if t183 = true then (if bt178.1 = (wrap64 (t167 + 1)) then (some (bt178.2 == t168)) else (some false)) else (some false))))))) else (none)) = some r := H
 have A6 := Aside0.mk A60
 clear A60
 by_cases c7 : y169.length + t172.length < 2932031007402
 ·rw [if_pos c7] at H
  have LMc7 := Aside0.mk c7
  clear c7
  obtain ⟨y175, hy175⟩ : ∃ y_ : List (S32), y_ = (y169 ++ t172) := ⟨_, rfl⟩
  replace H : ((match_First.f y175 a2_0 a2_1 a2_2 a2_3 a2_4 a2_5 a2_6).bind fun bt178 => ((match_Matches.f a1_0 a1_1 a1_2 a1_3 a1_4 a1_5 a1_6 a1_7 a1_8 a1_9 a2_0 a2_1 a2_2 a2_3 a2_4 a2_5 a2_6).bind fun t180 => (if t180 = true then ((mantletlaw13_awake.f).bind fun t181 => (if t181 = true then (if bt178.1 = 0 then (some (bt178.2 == a1_0)) else (some false)) else (some false))) else (if t167 < 0 then ((mantletlaw13_awake.f).bind fun t182 => (if t182 = true then (if bt178.1 = (-1) then (if bt178.2 = true then (some false) else (some (!t168))) else (some false)) else (some false))) else ((mantletlaw13_awake.f).bind fun t183 => (if t183 = true then (if bt178.1 = (wrap64 (t167 + 1)) then (some (bt178.2 == t168)) else (some false)) else (some false))))))) = some r := by first | (rw [hy175]; with_reducible exact H) | (have H2_ := (Option.bind_some _ _).symm.trans H; rw [hy175]; with_reducible exact H2_) | (have H2_ := (Option.bind_some _ _).symm.trans H; with_reducible exact H2_) | with_reducible exact H | (rw [hy175]; exact H) | exact H
  have Ny175 := Aside0.mk hy175
  clear hy175
  replace H := Option.bind_eq_some_iff.mp H
  obtain ⟨⟨t178, t179⟩, A80, H⟩ := H
  replace H : ((match_Matches.f a1_0 a1_1 a1_2 a1_3 a1_4 a1_5 a1_6 a1_7 a1_8 a1_9 a2_0 a2_1 a2_2 a2_3 a2_4 a2_5 a2_6).bind fun t180 => (if t180 = true then ((mantletlaw13_awake.f).bind fun t181 => (if t181 = true then (if t178 = 0 then (some (t179 == a1_0)) else (some false)) else (some false))) else (if t167 < 0 then ((mantletlaw13_awake.f).bind fun t182 => (if t182 = true then (if t178 = (-1) then (if t179 = true then (some false) else (some (!t168))) else (some false)) else (some false))) else ((mantletlaw13_awake.f).bind fun t183 => (if t183 = true then (if t178 = (wrap64 (t167 + 1)) then (some (t179 == t168)) else (some false)) else (some false)))))) = some r := H
  have A8 := Aside0.mk A80
  clear A80
  replace H := Option.bind_eq_some_iff.mp H
  obtain ⟨t180, A90, H⟩ := H
  replace H : (if t180 = true then ((mantletlaw13_awake.f).bind fun t181 => (if t181 = true then (if t178 = 0 then (some (t179 == a1_0)) else (some false)) else (some false))) else (if t167 < 0 then ((mantletlaw13_awake.f).bind fun t182 => (if t182 = true then (if t178 = (-1) then (if t179 = true then (some false) else (some (!t168))) else (some false)) else (some false))) else ((mantletlaw13_awake.f).bind fun t183 => (if t183 = true then (if t178 = (wrap64 (t167 + 1)) then (some (t179 == t168)) else (some false)) else (some false))))) = some r := H
  have A9 := Aside0.mk A90
  clear A90
  have HH_ := Aside0.mk H
  clear H
  go_enter Try.func4, Try.ntmps4
  try go_wp2_with (first | ((with_reducible refine gate_dst (N := 4) rfl ?_); refine box_event ?hg (N := 4) ?hd (cs := #[.bool a1_0, .int .u8 a1_1, .int .u32 a1_2, .int .i64 a1_3, .int .u32 a1_4, .int .i64 a1_5, .int .u16 a1_6, .int .u16 a1_7, .int .u16 a1_8, .int .u16 a1_9]) (t := 32) ?hr ?_; (case hd => rfl); (case hg => rfl); (case hr => first | (go_simp; done) | (go_simp; rfl)); intro gb900 hg w901 hbox hb; have n0_ := Aside0.mk (below_step (by repeat first | (with_reducible first | exact HB.out | apply below_alloc | apply pw_below_drewN | apply below_drew1) | exact HB.out) hb); have n1_ := Aside0.mk (hbox); have n2_ := Aside0.mk ((by rw [hg]; exact (below_size (by repeat first | (with_reducible first | exact HB.out | apply below_alloc | apply pw_below_drewN | apply below_drew1) | exact HB.out)) : w.heap.size ≤ gb900)); have n3_ := Aside0.mk ((by rw [hg]; exact (below_size (by repeat first | (with_reducible first | exact HB.out | apply below_alloc | apply pw_below_drewN | apply below_drew1) | exact HB.out)) : w.heap.size ≤ gb900)); clear HB; have HB := n0_; have BK902 := n1_; have GW903 := n2_; have GE904 := n3_; clear n0_ n1_ n2_ n3_; clear hb hbox hg) | ((with_reducible refine gate_dst (N := 5) rfl ?_); refine box_event ?hg (N := 5) ?hd (cs := #[.int .u8 a2_0, .int .u32 a2_1, .int .u32 a2_2, .int .u16 a2_3, .int .u16 a2_4, .int .u8 a2_5, .int .u8 a2_6]) (t := 26) ?hr ?_; (case hd => rfl); (case hg => rfl); (case hr => first | (go_simp; done) | (go_simp; rfl)); intro gb905 hg w906 hbox hb; have n0_ := Aside0.mk (blk_below (g := gb900) (o := .cells #[.bool a1_0, .int .u8 a1_1, .int .u32 a1_2, .int .i64 a1_3, .int .u32 a1_4, .int .i64 a1_5, .int .u16 a1_6, .int .u16 a1_7, .int .u16 a1_8, .int .u16 a1_9] 32 (0, 0)) (by (with_reducible repeat first | apply blk_drewN | apply blk_drew | apply blk_alloc); exact BK902.out) hb); have n1_ := Aside0.mk (below_step (by repeat first | (with_reducible first | exact HB.out | apply below_alloc | apply pw_below_drewN | apply below_drew1 | refine below_set ?_ GE904.out) | exact HB.out) hb); have n2_ := Aside0.mk (hbox); have n3_ := Aside0.mk ((by rw [hg]; exact (below_size (by repeat first | (with_reducible first | exact HB.out | apply below_alloc | apply pw_below_drewN | apply below_drew1 | refine below_set ?_ GE904.out) | exact HB.out)) : w.heap.size ≤ gb905)); have n4_ := Aside0.mk ((by rw [hg]; exact (below_size (by repeat first | (with_reducible first | exact HB.out | apply below_alloc | apply pw_below_drewN | apply below_drew1 | refine below_set ?_ GE904.out) | exact HB.out)) : w.heap.size ≤ gb905)); have n5_ := Aside0.mk ((by rw [hg]; exact Nat.ne_of_lt (blk_lt (g := gb900) (o := .cells #[.bool a1_0, .int .u8 a1_1, .int .u32 a1_2, .int .i64 a1_3, .int .u32 a1_4, .int .i64 a1_5, .int .u16 a1_6, .int .u16 a1_7, .int .u16 a1_8, .int .u16 a1_9] 32 (0, 0)) (by (with_reducible repeat first | apply blk_drewN | apply blk_drew | apply blk_alloc); exact BK902.out)) : gb900 ≠ gb905)); have n6_ := Aside0.mk ((by rw [hg]; exact Nat.ne_of_gt (blk_lt (g := gb900) (o := .cells #[.bool a1_0, .int .u8 a1_1, .int .u32 a1_2, .int .i64 a1_3, .int .u32 a1_4, .int .i64 a1_5, .int .u16 a1_6, .int .u16 a1_7, .int .u16 a1_8, .int .u16 a1_9] 32 (0, 0)) (by (with_reducible repeat first | apply blk_drewN | apply blk_drew | apply blk_alloc); exact BK902.out)) : gb905 ≠ gb900)); clear BK902; clear HB; have BK902 := n0_; have HB := n1_; have BK907 := n2_; have GW908 := n3_; have GE909 := n4_; have NB910 := n5_; have NB911 := n6_; clear n0_ n1_ n2_ n3_ n4_ n5_ n6_; clear hb hbox hg))
  have n0_ := Aside0.mk (blk_drew BK902.out)
  have n1_ := Aside0.mk (blk_drew BK907.out)
  have n2_ := Aside0.mk (below_drew1 HB.out)
  clear BK902
  clear BK907
  clear HB
  have BK902 := n0_
  have BK907 := n1_
  have HB := n2_
  clear n0_ n1_ n2_
  refine start_ (n := 9) (S := fun w' => w'.cell? ⟨gb905, 0, none⟩ = some (.int .u8 a2_0) ∧ w'.cell? ⟨gb905, 1, none⟩ = some (.int .u32 a2_1) ∧ w'.cell? ⟨gb905, 2, none⟩ = some (.int .u32 a2_2) ∧ w'.cell? ⟨gb905, 3, none⟩ = some (.int .u16 a2_3) ∧ w'.cell? ⟨gb905, 4, none⟩ = some (.int .u16 a2_4) ∧ w'.cell? ⟨gb905, 5, none⟩ = some (.int .u8 a2_5) ∧ w'.cell? ⟨gb905, 6, none⟩ = some (.int .u8 a2_6)) (ds := []) #[false, false, false, false, false, false, false, false, false] (by kernel_rfl) rfl rfl ⟨(blk_cell BK907.out 0).trans rfl, (blk_cell BK907.out 1).trans rfl, (blk_cell BK907.out 2).trans rfl, (blk_cell BK907.out 3).trans rfl, (blk_cell BK907.out 4).trans rfl, (blk_cell BK907.out 5).trans rfl, (blk_cell BK907.out 6).trans rfl⟩ (fun hHeld => ?_); refine with_tabW mantletlaw13_MatchAhead.tab1 mantletlaw13_MatchAhead.bits1 (fun HT_ HW_ => ?_)
  generalize w906.drew = w912 at BK902 BK907 HB hHeld ⊢
  refine pure_ (i := 0) (N := some 12) (v := ?_) (a' := ?_) #[true, false, false, false, false, false, false, false, false] rfl rfl (any_of HT_.out (by kernel_rfl)) (fun _ _ _ h => h) (Or.inl ⟨by rfl, ?_⟩) ?_ ?_
  rotate_left
  ·intro w'
   go_simp
   with_reducible rfl
  rotate_left
  ·simp only [Act.put, List.setIfInBounds_toArray, List.set_cons_zero, List.set_cons_succ, i64_w, i32_w]
   rfl
  refine take_ (i := 2) (N := some 14) (v := ?_) (a' := ?_) #[true, false, true, false, false, false, false, false, false] rfl rfl (take_ofW HT_.out HW_.out (by kernel_rfl)) (fun _ _ _ h => h) (Or.inl ⟨by rfl, ?_⟩) hHeld ?_ ?_
  rotate_left
  ·rintro w' ⟨s913, s914, s915, s916, s917, s918, s919⟩
   go_simp
   with_reducible rfl
  rotate_left
  ·simp only [Act.put, List.setIfInBounds_toArray, List.set_cons_zero, List.set_cons_succ, i64_w, i32_w]
   rfl
  refine one_ (i := 1) (N := some 13) #[true, true, true, false, false, false, false, false, false] rfl rfl (one_of HT_.out (by kernel_rfl)) (by decide) (fun K hK => ?_)
  refine goes_ Try.func15 (by kernel_rfl) rfl #[.slice A0 l0.length c0] (by rfl) rfl rfl (by (try simp only [List.map_toArray, List.map_cons, List.map_nil]); first | done | rfl) ?_
  with_reducible refine (mantletlaw13_few.calls (fun k_ => k_ < w.heap.size) _ _ l0 t164 _ ?side920 A4.out).mono ?_
  (case side920 => exact Kd.V_mk HC0.out (Kd.F_below (Kd.C_F k32_heap HR0.out) (by repeat first | (with_reducible first | exact HB.out | apply below_alloc | apply pw_below_drewN | apply below_drew1 | refine below_set ?_ GE904.out | refine below_set ?_ GE909.out) | exact HB.out)))
  rintro e w921 ⟨v922, rfl, ho923, hb⟩
  refine ⟨_, rfl, ?_⟩
  have n0_ := Aside0.mk (Kd.V_lower (Kd.V_mono (ok' := fun k_ => k_ ≠ gb900 ∧ k_ ≠ gb905) ho923 (fun k_ hk_ => ⟨Or.elim hk_ (fun hs_ => fun e_ => Nat.not_le.2 hs_ (by rw [e_]; exact GW903.out)) (fun hn_ => (Kd.freshB (g := gb900) (o := .cells #[.bool a1_0, .int .u8 a1_1, .int .u32 a1_2, .int .i64 a1_3, .int .u32 a1_4, .int .i64 a1_5, .int .u16 a1_6, .int .u16 a1_7, .int .u16 a1_8, .int .u16 a1_9] 32 (0, 0)) (by (with_reducible repeat first | apply blk_drewN | apply blk_drew | apply blk_alloc); exact BK902.out) k_ hn_)), Or.elim hk_ (fun hs_ => fun e_ => Nat.not_le.2 hs_ (by rw [e_]; exact GW908.out)) (fun hn_ => (Kd.freshB (g := gb905) (o := .cells #[.int .u8 a2_0, .int .u32 a2_1, .int .u32 a2_2, .int .u16 a2_3, .int .u16 a2_4, .int .u8 a2_5, .int .u8 a2_6] 26 (0, 0)) (by (with_reducible repeat first | apply blk_drewN | apply blk_drew | apply blk_alloc); exact BK907.out) k_ hn_))⟩)) (below_size (by repeat first | (with_reducible first | exact HB.out | apply below_alloc | apply pw_below_drewN | apply below_drew1 | refine below_set ?_ GE904.out | refine below_set ?_ GE909.out) | exact HB.out)))
  have n1_ := Aside0.mk (blk_below (g := gb900) (o := .cells #[.bool a1_0, .int .u8 a1_1, .int .u32 a1_2, .int .i64 a1_3, .int .u32 a1_4, .int .i64 a1_5, .int .u16 a1_6, .int .u16 a1_7, .int .u16 a1_8, .int .u16 a1_9] 32 (0, 0)) (by (with_reducible repeat first | apply blk_drewN | apply blk_drew | apply blk_alloc); exact BK902.out) hb)
  have n2_ := Aside0.mk (blk_below (g := gb905) (o := .cells #[.int .u8 a2_0, .int .u32 a2_1, .int .u32 a2_2, .int .u16 a2_3, .int .u16 a2_4, .int .u8 a2_5, .int .u8 a2_6] 26 (0, 0)) (by (with_reducible repeat first | apply blk_drewN | apply blk_drew | apply blk_alloc); exact BK907.out) hb)
  have n3_ := Aside0.mk (below_step (by repeat first | (with_reducible first | exact HB.out | apply below_alloc | apply pw_below_drewN | apply below_drew1 | refine below_set ?_ GE904.out | refine below_set ?_ GE909.out) | exact HB.out) hb)
  clear BK902
  clear BK907
  clear HB
  have HO924 := n0_
  have BK902 := n1_
  have BK907 := n2_
  have HB := n3_
  clear n0_ n1_ n2_ n3_
  (try clear hb)
  (try clear hb2)
  (try clear hk)
  (try clear hi)
  (try clear ho923)
  obtain ⟨Ao925, co926, eo927⟩ := Kd.V_slice HO924.out
  (first | subst eo927 | (injection eo927 with f1_ f2_ f3_; have f928 := f1_.symm; have f929 := f3_.symm; clear f1_ f2_ f3_; subst f928; subst f929))
  refine hK.out _ _ ⟨(blk_cell BK907.out 0).trans rfl, (blk_cell BK907.out 1).trans rfl, (blk_cell BK907.out 2).trans rfl, (blk_cell BK907.out 3).trans rfl, (blk_cell BK907.out 4).trans rfl, (blk_cell BK907.out 5).trans rfl, (blk_cell BK907.out 6).trans rfl⟩ (fun hHeld => ?_)
  clear hK K
  refine norm_ (a' := ?_) ?_ ?_
  rotate_left
  ·show Act.put _ (some 13) _ = _
   simp only [Act.put, List.setIfInBounds_toArray, List.set_cons_zero, List.set_cons_succ, i64_w, i32_w]
   rfl
  refine one_ (i := 3) (N := some 15) #[true, true, true, true, false, false, false, false, false] rfl rfl (one_of HT_.out (by kernel_rfl)) (by decide) (fun K hK => ?_)
  refine goes_ Try.func14 (by kernel_rfl) rfl #[.slice Ao925 t164.length co926, .agg #[.int .u8 a2_0, .int .u32 a2_1, .int .u32 a2_2, .int .u16 a2_3, .int .u16 a2_4, .int .u8 a2_5, .int .u8 a2_6]] (by rfl) rfl rfl (by (try simp only [List.map_toArray, List.map_cons, List.map_nil]); first | done | rfl) ?_
  with_reducible refine (match_First.calls _ _ t164 a2_0 a2_1 a2_2 a2_3 a2_4 a2_5 a2_6 t167 t168 _ ?side920 ?side930 A5.out).mono ?_
  (case side920 => repeat (first | exact (Kd.V_reads' HO924.out).2.2 | (with_reducible refine Kd.C_alloc ?_ _) | (with_reducible refine Kd.C_drewN ?_ _) | (with_reducible refine Kd.C_drew ?_)))
  (case side930 => exact (Kd.V_reads' HO924.out).2.1)
  rintro e w931 ⟨rfl, hb⟩
  refine ⟨_, rfl, ?_⟩
  have n0_ := Aside0.mk (Kd.V_below (by (with_reducible repeat (first | apply Kd.V_alloc | apply Kd.V_drewN | apply Kd.V_drew)); exact HO924.out) hb)
  have n1_ := Aside0.mk (blk_below (g := gb900) (o := .cells #[.bool a1_0, .int .u8 a1_1, .int .u32 a1_2, .int .i64 a1_3, .int .u32 a1_4, .int .i64 a1_5, .int .u16 a1_6, .int .u16 a1_7, .int .u16 a1_8, .int .u16 a1_9] 32 (0, 0)) (by (with_reducible repeat first | apply blk_drewN | apply blk_drew | apply blk_alloc); exact BK902.out) hb)
  have n2_ := Aside0.mk (blk_below (g := gb905) (o := .cells #[.int .u8 a2_0, .int .u32 a2_1, .int .u32 a2_2, .int .u16 a2_3, .int .u16 a2_4, .int .u8 a2_5, .int .u8 a2_6] 26 (0, 0)) (by (with_reducible repeat first | apply blk_drewN | apply blk_drew | apply blk_alloc); exact BK907.out) hb)
  have n3_ := Aside0.mk (below_step (by repeat first | (with_reducible first | exact HB.out | apply below_alloc | apply pw_below_drewN | apply below_drew1 | refine below_set ?_ GE904.out | refine below_set ?_ GE909.out) | exact HB.out) hb)
  clear HO924
  clear BK902
  clear BK907
  clear HB
  have HO924 := n0_
  have BK902 := n1_
  have BK907 := n2_
  have HB := n3_
  clear n0_ n1_ n2_ n3_
  (try clear hb)
  (try clear hb2)
  (try clear hk)
  (try clear hi)
  refine hK.out _ _ ⟨(blk_cell BK907.out 0).trans rfl, (blk_cell BK907.out 1).trans rfl, (blk_cell BK907.out 2).trans rfl, (blk_cell BK907.out 3).trans rfl, (blk_cell BK907.out 4).trans rfl, (blk_cell BK907.out 5).trans rfl, (blk_cell BK907.out 6).trans rfl⟩ (fun hHeld => ?_)
  clear hK K
  refine norm_ (a' := ?_) ?_ ?_
  rotate_left
  ·show Act.put _ (some 15) _ = _
   simp only [Act.put, List.setIfInBounds_toArray, List.set_cons_zero, List.set_cons_succ, i64_w, i32_w]
   rfl
  refine pure_ (i := 4) (N := some 11) (v := ?_) (a' := ?_) #[true, true, true, true, true, false, false, false, false] rfl rfl (any_of HT_.out (by kernel_rfl)) (fun _ _ _ h => h) (Or.inl ⟨by rfl, ?_⟩) ?_ ?_
  rotate_left
  ·intro w'
   go_simp
   with_reducible rfl
  rotate_left
  ·simp only [Act.put, List.setIfInBounds_toArray, List.set_cons_zero, List.set_cons_succ, i64_w, i32_w]
   rfl
  refine pure_ (i := 5) (N := some 16) (v := ?_) (a' := ?_) #[true, true, true, true, true, true, false, false, false] rfl rfl (any_of HT_.out (by kernel_rfl)) (fun _ _ _ h => h) (Or.inl ⟨by rfl, ?_⟩) ?_ ?_
  rotate_left
  ·intro w'
   go_simp
   with_reducible rfl
  rotate_left
  ·simp only [Act.put, List.setIfInBounds_toArray, List.set_cons_zero, List.set_cons_succ, i64_w, i32_w]
   rfl
  refine pure_ (i := 6) (N := some 17) (v := ?_) (a' := ?_) #[true, true, true, true, true, true, true, false, false] rfl rfl (any_of HT_.out (by kernel_rfl)) (fun _ _ _ h => h) (Or.inl ⟨by rfl, ?_⟩) ?_ ?_
  rotate_left
  ·intro w'
   go_simp
   with_reducible rfl
  rotate_left
  ·simp only [Act.put, List.setIfInBounds_toArray, List.set_cons_zero, List.set_cons_succ, i64_w, i32_w]
   rfl
  refine pure_ (i := 7) (N := some 7) (v := ?_) (a' := ?_) #[true, true, true, true, true, true, true, true, false] rfl rfl (any_of HT_.out (by kernel_rfl)) (fun _ _ _ h => h) (Or.inl ⟨by rfl, ?_⟩) ?_ ?_
  rotate_left
  ·intro w'
   go_simp
   with_reducible rfl
  rotate_left
  ·simp only [Act.put, List.setIfInBounds_toArray, List.set_cons_zero, List.set_cons_succ, i64_w, i32_w]
   rfl
  refine pure_ (i := 8) (N := some 8) (v := ?_) (a' := ?_) #[true, true, true, true, true, true, true, true, true] rfl rfl (any_of HT_.out (by kernel_rfl)) (fun _ _ _ h => h) (Or.inl ⟨by rfl, ?_⟩) ?_ ?_
  rotate_left
  ·intro w'
   go_simp
   with_reducible rfl
  rotate_left
  ·simp only [Act.put, List.setIfInBounds_toArray, List.set_cons_zero, List.set_cons_succ, i64_w, i32_w]
   rfl
  refine done_ (done_of HT_.out (by kernel_rfl)) ?_
  try go_wp2
  have n0_ := Aside0.mk (Kd.V_drew HO924.out)
  have n1_ := Aside0.mk (blk_drew BK902.out)
  have n2_ := Aside0.mk (blk_drew BK907.out)
  have n3_ := Aside0.mk (below_drew1 HB.out)
  clear HO924
  clear BK902
  clear BK907
  clear HB
  have HO924 := n0_
  have BK902 := n1_
  have BK907 := n2_
  have HB := n3_
  clear n0_ n1_ n2_ n3_
  refine start_ (n := 12) (S := fun w' => w'.cell? ⟨gb900, 0, none⟩ = some (.bool a1_0) ∧ w'.cell? ⟨gb900, 1, none⟩ = some (.int .u8 a1_1) ∧ w'.cell? ⟨gb900, 2, none⟩ = some (.int .u32 a1_2) ∧ w'.cell? ⟨gb900, 3, none⟩ = some (.int .i64 a1_3) ∧ w'.cell? ⟨gb900, 4, none⟩ = some (.int .u32 a1_4) ∧ w'.cell? ⟨gb900, 5, none⟩ = some (.int .i64 a1_5) ∧ w'.cell? ⟨gb900, 6, none⟩ = some (.int .u16 a1_6) ∧ w'.cell? ⟨gb900, 7, none⟩ = some (.int .u16 a1_7) ∧ w'.cell? ⟨gb900, 8, none⟩ = some (.int .u16 a1_8) ∧ w'.cell? ⟨gb900, 9, none⟩ = some (.int .u16 a1_9) ∧ w'.cell? ⟨gb905, 0, none⟩ = some (.int .u8 a2_0) ∧ w'.cell? ⟨gb905, 1, none⟩ = some (.int .u32 a2_1) ∧ w'.cell? ⟨gb905, 2, none⟩ = some (.int .u32 a2_2) ∧ w'.cell? ⟨gb905, 3, none⟩ = some (.int .u16 a2_3) ∧ w'.cell? ⟨gb905, 4, none⟩ = some (.int .u16 a2_4) ∧ w'.cell? ⟨gb905, 5, none⟩ = some (.int .u8 a2_5) ∧ w'.cell? ⟨gb905, 6, none⟩ = some (.int .u8 a2_6)) (ds := []) #[false, false, false, false, false, false, false, false, false, false, false, false] (by kernel_rfl) rfl rfl ⟨(blk_cell BK902.out 0).trans rfl, (blk_cell BK902.out 1).trans rfl, (blk_cell BK902.out 2).trans rfl, (blk_cell BK902.out 3).trans rfl, (blk_cell BK902.out 4).trans rfl, (blk_cell BK902.out 5).trans rfl, (blk_cell BK902.out 6).trans rfl, (blk_cell BK902.out 7).trans rfl, (blk_cell BK902.out 8).trans rfl, (blk_cell BK902.out 9).trans rfl, (blk_cell BK907.out 0).trans rfl, (blk_cell BK907.out 1).trans rfl, (blk_cell BK907.out 2).trans rfl, (blk_cell BK907.out 3).trans rfl, (blk_cell BK907.out 4).trans rfl, (blk_cell BK907.out 5).trans rfl, (blk_cell BK907.out 6).trans rfl⟩ (fun hHeld => ?_); refine with_tabW mantletlaw13_MatchAhead.tab2 mantletlaw13_MatchAhead.bits2 (fun HT_ HW_ => ?_)
  generalize w931.drew = w932 at HO924 BK902 BK907 HB hHeld ⊢
  refine pure_ (i := 2) (N := some 21) (v := ?_) (a' := ?_) #[false, false, true, false, false, false, false, false, false, false, false, false] rfl rfl (any_of HT_.out (by kernel_rfl)) (fun _ _ _ h => h) (Or.inl ⟨by rfl, ?_⟩) ?_ ?_
  rotate_left
  ·intro w'
   go_simp
   with_reducible rfl
  rotate_left
  ·simp only [Act.put, List.setIfInBounds_toArray, List.set_cons_zero, List.set_cons_succ, i64_w, i32_w]
   rfl
  refine take_ (i := 0) (N := some 19) (v := ?_) (a' := ?_) #[true, false, true, false, false, false, false, false, false, false, false, false] rfl rfl (take_ofW HT_.out HW_.out (by kernel_rfl)) (fun _ _ _ h => h) (Or.inl ⟨by rfl, ?_⟩) hHeld ?_ ?_
  rotate_left
  ·rintro w' ⟨s913, s914, s915, s916, s917, s918, s919, s933, s934, s935, s936, s937, s938, s939, s940, s941, s942⟩
   go_simp
   with_reducible rfl
  rotate_left
  ·simp only [Act.put, List.setIfInBounds_toArray, List.set_cons_zero, List.set_cons_succ, i64_w, i32_w]
   rfl
  refine take_ (i := 5) (N := some 24) (v := ?_) (a' := ?_) #[true, false, true, false, false, true, false, false, false, false, false, false] rfl rfl (take_ofW HT_.out HW_.out (by kernel_rfl)) (fun _ _ _ h => h) (Or.inl ⟨by rfl, ?_⟩) hHeld ?_ ?_
  rotate_left
  ·rintro w' ⟨s913, s914, s915, s916, s917, s918, s919, s933, s934, s935, s936, s937, s938, s939, s940, s941, s942⟩
   go_simp
   with_reducible rfl
  rotate_left
  ·simp only [Act.put, List.setIfInBounds_toArray, List.set_cons_zero, List.set_cons_succ, i64_w, i32_w]
   rfl
  refine join_ (σ := Value × Value) 7 #[true, true, true, true, false, true, false, false, false, false, false, false] (fun s_ => [(20, s_.1), (22, s_.2)]) (fun s_ w' => (w'.cell? ⟨gb900, 0, none⟩ = some (.bool a1_0) ∧ w'.cell? ⟨gb900, 1, none⟩ = some (.int .u8 a1_1) ∧ w'.cell? ⟨gb900, 2, none⟩ = some (.int .u32 a1_2) ∧ w'.cell? ⟨gb900, 3, none⟩ = some (.int .i64 a1_3) ∧ w'.cell? ⟨gb900, 4, none⟩ = some (.int .u32 a1_4) ∧ w'.cell? ⟨gb900, 5, none⟩ = some (.int .i64 a1_5) ∧ w'.cell? ⟨gb900, 6, none⟩ = some (.int .u16 a1_6) ∧ w'.cell? ⟨gb900, 7, none⟩ = some (.int .u16 a1_7) ∧ w'.cell? ⟨gb900, 8, none⟩ = some (.int .u16 a1_8) ∧ w'.cell? ⟨gb900, 9, none⟩ = some (.int .u16 a1_9) ∧ w'.cell? ⟨gb905, 0, none⟩ = some (.int .u8 a2_0) ∧ w'.cell? ⟨gb905, 1, none⟩ = some (.int .u32 a2_1) ∧ w'.cell? ⟨gb905, 2, none⟩ = some (.int .u32 a2_2) ∧ w'.cell? ⟨gb905, 3, none⟩ = some (.int .u16 a2_3) ∧ w'.cell? ⟨gb905, 4, none⟩ = some (.int .u16 a2_4) ∧ w'.cell? ⟨gb905, 5, none⟩ = some (.int .u8 a2_5) ∧ w'.cell? ⟨gb905, 6, none⟩ = some (.int .u8 a2_6)) ∧ (Kd.V k32 32 w' w.heap.size (fun k_ => some k_ ≠ (s_.1 : Value).ownBlock ∧ k_ ≠ gb900 ∧ k_ ≠ gb905) (.slice Ao925 t164.length co926) t164) ∧ (Kd.R k32 32 w' w.heap.size (fun k_ => k_ ≠ gb900) s_.1 y169) ∧ (Kd.V k32 32 w' w.heap.size (fun k_ => some k_ ≠ (s_.1 : Value).ownBlock ∧ k_ ≠ gb900 ∧ k_ ≠ gb905) s_.2 t172) ∧ (w'.heap[gb900]? = some (.cells #[.bool a1_0, .int .u8 a1_1, .int .u32 a1_2, .int .i64 a1_3, .int .u32 a1_4, .int .i64 a1_5, .int .u16 a1_6, .int .u16 a1_7, .int .u16 a1_8, .int .u16 a1_9] 32 (0, 0))) ∧ (w'.heap[gb905]? = some (.cells #[.int .u8 a2_0, .int .u32 a2_1, .int .u32 a2_2, .int .u16 a2_3, .int .u16 a2_4, .int .u8 a2_5, .int .u8 a2_6] 26 (0, 0))) ∧ (Below w.heap.size w w')) ?_ ?_
  rotate_left
  ·intro hCont
   refine two_ (i := 1) (j := 3) (Ni := some 20) (Nj := some 22) #[true, true, true, false, false, true, false, false, false, false, false, false] #[true, false, true, true, false, true, false, false, false, false, false, false] rfl rfl rfl rfl (two_of HT_.out (by kernel_rfl)) (by decide) (by decide) (fun K hK => ?_) (fun K hK => ?_)
   ·skip
    refine Kd.R_lit_step k32 _ 32 ?hg (N := 20) ?hd (xs := ([(⟨a1_0, a1_1, (⟨a1_2, a1_3⟩ : S28), (⟨a1_4, a1_5⟩ : S28), (⟨a1_6, a1_7⟩ : S30), (⟨a1_8, a1_9⟩ : S30)⟩ : S32)] : List (S32))) (inner := [.bool a1_0, .int .u8 a1_1, .int .u32 a1_2, .int .i64 a1_3, .int .u32 a1_4, .int .i64 a1_5, .int .u16 a1_6, .int .u16 a1_7, .int .u16 a1_8, .int .u16 a1_9]) (ok := fun _ => True) (okp := fun _ => True) ?hr ?hp (fun _ hk => hk) trivial (Below.refl _ _) (Nat.le_refl _) (by simp) ?_; (case hd => rfl); (case hg => rfl); (case hr => first | (go_simp; done) | (go_simp; rfl)); (case hp => exact (Reps.c10 (show Kd.M k32 _ _ _ (⟨a1_0, a1_1, (⟨a1_2, a1_3⟩ : S28), (⟨a1_4, a1_5⟩ : S28), (⟨a1_6, a1_7⟩ : S30), (⟨a1_8, a1_9⟩ : S30)⟩ : S32) [.bool a1_0, .int .u8 a1_1, .int .u32 a1_2, .int .i64 a1_3, .int .u32 a1_4, .int .i64 a1_5, .int .u16 a1_6, .int .u16 a1_7, .int .u16 a1_8, .int .u16 a1_9] from (k32_mkM _ _ _ (⟨a1_0, a1_1, (⟨a1_2, a1_3⟩ : S28), (⟨a1_4, a1_5⟩ : S28), (⟨a1_6, a1_7⟩ : S30), (⟨a1_8, a1_9⟩ : S30)⟩ : S32) )) (Reps.none _ _)))
    intro v943 w944 ho945 hb hg_ hnew_
    clear hg_ hnew_
    (first | rw [← Ny169.out] at ho945 | (simp only [Int.reduceToNat] at ho945; rw [← Ny169.out] at ho945))
    have n0_ := Aside0.mk (Kd.V_elder' (by (with_reducible repeat (first | apply Kd.V_alloc | apply Kd.V_drewN | apply Kd.V_drew)); exact HO924.out) (Kd.R_base ho945) hb)
    have n1_ := Aside0.mk (Kd.R_lower (Kd.R_newB ho945 (g := gb900) (o := .cells #[.bool a1_0, .int .u8 a1_1, .int .u32 a1_2, .int .i64 a1_3, .int .u32 a1_4, .int .i64 a1_5, .int .u16 a1_6, .int .u16 a1_7, .int .u16 a1_8, .int .u16 a1_9] 32 (0, 0)) (by (with_reducible repeat first | apply blk_drewN | apply blk_drew | apply blk_alloc); exact BK902.out)) (below_size (by repeat first | (with_reducible first | exact HB.out | apply below_alloc | apply pw_below_drewN | apply below_drew1 | refine below_set ?_ GE904.out | refine below_set ?_ GE909.out) | exact HB.out)))
    have n2_ := Aside0.mk (blk_below (g := gb900) (o := .cells #[.bool a1_0, .int .u8 a1_1, .int .u32 a1_2, .int .i64 a1_3, .int .u32 a1_4, .int .i64 a1_5, .int .u16 a1_6, .int .u16 a1_7, .int .u16 a1_8, .int .u16 a1_9] 32 (0, 0)) (by (with_reducible repeat first | apply blk_drewN | apply blk_drew | apply blk_alloc); exact BK902.out) hb)
    have n3_ := Aside0.mk (blk_below (g := gb905) (o := .cells #[.int .u8 a2_0, .int .u32 a2_1, .int .u32 a2_2, .int .u16 a2_3, .int .u16 a2_4, .int .u8 a2_5, .int .u8 a2_6] 26 (0, 0)) (by (with_reducible repeat first | apply blk_drewN | apply blk_drew | apply blk_alloc); exact BK907.out) hb)
    have n4_ := Aside0.mk (below_step (by repeat first | (with_reducible first | exact HB.out | apply below_alloc | apply pw_below_drewN | apply below_drew1 | refine below_set ?_ GE904.out | refine below_set ?_ GE909.out) | exact HB.out) hb)
    clear HO924
    clear BK902
    clear BK907
    clear HB
    have HO924 := n0_
    have HO946 := n1_
    have BK902 := n2_
    have BK907 := n3_
    have HB := n4_
    clear n0_ n1_ n2_ n3_ n4_
    clear hb ho945
    refine hK.out _ _ ⟨(blk_cell BK902.out 0).trans rfl, (blk_cell BK902.out 1).trans rfl, (blk_cell BK902.out 2).trans rfl, (blk_cell BK902.out 3).trans rfl, (blk_cell BK902.out 4).trans rfl, (blk_cell BK902.out 5).trans rfl, (blk_cell BK902.out 6).trans rfl, (blk_cell BK902.out 7).trans rfl, (blk_cell BK902.out 8).trans rfl, (blk_cell BK902.out 9).trans rfl, (blk_cell BK907.out 0).trans rfl, (blk_cell BK907.out 1).trans rfl, (blk_cell BK907.out 2).trans rfl, (blk_cell BK907.out 3).trans rfl, (blk_cell BK907.out 4).trans rfl, (blk_cell BK907.out 5).trans rfl, (blk_cell BK907.out 6).trans rfl⟩ (fun hHeld => ?_)
    clear hK K
    refine norm_ (a' := ?_) ?_ ?_
    rotate_left
    ·show Act.put _ (some 20) _ = _
     simp only [Act.put, List.setIfInBounds_toArray, List.set_cons_zero, List.set_cons_succ, i64_w, i32_w]
     rfl
    refine one_ (i := 3) (N := some 22) #[true, true, true, true, false, true, false, false, false, false, false, false] rfl rfl (one_of HT_.out (by kernel_rfl)) (by decide) (fun K hK => ?_)
    refine goes_ Try.func15 (by kernel_rfl) rfl #[.slice A0 l0.length c0] (by rfl) rfl rfl (by (try simp only [List.map_toArray, List.map_cons, List.map_nil]); first | done | rfl) ?_
    with_reducible refine (mantletlaw13_few.calls (fun k_ => k_ < w.heap.size) _ _ l0 t172 _ ?side920 A6.out).mono ?_
    (case side920 => exact Kd.V_mk HC0.out (Kd.F_below (Kd.C_F k32_heap HR0.out) (by repeat first | (with_reducible first | exact HB.out | apply below_alloc | apply pw_below_drewN | apply below_drew1 | refine below_set ?_ GE904.out | refine below_set ?_ GE909.out) | exact HB.out)))
    rintro e w947 ⟨v948, rfl, ho923, hb⟩
    refine ⟨_, rfl, ?_⟩
    have n0_ := Aside0.mk (Kd.V_below (by (with_reducible repeat (first | apply Kd.V_alloc | apply Kd.V_drewN | apply Kd.V_drew)); exact HO924.out) hb)
    have n1_ := Aside0.mk (Kd.R_below (by (with_reducible repeat (first | apply Kd.R_alloc | apply Kd.R_drewN | apply Kd.R_drew)); exact HO946.out) hb)
    have n2_ := Aside0.mk (Kd.V_lower (Kd.V_mono (ok' := fun k_ => some k_ ≠ (v943 : Value).ownBlock ∧ k_ ≠ gb900 ∧ k_ ≠ gb905) ho923 (fun k_ hk_ => ⟨Or.elim hk_ (fun hs_ => fun e_ => Nat.not_le.2 hs_ (Kd.R_base HO946.out k_ e_.symm)) (fun hn_ => (Kd.fresh' (Kd.R_lt (by (with_reducible repeat (first | apply Kd.R_alloc | apply Kd.R_drewN | apply Kd.R_drew)); exact HO946.out)) k_ hn_)), Or.elim hk_ (fun hs_ => fun e_ => Nat.not_le.2 hs_ (by rw [e_]; exact GW903.out)) (fun hn_ => (Kd.freshB (g := gb900) (o := .cells #[.bool a1_0, .int .u8 a1_1, .int .u32 a1_2, .int .i64 a1_3, .int .u32 a1_4, .int .i64 a1_5, .int .u16 a1_6, .int .u16 a1_7, .int .u16 a1_8, .int .u16 a1_9] 32 (0, 0)) (by (with_reducible repeat first | apply blk_drewN | apply blk_drew | apply blk_alloc); exact BK902.out) k_ hn_)), Or.elim hk_ (fun hs_ => fun e_ => Nat.not_le.2 hs_ (by rw [e_]; exact GW908.out)) (fun hn_ => (Kd.freshB (g := gb905) (o := .cells #[.int .u8 a2_0, .int .u32 a2_1, .int .u32 a2_2, .int .u16 a2_3, .int .u16 a2_4, .int .u8 a2_5, .int .u8 a2_6] 26 (0, 0)) (by (with_reducible repeat first | apply blk_drewN | apply blk_drew | apply blk_alloc); exact BK907.out) k_ hn_))⟩)) (below_size (by repeat first | (with_reducible first | exact HB.out | apply below_alloc | apply pw_below_drewN | apply below_drew1 | refine below_set ?_ GE904.out | refine below_set ?_ GE909.out) | exact HB.out)))
    have n3_ := Aside0.mk (blk_below (g := gb900) (o := .cells #[.bool a1_0, .int .u8 a1_1, .int .u32 a1_2, .int .i64 a1_3, .int .u32 a1_4, .int .i64 a1_5, .int .u16 a1_6, .int .u16 a1_7, .int .u16 a1_8, .int .u16 a1_9] 32 (0, 0)) (by (with_reducible repeat first | apply blk_drewN | apply blk_drew | apply blk_alloc); exact BK902.out) hb)
    have n4_ := Aside0.mk (blk_below (g := gb905) (o := .cells #[.int .u8 a2_0, .int .u32 a2_1, .int .u32 a2_2, .int .u16 a2_3, .int .u16 a2_4, .int .u8 a2_5, .int .u8 a2_6] 26 (0, 0)) (by (with_reducible repeat first | apply blk_drewN | apply blk_drew | apply blk_alloc); exact BK907.out) hb)
    have n5_ := Aside0.mk (below_step (by repeat first | (with_reducible first | exact HB.out | apply below_alloc | apply pw_below_drewN | apply below_drew1 | refine below_set ?_ GE904.out | refine below_set ?_ GE909.out) | exact HB.out) hb)
    clear HO924
    clear HO946
    clear BK902
    clear BK907
    clear HB
    have HO924 := n0_
    have HO946 := n1_
    have HO949 := n2_
    have BK902 := n3_
    have BK907 := n4_
    have HB := n5_
    clear n0_ n1_ n2_ n3_ n4_ n5_
    (try clear hb)
    (try clear hb2)
    (try clear hk)
    (try clear hi)
    (try clear ho923)
    refine hK.out _ _ ⟨(blk_cell BK902.out 0).trans rfl, (blk_cell BK902.out 1).trans rfl, (blk_cell BK902.out 2).trans rfl, (blk_cell BK902.out 3).trans rfl, (blk_cell BK902.out 4).trans rfl, (blk_cell BK902.out 5).trans rfl, (blk_cell BK902.out 6).trans rfl, (blk_cell BK902.out 7).trans rfl, (blk_cell BK902.out 8).trans rfl, (blk_cell BK902.out 9).trans rfl, (blk_cell BK907.out 0).trans rfl, (blk_cell BK907.out 1).trans rfl, (blk_cell BK907.out 2).trans rfl, (blk_cell BK907.out 3).trans rfl, (blk_cell BK907.out 4).trans rfl, (blk_cell BK907.out 5).trans rfl, (blk_cell BK907.out 6).trans rfl⟩ (fun hHeld => ?_)
    clear hK K
    refine norm_ (a' := ?_) ?_ ?_
    rotate_left
    ·show Act.put _ (some 22) _ = _
     simp only [Act.put, List.setIfInBounds_toArray, List.set_cons_zero, List.set_cons_succ, i64_w, i32_w]
     rfl
    exact norm_ (by first | (simp only [putAll, Act.put, List.setIfInBounds_toArray, List.set_cons_zero, List.set_cons_succ]; done) | (simp only [putAll, Act.put, List.setIfInBounds_toArray, List.set_cons_zero, List.set_cons_succ, w8_mod, w16_mod, w32_mod])) (hCont (v943, v948) _ ⟨hHeld, (by (with_reducible repeat (first | apply Kd.V_alloc | apply Kd.V_drewN | apply Kd.V_drew)); exact Kd.V_mono HO924.out (fun _ hk => ⟨hk.2, ⟨hk.1.1, hk.1.2⟩⟩)), (by (with_reducible repeat (first | apply Kd.R_alloc | apply Kd.R_drewN | apply Kd.R_drew)); exact Kd.R_mono HO946.out (fun _ hk => hk.2)), (by (with_reducible repeat (first | apply Kd.V_alloc | apply Kd.V_drewN | apply Kd.V_drew)); exact HO949.out), (by (with_reducible repeat first | apply blk_drewN | apply blk_drew | apply blk_alloc); exact BK902.out), (by (with_reducible repeat first | apply blk_drewN | apply blk_drew | apply blk_alloc); exact BK907.out), (by repeat first | (with_reducible first | exact HB.out | apply below_alloc | apply pw_below_drewN | apply below_drew1 | refine below_set ?_ GE904.out | refine below_set ?_ GE909.out) | exact HB.out)⟩)
   ·skip
    refine goes_ Try.func15 (by kernel_rfl) rfl #[.slice A0 l0.length c0] (by rfl) rfl rfl (by (try simp only [List.map_toArray, List.map_cons, List.map_nil]); first | done | rfl) ?_
    with_reducible refine (mantletlaw13_few.calls (fun k_ => k_ < w.heap.size) _ _ l0 t172 _ ?side920 A6.out).mono ?_
    (case side920 => exact Kd.V_mk HC0.out (Kd.F_below (Kd.C_F k32_heap HR0.out) (by repeat first | (with_reducible first | exact HB.out | apply below_alloc | apply pw_below_drewN | apply below_drew1 | refine below_set ?_ GE904.out | refine below_set ?_ GE909.out) | exact HB.out)))
    rintro e w944 ⟨v948, rfl, ho923, hb⟩
    refine ⟨_, rfl, ?_⟩
    have n0_ := Aside0.mk (Kd.V_below (by (with_reducible repeat (first | apply Kd.V_alloc | apply Kd.V_drewN | apply Kd.V_drew)); exact HO924.out) hb)
    have n1_ := Aside0.mk (Kd.V_lower (Kd.V_mono (ok' := fun k_ => k_ ≠ gb900 ∧ k_ ≠ gb905) ho923 (fun k_ hk_ => ⟨Or.elim hk_ (fun hs_ => fun e_ => Nat.not_le.2 hs_ (by rw [e_]; exact GW903.out)) (fun hn_ => (Kd.freshB (g := gb900) (o := .cells #[.bool a1_0, .int .u8 a1_1, .int .u32 a1_2, .int .i64 a1_3, .int .u32 a1_4, .int .i64 a1_5, .int .u16 a1_6, .int .u16 a1_7, .int .u16 a1_8, .int .u16 a1_9] 32 (0, 0)) (by (with_reducible repeat first | apply blk_drewN | apply blk_drew | apply blk_alloc); exact BK902.out) k_ hn_)), Or.elim hk_ (fun hs_ => fun e_ => Nat.not_le.2 hs_ (by rw [e_]; exact GW908.out)) (fun hn_ => (Kd.freshB (g := gb905) (o := .cells #[.int .u8 a2_0, .int .u32 a2_1, .int .u32 a2_2, .int .u16 a2_3, .int .u16 a2_4, .int .u8 a2_5, .int .u8 a2_6] 26 (0, 0)) (by (with_reducible repeat first | apply blk_drewN | apply blk_drew | apply blk_alloc); exact BK907.out) k_ hn_))⟩)) (below_size (by repeat first | (with_reducible first | exact HB.out | apply below_alloc | apply pw_below_drewN | apply below_drew1 | refine below_set ?_ GE904.out | refine below_set ?_ GE909.out) | exact HB.out)))
    have n2_ := Aside0.mk (blk_below (g := gb900) (o := .cells #[.bool a1_0, .int .u8 a1_1, .int .u32 a1_2, .int .i64 a1_3, .int .u32 a1_4, .int .i64 a1_5, .int .u16 a1_6, .int .u16 a1_7, .int .u16 a1_8, .int .u16 a1_9] 32 (0, 0)) (by (with_reducible repeat first | apply blk_drewN | apply blk_drew | apply blk_alloc); exact BK902.out) hb)
    have n3_ := Aside0.mk (blk_below (g := gb905) (o := .cells #[.int .u8 a2_0, .int .u32 a2_1, .int .u32 a2_2, .int .u16 a2_3, .int .u16 a2_4, .int .u8 a2_5, .int .u8 a2_6] 26 (0, 0)) (by (with_reducible repeat first | apply blk_drewN | apply blk_drew | apply blk_alloc); exact BK907.out) hb)
    have n4_ := Aside0.mk (below_step (by repeat first | (with_reducible first | exact HB.out | apply below_alloc | apply pw_below_drewN | apply below_drew1 | refine below_set ?_ GE904.out | refine below_set ?_ GE909.out) | exact HB.out) hb)
    clear HO924
    clear BK902
    clear BK907
    clear HB
    have HO924 := n0_
    have HO949 := n1_
    have BK902 := n2_
    have BK907 := n3_
    have HB := n4_
    clear n0_ n1_ n2_ n3_ n4_
    (try clear hb)
    (try clear hb2)
    (try clear hk)
    (try clear hi)
    (try clear ho923)
    refine hK.out _ _ ⟨(blk_cell BK902.out 0).trans rfl, (blk_cell BK902.out 1).trans rfl, (blk_cell BK902.out 2).trans rfl, (blk_cell BK902.out 3).trans rfl, (blk_cell BK902.out 4).trans rfl, (blk_cell BK902.out 5).trans rfl, (blk_cell BK902.out 6).trans rfl, (blk_cell BK902.out 7).trans rfl, (blk_cell BK902.out 8).trans rfl, (blk_cell BK902.out 9).trans rfl, (blk_cell BK907.out 0).trans rfl, (blk_cell BK907.out 1).trans rfl, (blk_cell BK907.out 2).trans rfl, (blk_cell BK907.out 3).trans rfl, (blk_cell BK907.out 4).trans rfl, (blk_cell BK907.out 5).trans rfl, (blk_cell BK907.out 6).trans rfl⟩ (fun hHeld => ?_)
    clear hK K
    refine norm_ (a' := ?_) ?_ ?_
    rotate_left
    ·show Act.put _ (some 22) _ = _
     simp only [Act.put, List.setIfInBounds_toArray, List.set_cons_zero, List.set_cons_succ, i64_w, i32_w]
     rfl
    refine one_ (i := 1) (N := some 20) #[true, true, true, true, false, true, false, false, false, false, false, false] rfl rfl (one_of HT_.out (by kernel_rfl)) (by decide) (fun K hK => ?_)
    refine Kd.R_lit_step k32 _ 32 ?hg (N := 20) ?hd (xs := ([(⟨a1_0, a1_1, (⟨a1_2, a1_3⟩ : S28), (⟨a1_4, a1_5⟩ : S28), (⟨a1_6, a1_7⟩ : S30), (⟨a1_8, a1_9⟩ : S30)⟩ : S32)] : List (S32))) (inner := [.bool a1_0, .int .u8 a1_1, .int .u32 a1_2, .int .i64 a1_3, .int .u32 a1_4, .int .i64 a1_5, .int .u16 a1_6, .int .u16 a1_7, .int .u16 a1_8, .int .u16 a1_9]) (ok := fun _ => True) (okp := fun _ => True) ?hr ?hp (fun _ hk => hk) trivial (Below.refl _ _) (Nat.le_refl _) (by simp) ?_; (case hd => rfl); (case hg => rfl); (case hr => first | (go_simp; done) | (go_simp; rfl)); (case hp => exact (Reps.c10 (show Kd.M k32 _ _ _ (⟨a1_0, a1_1, (⟨a1_2, a1_3⟩ : S28), (⟨a1_4, a1_5⟩ : S28), (⟨a1_6, a1_7⟩ : S30), (⟨a1_8, a1_9⟩ : S30)⟩ : S32) [.bool a1_0, .int .u8 a1_1, .int .u32 a1_2, .int .i64 a1_3, .int .u32 a1_4, .int .i64 a1_5, .int .u16 a1_6, .int .u16 a1_7, .int .u16 a1_8, .int .u16 a1_9] from (k32_mkM _ _ _ (⟨a1_0, a1_1, (⟨a1_2, a1_3⟩ : S28), (⟨a1_4, a1_5⟩ : S28), (⟨a1_6, a1_7⟩ : S30), (⟨a1_8, a1_9⟩ : S30)⟩ : S32) )) (Reps.none _ _)))
    intro v943 w950 ho951 hb hg_ hnew_
    clear hg_ hnew_
    (first | rw [← Ny169.out] at ho951 | (simp only [Int.reduceToNat] at ho951; rw [← Ny169.out] at ho951))
    have n0_ := Aside0.mk (Kd.V_elder' (by (with_reducible repeat (first | apply Kd.V_alloc | apply Kd.V_drewN | apply Kd.V_drew)); exact HO924.out) (Kd.R_base ho951) hb)
    have n1_ := Aside0.mk (Kd.V_elder' (by (with_reducible repeat (first | apply Kd.V_alloc | apply Kd.V_drewN | apply Kd.V_drew)); exact HO949.out) (Kd.R_base ho951) hb)
    have n2_ := Aside0.mk (Kd.R_lower (Kd.R_newB ho951 (g := gb900) (o := .cells #[.bool a1_0, .int .u8 a1_1, .int .u32 a1_2, .int .i64 a1_3, .int .u32 a1_4, .int .i64 a1_5, .int .u16 a1_6, .int .u16 a1_7, .int .u16 a1_8, .int .u16 a1_9] 32 (0, 0)) (by (with_reducible repeat first | apply blk_drewN | apply blk_drew | apply blk_alloc); exact BK902.out)) (below_size (by repeat first | (with_reducible first | exact HB.out | apply below_alloc | apply pw_below_drewN | apply below_drew1 | refine below_set ?_ GE904.out | refine below_set ?_ GE909.out) | exact HB.out)))
    have n3_ := Aside0.mk (blk_below (g := gb900) (o := .cells #[.bool a1_0, .int .u8 a1_1, .int .u32 a1_2, .int .i64 a1_3, .int .u32 a1_4, .int .i64 a1_5, .int .u16 a1_6, .int .u16 a1_7, .int .u16 a1_8, .int .u16 a1_9] 32 (0, 0)) (by (with_reducible repeat first | apply blk_drewN | apply blk_drew | apply blk_alloc); exact BK902.out) hb)
    have n4_ := Aside0.mk (blk_below (g := gb905) (o := .cells #[.int .u8 a2_0, .int .u32 a2_1, .int .u32 a2_2, .int .u16 a2_3, .int .u16 a2_4, .int .u8 a2_5, .int .u8 a2_6] 26 (0, 0)) (by (with_reducible repeat first | apply blk_drewN | apply blk_drew | apply blk_alloc); exact BK907.out) hb)
    have n5_ := Aside0.mk (below_step (by repeat first | (with_reducible first | exact HB.out | apply below_alloc | apply pw_below_drewN | apply below_drew1 | refine below_set ?_ GE904.out | refine below_set ?_ GE909.out) | exact HB.out) hb)
    clear HO924
    clear HO949
    clear BK902
    clear BK907
    clear HB
    have HO924 := n0_
    have HO949 := n1_
    have HO946 := n2_
    have BK902 := n3_
    have BK907 := n4_
    have HB := n5_
    clear n0_ n1_ n2_ n3_ n4_ n5_
    clear hb ho951
    refine hK.out _ _ ⟨(blk_cell BK902.out 0).trans rfl, (blk_cell BK902.out 1).trans rfl, (blk_cell BK902.out 2).trans rfl, (blk_cell BK902.out 3).trans rfl, (blk_cell BK902.out 4).trans rfl, (blk_cell BK902.out 5).trans rfl, (blk_cell BK902.out 6).trans rfl, (blk_cell BK902.out 7).trans rfl, (blk_cell BK902.out 8).trans rfl, (blk_cell BK902.out 9).trans rfl, (blk_cell BK907.out 0).trans rfl, (blk_cell BK907.out 1).trans rfl, (blk_cell BK907.out 2).trans rfl, (blk_cell BK907.out 3).trans rfl, (blk_cell BK907.out 4).trans rfl, (blk_cell BK907.out 5).trans rfl, (blk_cell BK907.out 6).trans rfl⟩ (fun hHeld => ?_)
    clear hK K
    refine norm_ (a' := ?_) ?_ ?_
    rotate_left
    ·show Act.put _ (some 20) _ = _
     simp only [Act.put, List.setIfInBounds_toArray, List.set_cons_zero, List.set_cons_succ, i64_w, i32_w]
     rfl
    exact norm_ (by first | (simp only [putAll, Act.put, List.setIfInBounds_toArray, List.set_cons_zero, List.set_cons_succ]; done) | (simp only [putAll, Act.put, List.setIfInBounds_toArray, List.set_cons_zero, List.set_cons_succ, w8_mod, w16_mod, w32_mod])) (hCont (v943, v948) _ ⟨hHeld, (by (with_reducible repeat (first | apply Kd.V_alloc | apply Kd.V_drewN | apply Kd.V_drew)); exact Kd.V_mono HO924.out (fun _ hk => ⟨hk.2, ⟨hk.1.1, hk.1.2⟩⟩)), (by (with_reducible repeat (first | apply Kd.R_alloc | apply Kd.R_drewN | apply Kd.R_drew)); exact Kd.R_mono HO946.out (fun _ hk => hk.2)), (by (with_reducible repeat (first | apply Kd.V_alloc | apply Kd.V_drewN | apply Kd.V_drew)); exact Kd.V_mono HO949.out (fun _ hk => ⟨hk.2, ⟨hk.1.1, hk.1.2⟩⟩)), (by (with_reducible repeat first | apply blk_drewN | apply blk_drew | apply blk_alloc); exact BK902.out), (by (with_reducible repeat first | apply blk_drewN | apply blk_drew | apply blk_alloc); exact BK907.out), (by repeat first | (with_reducible first | exact HB.out | apply below_alloc | apply pw_below_drewN | apply below_drew1 | refine below_set ?_ GE904.out | refine below_set ?_ GE909.out) | exact HB.out)⟩)
  rintro ⟨v943, v948⟩ w952 ⟨hS_, h953, h954, h955, h956, h957, h958⟩
  have n0_ : Aside0 (Kd.V k32 32 w952 w.heap.size (fun k_ => some k_ ≠ (v943 : Value).ownBlock ∧ k_ ≠ gb900 ∧ k_ ≠ gb905) (.slice Ao925 t164.length co926) t164) := ⟨h953⟩
  have n1_ : Aside0 (Kd.R k32 32 w952 w.heap.size (fun k_ => k_ ≠ gb900) v943 y169) := ⟨h954⟩
  have n2_ : Aside0 (Kd.V k32 32 w952 w.heap.size (fun k_ => some k_ ≠ (v943 : Value).ownBlock ∧ k_ ≠ gb900 ∧ k_ ≠ gb905) v948 t172) := ⟨h955⟩
  have n3_ : Aside0 (w952.heap[gb900]? = some (.cells #[.bool a1_0, .int .u8 a1_1, .int .u32 a1_2, .int .i64 a1_3, .int .u32 a1_4, .int .i64 a1_5, .int .u16 a1_6, .int .u16 a1_7, .int .u16 a1_8, .int .u16 a1_9] 32 (0, 0))) := ⟨h956⟩
  have n4_ : Aside0 (w952.heap[gb905]? = some (.cells #[.int .u8 a2_0, .int .u32 a2_1, .int .u32 a2_2, .int .u16 a2_3, .int .u16 a2_4, .int .u8 a2_5, .int .u8 a2_6] 26 (0, 0))) := ⟨h957⟩
  have n5_ : Aside0 (Below w.heap.size w w952) := ⟨h958⟩
  clear HO924
  clear BK902
  clear BK907
  clear HB
  clear h953 h954 h955 h956 h957 h958
  have HO924 := n0_
  have HO946 := n1_
  have HO949 := n2_
  have BK902 := n3_
  have BK907 := n4_
  have HB := n5_
  clear n0_ n1_ n2_ n3_ n4_ n5_
  have hHeld : w952.cell? ⟨gb900, 0, none⟩ = some (.bool a1_0) ∧ w952.cell? ⟨gb900, 1, none⟩ = some (.int .u8 a1_1) ∧ w952.cell? ⟨gb900, 2, none⟩ = some (.int .u32 a1_2) ∧ w952.cell? ⟨gb900, 3, none⟩ = some (.int .i64 a1_3) ∧ w952.cell? ⟨gb900, 4, none⟩ = some (.int .u32 a1_4) ∧ w952.cell? ⟨gb900, 5, none⟩ = some (.int .i64 a1_5) ∧ w952.cell? ⟨gb900, 6, none⟩ = some (.int .u16 a1_6) ∧ w952.cell? ⟨gb900, 7, none⟩ = some (.int .u16 a1_7) ∧ w952.cell? ⟨gb900, 8, none⟩ = some (.int .u16 a1_8) ∧ w952.cell? ⟨gb900, 9, none⟩ = some (.int .u16 a1_9) ∧ w952.cell? ⟨gb905, 0, none⟩ = some (.int .u8 a2_0) ∧ w952.cell? ⟨gb905, 1, none⟩ = some (.int .u32 a2_1) ∧ w952.cell? ⟨gb905, 2, none⟩ = some (.int .u32 a2_2) ∧ w952.cell? ⟨gb905, 3, none⟩ = some (.int .u16 a2_3) ∧ w952.cell? ⟨gb905, 4, none⟩ = some (.int .u16 a2_4) ∧ w952.cell? ⟨gb905, 5, none⟩ = some (.int .u8 a2_5) ∧ w952.cell? ⟨gb905, 6, none⟩ = some (.int .u8 a2_6) := hS_
  obtain ⟨Ao959, co960, eo961⟩ := Kd.V_slice HO949.out
  (first | subst eo961 | (injection eo961 with f1_ f2_ f3_; have f928 := f1_.symm; have f929 := f3_.symm; clear f1_ f2_ f3_; subst f928; subst f929))
  refine norm_ (a' := ?_) ?_ ?_
  rotate_left
  ·simp only [putAll, Act.put, List.setIfInBounds_toArray, List.set_cons_zero, List.set_cons_succ]
   rfl
  refine one_ (i := 4) (N := some 23) #[true, true, true, true, true, true, false, false, false, false, false, false] rfl rfl (one_of HT_.out (by kernel_rfl)) (by decide) (fun K hK => ?_)
  refine Kd.R_append_rows_step k32 (w0 := w) w.heap.size (by rfl) (.tmp 20) (.tmp 22) 22 32 (.agg #[(.bool false), (.int .u8 0), (.int .u32 0), (.int .i64 0), (.int .u32 0), (.int .i64 0), (.int .u16 0), (.int .u16 0), (.int .u16 0), (.int .u16 0)]) 48 rfl Try.underlying22 info32 rfl (by decide) (by omega) v943 y169 t172 _ _ _ (fun k_ => k_ ≠ gb900) (fun _ => False) rfl rfl ?aO ?aR (fun _ _ h => h) (fun _ h => h.elim) ?aF ?aB ?aS ?aL ?_
  (case aR => repeat (first | exact (Kd.V_reads' HO949.out).2.2 | (with_reducible refine Kd.C_alloc ?_ _) | (with_reducible refine Kd.C_drewN ?_ _) | (with_reducible refine Kd.C_drew ?_)))
  (case aB => exact (by repeat first | (with_reducible first | exact HB.out | apply below_alloc | apply pw_below_drewN | apply below_drew1 | refine below_set ?_ GE904.out | refine below_set ?_ GE909.out) | exact HB.out))
  (case aF => exact (fun k_ hk => Kd.freshB (g := gb900) (o := .cells #[.bool a1_0, .int .u8 a1_1, .int .u32 a1_2, .int .i64 a1_3, .int .u32 a1_4, .int .i64 a1_5, .int .u16 a1_6, .int .u16 a1_7, .int .u16 a1_8, .int .u16 a1_9] 32 (0, 0)) (by (with_reducible repeat first | apply blk_drewN | apply blk_drew | apply blk_alloc); exact BK902.out) k_ hk))
  (case aO => exact (by (with_reducible repeat (first | apply Kd.R_alloc | apply Kd.R_drewN | apply Kd.R_drew)); exact HO946.out))
  (case aS => exact (below_size (by repeat first | (with_reducible first | exact HB.out | apply below_alloc | apply pw_below_drewN | apply below_drew1 | refine below_set ?_ GE904.out | refine below_set ?_ GE909.out) | exact HB.out)))
  (case aL => have := LMc7.out; omega)
  intro v962 w963 ho hb hg hat
  rw [← Ny175.out] at ho
  have n0_ := Aside0.mk (blk_grown (g := gb900) (o := .cells #[.bool a1_0, .int .u8 a1_1, .int .u32 a1_2, .int .i64 a1_3, .int .u32 a1_4, .int .i64 a1_5, .int .u16 a1_6, .int .u16 a1_7, .int .u16 a1_8, .int .u16 a1_9] 32 (0, 0)) (by (with_reducible repeat first | apply blk_drewN | apply blk_drew | apply blk_alloc); exact BK902.out) hg (Kd.R_away HO946.out (fun _ hk => hk)))
  have n1_ := Aside0.mk (blk_grown (g := gb905) (o := .cells #[.int .u8 a2_0, .int .u32 a2_1, .int .u32 a2_2, .int .u16 a2_3, .int .u16 a2_4, .int .u8 a2_5, .int .u8 a2_6] 26 (0, 0)) (by (with_reducible repeat first | apply blk_drewN | apply blk_drew | apply blk_alloc); exact BK907.out) hg (Kd.R_ne HO946.out BK907.out (by decide)))
  have n2_ := Aside0.mk (Kd.V_afterv (ok := (fun k_ => k_ ≠ gb900 ∧ k_ ≠ gb905)) (by (with_reducible repeat (first | apply Kd.V_alloc | apply Kd.V_drewN | apply Kd.V_drew)); exact Kd.V_mono HO924.out (fun _ hk => ⟨⟨hk.2.1, hk.2.2⟩, hk.1⟩)) hg hat)
  have n3_ := Aside0.mk (Kd.V_afterv (ok := (fun k_ => k_ ≠ gb900 ∧ k_ ≠ gb905)) (by (with_reducible repeat (first | apply Kd.V_alloc | apply Kd.V_drewN | apply Kd.V_drew)); exact Kd.V_mono HO949.out (fun _ hk => ⟨⟨hk.2.1, hk.2.2⟩, hk.1⟩)) hg hat)
  have n4_ := Aside0.mk (hb)
  have n5_ := Aside0.mk (ho)
  clear BK902
  clear BK907
  clear HO924
  clear HO949
  clear HB
  clear HO946
  have BK902 := n0_
  have BK907 := n1_
  have HO924 := n2_
  have HO949 := n3_
  have HB := n4_
  have HO964 := n5_
  clear n0_ n1_ n2_ n3_ n4_ n5_
  clear ho hb hg hat
  obtain ⟨Ao965, co966, eo967⟩ := Kd.R_slice HO964.out
  (first | subst eo967 | (injection eo967 with f1_ f2_ f3_; have f928 := f1_.symm; have f929 := f3_.symm; clear f1_ f2_ f3_; subst f928; subst f929))
  refine hK.out _ _ ⟨(blk_cell BK902.out 0).trans rfl, (blk_cell BK902.out 1).trans rfl, (blk_cell BK902.out 2).trans rfl, (blk_cell BK902.out 3).trans rfl, (blk_cell BK902.out 4).trans rfl, (blk_cell BK902.out 5).trans rfl, (blk_cell BK902.out 6).trans rfl, (blk_cell BK902.out 7).trans rfl, (blk_cell BK902.out 8).trans rfl, (blk_cell BK902.out 9).trans rfl, (blk_cell BK907.out 0).trans rfl, (blk_cell BK907.out 1).trans rfl, (blk_cell BK907.out 2).trans rfl, (blk_cell BK907.out 3).trans rfl, (blk_cell BK907.out 4).trans rfl, (blk_cell BK907.out 5).trans rfl, (blk_cell BK907.out 6).trans rfl⟩ (fun hHeld => ?_)
  clear hK K
  refine norm_ (a' := ?_) ?_ ?_
  rotate_left
  ·show Act.put _ (some 23) _ = _
   simp only [Act.put, List.setIfInBounds_toArray, List.set_cons_zero, List.set_cons_succ, i64_w, i32_w]
   rfl
  refine one_ (i := 6) (N := some 25) #[true, true, true, true, true, true, true, false, false, false, false, false] rfl rfl (one_of HT_.out (by kernel_rfl)) (by decide) (fun K hK => ?_)
  refine goes_ Try.func14 (by kernel_rfl) rfl #[.slice Ao965 y175.length co966, .agg #[.int .u8 a2_0, .int .u32 a2_1, .int .u32 a2_2, .int .u16 a2_3, .int .u16 a2_4, .int .u8 a2_5, .int .u8 a2_6]] (by rfl) rfl rfl (by (try simp only [List.map_toArray, List.map_cons, List.map_nil]); first | done | rfl) ?_
  have H := HH_.out
  clear HH_
  by_cases c10 : t180 = true
  ·subst c10
   have H1 : ((mantletlaw13_awake.f).bind fun t181 => (if t181 = true then (if t178 = 0 then (some (t179 == a1_0)) else (some false)) else (some false))) = some r := by rw [if_pos rfl] at H; exact H
   clear H
   have H := H1
   clear H1
   replace H := Option.bind_eq_some_iff.mp H
   obtain ⟨t181, A110, H⟩ := H
   replace H : (if t181 = true then (if t178 = 0 then (some (t179 == a1_0)) else (some false)) else (some false)) = some r := H
   have A11 := Aside0.mk A110
   clear A110
   by_cases c12 : t181 = true
   ·subst c12
    have H1 : (if t178 = 0 then (some (t179 == a1_0)) else (some false)) = some r := by rw [if_pos rfl] at H; exact H
    clear H
    have H := H1
    clear H1
    by_cases c13 : t178 = 0
    ·rw [if_pos c13] at H
     have c13b0 : (t178 == 0) = true := beq_iff_eq.mpr c13
     have c13b1 : (t178 != 0) = false := bne_eq_false_iff_eq.mpr c13
     clear c13
     obtain rfl := Option.some.inj H
     with_reducible refine (match_First.calls _ _ y175 a2_0 a2_1 a2_2 a2_3 a2_4 a2_5 a2_6 t178 t179 _ ?side920 ?side930 A8.out).mono ?_
     (case side920 => repeat (first | exact (Kd.R_reads' HO964.out).2.2 | (with_reducible refine Kd.C_alloc ?_ _) | (with_reducible refine Kd.C_drewN ?_ _) | (with_reducible refine Kd.C_drew ?_)))
     (case side930 => exact (Kd.R_reads' HO964.out).2.1)
     rintro e w968 ⟨rfl, hb⟩
     refine ⟨_, rfl, ?_⟩
     have n0_ := Aside0.mk (Kd.V_below (by (with_reducible repeat (first | apply Kd.V_alloc | apply Kd.V_drewN | apply Kd.V_drew)); exact HO924.out) hb)
     have n1_ := Aside0.mk (Kd.V_below (by (with_reducible repeat (first | apply Kd.V_alloc | apply Kd.V_drewN | apply Kd.V_drew)); exact HO949.out) hb)
     have n2_ := Aside0.mk (Kd.R_below (by (with_reducible repeat (first | apply Kd.R_alloc | apply Kd.R_drewN | apply Kd.R_drew)); exact HO964.out) hb)
     have n3_ := Aside0.mk (blk_below (g := gb900) (o := .cells #[.bool a1_0, .int .u8 a1_1, .int .u32 a1_2, .int .i64 a1_3, .int .u32 a1_4, .int .i64 a1_5, .int .u16 a1_6, .int .u16 a1_7, .int .u16 a1_8, .int .u16 a1_9] 32 (0, 0)) (by (with_reducible repeat first | apply blk_drewN | apply blk_drew | apply blk_alloc); exact BK902.out) hb)
     have n4_ := Aside0.mk (blk_below (g := gb905) (o := .cells #[.int .u8 a2_0, .int .u32 a2_1, .int .u32 a2_2, .int .u16 a2_3, .int .u16 a2_4, .int .u8 a2_5, .int .u8 a2_6] 26 (0, 0)) (by (with_reducible repeat first | apply blk_drewN | apply blk_drew | apply blk_alloc); exact BK907.out) hb)
     have n5_ := Aside0.mk (below_step (by repeat first | (with_reducible first | exact HB.out | apply below_alloc | apply pw_below_drewN | apply below_drew1 | refine below_set ?_ GE904.out | refine below_set ?_ GE909.out) | exact HB.out) hb)
     clear HO924
     clear HO949
     clear HO964
     clear BK902
     clear BK907
     clear HB
     have HO924 := n0_
     have HO949 := n1_
     have HO964 := n2_
     have BK902 := n3_
     have BK907 := n4_
     have HB := n5_
     clear n0_ n1_ n2_ n3_ n4_ n5_
     (try clear hb)
     (try clear hb2)
     (try clear hk)
     (try clear hi)
     refine hK.out _ _ ⟨(blk_cell BK902.out 0).trans rfl, (blk_cell BK902.out 1).trans rfl, (blk_cell BK902.out 2).trans rfl, (blk_cell BK902.out 3).trans rfl, (blk_cell BK902.out 4).trans rfl, (blk_cell BK902.out 5).trans rfl, (blk_cell BK902.out 6).trans rfl, (blk_cell BK902.out 7).trans rfl, (blk_cell BK902.out 8).trans rfl, (blk_cell BK902.out 9).trans rfl, (blk_cell BK907.out 0).trans rfl, (blk_cell BK907.out 1).trans rfl, (blk_cell BK907.out 2).trans rfl, (blk_cell BK907.out 3).trans rfl, (blk_cell BK907.out 4).trans rfl, (blk_cell BK907.out 5).trans rfl, (blk_cell BK907.out 6).trans rfl⟩ (fun hHeld => ?_)
     clear hK K
     refine norm_ (a' := ?_) ?_ ?_
     rotate_left
     ·show Act.put _ (some 25) _ = _
      simp only [Act.put, List.setIfInBounds_toArray, List.set_cons_zero, List.set_cons_succ, i64_w, i32_w]
      rfl
     refine pure_ (i := 7) (N := some 18) (v := ?_) (a' := ?_) #[true, true, true, true, true, true, true, true, false, false, false, false] rfl rfl (any_of HT_.out (by kernel_rfl)) (fun _ _ _ h => h) (Or.inl ⟨by rfl, ?_⟩) ?_ ?_
     rotate_left
     ·intro w'
      go_simp
      with_reducible rfl
     rotate_left
     ·simp only [Act.put, List.setIfInBounds_toArray, List.set_cons_zero, List.set_cons_succ, i64_w, i32_w]
      rfl
     refine pure_ (i := 8) (N := some 26) (v := ?_) (a' := ?_) #[true, true, true, true, true, true, true, true, true, false, false, false] rfl rfl (any_of HT_.out (by kernel_rfl)) (fun _ _ _ h => h) (Or.inl ⟨by rfl, ?_⟩) ?_ ?_
     rotate_left
     ·intro w'
      go_simp
      with_reducible rfl
     rotate_left
     ·simp only [Act.put, List.setIfInBounds_toArray, List.set_cons_zero, List.set_cons_succ, i64_w, i32_w]
      rfl
     refine pure_ (i := 9) (N := some 27) (v := ?_) (a' := ?_) #[true, true, true, true, true, true, true, true, true, true, false, false] rfl rfl (any_of HT_.out (by kernel_rfl)) (fun _ _ _ h => h) (Or.inl ⟨by rfl, ?_⟩) ?_ ?_
     rotate_left
     ·intro w'
      go_simp
      with_reducible rfl
     rotate_left
     ·simp only [Act.put, List.setIfInBounds_toArray, List.set_cons_zero, List.set_cons_succ, i64_w, i32_w]
      rfl
     refine pure_ (i := 10) (N := some 9) (v := ?_) (a' := ?_) #[true, true, true, true, true, true, true, true, true, true, true, false] rfl rfl (any_of HT_.out (by kernel_rfl)) (fun _ _ _ h => h) (Or.inl ⟨by rfl, ?_⟩) ?_ ?_
     rotate_left
     ·intro w'
      go_simp
      with_reducible rfl
     rotate_left
     ·simp only [Act.put, List.setIfInBounds_toArray, List.set_cons_zero, List.set_cons_succ, i64_w, i32_w]
      rfl
     refine pure_ (i := 11) (N := some 10) (v := ?_) (a' := ?_) #[true, true, true, true, true, true, true, true, true, true, true, true] rfl rfl (any_of HT_.out (by kernel_rfl)) (fun _ _ _ h => h) (Or.inl ⟨by rfl, ?_⟩) ?_ ?_
     rotate_left
     ·intro w'
      go_simp
      with_reducible rfl
     rotate_left
     ·simp only [Act.put, List.setIfInBounds_toArray, List.set_cons_zero, List.set_cons_succ, i64_w, i32_w]
      rfl
     refine done_ (done_of HT_.out (by kernel_rfl)) ?_
     have hnb969 := NB910.out
     have hnc970 := NB911.out
     have hcz971 : w968.cell? ⟨gb900, 0, none⟩ = some (.bool a1_0) := (blk_cell BK902.out 0).trans rfl
     have hcz972 : w968.cell? ⟨gb900, 1, none⟩ = some (.int .u8 a1_1) := (blk_cell BK902.out 1).trans rfl
     have hcz973 : w968.cell? ⟨gb900, 2, none⟩ = some (.int .u32 a1_2) := (blk_cell BK902.out 2).trans rfl
     have hcz974 : w968.cell? ⟨gb900, 3, none⟩ = some (.int .i64 a1_3) := (blk_cell BK902.out 3).trans rfl
     have hcz975 : w968.cell? ⟨gb900, 4, none⟩ = some (.int .u32 a1_4) := (blk_cell BK902.out 4).trans rfl
     have hcz976 : w968.cell? ⟨gb900, 5, none⟩ = some (.int .i64 a1_5) := (blk_cell BK902.out 5).trans rfl
     have hcz977 : w968.cell? ⟨gb900, 6, none⟩ = some (.int .u16 a1_6) := (blk_cell BK902.out 6).trans rfl
     have hcz978 : w968.cell? ⟨gb900, 7, none⟩ = some (.int .u16 a1_7) := (blk_cell BK902.out 7).trans rfl
     have hcz979 : w968.cell? ⟨gb900, 8, none⟩ = some (.int .u16 a1_8) := (blk_cell BK902.out 8).trans rfl
     have hcz980 : w968.cell? ⟨gb900, 9, none⟩ = some (.int .u16 a1_9) := (blk_cell BK902.out 9).trans rfl
     have hfz981 := blk_frozen BK902.out 0
     have hfz982 := blk_frozen BK902.out 1
     have hfz983 := blk_frozen BK902.out 2
     have hfz984 := blk_frozen BK902.out 3
     have hfz985 := blk_frozen BK902.out 4
     have hfz986 := blk_frozen BK902.out 5
     have hfz987 := blk_frozen BK902.out 6
     have hfz988 := blk_frozen BK902.out 7
     have hfz989 := blk_frozen BK902.out 8
     have hfz990 := blk_frozen BK902.out 9
     have hcz991 : w968.cell? ⟨gb905, 0, none⟩ = some (.int .u8 a2_0) := (blk_cell BK907.out 0).trans rfl
     have hcz992 : w968.cell? ⟨gb905, 1, none⟩ = some (.int .u32 a2_1) := (blk_cell BK907.out 1).trans rfl
     have hcz993 : w968.cell? ⟨gb905, 2, none⟩ = some (.int .u32 a2_2) := (blk_cell BK907.out 2).trans rfl
     have hcz994 : w968.cell? ⟨gb905, 3, none⟩ = some (.int .u16 a2_3) := (blk_cell BK907.out 3).trans rfl
     have hcz995 : w968.cell? ⟨gb905, 4, none⟩ = some (.int .u16 a2_4) := (blk_cell BK907.out 4).trans rfl
     have hcz996 : w968.cell? ⟨gb905, 5, none⟩ = some (.int .u8 a2_5) := (blk_cell BK907.out 5).trans rfl
     have hcz997 : w968.cell? ⟨gb905, 6, none⟩ = some (.int .u8 a2_6) := (blk_cell BK907.out 6).trans rfl
     have hfz998 := blk_frozen BK907.out 0
     have hfz999 := blk_frozen BK907.out 1
     have hfz9100 := blk_frozen BK907.out 2
     have hfz9101 := blk_frozen BK907.out 3
     have hfz9102 := blk_frozen BK907.out 4
     have hfz9103 := blk_frozen BK907.out 5
     have hfz9104 := blk_frozen BK907.out 6
     try go_wp2_with (first | ((with_reducible refine gate_callee (f := 18) rfl ?_); refine goesL_ (some 30) rfl rfl Try.func18 (by kernel_rfl) rfl #[.agg #[.bool a1_0, .int .u8 a1_1, .int .u32 a1_2, .int .i64 a1_3, .int .u32 a1_4, .int .i64 a1_5, .int .u16 a1_6, .int .u16 a1_7, .int .u16 a1_8, .int .u16 a1_9], .agg #[.int .u8 a2_0, .int .u32 a2_1, .int .u32 a2_2, .int .u16 a2_3, .int .u16 a2_4, .int .u8 a2_5, .int .u8 a2_6]] rfl (by (try simp only [List.map_toArray, List.map_cons, List.map_nil]); first | done | rfl) ?_; (with_reducible refine (match_Matches.calls a1_0 a1_1 a1_2 a1_3 a1_4 a1_5 a1_6 a1_7 a1_8 a1_9 a2_0 a2_1 a2_2 a2_3 a2_4 a2_5 a2_6 true _ A9.out).mono ?_); rintro e w9105 ⟨rfl, hb⟩; refine ⟨_, rfl, ?_⟩; have n0_ := Aside0.mk (Kd.V_below (by (with_reducible repeat (first | apply Kd.V_alloc | apply Kd.V_drewN | apply Kd.V_drew)); exact HO924.out) hb); have n1_ := Aside0.mk (Kd.V_below (by (with_reducible repeat (first | apply Kd.V_alloc | apply Kd.V_drewN | apply Kd.V_drew)); exact HO949.out) hb); have n2_ := Aside0.mk (Kd.R_below (by (with_reducible repeat (first | apply Kd.R_alloc | apply Kd.R_drewN | apply Kd.R_drew)); exact HO964.out) hb); have n3_ := Aside0.mk (blk_below (g := gb900) (o := .cells #[.bool a1_0, .int .u8 a1_1, .int .u32 a1_2, .int .i64 a1_3, .int .u32 a1_4, .int .i64 a1_5, .int .u16 a1_6, .int .u16 a1_7, .int .u16 a1_8, .int .u16 a1_9] 32 (0, 0)) (by (with_reducible repeat first | apply blk_drewN | apply blk_drew | apply blk_alloc); exact BK902.out) hb); have n4_ := Aside0.mk (blk_below (g := gb905) (o := .cells #[.int .u8 a2_0, .int .u32 a2_1, .int .u32 a2_2, .int .u16 a2_3, .int .u16 a2_4, .int .u8 a2_5, .int .u8 a2_6] 26 (0, 0)) (by (with_reducible repeat first | apply blk_drewN | apply blk_drew | apply blk_alloc); exact BK907.out) hb); have n5_ := Aside0.mk (below_step (by repeat first | (with_reducible first | exact HB.out | apply below_alloc | apply pw_below_drewN | apply below_drew1 | refine below_set ?_ GE904.out | refine below_set ?_ GE909.out) | exact HB.out) hb); clear HO924; clear HO949; clear HO964; clear BK902; clear BK907; clear HB; have HO924 := n0_; have HO949 := n1_; have HO964 := n2_; have BK902 := n3_; have BK907 := n4_; have HB := n5_; clear n0_ n1_ n2_ n3_ n4_ n5_; (try clear hb); (try clear hb2); (try clear hk); (try clear hi)) | ((with_reducible refine gate_callee (f := 17) rfl ?_); refine goesL_ (some 31) rfl rfl Try.func17 (by kernel_rfl) rfl #[] rfl (by (try simp only [List.map_toArray, List.map_cons, List.map_nil]); first | done | rfl) ?_; (with_reducible refine (mantletlaw13_awake.calls  true _ A11.out).mono ?_); rintro e w9106 ⟨rfl, hb⟩; refine ⟨_, rfl, ?_⟩; have n0_ := Aside0.mk (Kd.V_below (by (with_reducible repeat (first | apply Kd.V_alloc | apply Kd.V_drewN | apply Kd.V_drew)); exact HO924.out) hb); have n1_ := Aside0.mk (Kd.V_below (by (with_reducible repeat (first | apply Kd.V_alloc | apply Kd.V_drewN | apply Kd.V_drew)); exact HO949.out) hb); have n2_ := Aside0.mk (Kd.R_below (by (with_reducible repeat (first | apply Kd.R_alloc | apply Kd.R_drewN | apply Kd.R_drew)); exact HO964.out) hb); have n3_ := Aside0.mk (blk_below (g := gb900) (o := .cells #[.bool a1_0, .int .u8 a1_1, .int .u32 a1_2, .int .i64 a1_3, .int .u32 a1_4, .int .i64 a1_5, .int .u16 a1_6, .int .u16 a1_7, .int .u16 a1_8, .int .u16 a1_9] 32 (0, 0)) (by (with_reducible repeat first | apply blk_drewN | apply blk_drew | apply blk_alloc); exact BK902.out) hb); have n4_ := Aside0.mk (blk_below (g := gb905) (o := .cells #[.int .u8 a2_0, .int .u32 a2_1, .int .u32 a2_2, .int .u16 a2_3, .int .u16 a2_4, .int .u8 a2_5, .int .u8 a2_6] 26 (0, 0)) (by (with_reducible repeat first | apply blk_drewN | apply blk_drew | apply blk_alloc); exact BK907.out) hb); have n5_ := Aside0.mk (below_step (by repeat first | (with_reducible first | exact HB.out | apply below_alloc | apply pw_below_drewN | apply below_drew1 | refine below_set ?_ GE904.out | refine below_set ?_ GE909.out) | exact HB.out) hb); clear HO924; clear HO949; clear HO964; clear BK902; clear BK907; clear HB; have HO924 := n0_; have HO949 := n1_; have HO964 := n2_; have BK902 := n3_; have BK907 := n4_; have HB := n5_; clear n0_ n1_ n2_ n3_ n4_ n5_; (try clear hb); (try clear hb2); (try clear hk); (try clear hi); have hcz9107 : w9106.cell? ⟨gb900, 0, none⟩ = some (.bool a1_0) := (blk_cell BK902.out 0).trans rfl; have hcz9108 : w9106.cell? ⟨gb900, 1, none⟩ = some (.int .u8 a1_1) := (blk_cell BK902.out 1).trans rfl; have hcz9109 : w9106.cell? ⟨gb900, 2, none⟩ = some (.int .u32 a1_2) := (blk_cell BK902.out 2).trans rfl; have hcz9110 : w9106.cell? ⟨gb900, 3, none⟩ = some (.int .i64 a1_3) := (blk_cell BK902.out 3).trans rfl; have hcz9111 : w9106.cell? ⟨gb900, 4, none⟩ = some (.int .u32 a1_4) := (blk_cell BK902.out 4).trans rfl; have hcz9112 : w9106.cell? ⟨gb900, 5, none⟩ = some (.int .i64 a1_5) := (blk_cell BK902.out 5).trans rfl; have hcz9113 : w9106.cell? ⟨gb900, 6, none⟩ = some (.int .u16 a1_6) := (blk_cell BK902.out 6).trans rfl; have hcz9114 : w9106.cell? ⟨gb900, 7, none⟩ = some (.int .u16 a1_7) := (blk_cell BK902.out 7).trans rfl; have hcz9115 : w9106.cell? ⟨gb900, 8, none⟩ = some (.int .u16 a1_8) := (blk_cell BK902.out 8).trans rfl; have hcz9116 : w9106.cell? ⟨gb900, 9, none⟩ = some (.int .u16 a1_9) := (blk_cell BK902.out 9).trans rfl; have hfz9117 := blk_frozen BK902.out 0; have hfz9118 := blk_frozen BK902.out 1; have hfz9119 := blk_frozen BK902.out 2; have hfz9120 := blk_frozen BK902.out 3; have hfz9121 := blk_frozen BK902.out 4; have hfz9122 := blk_frozen BK902.out 5; have hfz9123 := blk_frozen BK902.out 6; have hfz9124 := blk_frozen BK902.out 7; have hfz9125 := blk_frozen BK902.out 8; have hfz9126 := blk_frozen BK902.out 9))
     go_ret
     exact ⟨by first | rfl | (simp [errW_none, errW_some] <;> rfl) | (simp [*, errW_none, errW_some] <;> rfl), by repeat first | (with_reducible first | exact HB.out | apply below_alloc | apply pw_below_drewN | apply below_drew1 | refine below_set ?_ GE904.out | refine below_set ?_ GE909.out) | exact HB.out⟩
    ·rw [if_neg c13] at H
     have c13b0 : (t178 == 0) = false := beq_eq_false_iff_ne.mpr c13
     have c13b1 : (t178 != 0) = true := bne_iff_ne.mpr c13
     exact absurd ((Option.some.inj H).trans HT.out) (by decide)
   ·replace c12 := Bool.eq_false_iff.mpr c12
    subst c12
    have H1 : (some false) = some r := by rw [if_neg (show ¬ (false = true) by decide)] at H; exact H
    clear H
    have H := H1
    clear H1
    exact absurd ((Option.some.inj H).trans HT.out) (by decide)
  ·replace c10 := Bool.eq_false_iff.mpr c10
   subst c10
   have H1 : (if t167 < 0 then ((mantletlaw13_awake.f).bind fun t182 => (if t182 = true then (if t178 = (-1) then (if t179 = true then (some false) else (some (!t168))) else (some false)) else (some false))) else ((mantletlaw13_awake.f).bind fun t183 => (if t183 = true then (if t178 = (wrap64 (t167 + 1)) then (some (t179 == t168)) else (some false)) else (some false)))) = some r := by rw [if_neg (show ¬ (false = true) by decide)] at H; exact H
   clear H
   have H := H1
   clear H1
   by_cases c75 : t167 < 0
   ·rw [if_pos c75] at H
    have c75b0 : decide (t167 < 0) = true := decide_eq_true c75
    clear c75
    replace H := Option.bind_eq_some_iff.mp H
    obtain ⟨t182, A760, H⟩ := H
    replace H : (if t182 = true then (if t178 = (-1) then (if t179 = true then (some false) else (some (!t168))) else (some false)) else (some false)) = some r := H
    have A76 := Aside0.mk A760
    clear A760
    by_cases c77 : t182 = true
    ·subst c77
     have H1 : (if t178 = (-1) then (if t179 = true then (some false) else (some (!t168))) else (some false)) = some r := by rw [if_pos rfl] at H; exact H
     clear H
     have H := H1
     clear H1
     by_cases c78 : t178 = (-1)
     ·rw [if_pos c78] at H
      have c78b0 : (t178 == (-1)) = true := beq_iff_eq.mpr c78
      have c78b1 : (t178 != (-1)) = false := bne_eq_false_iff_eq.mpr c78
      clear c78
      by_cases c79 : t179 = true
      ·subst c79
       have H1 : (some false) = some r := by rw [if_pos rfl] at H; exact H
       clear H
       have H := H1
       clear H1
       exact absurd ((Option.some.inj H).trans HT.out) (by decide)
      ·replace c79 := Bool.eq_false_iff.mpr c79
       subst c79
       have H1 : (some (!t168)) = some r := by rw [if_neg (show ¬ (false = true) by decide)] at H; exact H
       clear H
       have H := H1
       clear H1
       obtain rfl := Option.some.inj H
       with_reducible refine (match_First.calls _ _ y175 a2_0 a2_1 a2_2 a2_3 a2_4 a2_5 a2_6 t178 false _ ?side920 ?side930 A8.out).mono ?_
       (case side920 => repeat (first | exact (Kd.R_reads' HO964.out).2.2 | (with_reducible refine Kd.C_alloc ?_ _) | (with_reducible refine Kd.C_drewN ?_ _) | (with_reducible refine Kd.C_drew ?_)))
       (case side930 => exact (Kd.R_reads' HO964.out).2.1)
       rintro e w968 ⟨rfl, hb⟩
       refine ⟨_, rfl, ?_⟩
       have n0_ := Aside0.mk (Kd.V_below (by (with_reducible repeat (first | apply Kd.V_alloc | apply Kd.V_drewN | apply Kd.V_drew)); exact HO924.out) hb)
       have n1_ := Aside0.mk (Kd.V_below (by (with_reducible repeat (first | apply Kd.V_alloc | apply Kd.V_drewN | apply Kd.V_drew)); exact HO949.out) hb)
       have n2_ := Aside0.mk (Kd.R_below (by (with_reducible repeat (first | apply Kd.R_alloc | apply Kd.R_drewN | apply Kd.R_drew)); exact HO964.out) hb)
       have n3_ := Aside0.mk (blk_below (g := gb900) (o := .cells #[.bool a1_0, .int .u8 a1_1, .int .u32 a1_2, .int .i64 a1_3, .int .u32 a1_4, .int .i64 a1_5, .int .u16 a1_6, .int .u16 a1_7, .int .u16 a1_8, .int .u16 a1_9] 32 (0, 0)) (by (with_reducible repeat first | apply blk_drewN | apply blk_drew | apply blk_alloc); exact BK902.out) hb)
       have n4_ := Aside0.mk (blk_below (g := gb905) (o := .cells #[.int .u8 a2_0, .int .u32 a2_1, .int .u32 a2_2, .int .u16 a2_3, .int .u16 a2_4, .int .u8 a2_5, .int .u8 a2_6] 26 (0, 0)) (by (with_reducible repeat first | apply blk_drewN | apply blk_drew | apply blk_alloc); exact BK907.out) hb)
       have n5_ := Aside0.mk (below_step (by repeat first | (with_reducible first | exact HB.out | apply below_alloc | apply pw_below_drewN | apply below_drew1 | refine below_set ?_ GE904.out | refine below_set ?_ GE909.out) | exact HB.out) hb)
       clear HO924
       clear HO949
       clear HO964
       clear BK902
       clear BK907
       clear HB
       have HO924 := n0_
       have HO949 := n1_
       have HO964 := n2_
       have BK902 := n3_
       have BK907 := n4_
       have HB := n5_
       clear n0_ n1_ n2_ n3_ n4_ n5_
       (try clear hb)
       (try clear hb2)
       (try clear hk)
       (try clear hi)
       refine hK.out _ _ ⟨(blk_cell BK902.out 0).trans rfl, (blk_cell BK902.out 1).trans rfl, (blk_cell BK902.out 2).trans rfl, (blk_cell BK902.out 3).trans rfl, (blk_cell BK902.out 4).trans rfl, (blk_cell BK902.out 5).trans rfl, (blk_cell BK902.out 6).trans rfl, (blk_cell BK902.out 7).trans rfl, (blk_cell BK902.out 8).trans rfl, (blk_cell BK902.out 9).trans rfl, (blk_cell BK907.out 0).trans rfl, (blk_cell BK907.out 1).trans rfl, (blk_cell BK907.out 2).trans rfl, (blk_cell BK907.out 3).trans rfl, (blk_cell BK907.out 4).trans rfl, (blk_cell BK907.out 5).trans rfl, (blk_cell BK907.out 6).trans rfl⟩ (fun hHeld => ?_)
       clear hK K
       refine norm_ (a' := ?_) ?_ ?_
       rotate_left
       ·show Act.put _ (some 25) _ = _
        simp only [Act.put, List.setIfInBounds_toArray, List.set_cons_zero, List.set_cons_succ, i64_w, i32_w]
        rfl
       refine pure_ (i := 7) (N := some 18) (v := ?_) (a' := ?_) #[true, true, true, true, true, true, true, true, false, false, false, false] rfl rfl (any_of HT_.out (by kernel_rfl)) (fun _ _ _ h => h) (Or.inl ⟨by rfl, ?_⟩) ?_ ?_
       rotate_left
       ·intro w'
        go_simp
        with_reducible rfl
       rotate_left
       ·simp only [Act.put, List.setIfInBounds_toArray, List.set_cons_zero, List.set_cons_succ, i64_w, i32_w]
        rfl
       refine pure_ (i := 8) (N := some 26) (v := ?_) (a' := ?_) #[true, true, true, true, true, true, true, true, true, false, false, false] rfl rfl (any_of HT_.out (by kernel_rfl)) (fun _ _ _ h => h) (Or.inl ⟨by rfl, ?_⟩) ?_ ?_
       rotate_left
       ·intro w'
        go_simp
        with_reducible rfl
       rotate_left
       ·simp only [Act.put, List.setIfInBounds_toArray, List.set_cons_zero, List.set_cons_succ, i64_w, i32_w]
        rfl
       refine pure_ (i := 9) (N := some 27) (v := ?_) (a' := ?_) #[true, true, true, true, true, true, true, true, true, true, false, false] rfl rfl (any_of HT_.out (by kernel_rfl)) (fun _ _ _ h => h) (Or.inl ⟨by rfl, ?_⟩) ?_ ?_
       rotate_left
       ·intro w'
        go_simp
        with_reducible rfl
       rotate_left
       ·simp only [Act.put, List.setIfInBounds_toArray, List.set_cons_zero, List.set_cons_succ, i64_w, i32_w]
        rfl
       refine pure_ (i := 10) (N := some 9) (v := ?_) (a' := ?_) #[true, true, true, true, true, true, true, true, true, true, true, false] rfl rfl (any_of HT_.out (by kernel_rfl)) (fun _ _ _ h => h) (Or.inl ⟨by rfl, ?_⟩) ?_ ?_
       rotate_left
       ·intro w'
        go_simp
        with_reducible rfl
       rotate_left
       ·simp only [Act.put, List.setIfInBounds_toArray, List.set_cons_zero, List.set_cons_succ, i64_w, i32_w]
        rfl
       refine pure_ (i := 11) (N := some 10) (v := ?_) (a' := ?_) #[true, true, true, true, true, true, true, true, true, true, true, true] rfl rfl (any_of HT_.out (by kernel_rfl)) (fun _ _ _ h => h) (Or.inl ⟨by rfl, ?_⟩) ?_ ?_
       rotate_left
       ·intro w'
        go_simp
        with_reducible rfl
       rotate_left
       ·simp only [Act.put, List.setIfInBounds_toArray, List.set_cons_zero, List.set_cons_succ, i64_w, i32_w]
        rfl
       refine done_ (done_of HT_.out (by kernel_rfl)) ?_
       have hnb969 := NB910.out
       have hnc970 := NB911.out
       have hcz971 : w968.cell? ⟨gb900, 0, none⟩ = some (.bool a1_0) := (blk_cell BK902.out 0).trans rfl
       have hcz972 : w968.cell? ⟨gb900, 1, none⟩ = some (.int .u8 a1_1) := (blk_cell BK902.out 1).trans rfl
       have hcz973 : w968.cell? ⟨gb900, 2, none⟩ = some (.int .u32 a1_2) := (blk_cell BK902.out 2).trans rfl
       have hcz974 : w968.cell? ⟨gb900, 3, none⟩ = some (.int .i64 a1_3) := (blk_cell BK902.out 3).trans rfl
       have hcz975 : w968.cell? ⟨gb900, 4, none⟩ = some (.int .u32 a1_4) := (blk_cell BK902.out 4).trans rfl
       have hcz976 : w968.cell? ⟨gb900, 5, none⟩ = some (.int .i64 a1_5) := (blk_cell BK902.out 5).trans rfl
       have hcz977 : w968.cell? ⟨gb900, 6, none⟩ = some (.int .u16 a1_6) := (blk_cell BK902.out 6).trans rfl
       have hcz978 : w968.cell? ⟨gb900, 7, none⟩ = some (.int .u16 a1_7) := (blk_cell BK902.out 7).trans rfl
       have hcz979 : w968.cell? ⟨gb900, 8, none⟩ = some (.int .u16 a1_8) := (blk_cell BK902.out 8).trans rfl
       have hcz980 : w968.cell? ⟨gb900, 9, none⟩ = some (.int .u16 a1_9) := (blk_cell BK902.out 9).trans rfl
       have hfz981 := blk_frozen BK902.out 0
       have hfz982 := blk_frozen BK902.out 1
       have hfz983 := blk_frozen BK902.out 2
       have hfz984 := blk_frozen BK902.out 3
       have hfz985 := blk_frozen BK902.out 4
       have hfz986 := blk_frozen BK902.out 5
       have hfz987 := blk_frozen BK902.out 6
       have hfz988 := blk_frozen BK902.out 7
       have hfz989 := blk_frozen BK902.out 8
       have hfz990 := blk_frozen BK902.out 9
       have hcz991 : w968.cell? ⟨gb905, 0, none⟩ = some (.int .u8 a2_0) := (blk_cell BK907.out 0).trans rfl
       have hcz992 : w968.cell? ⟨gb905, 1, none⟩ = some (.int .u32 a2_1) := (blk_cell BK907.out 1).trans rfl
       have hcz993 : w968.cell? ⟨gb905, 2, none⟩ = some (.int .u32 a2_2) := (blk_cell BK907.out 2).trans rfl
       have hcz994 : w968.cell? ⟨gb905, 3, none⟩ = some (.int .u16 a2_3) := (blk_cell BK907.out 3).trans rfl
       have hcz995 : w968.cell? ⟨gb905, 4, none⟩ = some (.int .u16 a2_4) := (blk_cell BK907.out 4).trans rfl
       have hcz996 : w968.cell? ⟨gb905, 5, none⟩ = some (.int .u8 a2_5) := (blk_cell BK907.out 5).trans rfl
       have hcz997 : w968.cell? ⟨gb905, 6, none⟩ = some (.int .u8 a2_6) := (blk_cell BK907.out 6).trans rfl
       have hfz998 := blk_frozen BK907.out 0
       have hfz999 := blk_frozen BK907.out 1
       have hfz9100 := blk_frozen BK907.out 2
       have hfz9101 := blk_frozen BK907.out 3
       have hfz9102 := blk_frozen BK907.out 4
       have hfz9103 := blk_frozen BK907.out 5
       have hfz9104 := blk_frozen BK907.out 6
       try go_wp2_with (first | ((with_reducible refine gate_callee (f := 18) rfl ?_); refine goesL_ (some 30) rfl rfl Try.func18 (by kernel_rfl) rfl #[.agg #[.bool a1_0, .int .u8 a1_1, .int .u32 a1_2, .int .i64 a1_3, .int .u32 a1_4, .int .i64 a1_5, .int .u16 a1_6, .int .u16 a1_7, .int .u16 a1_8, .int .u16 a1_9], .agg #[.int .u8 a2_0, .int .u32 a2_1, .int .u32 a2_2, .int .u16 a2_3, .int .u16 a2_4, .int .u8 a2_5, .int .u8 a2_6]] rfl (by (try simp only [List.map_toArray, List.map_cons, List.map_nil]); first | done | rfl) ?_; (with_reducible refine (match_Matches.calls a1_0 a1_1 a1_2 a1_3 a1_4 a1_5 a1_6 a1_7 a1_8 a1_9 a2_0 a2_1 a2_2 a2_3 a2_4 a2_5 a2_6 false _ A9.out).mono ?_); rintro e w9105 ⟨rfl, hb⟩; refine ⟨_, rfl, ?_⟩; have n0_ := Aside0.mk (Kd.V_below (by (with_reducible repeat (first | apply Kd.V_alloc | apply Kd.V_drewN | apply Kd.V_drew)); exact HO924.out) hb); have n1_ := Aside0.mk (Kd.V_below (by (with_reducible repeat (first | apply Kd.V_alloc | apply Kd.V_drewN | apply Kd.V_drew)); exact HO949.out) hb); have n2_ := Aside0.mk (Kd.R_below (by (with_reducible repeat (first | apply Kd.R_alloc | apply Kd.R_drewN | apply Kd.R_drew)); exact HO964.out) hb); have n3_ := Aside0.mk (blk_below (g := gb900) (o := .cells #[.bool a1_0, .int .u8 a1_1, .int .u32 a1_2, .int .i64 a1_3, .int .u32 a1_4, .int .i64 a1_5, .int .u16 a1_6, .int .u16 a1_7, .int .u16 a1_8, .int .u16 a1_9] 32 (0, 0)) (by (with_reducible repeat first | apply blk_drewN | apply blk_drew | apply blk_alloc); exact BK902.out) hb); have n4_ := Aside0.mk (blk_below (g := gb905) (o := .cells #[.int .u8 a2_0, .int .u32 a2_1, .int .u32 a2_2, .int .u16 a2_3, .int .u16 a2_4, .int .u8 a2_5, .int .u8 a2_6] 26 (0, 0)) (by (with_reducible repeat first | apply blk_drewN | apply blk_drew | apply blk_alloc); exact BK907.out) hb); have n5_ := Aside0.mk (below_step (by repeat first | (with_reducible first | exact HB.out | apply below_alloc | apply pw_below_drewN | apply below_drew1 | refine below_set ?_ GE904.out | refine below_set ?_ GE909.out) | exact HB.out) hb); clear HO924; clear HO949; clear HO964; clear BK902; clear BK907; clear HB; have HO924 := n0_; have HO949 := n1_; have HO964 := n2_; have BK902 := n3_; have BK907 := n4_; have HB := n5_; clear n0_ n1_ n2_ n3_ n4_ n5_; (try clear hb); (try clear hb2); (try clear hk); (try clear hi)) | ((with_reducible refine gate_callee (f := 17) rfl ?_); refine goesL_ (some 44) rfl rfl Try.func17 (by kernel_rfl) rfl #[] rfl (by (try simp only [List.map_toArray, List.map_cons, List.map_nil]); first | done | rfl) ?_; (with_reducible refine (mantletlaw13_awake.calls  true _ A76.out).mono ?_); rintro e w9106 ⟨rfl, hb⟩; refine ⟨_, rfl, ?_⟩; have n0_ := Aside0.mk (Kd.V_below (by (with_reducible repeat (first | apply Kd.V_alloc | apply Kd.V_drewN | apply Kd.V_drew)); exact HO924.out) hb); have n1_ := Aside0.mk (Kd.V_below (by (with_reducible repeat (first | apply Kd.V_alloc | apply Kd.V_drewN | apply Kd.V_drew)); exact HO949.out) hb); have n2_ := Aside0.mk (Kd.R_below (by (with_reducible repeat (first | apply Kd.R_alloc | apply Kd.R_drewN | apply Kd.R_drew)); exact HO964.out) hb); have n3_ := Aside0.mk (blk_below (g := gb900) (o := .cells #[.bool a1_0, .int .u8 a1_1, .int .u32 a1_2, .int .i64 a1_3, .int .u32 a1_4, .int .i64 a1_5, .int .u16 a1_6, .int .u16 a1_7, .int .u16 a1_8, .int .u16 a1_9] 32 (0, 0)) (by (with_reducible repeat first | apply blk_drewN | apply blk_drew | apply blk_alloc); exact BK902.out) hb); have n4_ := Aside0.mk (blk_below (g := gb905) (o := .cells #[.int .u8 a2_0, .int .u32 a2_1, .int .u32 a2_2, .int .u16 a2_3, .int .u16 a2_4, .int .u8 a2_5, .int .u8 a2_6] 26 (0, 0)) (by (with_reducible repeat first | apply blk_drewN | apply blk_drew | apply blk_alloc); exact BK907.out) hb); have n5_ := Aside0.mk (below_step (by repeat first | (with_reducible first | exact HB.out | apply below_alloc | apply pw_below_drewN | apply below_drew1 | refine below_set ?_ GE904.out | refine below_set ?_ GE909.out) | exact HB.out) hb); clear HO924; clear HO949; clear HO964; clear BK902; clear BK907; clear HB; have HO924 := n0_; have HO949 := n1_; have HO964 := n2_; have BK902 := n3_; have BK907 := n4_; have HB := n5_; clear n0_ n1_ n2_ n3_ n4_ n5_; (try clear hb); (try clear hb2); (try clear hk); (try clear hi)))
       go_ret
       exact ⟨by first | rfl | (simp [errW_none, errW_some] <;> rfl) | (simp [*, errW_none, errW_some] <;> rfl), by repeat first | (with_reducible first | exact HB.out | apply below_alloc | apply pw_below_drewN | apply below_drew1 | refine below_set ?_ GE904.out | refine below_set ?_ GE909.out) | exact HB.out⟩
     ·rw [if_neg c78] at H
      have c78b0 : (t178 == (-1)) = false := beq_eq_false_iff_ne.mpr c78
      have c78b1 : (t178 != (-1)) = true := bne_iff_ne.mpr c78
      exact absurd ((Option.some.inj H).trans HT.out) (by decide)
    ·replace c77 := Bool.eq_false_iff.mpr c77
     subst c77
     have H1 : (some false) = some r := by rw [if_neg (show ¬ (false = true) by decide)] at H; exact H
     clear H
     have H := H1
     clear H1
     exact absurd ((Option.some.inj H).trans HT.out) (by decide)
   ·rw [if_neg c75] at H
    have c75b0 : decide (t167 < 0) = false := decide_eq_false c75
    clear c75
    replace H := Option.bind_eq_some_iff.mp H
    obtain ⟨t183, A1600, H⟩ := H
    replace H : (if t183 = true then (if t178 = (wrap64 (t167 + 1)) then (some (t179 == t168)) else (some false)) else (some false)) = some r := H
    have A160 := Aside0.mk A1600
    clear A1600
    by_cases c161 : t183 = true
    ·subst c161
     have H1 : (if t178 = (wrap64 (t167 + 1)) then (some (t179 == t168)) else (some false)) = some r := by rw [if_pos rfl] at H; exact H
     clear H
     have H := H1
     clear H1
     by_cases c162 : t178 = (wrap64 (t167 + 1))
     ·rw [if_pos c162] at H
      have c162b0 : (t178 == (wrap64 (t167 + 1))) = true := beq_iff_eq.mpr c162
      have c162b1 : (t178 != (wrap64 (t167 + 1))) = false := bne_eq_false_iff_eq.mpr c162
      clear c162
      obtain rfl := Option.some.inj H
      with_reducible refine (match_First.calls _ _ y175 a2_0 a2_1 a2_2 a2_3 a2_4 a2_5 a2_6 t178 t179 _ ?side920 ?side930 A8.out).mono ?_
      (case side920 => repeat (first | exact (Kd.R_reads' HO964.out).2.2 | (with_reducible refine Kd.C_alloc ?_ _) | (with_reducible refine Kd.C_drewN ?_ _) | (with_reducible refine Kd.C_drew ?_)))
      (case side930 => exact (Kd.R_reads' HO964.out).2.1)
      rintro e w968 ⟨rfl, hb⟩
      refine ⟨_, rfl, ?_⟩
      have n0_ := Aside0.mk (Kd.V_below (by (with_reducible repeat (first | apply Kd.V_alloc | apply Kd.V_drewN | apply Kd.V_drew)); exact HO924.out) hb)
      have n1_ := Aside0.mk (Kd.V_below (by (with_reducible repeat (first | apply Kd.V_alloc | apply Kd.V_drewN | apply Kd.V_drew)); exact HO949.out) hb)
      have n2_ := Aside0.mk (Kd.R_below (by (with_reducible repeat (first | apply Kd.R_alloc | apply Kd.R_drewN | apply Kd.R_drew)); exact HO964.out) hb)
      have n3_ := Aside0.mk (blk_below (g := gb900) (o := .cells #[.bool a1_0, .int .u8 a1_1, .int .u32 a1_2, .int .i64 a1_3, .int .u32 a1_4, .int .i64 a1_5, .int .u16 a1_6, .int .u16 a1_7, .int .u16 a1_8, .int .u16 a1_9] 32 (0, 0)) (by (with_reducible repeat first | apply blk_drewN | apply blk_drew | apply blk_alloc); exact BK902.out) hb)
      have n4_ := Aside0.mk (blk_below (g := gb905) (o := .cells #[.int .u8 a2_0, .int .u32 a2_1, .int .u32 a2_2, .int .u16 a2_3, .int .u16 a2_4, .int .u8 a2_5, .int .u8 a2_6] 26 (0, 0)) (by (with_reducible repeat first | apply blk_drewN | apply blk_drew | apply blk_alloc); exact BK907.out) hb)
      have n5_ := Aside0.mk (below_step (by repeat first | (with_reducible first | exact HB.out | apply below_alloc | apply pw_below_drewN | apply below_drew1 | refine below_set ?_ GE904.out | refine below_set ?_ GE909.out) | exact HB.out) hb)
      clear HO924
      clear HO949
      clear HO964
      clear BK902
      clear BK907
      clear HB
      have HO924 := n0_
      have HO949 := n1_
      have HO964 := n2_
      have BK902 := n3_
      have BK907 := n4_
      have HB := n5_
      clear n0_ n1_ n2_ n3_ n4_ n5_
      (try clear hb)
      (try clear hb2)
      (try clear hk)
      (try clear hi)
      refine hK.out _ _ ⟨(blk_cell BK902.out 0).trans rfl, (blk_cell BK902.out 1).trans rfl, (blk_cell BK902.out 2).trans rfl, (blk_cell BK902.out 3).trans rfl, (blk_cell BK902.out 4).trans rfl, (blk_cell BK902.out 5).trans rfl, (blk_cell BK902.out 6).trans rfl, (blk_cell BK902.out 7).trans rfl, (blk_cell BK902.out 8).trans rfl, (blk_cell BK902.out 9).trans rfl, (blk_cell BK907.out 0).trans rfl, (blk_cell BK907.out 1).trans rfl, (blk_cell BK907.out 2).trans rfl, (blk_cell BK907.out 3).trans rfl, (blk_cell BK907.out 4).trans rfl, (blk_cell BK907.out 5).trans rfl, (blk_cell BK907.out 6).trans rfl⟩ (fun hHeld => ?_)
      clear hK K
      refine norm_ (a' := ?_) ?_ ?_
      rotate_left
      ·show Act.put _ (some 25) _ = _
       simp only [Act.put, List.setIfInBounds_toArray, List.set_cons_zero, List.set_cons_succ, i64_w, i32_w]
       rfl
      refine pure_ (i := 7) (N := some 18) (v := ?_) (a' := ?_) #[true, true, true, true, true, true, true, true, false, false, false, false] rfl rfl (any_of HT_.out (by kernel_rfl)) (fun _ _ _ h => h) (Or.inl ⟨by rfl, ?_⟩) ?_ ?_
      rotate_left
      ·intro w'
       go_simp
       with_reducible rfl
      rotate_left
      ·simp only [Act.put, List.setIfInBounds_toArray, List.set_cons_zero, List.set_cons_succ, i64_w, i32_w]
       rfl
      refine pure_ (i := 8) (N := some 26) (v := ?_) (a' := ?_) #[true, true, true, true, true, true, true, true, true, false, false, false] rfl rfl (any_of HT_.out (by kernel_rfl)) (fun _ _ _ h => h) (Or.inl ⟨by rfl, ?_⟩) ?_ ?_
      rotate_left
      ·intro w'
       go_simp
       with_reducible rfl
      rotate_left
      ·simp only [Act.put, List.setIfInBounds_toArray, List.set_cons_zero, List.set_cons_succ, i64_w, i32_w]
       rfl
      refine pure_ (i := 9) (N := some 27) (v := ?_) (a' := ?_) #[true, true, true, true, true, true, true, true, true, true, false, false] rfl rfl (any_of HT_.out (by kernel_rfl)) (fun _ _ _ h => h) (Or.inl ⟨by rfl, ?_⟩) ?_ ?_
      rotate_left
      ·intro w'
       go_simp
       with_reducible rfl
      rotate_left
      ·simp only [Act.put, List.setIfInBounds_toArray, List.set_cons_zero, List.set_cons_succ, i64_w, i32_w]
       rfl
      refine pure_ (i := 10) (N := some 9) (v := ?_) (a' := ?_) #[true, true, true, true, true, true, true, true, true, true, true, false] rfl rfl (any_of HT_.out (by kernel_rfl)) (fun _ _ _ h => h) (Or.inl ⟨by rfl, ?_⟩) ?_ ?_
      rotate_left
      ·intro w'
       go_simp
       with_reducible rfl
      rotate_left
      ·simp only [Act.put, List.setIfInBounds_toArray, List.set_cons_zero, List.set_cons_succ, i64_w, i32_w]
       rfl
      refine pure_ (i := 11) (N := some 10) (v := ?_) (a' := ?_) #[true, true, true, true, true, true, true, true, true, true, true, true] rfl rfl (any_of HT_.out (by kernel_rfl)) (fun _ _ _ h => h) (Or.inl ⟨by rfl, ?_⟩) ?_ ?_
      rotate_left
      ·intro w'
       go_simp
       with_reducible rfl
      rotate_left
      ·simp only [Act.put, List.setIfInBounds_toArray, List.set_cons_zero, List.set_cons_succ, i64_w, i32_w]
       rfl
      refine done_ (done_of HT_.out (by kernel_rfl)) ?_
      have hnb969 := NB910.out
      have hnc970 := NB911.out
      have hcz971 : w968.cell? ⟨gb900, 0, none⟩ = some (.bool a1_0) := (blk_cell BK902.out 0).trans rfl
      have hcz972 : w968.cell? ⟨gb900, 1, none⟩ = some (.int .u8 a1_1) := (blk_cell BK902.out 1).trans rfl
      have hcz973 : w968.cell? ⟨gb900, 2, none⟩ = some (.int .u32 a1_2) := (blk_cell BK902.out 2).trans rfl
      have hcz974 : w968.cell? ⟨gb900, 3, none⟩ = some (.int .i64 a1_3) := (blk_cell BK902.out 3).trans rfl
      have hcz975 : w968.cell? ⟨gb900, 4, none⟩ = some (.int .u32 a1_4) := (blk_cell BK902.out 4).trans rfl
      have hcz976 : w968.cell? ⟨gb900, 5, none⟩ = some (.int .i64 a1_5) := (blk_cell BK902.out 5).trans rfl
      have hcz977 : w968.cell? ⟨gb900, 6, none⟩ = some (.int .u16 a1_6) := (blk_cell BK902.out 6).trans rfl
      have hcz978 : w968.cell? ⟨gb900, 7, none⟩ = some (.int .u16 a1_7) := (blk_cell BK902.out 7).trans rfl
      have hcz979 : w968.cell? ⟨gb900, 8, none⟩ = some (.int .u16 a1_8) := (blk_cell BK902.out 8).trans rfl
      have hcz980 : w968.cell? ⟨gb900, 9, none⟩ = some (.int .u16 a1_9) := (blk_cell BK902.out 9).trans rfl
      have hfz981 := blk_frozen BK902.out 0
      have hfz982 := blk_frozen BK902.out 1
      have hfz983 := blk_frozen BK902.out 2
      have hfz984 := blk_frozen BK902.out 3
      have hfz985 := blk_frozen BK902.out 4
      have hfz986 := blk_frozen BK902.out 5
      have hfz987 := blk_frozen BK902.out 6
      have hfz988 := blk_frozen BK902.out 7
      have hfz989 := blk_frozen BK902.out 8
      have hfz990 := blk_frozen BK902.out 9
      have hcz991 : w968.cell? ⟨gb905, 0, none⟩ = some (.int .u8 a2_0) := (blk_cell BK907.out 0).trans rfl
      have hcz992 : w968.cell? ⟨gb905, 1, none⟩ = some (.int .u32 a2_1) := (blk_cell BK907.out 1).trans rfl
      have hcz993 : w968.cell? ⟨gb905, 2, none⟩ = some (.int .u32 a2_2) := (blk_cell BK907.out 2).trans rfl
      have hcz994 : w968.cell? ⟨gb905, 3, none⟩ = some (.int .u16 a2_3) := (blk_cell BK907.out 3).trans rfl
      have hcz995 : w968.cell? ⟨gb905, 4, none⟩ = some (.int .u16 a2_4) := (blk_cell BK907.out 4).trans rfl
      have hcz996 : w968.cell? ⟨gb905, 5, none⟩ = some (.int .u8 a2_5) := (blk_cell BK907.out 5).trans rfl
      have hcz997 : w968.cell? ⟨gb905, 6, none⟩ = some (.int .u8 a2_6) := (blk_cell BK907.out 6).trans rfl
      have hfz998 := blk_frozen BK907.out 0
      have hfz999 := blk_frozen BK907.out 1
      have hfz9100 := blk_frozen BK907.out 2
      have hfz9101 := blk_frozen BK907.out 3
      have hfz9102 := blk_frozen BK907.out 4
      have hfz9103 := blk_frozen BK907.out 5
      have hfz9104 := blk_frozen BK907.out 6
      try go_wp2_with (first | ((with_reducible refine gate_callee (f := 18) rfl ?_); refine goesL_ (some 30) rfl rfl Try.func18 (by kernel_rfl) rfl #[.agg #[.bool a1_0, .int .u8 a1_1, .int .u32 a1_2, .int .i64 a1_3, .int .u32 a1_4, .int .i64 a1_5, .int .u16 a1_6, .int .u16 a1_7, .int .u16 a1_8, .int .u16 a1_9], .agg #[.int .u8 a2_0, .int .u32 a2_1, .int .u32 a2_2, .int .u16 a2_3, .int .u16 a2_4, .int .u8 a2_5, .int .u8 a2_6]] rfl (by (try simp only [List.map_toArray, List.map_cons, List.map_nil]); first | done | rfl) ?_; (with_reducible refine (match_Matches.calls a1_0 a1_1 a1_2 a1_3 a1_4 a1_5 a1_6 a1_7 a1_8 a1_9 a2_0 a2_1 a2_2 a2_3 a2_4 a2_5 a2_6 false _ A9.out).mono ?_); rintro e w9105 ⟨rfl, hb⟩; refine ⟨_, rfl, ?_⟩; have n0_ := Aside0.mk (Kd.V_below (by (with_reducible repeat (first | apply Kd.V_alloc | apply Kd.V_drewN | apply Kd.V_drew)); exact HO924.out) hb); have n1_ := Aside0.mk (Kd.V_below (by (with_reducible repeat (first | apply Kd.V_alloc | apply Kd.V_drewN | apply Kd.V_drew)); exact HO949.out) hb); have n2_ := Aside0.mk (Kd.R_below (by (with_reducible repeat (first | apply Kd.R_alloc | apply Kd.R_drewN | apply Kd.R_drew)); exact HO964.out) hb); have n3_ := Aside0.mk (blk_below (g := gb900) (o := .cells #[.bool a1_0, .int .u8 a1_1, .int .u32 a1_2, .int .i64 a1_3, .int .u32 a1_4, .int .i64 a1_5, .int .u16 a1_6, .int .u16 a1_7, .int .u16 a1_8, .int .u16 a1_9] 32 (0, 0)) (by (with_reducible repeat first | apply blk_drewN | apply blk_drew | apply blk_alloc); exact BK902.out) hb); have n4_ := Aside0.mk (blk_below (g := gb905) (o := .cells #[.int .u8 a2_0, .int .u32 a2_1, .int .u32 a2_2, .int .u16 a2_3, .int .u16 a2_4, .int .u8 a2_5, .int .u8 a2_6] 26 (0, 0)) (by (with_reducible repeat first | apply blk_drewN | apply blk_drew | apply blk_alloc); exact BK907.out) hb); have n5_ := Aside0.mk (below_step (by repeat first | (with_reducible first | exact HB.out | apply below_alloc | apply pw_below_drewN | apply below_drew1 | refine below_set ?_ GE904.out | refine below_set ?_ GE909.out) | exact HB.out) hb); clear HO924; clear HO949; clear HO964; clear BK902; clear BK907; clear HB; have HO924 := n0_; have HO949 := n1_; have HO964 := n2_; have BK902 := n3_; have BK907 := n4_; have HB := n5_; clear n0_ n1_ n2_ n3_ n4_ n5_; (try clear hb); (try clear hb2); (try clear hk); (try clear hi)) | ((with_reducible refine gate_callee (f := 17) rfl ?_); refine goesL_ (some 57) rfl rfl Try.func17 (by kernel_rfl) rfl #[] rfl (by (try simp only [List.map_toArray, List.map_cons, List.map_nil]); first | done | rfl) ?_; (with_reducible refine (mantletlaw13_awake.calls  true _ A160.out).mono ?_); rintro e w9106 ⟨rfl, hb⟩; refine ⟨_, rfl, ?_⟩; have n0_ := Aside0.mk (Kd.V_below (by (with_reducible repeat (first | apply Kd.V_alloc | apply Kd.V_drewN | apply Kd.V_drew)); exact HO924.out) hb); have n1_ := Aside0.mk (Kd.V_below (by (with_reducible repeat (first | apply Kd.V_alloc | apply Kd.V_drewN | apply Kd.V_drew)); exact HO949.out) hb); have n2_ := Aside0.mk (Kd.R_below (by (with_reducible repeat (first | apply Kd.R_alloc | apply Kd.R_drewN | apply Kd.R_drew)); exact HO964.out) hb); have n3_ := Aside0.mk (blk_below (g := gb900) (o := .cells #[.bool a1_0, .int .u8 a1_1, .int .u32 a1_2, .int .i64 a1_3, .int .u32 a1_4, .int .i64 a1_5, .int .u16 a1_6, .int .u16 a1_7, .int .u16 a1_8, .int .u16 a1_9] 32 (0, 0)) (by (with_reducible repeat first | apply blk_drewN | apply blk_drew | apply blk_alloc); exact BK902.out) hb); have n4_ := Aside0.mk (blk_below (g := gb905) (o := .cells #[.int .u8 a2_0, .int .u32 a2_1, .int .u32 a2_2, .int .u16 a2_3, .int .u16 a2_4, .int .u8 a2_5, .int .u8 a2_6] 26 (0, 0)) (by (with_reducible repeat first | apply blk_drewN | apply blk_drew | apply blk_alloc); exact BK907.out) hb); have n5_ := Aside0.mk (below_step (by repeat first | (with_reducible first | exact HB.out | apply below_alloc | apply pw_below_drewN | apply below_drew1 | refine below_set ?_ GE904.out | refine below_set ?_ GE909.out) | exact HB.out) hb); clear HO924; clear HO949; clear HO964; clear BK902; clear BK907; clear HB; have HO924 := n0_; have HO949 := n1_; have HO964 := n2_; have BK902 := n3_; have BK907 := n4_; have HB := n5_; clear n0_ n1_ n2_ n3_ n4_ n5_; (try clear hb); (try clear hb2); (try clear hk); (try clear hi)))
      go_ret
      exact ⟨by first | rfl | (simp [errW_none, errW_some] <;> rfl) | (simp [*, errW_none, errW_some] <;> rfl), by repeat first | (with_reducible first | exact HB.out | apply below_alloc | apply pw_below_drewN | apply below_drew1 | refine below_set ?_ GE904.out | refine below_set ?_ GE909.out) | exact HB.out⟩
     ·rw [if_neg c162] at H
      have c162b0 : (t178 == (wrap64 (t167 + 1))) = false := beq_eq_false_iff_ne.mpr c162
      have c162b1 : (t178 != (wrap64 (t167 + 1))) = true := bne_iff_ne.mpr c162
      exact absurd ((Option.some.inj H).trans HT.out) (by decide)
    ·replace c161 := Bool.eq_false_iff.mpr c161
     subst c161
     have H1 : (some false) = some r := by rw [if_neg (show ¬ (false = true) by decide)] at H; exact H
     clear H
     have H := H1
     clear H1
     exact absurd ((Option.some.inj H).trans HT.out) (by decide)
 ·rw [if_neg c7] at H
  exact absurd H (by simp)

/-- THE ONE PURE STATEMENT of mantletlaw13_MatchAhead: yours. -/
def mantletlaw13_MatchAhead.Pure : Prop := ∀ (l0 : List (S32)) (a1_0 : Bool) (a1_1 : Int) (a1_2 : Int) (a1_3 : Int) (a1_4 : Int) (a1_5 : Int) (a1_6 : Int) (a1_7 : Int) (a1_8 : Int) (a1_9 : Int) (a2_0 : Int) (a2_1 : Int) (a2_2 : Int) (a2_3 : Int) (a2_4 : Int) (a2_5 : Int) (a2_6 : Int), l0.length ≤ maxLen → l0.length * 48 ≤ 140737488351232 → (∀ x ∈ l0, (Lit.int .u8 x.f1).wf = true ∧ (Lit.int .u32 x.f2.f0).wf = true ∧ (Lit.int .i64 x.f2.f1).wf = true ∧ (Lit.int .u32 x.f3.f0).wf = true ∧ (Lit.int .i64 x.f3.f1).wf = true ∧ (Lit.int .u16 x.f4.f0).wf = true ∧ (Lit.int .u16 x.f4.f1).wf = true ∧ (Lit.int .u16 x.f5.f0).wf = true ∧ (Lit.int .u16 x.f5.f1).wf = true) → (Lit.int .u8 a1_1).wf = true → (Lit.int .u32 a1_2).wf = true → (Lit.int .i64 a1_3).wf = true → (Lit.int .u32 a1_4).wf = true → (Lit.int .i64 a1_5).wf = true → (Lit.int .u16 a1_6).wf = true → (Lit.int .u16 a1_7).wf = true → (Lit.int .u16 a1_8).wf = true → (Lit.int .u16 a1_9).wf = true → (Lit.int .u8 a2_0).wf = true → (Lit.int .u32 a2_1).wf = true → (Lit.int .u32 a2_2).wf = true → (Lit.int .u16 a2_3).wf = true → (Lit.int .u16 a2_4).wf = true → (Lit.int .u8 a2_5).wf = true → (Lit.int .u8 a2_6).wf = true → mantletlaw13_MatchAhead.f l0 a1_0 a1_1 a1_2 a1_3 a1_4 a1_5 a1_6 a1_7 a1_8 a1_9 a2_0 a2_1 a2_2 a2_3 a2_4 a2_5 a2_6 = some true
theorem mantletlaw13_MatchAhead.walk (P : mantletlaw13_MatchAhead.Pure) (a0 : Option Addr) (cap0 : Nat) (l0 : List (S32)) (a1_0 : Bool) (a1_1 : Int) (a1_2 : Int) (a1_3 : Int) (a1_4 : Int) (a1_5 : Int) (a1_6 : Int) (a1_7 : Int) (a1_8 : Int) (a1_9 : Int) (a2_0 : Int) (a2_1 : Int) (a2_2 : Int) (a2_3 : Int) (a2_4 : Int) (a2_5 : Int) (a2_6 : Int) (w : World) (hr0 : Kd.C k32 w a0 l0.length l0) (hc0 : l0.length ≤ cap0) (m0 : l0.length ≤ maxLen) (y0 : l0.length * 48 ≤ 140737488351232) (v0 : ∀ x ∈ l0, (Lit.int .u8 x.f1).wf = true ∧ (Lit.int .u32 x.f2.f0).wf = true ∧ (Lit.int .i64 x.f2.f1).wf = true ∧ (Lit.int .u32 x.f3.f0).wf = true ∧ (Lit.int .i64 x.f3.f1).wf = true ∧ (Lit.int .u16 x.f4.f0).wf = true ∧ (Lit.int .u16 x.f4.f1).wf = true ∧ (Lit.int .u16 x.f5.f0).wf = true ∧ (Lit.int .u16 x.f5.f1).wf = true) (w1_1 : (Lit.int .u8 a1_1).wf = true) (w1_2 : (Lit.int .u32 a1_2).wf = true) (w1_3 : (Lit.int .i64 a1_3).wf = true) (w1_4 : (Lit.int .u32 a1_4).wf = true) (w1_5 : (Lit.int .i64 a1_5).wf = true) (w1_6 : (Lit.int .u16 a1_6).wf = true) (w1_7 : (Lit.int .u16 a1_7).wf = true) (w1_8 : (Lit.int .u16 a1_8).wf = true) (w1_9 : (Lit.int .u16 a1_9).wf = true) (w2_0 : (Lit.int .u8 a2_0).wf = true) (w2_1 : (Lit.int .u32 a2_1).wf = true) (w2_2 : (Lit.int .u32 a2_2).wf = true) (w2_3 : (Lit.int .u16 a2_3).wf = true) (w2_4 : (Lit.int .u16 a2_4).wf = true) (w2_5 : (Lit.int .u8 a2_5).wf = true) (w2_6 : (Lit.int .u8 a2_6).wf = true) :
    Calls Try.prog 4 #[.slice a0 l0.length cap0, .agg #[.bool a1_0, .int .u8 a1_1, .int .u32 a1_2, .int .i64 a1_3, .int .u32 a1_4, .int .i64 a1_5, .int .u16 a1_6, .int .u16 a1_7, .int .u16 a1_8, .int .u16 a1_9], .agg #[.int .u8 a2_0, .int .u32 a2_1, .int .u32 a2_2, .int .u16 a2_3, .int .u16 a2_4, .int .u8 a2_5, .int .u8 a2_6]] w fun e w' => e = .returned (.bool true) ∧ Below w.heap.size w w' := by
 have h := P l0 a1_0 a1_1 a1_2 a1_3 a1_4 a1_5 a1_6 a1_7 a1_8 a1_9 a2_0 a2_1 a2_2 a2_3 a2_4 a2_5 a2_6 m0 y0 v0 w1_1 w1_2 w1_3 w1_4 w1_5 w1_6 w1_7 w1_8 w1_9 w2_0 w2_1 w2_2 w2_3 w2_4 w2_5 w2_6
 refine (mantletlaw13_MatchAhead.calls _ _ l0 a1_0 a1_1 a1_2 a1_3 a1_4 a1_5 a1_6 a1_7 a1_8 a1_9 a2_0 a2_1 a2_2 a2_3 a2_4 a2_5 a2_6 true w hr0 hc0 h rfl).mono ?_
 rintro e w' ⟨rfl, hd⟩
 exact ⟨rfl, hd⟩

end Go.Proofs.Ytbdgjcmljjfomaa.Mat
