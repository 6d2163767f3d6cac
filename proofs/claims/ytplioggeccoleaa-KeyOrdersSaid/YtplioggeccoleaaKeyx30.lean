-- Made by a program of this workplace (wip/pr.sh) out of Lean's print of the translation; Lean checks it.
import Derived.Test.YtplioggeccoleaaKeyx0
import Derived.Test.YtplioggeccoleaaKeyx2
import Derived.Test.YtplioggeccoleaaKeyx17
import Derived.Test.YtplioggeccoleaaKeyx20
import Derived.Test.YtplioggeccoleaaKeyx22
namespace Go.Proofs.Ytplioggeccoleaa.Key
open Go.Proofs.Ytplioggeccoleaa.Ext
open Go.RowKit Go.Proofs.YtplioggeccoleaaW.PrintWords Go.Proofs.YtplioggeccoleaaW.PrintLast Go.Proofs.YtplioggeccoleaaW.PrintMore
attribute [local go_sem] max2_int min2_int max_two min_two max_three min_three max_four min_four   -- for this text's walks alone
set_option linter.unusedVariables false
set_option linter.unusedSimpArgs false

attribute [local go_sem high] eqA29
/-! ### mantletlaw10_KeyOrders: function 7 -/
def mantletlaw10_KeyOrders.j0 : Nat → Int → Bool → Int → Int → Int → Int → Int → Option (Bool)
  | 0, _, _, _, _, _, _, _ => none
  | k + 1, x3, x48, x290000, x290001, x290002, x290003, x290004 => if x48 = true then (some false) else (if 0 ≤ (Int.tmod x3 13) then ((key_Stripe.f k x290000 x290001 x290002 x290003 x290004 (shl .i64 1 (Int.tmod x3 13))).bind fun t310 => ((mantletlaw10_awake.f k).bind fun t311 => (if t311 = true then (if t310 ≥ 0 then (if t310 < (shl .i64 1 (Int.tmod x3 13)) then (if (shl .i64 1 (Int.tmod x3 13)) = 1 then (some true) else ((key_Stripe.f k x290000 x290001 x290002 x290003 x290004 (wrap64 (Int.tdiv (shl .i64 1 (Int.tmod x3 13)) 2))).bind fun t312 => (if (wrap64 (Int.tdiv (shl .i64 1 (Int.tmod x3 13)) 2)) = 0 then (none) else (some (t312 == (Int.tmod t310 (wrap64 (Int.tdiv (shl .i64 1 (Int.tmod x3 13)) 2)))))))) else (some false)) else (some false)) else (some false)))) else (none))
def mantletlaw10_KeyOrders.f (k : Nat) (a0_0 : Int) (a0_1 : Int) (a0_2 : Int) (a0_3 : Int) (a0_4 : Int) (a1_0 : Int) (a1_1 : Int) (a1_2 : Int) (a1_3 : Int) (a1_4 : Int) (a2_0 : Int) (a2_1 : Int) (a2_2 : Int) (a2_3 : Int) (a2_4 : Int) (a3 : Int) : Option (Bool) := (key_Less.f k a0_0 a0_1 a0_2 a0_3 a0_4 a1_0 a1_1 a1_2 a1_3 a1_4).bind fun t292 => (if t292 = true then (if (((!(a0_0 == a1_0) || (!(a0_1 == a1_1))) || ((!(a0_2 == a1_2) || (!(a0_3 == a1_3))) || (!(a0_4 == a1_4)))) != true) = true then (mantletlaw10_KeyOrders.j0 k a3 true a0_0 a0_1 a0_2 a0_3 a0_4) else ((key_Less.f k a0_0 a0_1 a0_2 a0_3 a0_4 a1_0 a1_1 a1_2 a1_3 a1_4).bind fun t293 => (if t293 = true then ((key_Less.f k a1_0 a1_1 a1_2 a1_3 a1_4 a0_0 a0_1 a0_2 a0_3 a0_4).bind fun t294 => (if t294 = true then (mantletlaw10_KeyOrders.j0 k a3 true a0_0 a0_1 a0_2 a0_3 a0_4) else ((key_Less.f k a0_0 a0_1 a0_2 a0_3 a0_4 a1_0 a1_1 a1_2 a1_3 a1_4).bind fun t295 => (if t295 = true then ((key_Less.f k a1_0 a1_1 a1_2 a1_3 a1_4 a2_0 a2_1 a2_2 a2_3 a2_4).bind fun t296 => (if t296 = true then ((key_Less.f k a0_0 a0_1 a0_2 a0_3 a0_4 a2_0 a2_1 a2_2 a2_3 a2_4).bind fun t297 => (mantletlaw10_KeyOrders.j0 k a3 (!t297) a0_0 a0_1 a0_2 a0_3 a0_4)) else (mantletlaw10_KeyOrders.j0 k a3 false a0_0 a0_1 a0_2 a0_3 a0_4))) else (mantletlaw10_KeyOrders.j0 k a3 false a0_0 a0_1 a0_2 a0_3 a0_4))))) else ((key_Less.f k a0_0 a0_1 a0_2 a0_3 a0_4 a1_0 a1_1 a1_2 a1_3 a1_4).bind fun t298 => (if t298 = true then ((key_Less.f k a1_0 a1_1 a1_2 a1_3 a1_4 a2_0 a2_1 a2_2 a2_3 a2_4).bind fun t299 => (if t299 = true then ((key_Less.f k a0_0 a0_1 a0_2 a0_3 a0_4 a2_0 a2_1 a2_2 a2_3 a2_4).bind fun t300 => (mantletlaw10_KeyOrders.j0 k a3 (!t300) a0_0 a0_1 a0_2 a0_3 a0_4)) else (mantletlaw10_KeyOrders.j0 k a3 false a0_0 a0_1 a0_2 a0_3 a0_4))) else (mantletlaw10_KeyOrders.j0 k a3 false a0_0 a0_1 a0_2 a0_3 a0_4)))))) else ((key_Less.f k a1_0 a1_1 a1_2 a1_3 a1_4 a0_0 a0_1 a0_2 a0_3 a0_4).bind fun t301 => (if (((!(a0_0 == a1_0) || (!(a0_1 == a1_1))) || ((!(a0_2 == a1_2) || (!(a0_3 == a1_3))) || (!(a0_4 == a1_4)))) != t301) = true then (mantletlaw10_KeyOrders.j0 k a3 true a0_0 a0_1 a0_2 a0_3 a0_4) else ((key_Less.f k a0_0 a0_1 a0_2 a0_3 a0_4 a1_0 a1_1 a1_2 a1_3 a1_4).bind fun t302 => (if t302 = true then ((key_Less.f k a1_0 a1_1 a1_2 a1_3 a1_4 a0_0 a0_1 a0_2 a0_3 a0_4).bind fun t303 => (if t303 = true then (mantletlaw10_KeyOrders.j0 k a3 true a0_0 a0_1 a0_2 a0_3 a0_4) else ((key_Less.f k a0_0 a0_1 a0_2 a0_3 a0_4 a1_0 a1_1 a1_2 a1_3 a1_4).bind fun t304 => (if t304 = true then ((key_Less.f k a1_0 a1_1 a1_2 a1_3 a1_4 a2_0 a2_1 a2_2 a2_3 a2_4).bind fun t305 => (if t305 = true then ((key_Less.f k a0_0 a0_1 a0_2 a0_3 a0_4 a2_0 a2_1 a2_2 a2_3 a2_4).bind fun t306 => (mantletlaw10_KeyOrders.j0 k a3 (!t306) a0_0 a0_1 a0_2 a0_3 a0_4)) else (mantletlaw10_KeyOrders.j0 k a3 false a0_0 a0_1 a0_2 a0_3 a0_4))) else (mantletlaw10_KeyOrders.j0 k a3 false a0_0 a0_1 a0_2 a0_3 a0_4))))) else ((key_Less.f k a0_0 a0_1 a0_2 a0_3 a0_4 a1_0 a1_1 a1_2 a1_3 a1_4).bind fun t307 => (if t307 = true then ((key_Less.f k a1_0 a1_1 a1_2 a1_3 a1_4 a2_0 a2_1 a2_2 a2_3 a2_4).bind fun t308 => (if t308 = true then ((key_Less.f k a0_0 a0_1 a0_2 a0_3 a0_4 a2_0 a2_1 a2_2 a2_3 a2_4).bind fun t309 => (mantletlaw10_KeyOrders.j0 k a3 (!t309) a0_0 a0_1 a0_2 a0_3 a0_4)) else (mantletlaw10_KeyOrders.j0 k a3 false a0_0 a0_1 a0_2 a0_3 a0_4))) else (mantletlaw10_KeyOrders.j0 k a3 false a0_0 a0_1 a0_2 a0_3 a0_4))))))))
theorem mantletlaw10_KeyOrders.mono_l : ∀ k, (∀ y0 y1 y2 y3 y4 y5 y6, LeO (mantletlaw10_KeyOrders.j0 k y0 y1 y2 y3 y4 y5 y6) (mantletlaw10_KeyOrders.j0 (k + 1) y0 y1 y2 y3 y4 y5 y6))
  | 0 => fun _ _ _ _ _ _ _ r h => by simp [mantletlaw10_KeyOrders.j0] at h
  | k + 1 => by
    have ih0 := mantletlaw10_KeyOrders.mono_l k
    · intro y0 y1 y2 y3 y4 y5 y6
      unfold mantletlaw10_KeyOrders.j0
      repeat' first
      | (with_reducible exact ih0 _ _ _ _ _ _ _)
      | (with_reducible exact key_Less.mono _ _ _ _ _ _ _ _ _ _ _)
      | (with_reducible exact key_Stripe.mono _ _ _ _ _ _ _)
      | (with_reducible exact mantletlaw10_awake.mono _)
      | (with_reducible exact LeO.refl _)
      | (with_reducible exact LeO.none _)
      | (with_reducible refine LeO.ite ?_ ?_)
      | (with_reducible refine LeO.bind ?_ (fun _ => ?_))
      | exact ih0 _ _ _ _ _ _ _
      | exact key_Less.mono _ _ _ _ _ _ _ _ _ _ _
      | exact key_Stripe.mono _ _ _ _ _ _ _
      | exact mantletlaw10_awake.mono _
      | exact LeO.none _
      | refine LeO.ite ?_ ?_
      | refine LeO.bind ?_ (fun _ => ?_)
theorem mantletlaw10_KeyOrders.mono : ∀ a0 a1 a2 a3 a4 a5 a6 a7 a8 a9 a10 a11 a12 a13 a14 a15 k, LeO (mantletlaw10_KeyOrders.f k a0 a1 a2 a3 a4 a5 a6 a7 a8 a9 a10 a11 a12 a13 a14 a15) (mantletlaw10_KeyOrders.f (k + 1) a0 a1 a2 a3 a4 a5 a6 a7 a8 a9 a10 a11 a12 a13 a14 a15) := by
  intro a0 a1 a2 a3 a4 a5 a6 a7 a8 a9 a10 a11 a12 a13 a14 a15 k
  have ih0 := mantletlaw10_KeyOrders.mono_l k
  unfold mantletlaw10_KeyOrders.f
  repeat' first
      | (with_reducible exact ih0 _ _ _ _ _ _ _)
      | (with_reducible exact key_Less.mono _ _ _ _ _ _ _ _ _ _ _)
      | (with_reducible exact key_Stripe.mono _ _ _ _ _ _ _)
      | (with_reducible exact mantletlaw10_awake.mono _)
      | (with_reducible exact LeO.refl _)
      | (with_reducible exact LeO.none _)
      | (with_reducible refine LeO.ite ?_ ?_)
      | (with_reducible refine LeO.bind ?_ (fun _ => ?_))
      | exact ih0 _ _ _ _ _ _ _
      | exact key_Less.mono _ _ _ _ _ _ _ _ _ _ _
      | exact key_Stripe.mono _ _ _ _ _ _ _
      | exact mantletlaw10_awake.mono _
      | exact LeO.none _
      | refine LeO.ite ?_ ?_
      | refine LeO.bind ?_ (fun _ => ?_)
def mantletlaw10_KeyOrders.T1 : Bool × List (List Nat × List Nat) := (true, [([], []), ([], []), ([0, 1], [0, 1]), ([], []), ([], []), ([3, 4], [3, 4]), ([5, 5], [5]), ([6], [6]), ([6], [6]), ([7, 8, 6, 6], [6, 7, 8]), ([6, 9], [6, 9]), ([2, 10], [2, 10]), ([11, 9], [11]), ([12], [12]), ([12], [12]), ([13, 14, 12, 12], [12, 13, 14]), ([15, 15, 12], [12, 15]), ([16], [16]), ([16], [16]), ([17, 18, 16, 16], [16, 17, 18]), ([16, 19, 12], [12, 16, 19]), ([12, 20], [12, 20]), ([21, 19], [21]), ([22], [22]), ([22], [22]), ([23, 24, 22, 22], [22, 23, 24]), ([25, 25, 22], [22, 25]), ([26], [26]), ([26], [26]), ([27, 28, 26, 26], [26, 27, 28]), ([26, 29, 22], [22, 26, 29]), ([30, 29, 22], [22, 30]), ([31], [31]), ([31], [31]), ([32, 33, 31, 31], [31, 32, 33]), ([34, 31], [31, 34]), ([31, 35, 22], [22, 31, 35]), ([22, 36], [22, 36])])
def mantletlaw10_KeyOrders.B1 : List Nat := [0, 0, 3, 0, 0, 24, 56, 120, 120, 504, 1016, 2047, 4095, 8191, 8191, 32767, 65535, 131071, 131071, 524287, 1048575, 2097151, 4194303, 8388607, 8388607, 33554431, 67108863, 134217727, 134217727, 536870911, 1073741823, 2147483647, 4294967295, 4294967295, 17179869183, 34359738367, 68719476735, 137438953471]
theorem mantletlaw10_KeyOrders.tab1 : rtab .any (opsOf Try.f7 1) = mantletlaw10_KeyOrders.T1 := by kernel_rfl
theorem mantletlaw10_KeyOrders.bits1 : waitsOk mantletlaw10_KeyOrders.T1.2 mantletlaw10_KeyOrders.B1 = true := by kernel_rfl
def mantletlaw10_KeyOrders.T5 : Bool × List (List Nat × List Nat) := (true, [([], []), ([0, 0], [0]), ([1], [1]), ([2, 1], [1, 2]), ([1, 3], [1, 3]), ([4, 1], [4]), ([5], [5]), ([5], [5]), ([6, 7, 5], [5, 6, 7]), ([5, 8], [5, 8]), ([9, 5], [9]), ([10], [10]), ([11, 10], [10, 11]), ([12, 10, 10], [10, 12]), ([13], [13]), ([13], [13]), ([15, 13], [13, 15]), ([14, 16, 13, 13], [13, 14, 16]), ([13], [13]), ([13], [13]), ([19, 13], [13, 19]), ([18, 20, 13], [13, 18, 20]), ([17, 21, 13], [13, 17, 21]), ([13, 22, 10], [10, 13, 22]), ([10, 23], [10, 23]), ([24, 17, 0, 1, 2, 3, 4, 5, 6, 7, 8, 9, 10, 11, 12, 13, 14, 15, 16, 17, 18, 19, 20, 21, 22, 23, 24], [24])])
def mantletlaw10_KeyOrders.B5 : List Nat := [0, 1, 3, 7, 15, 31, 63, 63, 255, 511, 1023, 2047, 4095, 8191, 16383, 16383, 49151, 131071, 16383, 16383, 540671, 1851391, 4194303, 8388607, 16777215, 33554431]
theorem mantletlaw10_KeyOrders.tab5 : rtab .any (opsOf Try.f7 5) = mantletlaw10_KeyOrders.T5 := by kernel_rfl
theorem mantletlaw10_KeyOrders.bits5 : waitsOk mantletlaw10_KeyOrders.T5.2 mantletlaw10_KeyOrders.B5 = true := by kernel_rfl
theorem mantletlaw10_KeyOrders.no_ {k : Nat} {y0 y2 y3 y4 y5 y6 : Int} {r : Bool} (h : mantletlaw10_KeyOrders.j0 k y0 true y2 y3 y4 y5 y6 = some r) : r = false := by
  cases k with
  | zero => simp [mantletlaw10_KeyOrders.j0] at h
  | succ k => simp [mantletlaw10_KeyOrders.j0] at h; exact h
set_option maxHeartbeats 8000000 in
set_option maxRecDepth 100000 in
theorem mantletlaw10_KeyOrders.calls (k : Nat) (a0_0 : Int) (a0_1 : Int) (a0_2 : Int) (a0_3 : Int) (a0_4 : Int) (a1_0 : Int) (a1_1 : Int) (a1_2 : Int) (a1_3 : Int) (a1_4 : Int) (a2_0 : Int) (a2_1 : Int) (a2_2 : Int) (a2_3 : Int) (a2_4 : Int) (a3 : Int) (r : Bool) (w : World) (h : mantletlaw10_KeyOrders.f k a0_0 a0_1 a0_2 a0_3 a0_4 a1_0 a1_1 a1_2 a1_3 a1_4 a2_0 a2_1 a2_2 a2_3 a2_4 a3 = some r) (hT_ : r = true) :
    Calls Try.prog 7 #[.agg #[.int .u32 a0_0, .int .u32 a0_1, .int .u16 a0_2, .int .u16 a0_3, .int .u8 a0_4], .agg #[.int .u32 a1_0, .int .u32 a1_1, .int .u16 a1_2, .int .u16 a1_3, .int .u8 a1_4], .agg #[.int .u32 a2_0, .int .u32 a2_1, .int .u16 a2_2, .int .u16 a2_3, .int .u8 a2_4], .int .u8 a3] w fun e w' => e = .returned (.bool r) ∧ Below w.heap.size w w' := by
  have HT := Aside0.mk hT_
  clear hT_
  have hu29 := Try.underlying29
  have HB := Aside0.mk (Below.refl w.heap.size w)
  have H : ((key_Less.f k a0_0 a0_1 a0_2 a0_3 a0_4 a1_0 a1_1 a1_2 a1_3 a1_4).bind fun t292 => (if t292 = true then (if (((!(a0_0 == a1_0) || (!(a0_1 == a1_1))) || ((!(a0_2 == a1_2) || (!(a0_3 == a1_3))) || (!(a0_4 == a1_4)))) != true) = true then (mantletlaw10_KeyOrders.j0 k a3 true a0_0 a0_1 a0_2 a0_3 a0_4) else ((key_Less.f k a0_0 a0_1 a0_2 a0_3 a0_4 a1_0 a1_1 a1_2 a1_3 a1_4).bind fun t293 => (if t293 = true then ((key_Less.f k a1_0 a1_1 a1_2 a1_3 a1_4 a0_0 a0_1 a0_2 a0_3 a0_4).bind fun t294 => (if t294 = true then (mantletlaw10_KeyOrders.j0 k a3 true a0_0 a0_1 a0_2 a0_3 a0_4) else ((key_Less.f k a0_0 a0_1 a0_2 a0_3 a0_4 a1_0 a1_1 a1_2 a1_3 a1_4).bind fun t295 => (if t295 = true then ((key_Less.f k a1_0 a1_1 a1_2 a1_3 a1_4 a2_0 a2_1 a2_2 a2_3 a2_4).bind fun t296 => (if t296 = true then ((key_Less.f k a0_0 a0_1 a0_2 a0_3 a0_4 a2_0 a2_1 a2_2 a2_3 a2_4).bind fun t297 => (mantletlaw10_KeyOrders.j0 k a3 (!t297) a0_0 a0_1 a0_2 a0_3 a0_4)) else (mantletlaw10_KeyOrders.j0 k a3 false a0_0 a0_1 a0_2 a0_3 a0_4))) else (mantletlaw10_KeyOrders.j0 k a3 false a0_0 a0_1 a0_2 a0_3 a0_4))))) else ((key_Less.f k a0_0 a0_1 a0_2 a0_3 a0_4 a1_0 a1_1 a1_2 a1_3 a1_4).bind fun t298 => (if t298 = true then ((key_Less.f k a1_0 a1_1 a1_2 a1_3 a1_4 a2_0 a2_1 a2_2 a2_3 a2_4).bind fun t299 => (if t299 = true then ((key_Less.f k a0_0 a0_1 a0_2 a0_3 a0_4 a2_0 a2_1 a2_2 a2_3 a2_4).bind fun t300 => (mantletlaw10_KeyOrders.j0 k a3 (!t300) a0_0 a0_1 a0_2 a0_3 a0_4)) else (mantletlaw10_KeyOrders.j0 k a3 false a0_0 a0_1 a0_2 a0_3 a0_4))) else (mantletlaw10_KeyOrders.j0 k a3 false a0_0 a0_1 a0_2 a0_3 a0_4)))))) else ((key_Less.f k a1_0 a1_1 a1_2 a1_3 a1_4 a0_0 a0_1 a0_2 a0_3 a0_4).bind fun t301 => (if (((!(a0_0 == a1_0) || (!(a0_1 == a1_1))) || ((!(a0_2 == a1_2) || (!(a0_3 == a1_3))) || (!(a0_4 == a1_4)))) != t301) = true then (mantletlaw10_KeyOrders.j0 k a3 true a0_0 a0_1 a0_2 a0_3 a0_4) else ((key_Less.f k a0_0 a0_1 a0_2 a0_3 a0_4 a1_0 a1_1 a1_2 a1_3 a1_4).bind fun t302 => (if t302 = true then ((key_Less.f k a1_0 a1_1 a1_2 a1_3 a1_4 a0_0 a0_1 a0_2 a0_3 a0_4).bind fun t303 => (if t303 = true then (mantletlaw10_KeyOrders.j0 k a3 true a0_0 a0_1 a0_2 a0_3 a0_4) else ((key_Less.f k a0_0 a0_1 a0_2 a0_3 a0_4 a1_0 a1_1 a1_2 a1_3 a1_4).bind fun t304 => (if t304 = true then ((key_Less.f k a1_0 a1_1 a1_2 a1_3 a1_4 a2_0 a2_1 a2_2 a2_3 a2_4).bind fun t305 => (if t305 = true then ((key_Less.f k a0_0 a0_1 a0_2 a0_3 a0_4 a2_0 a2_1 a2_2 a2_3 a2_4).bind fun t306 => (mantletlaw10_KeyOrders.j0 k a3 (!t306) a0_0 a0_1 a0_2 a0_3 a0_4)) else (mantletlaw10_KeyOrders.j0 k a3 false a0_0 a0_1 a0_2 a0_3 a0_4))) else (mantletlaw10_KeyOrders.j0 k a3 false a0_0 a0_1 a0_2 a0_3 a0_4))))) else ((key_Less.f k a0_0 a0_1 a0_2 a0_3 a0_4 a1_0 a1_1 a1_2 a1_3 a1_4).bind fun t307 => (if t307 = true then ((key_Less.f k a1_0 a1_1 a1_2 a1_3 a1_4 a2_0 a2_1 a2_2 a2_3 a2_4).bind fun t308 => (if t308 = true then ((key_Less.f k a0_0 a0_1 a0_2 a0_3 a0_4 a2_0 a2_1 a2_2 a2_3 a2_4).bind fun t309 => (mantletlaw10_KeyOrders.j0 k a3 (!t309) a0_0 a0_1 a0_2 a0_3 a0_4)) else (mantletlaw10_KeyOrders.j0 k a3 false a0_0 a0_1 a0_2 a0_3 a0_4))) else (mantletlaw10_KeyOrders.j0 k a3 false a0_0 a0_1 a0_2 a0_3 a0_4))))))))) = some r := h
  clear h
  have HC5 := Aside0.mk H
  clear H
  go_enter Try.func7, Try.ntmps7
  go_upto_region 1 with (first | ((with_reducible refine gate_dst (N := 4) rfl ?_); refine box_event ?hg (N := 4) ?hd (cs := #[.int .u32 a0_0, .int .u32 a0_1, .int .u16 a0_2, .int .u16 a0_3, .int .u8 a0_4]) (t := 29) ?hr ?_; (case hd => rfl); (case hg => rfl); (case hr => first | (go_simp; done) | (go_simp; rfl)); intro gb289 hg w6 hbox hb; have n0_ := Aside0.mk (below_step (by repeat first | (with_reducible first | exact HB.out | apply below_alloc | apply pw_below_drewN | apply below_drew1) | exact HB.out) hb); have n1_ := Aside0.mk (hbox); have n2_ := Aside0.mk ((by rw [hg]; exact (below_size (by repeat first | (with_reducible first | exact HB.out | apply below_alloc | apply pw_below_drewN | apply below_drew1) | exact HB.out)) : w.heap.size ≤ gb289)); have n3_ := Aside0.mk ((by rw [hg]; exact (below_size (by repeat first | (with_reducible first | exact HB.out | apply below_alloc | apply pw_below_drewN | apply below_drew1) | exact HB.out)) : w.heap.size ≤ gb289)); clear HB; have HB := n0_; have BK289 := n1_; have GW289 := n2_; have GE289 := n3_; clear n0_ n1_ n2_ n3_; clear hb hbox hg) | ((with_reducible refine gate_dst (N := 5) rfl ?_); refine box_event ?hg (N := 5) ?hd (cs := #[.int .u32 a1_0, .int .u32 a1_1, .int .u16 a1_2, .int .u16 a1_3, .int .u8 a1_4]) (t := 29) ?hr ?_; (case hd => rfl); (case hg => rfl); (case hr => first | (go_simp; done) | (go_simp; rfl)); intro gb290 hg w7 hbox hb; have n0_ := Aside0.mk (blk_below (g := gb289) (o := .cells #[.int .u32 a0_0, .int .u32 a0_1, .int .u16 a0_2, .int .u16 a0_3, .int .u8 a0_4] 29 (0, 0)) (by (with_reducible repeat first | apply blk_drewN | apply blk_drew | apply blk_alloc); exact BK289.out) hb); have n1_ := Aside0.mk (below_step (by repeat first | (with_reducible first | exact HB.out | apply below_alloc | apply pw_below_drewN | apply below_drew1 | refine below_set ?_ GE289.out) | exact HB.out) hb); have n2_ := Aside0.mk (hbox); have n3_ := Aside0.mk ((by rw [hg]; exact (below_size (by repeat first | (with_reducible first | exact HB.out | apply below_alloc | apply pw_below_drewN | apply below_drew1 | refine below_set ?_ GE289.out) | exact HB.out)) : w.heap.size ≤ gb290)); have n4_ := Aside0.mk ((by rw [hg]; exact (below_size (by repeat first | (with_reducible first | exact HB.out | apply below_alloc | apply pw_below_drewN | apply below_drew1 | refine below_set ?_ GE289.out) | exact HB.out)) : w.heap.size ≤ gb290)); have n5_ := Aside0.mk ((by rw [hg]; exact Nat.ne_of_lt (blk_lt (g := gb289) (o := .cells #[.int .u32 a0_0, .int .u32 a0_1, .int .u16 a0_2, .int .u16 a0_3, .int .u8 a0_4] 29 (0, 0)) (by (with_reducible repeat first | apply blk_drewN | apply blk_drew | apply blk_alloc); exact BK289.out)) : gb289 ≠ gb290)); have n6_ := Aside0.mk ((by rw [hg]; exact Nat.ne_of_gt (blk_lt (g := gb289) (o := .cells #[.int .u32 a0_0, .int .u32 a0_1, .int .u16 a0_2, .int .u16 a0_3, .int .u8 a0_4] 29 (0, 0)) (by (with_reducible repeat first | apply blk_drewN | apply blk_drew | apply blk_alloc); exact BK289.out)) : gb290 ≠ gb289)); clear BK289; clear HB; have BK289 := n0_; have HB := n1_; have BK290 := n2_; have GW290 := n3_; have GE290 := n4_; have NB289_290 := n5_; have NB290_289 := n6_; clear n0_ n1_ n2_ n3_ n4_ n5_ n6_; clear hb hbox hg) | ((with_reducible refine gate_dst (N := 6) rfl ?_); refine box_event ?hg (N := 6) ?hd (cs := #[.int .u32 a2_0, .int .u32 a2_1, .int .u16 a2_2, .int .u16 a2_3, .int .u8 a2_4]) (t := 29) ?hr ?_; (case hd => rfl); (case hg => rfl); (case hr => first | (go_simp; done) | (go_simp; rfl)); intro gb291 hg w8 hbox hb; have n0_ := Aside0.mk (blk_below (g := gb289) (o := .cells #[.int .u32 a0_0, .int .u32 a0_1, .int .u16 a0_2, .int .u16 a0_3, .int .u8 a0_4] 29 (0, 0)) (by (with_reducible repeat first | apply blk_drewN | apply blk_drew | apply blk_alloc); exact BK289.out) hb); have n1_ := Aside0.mk (blk_below (g := gb290) (o := .cells #[.int .u32 a1_0, .int .u32 a1_1, .int .u16 a1_2, .int .u16 a1_3, .int .u8 a1_4] 29 (0, 0)) (by (with_reducible repeat first | apply blk_drewN | apply blk_drew | apply blk_alloc); exact BK290.out) hb); have n2_ := Aside0.mk (below_step (by repeat first | (with_reducible first | exact HB.out | apply below_alloc | apply pw_below_drewN | apply below_drew1 | refine below_set ?_ GE289.out | refine below_set ?_ GE290.out) | exact HB.out) hb); have n3_ := Aside0.mk (hbox); have n4_ := Aside0.mk ((by rw [hg]; exact (below_size (by repeat first | (with_reducible first | exact HB.out | apply below_alloc | apply pw_below_drewN | apply below_drew1 | refine below_set ?_ GE289.out | refine below_set ?_ GE290.out) | exact HB.out)) : w.heap.size ≤ gb291)); have n5_ := Aside0.mk ((by rw [hg]; exact (below_size (by repeat first | (with_reducible first | exact HB.out | apply below_alloc | apply pw_below_drewN | apply below_drew1 | refine below_set ?_ GE289.out | refine below_set ?_ GE290.out) | exact HB.out)) : w.heap.size ≤ gb291)); have n6_ := Aside0.mk ((by rw [hg]; exact Nat.ne_of_lt (blk_lt (g := gb289) (o := .cells #[.int .u32 a0_0, .int .u32 a0_1, .int .u16 a0_2, .int .u16 a0_3, .int .u8 a0_4] 29 (0, 0)) (by (with_reducible repeat first | apply blk_drewN | apply blk_drew | apply blk_alloc); exact BK289.out)) : gb289 ≠ gb291)); have n7_ := Aside0.mk ((by rw [hg]; exact Nat.ne_of_gt (blk_lt (g := gb289) (o := .cells #[.int .u32 a0_0, .int .u32 a0_1, .int .u16 a0_2, .int .u16 a0_3, .int .u8 a0_4] 29 (0, 0)) (by (with_reducible repeat first | apply blk_drewN | apply blk_drew | apply blk_alloc); exact BK289.out)) : gb291 ≠ gb289)); have n8_ := Aside0.mk ((by rw [hg]; exact Nat.ne_of_lt (blk_lt (g := gb290) (o := .cells #[.int .u32 a1_0, .int .u32 a1_1, .int .u16 a1_2, .int .u16 a1_3, .int .u8 a1_4] 29 (0, 0)) (by (with_reducible repeat first | apply blk_drewN | apply blk_drew | apply blk_alloc); exact BK290.out)) : gb290 ≠ gb291)); have n9_ := Aside0.mk ((by rw [hg]; exact Nat.ne_of_gt (blk_lt (g := gb290) (o := .cells #[.int .u32 a1_0, .int .u32 a1_1, .int .u16 a1_2, .int .u16 a1_3, .int .u8 a1_4] 29 (0, 0)) (by (with_reducible repeat first | apply blk_drewN | apply blk_drew | apply blk_alloc); exact BK290.out)) : gb291 ≠ gb290)); clear BK289; clear BK290; clear HB; have BK289 := n0_; have BK290 := n1_; have HB := n2_; have BK291 := n3_; have GW291 := n4_; have GE291 := n5_; have NB289_291 := n6_; have NB291_289 := n7_; have NB290_291 := n8_; have NB291_290 := n9_; clear n0_ n1_ n2_ n3_ n4_ n5_ n6_ n7_ n8_ n9_; clear hb hbox hg))
  (try simp only [Act.put, List.setIfInBounds_toArray, List.set_cons_zero, List.set_cons_succ])
  go_cut [48] (fun v48 wc => ∃ (kq : Nat) (x48_4 : Bool), v48 = .bool x48_4 ∧ Aside0 (mantletlaw10_KeyOrders.j0 kq a3 x48_4 a0_0 a0_1 a0_2 a0_3 a0_4 = some r) ∧ Aside0 (kq ≤ k) ∧ Aside0 (wc.heap[gb289]? = some (.cells #[.int .u32 a0_0, .int .u32 a0_1, .int .u16 a0_2, .int .u16 a0_3, .int .u8 a0_4] 29 (0, 0))) ∧ Aside0 (wc.heap[gb290]? = some (.cells #[.int .u32 a1_0, .int .u32 a1_1, .int .u16 a1_2, .int .u16 a1_3, .int .u8 a1_4] 29 (0, 0))) ∧ Aside0 (wc.heap[gb291]? = some (.cells #[.int .u32 a2_0, .int .u32 a2_1, .int .u16 a2_2, .int .u16 a2_3, .int .u8 a2_4] 29 (0, 0))) ∧ Aside0 (Below w.heap.size w wc))
  case first =>
    have H := HC5.out
    clear HC5
    replace H := Option.bind_eq_some_iff.mp H
    obtain ⟨t292, A90, H⟩ := H
    replace H : (if t292 = true then (if (((!(a0_0 == a1_0) || (!(a0_1 == a1_1))) || ((!(a0_2 == a1_2) || (!(a0_3 == a1_3))) || (!(a0_4 == a1_4)))) != true) = true then (mantletlaw10_KeyOrders.j0 k a3 true a0_0 a0_1 a0_2 a0_3 a0_4) else ((key_Less.f k a0_0 a0_1 a0_2 a0_3 a0_4 a1_0 a1_1 a1_2 a1_3 a1_4).bind fun t293 => (if t293 = true then ((key_Less.f k a1_0 a1_1 a1_2 a1_3 a1_4 a0_0 a0_1 a0_2 a0_3 a0_4).bind fun t294 => (if t294 = true then (mantletlaw10_KeyOrders.j0 k a3 true a0_0 a0_1 a0_2 a0_3 a0_4) else ((key_Less.f k a0_0 a0_1 a0_2 a0_3 a0_4 a1_0 a1_1 a1_2 a1_3 a1_4).bind fun t295 => (if t295 = true then ((key_Less.f k a1_0 a1_1 a1_2 a1_3 a1_4 a2_0 a2_1 a2_2 a2_3 a2_4).bind fun t296 => (if t296 = true then ((key_Less.f k a0_0 a0_1 a0_2 a0_3 a0_4 a2_0 a2_1 a2_2 a2_3 a2_4).bind fun t297 => (mantletlaw10_KeyOrders.j0 k a3 (!t297) a0_0 a0_1 a0_2 a0_3 a0_4)) else (mantletlaw10_KeyOrders.j0 k a3 false a0_0 a0_1 a0_2 a0_3 a0_4))) else (mantletlaw10_KeyOrders.j0 k a3 false a0_0 a0_1 a0_2 a0_3 a0_4))))) else ((key_Less.f k a0_0 a0_1 a0_2 a0_3 a0_4 a1_0 a1_1 a1_2 a1_3 a1_4).bind fun t298 => (if t298 = true then ((key_Less.f k a1_0 a1_1 a1_2 a1_3 a1_4 a2_0 a2_1 a2_2 a2_3 a2_4).bind fun t299 => (if t299 = true then ((key_Less.f k a0_0 a0_1 a0_2 a0_3 a0_4 a2_0 a2_1 a2_2 a2_3 a2_4).bind fun t300 => (mantletlaw10_KeyOrders.j0 k a3 (!t300) a0_0 a0_1 a0_2 a0_3 a0_4)) else (mantletlaw10_KeyOrders.j0 k a3 false a0_0 a0_1 a0_2 a0_3 a0_4))) else (mantletlaw10_KeyOrders.j0 k a3 false a0_0 a0_1 a0_2 a0_3 a0_4)))))) else ((key_Less.f k a1_0 a1_1 a1_2 a1_3 a1_4 a0_0 a0_1 a0_2 a0_3 a0_4).bind fun t301 => (if (((!(a0_0 == a1_0) || (!(a0_1 == a1_1))) || ((!(a0_2 == a1_2) || (!(a0_3 == a1_3))) || (!(a0_4 == a1_4)))) != t301) = true then (mantletlaw10_KeyOrders.j0 k a3 true a0_0 a0_1 a0_2 a0_3 a0_4) else ((key_Less.f k a0_0 a0_1 a0_2 a0_3 a0_4 a1_0 a1_1 a1_2 a1_3 a1_4).bind fun t302 => (if t302 = true then ((key_Less.f k a1_0 a1_1 a1_2 a1_3 a1_4 a0_0 a0_1 a0_2 a0_3 a0_4).bind fun t303 => (if t303 = true then (mantletlaw10_KeyOrders.j0 k a3 true a0_0 a0_1 a0_2 a0_3 a0_4) else ((key_Less.f k a0_0 a0_1 a0_2 a0_3 a0_4 a1_0 a1_1 a1_2 a1_3 a1_4).bind fun t304 => (if t304 = true then ((key_Less.f k a1_0 a1_1 a1_2 a1_3 a1_4 a2_0 a2_1 a2_2 a2_3 a2_4).bind fun t305 => (if t305 = true then ((key_Less.f k a0_0 a0_1 a0_2 a0_3 a0_4 a2_0 a2_1 a2_2 a2_3 a2_4).bind fun t306 => (mantletlaw10_KeyOrders.j0 k a3 (!t306) a0_0 a0_1 a0_2 a0_3 a0_4)) else (mantletlaw10_KeyOrders.j0 k a3 false a0_0 a0_1 a0_2 a0_3 a0_4))) else (mantletlaw10_KeyOrders.j0 k a3 false a0_0 a0_1 a0_2 a0_3 a0_4))))) else ((key_Less.f k a0_0 a0_1 a0_2 a0_3 a0_4 a1_0 a1_1 a1_2 a1_3 a1_4).bind fun t307 => (if t307 = true then ((key_Less.f k a1_0 a1_1 a1_2 a1_3 a1_4 a2_0 a2_1 a2_2 a2_3 a2_4).bind fun t308 => (if t308 = true then ((key_Less.f k a0_0 a0_1 a0_2 a0_3 a0_4 a2_0 a2_1 a2_2 a2_3 a2_4).bind fun t309 => (mantletlaw10_KeyOrders.j0 k a3 (!t309) a0_0 a0_1 a0_2 a0_3 a0_4)) else (mantletlaw10_KeyOrders.j0 k a3 false a0_0 a0_1 a0_2 a0_3 a0_4))) else (mantletlaw10_KeyOrders.j0 k a3 false a0_0 a0_1 a0_2 a0_3 a0_4)))))))) = some r := H
    have A9 := Aside0.mk A90
    clear A90
    by_cases c10 : t292 = true
    · subst c10
      have H1 : (if (((!(a0_0 == a1_0) || (!(a0_1 == a1_1))) || ((!(a0_2 == a1_2) || (!(a0_3 == a1_3))) || (!(a0_4 == a1_4)))) != true) = true then (mantletlaw10_KeyOrders.j0 k a3 true a0_0 a0_1 a0_2 a0_3 a0_4) else ((key_Less.f k a0_0 a0_1 a0_2 a0_3 a0_4 a1_0 a1_1 a1_2 a1_3 a1_4).bind fun t293 => (if t293 = true then ((key_Less.f k a1_0 a1_1 a1_2 a1_3 a1_4 a0_0 a0_1 a0_2 a0_3 a0_4).bind fun t294 => (if t294 = true then (mantletlaw10_KeyOrders.j0 k a3 true a0_0 a0_1 a0_2 a0_3 a0_4) else ((key_Less.f k a0_0 a0_1 a0_2 a0_3 a0_4 a1_0 a1_1 a1_2 a1_3 a1_4).bind fun t295 => (if t295 = true then ((key_Less.f k a1_0 a1_1 a1_2 a1_3 a1_4 a2_0 a2_1 a2_2 a2_3 a2_4).bind fun t296 => (if t296 = true then ((key_Less.f k a0_0 a0_1 a0_2 a0_3 a0_4 a2_0 a2_1 a2_2 a2_3 a2_4).bind fun t297 => (mantletlaw10_KeyOrders.j0 k a3 (!t297) a0_0 a0_1 a0_2 a0_3 a0_4)) else (mantletlaw10_KeyOrders.j0 k a3 false a0_0 a0_1 a0_2 a0_3 a0_4))) else (mantletlaw10_KeyOrders.j0 k a3 false a0_0 a0_1 a0_2 a0_3 a0_4))))) else ((key_Less.f k a0_0 a0_1 a0_2 a0_3 a0_4 a1_0 a1_1 a1_2 a1_3 a1_4).bind fun t298 => (if t298 = true then ((key_Less.f k a1_0 a1_1 a1_2 a1_3 a1_4 a2_0 a2_1 a2_2 a2_3 a2_4).bind fun t299 => (if t299 = true then ((key_Less.f k a0_0 a0_1 a0_2 a0_3 a0_4 a2_0 a2_1 a2_2 a2_3 a2_4).bind fun t300 => (mantletlaw10_KeyOrders.j0 k a3 (!t300) a0_0 a0_1 a0_2 a0_3 a0_4)) else (mantletlaw10_KeyOrders.j0 k a3 false a0_0 a0_1 a0_2 a0_3 a0_4))) else (mantletlaw10_KeyOrders.j0 k a3 false a0_0 a0_1 a0_2 a0_3 a0_4)))))) = some r := by rw [if_pos rfl] at H; exact H
      clear H
      have H := H1
      clear H1
      by_cases c11 : (((!(a0_0 == a1_0) || (!(a0_1 == a1_1))) || ((!(a0_2 == a1_2) || (!(a0_3 == a1_3))) || (!(a0_4 == a1_4)))) != true) = true
      · rw [if_pos c11] at H
        exact absurd ((mantletlaw10_KeyOrders.no_ H).symm.trans HT.out) (by decide)
      · rw [if_neg c11] at H
        have c11b0 : (((!(a0_0 == a1_0) || (!(a0_1 == a1_1))) || ((!(a0_2 == a1_2) || (!(a0_3 == a1_3))) || (!(a0_4 == a1_4)))) != true) = false := by simpa using c11
        have c11b9 : (a0_0 == a1_0 && a0_1 == a1_1 && (a0_2 == a1_2 && a0_3 == a1_3 && a0_4 == a1_4)) = false := by revert c11; generalize (a0_0 == a1_0) = z0; generalize (a0_1 == a1_1) = z1; generalize (a0_2 == a1_2) = z2; generalize (a0_3 == a1_3) = z3; generalize (a0_4 == a1_4) = z4; cases z0 <;> cases z1 <;> cases z2 <;> cases z3 <;> cases z4 <;> simp
        (try (have c11b1 : decide (((!(a0_0 == a1_0) || (!(a0_1 == a1_1))) || ((!(a0_2 == a1_2) || (!(a0_3 == a1_3))) || (!(a0_4 == a1_4)))) = true) = true := by simpa using c11))
        (try (have c11b2 : (((!(a0_0 == a1_0) || (!(a0_1 == a1_1))) || ((!(a0_2 == a1_2) || (!(a0_3 == a1_3))) || (!(a0_4 == a1_4)))) == true) = true := by simpa using c11))
        clear c11
        (first | rw [c11b0] | (simp only [i64_w, i32_w]; rw [c11b0]) | skip)
        replace H := Option.bind_eq_some_iff.mp H
        obtain ⟨t293, A140, H⟩ := H
        replace H : (if t293 = true then ((key_Less.f k a1_0 a1_1 a1_2 a1_3 a1_4 a0_0 a0_1 a0_2 a0_3 a0_4).bind fun t294 => (if t294 = true then (mantletlaw10_KeyOrders.j0 k a3 true a0_0 a0_1 a0_2 a0_3 a0_4) else ((key_Less.f k a0_0 a0_1 a0_2 a0_3 a0_4 a1_0 a1_1 a1_2 a1_3 a1_4).bind fun t295 => (if t295 = true then ((key_Less.f k a1_0 a1_1 a1_2 a1_3 a1_4 a2_0 a2_1 a2_2 a2_3 a2_4).bind fun t296 => (if t296 = true then ((key_Less.f k a0_0 a0_1 a0_2 a0_3 a0_4 a2_0 a2_1 a2_2 a2_3 a2_4).bind fun t297 => (mantletlaw10_KeyOrders.j0 k a3 (!t297) a0_0 a0_1 a0_2 a0_3 a0_4)) else (mantletlaw10_KeyOrders.j0 k a3 false a0_0 a0_1 a0_2 a0_3 a0_4))) else (mantletlaw10_KeyOrders.j0 k a3 false a0_0 a0_1 a0_2 a0_3 a0_4))))) else ((key_Less.f k a0_0 a0_1 a0_2 a0_3 a0_4 a1_0 a1_1 a1_2 a1_3 a1_4).bind fun t298 => (if t298 = true then ((key_Less.f k a1_0 a1_1 a1_2 a1_3 a1_4 a2_0 a2_1 a2_2 a2_3 a2_4).bind fun t299 => (if t299 = true then ((key_Less.f k a0_0 a0_1 a0_2 a0_3 a0_4 a2_0 a2_1 a2_2 a2_3 a2_4).bind fun t300 => (mantletlaw10_KeyOrders.j0 k a3 (!t300) a0_0 a0_1 a0_2 a0_3 a0_4)) else (mantletlaw10_KeyOrders.j0 k a3 false a0_0 a0_1 a0_2 a0_3 a0_4))) else (mantletlaw10_KeyOrders.j0 k a3 false a0_0 a0_1 a0_2 a0_3 a0_4)))) = some r := H
        have A14 := Aside0.mk A140
        clear A140
        by_cases c15 : t293 = true
        · subst c15
          have H1 : ((key_Less.f k a1_0 a1_1 a1_2 a1_3 a1_4 a0_0 a0_1 a0_2 a0_3 a0_4).bind fun t294 => (if t294 = true then (mantletlaw10_KeyOrders.j0 k a3 true a0_0 a0_1 a0_2 a0_3 a0_4) else ((key_Less.f k a0_0 a0_1 a0_2 a0_3 a0_4 a1_0 a1_1 a1_2 a1_3 a1_4).bind fun t295 => (if t295 = true then ((key_Less.f k a1_0 a1_1 a1_2 a1_3 a1_4 a2_0 a2_1 a2_2 a2_3 a2_4).bind fun t296 => (if t296 = true then ((key_Less.f k a0_0 a0_1 a0_2 a0_3 a0_4 a2_0 a2_1 a2_2 a2_3 a2_4).bind fun t297 => (mantletlaw10_KeyOrders.j0 k a3 (!t297) a0_0 a0_1 a0_2 a0_3 a0_4)) else (mantletlaw10_KeyOrders.j0 k a3 false a0_0 a0_1 a0_2 a0_3 a0_4))) else (mantletlaw10_KeyOrders.j0 k a3 false a0_0 a0_1 a0_2 a0_3 a0_4))))) = some r := by rw [if_pos rfl] at H; exact H
          clear H
          have H := H1
          clear H1
          replace H := Option.bind_eq_some_iff.mp H
          obtain ⟨t294, A160, H⟩ := H
          replace H : (if t294 = true then (mantletlaw10_KeyOrders.j0 k a3 true a0_0 a0_1 a0_2 a0_3 a0_4) else ((key_Less.f k a0_0 a0_1 a0_2 a0_3 a0_4 a1_0 a1_1 a1_2 a1_3 a1_4).bind fun t295 => (if t295 = true then ((key_Less.f k a1_0 a1_1 a1_2 a1_3 a1_4 a2_0 a2_1 a2_2 a2_3 a2_4).bind fun t296 => (if t296 = true then ((key_Less.f k a0_0 a0_1 a0_2 a0_3 a0_4 a2_0 a2_1 a2_2 a2_3 a2_4).bind fun t297 => (mantletlaw10_KeyOrders.j0 k a3 (!t297) a0_0 a0_1 a0_2 a0_3 a0_4)) else (mantletlaw10_KeyOrders.j0 k a3 false a0_0 a0_1 a0_2 a0_3 a0_4))) else (mantletlaw10_KeyOrders.j0 k a3 false a0_0 a0_1 a0_2 a0_3 a0_4)))) = some r := H
          have A16 := Aside0.mk A160
          clear A160
          by_cases c17 : t294 = true
          · subst c17
            have H1 : (mantletlaw10_KeyOrders.j0 k a3 true a0_0 a0_1 a0_2 a0_3 a0_4) = some r := by rw [if_pos rfl] at H; exact H
            clear H
            exact absurd ((mantletlaw10_KeyOrders.no_ H1).symm.trans HT.out) (by decide)
          · replace c17 := Bool.eq_false_iff.mpr c17
            subst c17
            have H1 : ((key_Less.f k a0_0 a0_1 a0_2 a0_3 a0_4 a1_0 a1_1 a1_2 a1_3 a1_4).bind fun t295 => (if t295 = true then ((key_Less.f k a1_0 a1_1 a1_2 a1_3 a1_4 a2_0 a2_1 a2_2 a2_3 a2_4).bind fun t296 => (if t296 = true then ((key_Less.f k a0_0 a0_1 a0_2 a0_3 a0_4 a2_0 a2_1 a2_2 a2_3 a2_4).bind fun t297 => (mantletlaw10_KeyOrders.j0 k a3 (!t297) a0_0 a0_1 a0_2 a0_3 a0_4)) else (mantletlaw10_KeyOrders.j0 k a3 false a0_0 a0_1 a0_2 a0_3 a0_4))) else (mantletlaw10_KeyOrders.j0 k a3 false a0_0 a0_1 a0_2 a0_3 a0_4))) = some r := by rw [if_neg (show ¬ (false = true) by decide)] at H; exact H
            clear H
            have H := H1
            clear H1
            replace H := Option.bind_eq_some_iff.mp H
            obtain ⟨t295, A220, H⟩ := H
            replace H : (if t295 = true then ((key_Less.f k a1_0 a1_1 a1_2 a1_3 a1_4 a2_0 a2_1 a2_2 a2_3 a2_4).bind fun t296 => (if t296 = true then ((key_Less.f k a0_0 a0_1 a0_2 a0_3 a0_4 a2_0 a2_1 a2_2 a2_3 a2_4).bind fun t297 => (mantletlaw10_KeyOrders.j0 k a3 (!t297) a0_0 a0_1 a0_2 a0_3 a0_4)) else (mantletlaw10_KeyOrders.j0 k a3 false a0_0 a0_1 a0_2 a0_3 a0_4))) else (mantletlaw10_KeyOrders.j0 k a3 false a0_0 a0_1 a0_2 a0_3 a0_4)) = some r := H
            have A22 := Aside0.mk A220
            clear A220
            by_cases c23 : t295 = true
            · subst c23
              have H1 : ((key_Less.f k a1_0 a1_1 a1_2 a1_3 a1_4 a2_0 a2_1 a2_2 a2_3 a2_4).bind fun t296 => (if t296 = true then ((key_Less.f k a0_0 a0_1 a0_2 a0_3 a0_4 a2_0 a2_1 a2_2 a2_3 a2_4).bind fun t297 => (mantletlaw10_KeyOrders.j0 k a3 (!t297) a0_0 a0_1 a0_2 a0_3 a0_4)) else (mantletlaw10_KeyOrders.j0 k a3 false a0_0 a0_1 a0_2 a0_3 a0_4))) = some r := by rw [if_pos rfl] at H; exact H
              clear H
              have H := H1
              clear H1
              replace H := Option.bind_eq_some_iff.mp H
              obtain ⟨t296, A240, H⟩ := H
              replace H : (if t296 = true then ((key_Less.f k a0_0 a0_1 a0_2 a0_3 a0_4 a2_0 a2_1 a2_2 a2_3 a2_4).bind fun t297 => (mantletlaw10_KeyOrders.j0 k a3 (!t297) a0_0 a0_1 a0_2 a0_3 a0_4)) else (mantletlaw10_KeyOrders.j0 k a3 false a0_0 a0_1 a0_2 a0_3 a0_4)) = some r := H
              have A24 := Aside0.mk A240
              clear A240
              by_cases c25 : t296 = true
              · subst c25
                have H1 : ((key_Less.f k a0_0 a0_1 a0_2 a0_3 a0_4 a2_0 a2_1 a2_2 a2_3 a2_4).bind fun t297 => (mantletlaw10_KeyOrders.j0 k a3 (!t297) a0_0 a0_1 a0_2 a0_3 a0_4)) = some r := by rw [if_pos rfl] at H; exact H
                clear H
                have H := H1
                clear H1
                replace H := Option.bind_eq_some_iff.mp H
                obtain ⟨t297, A260, H⟩ := H
                replace H : (mantletlaw10_KeyOrders.j0 k a3 (!t297) a0_0 a0_1 a0_2 a0_3 a0_4) = some r := H
                have A26 := Aside0.mk A260
                clear A260
                have H' := Aside0.mk H
                clear H
                try go_wp2
                have n0_ := Aside0.mk (blk_drew BK289.out)
                have n1_ := Aside0.mk (blk_drew BK290.out)
                have n2_ := Aside0.mk (blk_drew BK291.out)
                have n3_ := Aside0.mk (below_drew1 HB.out)
                clear BK289
                clear BK290
                clear BK291
                clear HB
                have BK289 := n0_
                have BK290 := n1_
                have BK291 := n2_
                have HB := n3_
                clear n0_ n1_ n2_ n3_
                refine start_ (n := 38) (S := fun w' => w'.cell? ⟨gb289, 0, none⟩ = some (.int .u32 a0_0) ∧ w'.cell? ⟨gb289, 1, none⟩ = some (.int .u32 a0_1) ∧ w'.cell? ⟨gb289, 2, none⟩ = some (.int .u16 a0_2) ∧ w'.cell? ⟨gb289, 3, none⟩ = some (.int .u16 a0_3) ∧ w'.cell? ⟨gb289, 4, none⟩ = some (.int .u8 a0_4) ∧ w'.cell? ⟨gb290, 0, none⟩ = some (.int .u32 a1_0) ∧ w'.cell? ⟨gb290, 1, none⟩ = some (.int .u32 a1_1) ∧ w'.cell? ⟨gb290, 2, none⟩ = some (.int .u16 a1_2) ∧ w'.cell? ⟨gb290, 3, none⟩ = some (.int .u16 a1_3) ∧ w'.cell? ⟨gb290, 4, none⟩ = some (.int .u8 a1_4) ∧ w'.cell? ⟨gb291, 0, none⟩ = some (.int .u32 a2_0) ∧ w'.cell? ⟨gb291, 1, none⟩ = some (.int .u32 a2_1) ∧ w'.cell? ⟨gb291, 2, none⟩ = some (.int .u16 a2_2) ∧ w'.cell? ⟨gb291, 3, none⟩ = some (.int .u16 a2_3) ∧ w'.cell? ⟨gb291, 4, none⟩ = some (.int .u8 a2_4)) (ds := []) #[false, false, false, false, false, false, false, false, false, false, false, false, false, false, false, false, false, false, false, false, false, false, false, false, false, false, false, false, false, false, false, false, false, false, false, false, false, false] (by kernel_rfl) rfl rfl ⟨(blk_cell BK289.out 0).trans rfl, (blk_cell BK289.out 1).trans rfl, (blk_cell BK289.out 2).trans rfl, (blk_cell BK289.out 3).trans rfl, (blk_cell BK289.out 4).trans rfl, (blk_cell BK290.out 0).trans rfl, (blk_cell BK290.out 1).trans rfl, (blk_cell BK290.out 2).trans rfl, (blk_cell BK290.out 3).trans rfl, (blk_cell BK290.out 4).trans rfl, (blk_cell BK291.out 0).trans rfl, (blk_cell BK291.out 1).trans rfl, (blk_cell BK291.out 2).trans rfl, (blk_cell BK291.out 3).trans rfl, (blk_cell BK291.out 4).trans rfl⟩ (fun hHeld => ?_); refine with_tabW mantletlaw10_KeyOrders.tab1 mantletlaw10_KeyOrders.bits1 (fun HT_ HW_ => ?_)
                generalize w8.drew = w27 at BK289 BK290 BK291 HB hHeld ⊢
                refine take_ (i := 0) (N := some 11) (v := ?_) (a' := ?_) #[true, false, false, false, false, false, false, false, false, false, false, false, false, false, false, false, false, false, false, false, false, false, false, false, false, false, false, false, false, false, false, false, false, false, false, false, false, false] rfl rfl (take_ofW HT_.out HW_.out (by kernel_rfl)) (fun _ _ _ h => h) (Or.inl ⟨by rfl, ?_⟩) hHeld ?_ ?_
                rotate_left
                · rintro w' ⟨s0, s1, s2, s3, s4, s5, s6, s7, s8, s9, s10, s11, s12, s13, s14⟩
                  go_simp
                  with_reducible rfl
                rotate_left
                · simp only [Act.put, List.setIfInBounds_toArray, List.set_cons_zero, List.set_cons_succ, i64_w, i32_w]
                  rfl
                refine take_ (i := 1) (N := some 12) (v := ?_) (a' := ?_) #[true, true, false, false, false, false, false, false, false, false, false, false, false, false, false, false, false, false, false, false, false, false, false, false, false, false, false, false, false, false, false, false, false, false, false, false, false, false] rfl rfl (take_ofW HT_.out HW_.out (by kernel_rfl)) (fun _ _ _ h => h) (Or.inl ⟨by rfl, ?_⟩) hHeld ?_ ?_
                rotate_left
                · rintro w' ⟨s0, s1, s2, s3, s4, s5, s6, s7, s8, s9, s10, s11, s12, s13, s14⟩
                  go_simp
                  with_reducible rfl
                rotate_left
                · simp only [Act.put, List.setIfInBounds_toArray, List.set_cons_zero, List.set_cons_succ, i64_w, i32_w]
                  rfl
                refine pure_ (i := 2) (N := some 13) (v := ?_) (a' := ?_) #[true, true, true, false, false, false, false, false, false, false, false, false, false, false, false, false, false, false, false, false, false, false, false, false, false, false, false, false, false, false, false, false, false, false, false, false, false, false] rfl rfl (any_of HT_.out (by kernel_rfl)) (fun _ _ _ h => h) (Or.inl ⟨by rfl, ?_⟩) ?_ ?_
                rotate_left
                · intro w'
                  go_simp
                  with_reducible rfl
                rotate_left
                · simp only [Act.put, List.setIfInBounds_toArray, List.set_cons_zero, List.set_cons_succ, i64_w, i32_w]
                  rfl
                refine take_ (i := 3) (N := some 14) (v := ?_) (a' := ?_) #[true, true, true, true, false, false, false, false, false, false, false, false, false, false, false, false, false, false, false, false, false, false, false, false, false, false, false, false, false, false, false, false, false, false, false, false, false, false] rfl rfl (take_ofW HT_.out HW_.out (by kernel_rfl)) (fun _ _ _ h => h) (Or.inl ⟨by rfl, ?_⟩) hHeld ?_ ?_
                rotate_left
                · rintro w' ⟨s0, s1, s2, s3, s4, s5, s6, s7, s8, s9, s10, s11, s12, s13, s14⟩
                  go_simp
                  with_reducible rfl
                rotate_left
                · simp only [Act.put, List.setIfInBounds_toArray, List.set_cons_zero, List.set_cons_succ, i64_w, i32_w]
                  rfl
                refine take_ (i := 4) (N := some 15) (v := ?_) (a' := ?_) #[true, true, true, true, true, false, false, false, false, false, false, false, false, false, false, false, false, false, false, false, false, false, false, false, false, false, false, false, false, false, false, false, false, false, false, false, false, false] rfl rfl (take_ofW HT_.out HW_.out (by kernel_rfl)) (fun _ _ _ h => h) (Or.inl ⟨by rfl, ?_⟩) hHeld ?_ ?_
                rotate_left
                · rintro w' ⟨s0, s1, s2, s3, s4, s5, s6, s7, s8, s9, s10, s11, s12, s13, s14⟩
                  go_simp
                  with_reducible rfl
                rotate_left
                · simp only [Act.put, List.setIfInBounds_toArray, List.set_cons_zero, List.set_cons_succ, i64_w, i32_w]
                  rfl
                refine one_ (i := 5) (N := some 16) #[true, true, true, true, true, true, false, false, false, false, false, false, false, false, false, false, false, false, false, false, false, false, false, false, false, false, false, false, false, false, false, false, false, false, false, false, false, false] rfl rfl (one_of HT_.out (by kernel_rfl)) (by decide) (fun K hK => ?_)
                refine goes_ Try.func15 (by kernel_rfl) rfl #[.agg #[.int .u32 a0_0, .int .u32 a0_1, .int .u16 a0_2, .int .u16 a0_3, .int .u8 a0_4], .agg #[.int .u32 a1_0, .int .u32 a1_1, .int .u16 a1_2, .int .u16 a1_3, .int .u8 a1_4]] (by rfl) rfl rfl (by (try simp only [List.map_toArray, List.map_cons, List.map_nil]); first | done | rfl) ?_
                with_reducible refine (key_Less.calls k a0_0 a0_1 a0_2 a0_3 a0_4 a1_0 a1_1 a1_2 a1_3 a1_4 true _ A9.out).mono ?_
                rintro e w28 ⟨rfl, hb⟩
                refine ⟨_, rfl, ?_⟩
                have n0_ := Aside0.mk (blk_below (g := gb289) (o := .cells #[.int .u32 a0_0, .int .u32 a0_1, .int .u16 a0_2, .int .u16 a0_3, .int .u8 a0_4] 29 (0, 0)) (by (with_reducible repeat first | apply blk_drewN | apply blk_drew | apply blk_alloc); exact BK289.out) hb)
                have n1_ := Aside0.mk (blk_below (g := gb290) (o := .cells #[.int .u32 a1_0, .int .u32 a1_1, .int .u16 a1_2, .int .u16 a1_3, .int .u8 a1_4] 29 (0, 0)) (by (with_reducible repeat first | apply blk_drewN | apply blk_drew | apply blk_alloc); exact BK290.out) hb)
                have n2_ := Aside0.mk (blk_below (g := gb291) (o := .cells #[.int .u32 a2_0, .int .u32 a2_1, .int .u16 a2_2, .int .u16 a2_3, .int .u8 a2_4] 29 (0, 0)) (by (with_reducible repeat first | apply blk_drewN | apply blk_drew | apply blk_alloc); exact BK291.out) hb)
                have n3_ := Aside0.mk (below_step (by repeat first | (with_reducible first | exact HB.out | apply below_alloc | apply pw_below_drewN | apply below_drew1 | refine below_set ?_ GE289.out | refine below_set ?_ GE290.out | refine below_set ?_ GE291.out) | exact HB.out) hb)
                clear BK289
                clear BK290
                clear BK291
                clear HB
                have BK289 := n0_
                have BK290 := n1_
                have BK291 := n2_
                have HB := n3_
                clear n0_ n1_ n2_ n3_
                (try clear hb)
                (try clear hb2)
                (try clear hk)
                (try clear hi)
                refine hK.out _ _ ⟨(blk_cell BK289.out 0).trans rfl, (blk_cell BK289.out 1).trans rfl, (blk_cell BK289.out 2).trans rfl, (blk_cell BK289.out 3).trans rfl, (blk_cell BK289.out 4).trans rfl, (blk_cell BK290.out 0).trans rfl, (blk_cell BK290.out 1).trans rfl, (blk_cell BK290.out 2).trans rfl, (blk_cell BK290.out 3).trans rfl, (blk_cell BK290.out 4).trans rfl, (blk_cell BK291.out 0).trans rfl, (blk_cell BK291.out 1).trans rfl, (blk_cell BK291.out 2).trans rfl, (blk_cell BK291.out 3).trans rfl, (blk_cell BK291.out 4).trans rfl⟩ (fun hHeld => ?_)
                clear hK K
                refine norm_ (a' := ?_) ?_ ?_
                rotate_left
                · show Act.put _ (some 16) _ = _
                  simp only [Act.put, List.setIfInBounds_toArray, List.set_cons_zero, List.set_cons_succ, i64_w, i32_w]
                  rfl
                refine pure_ (i := 6) (N := some 17) (v := ?_) (a' := ?_) #[true, true, true, true, true, true, true, false, false, false, false, false, false, false, false, false, false, false, false, false, false, false, false, false, false, false, false, false, false, false, false, false, false, false, false, false, false, false] rfl rfl (any_of HT_.out (by kernel_rfl)) (fun _ _ _ h => h) (Or.inl ⟨by rfl, ?_⟩) ?_ ?_
                rotate_left
                · intro w'
                  go_simp
                  with_reducible rfl
                rotate_left
                · simp only [Act.put, List.setIfInBounds_toArray, List.set_cons_zero, List.set_cons_succ, i64_w, i32_w]
                  rfl
                refine pure_ (i := 7) (N := some 18) (v := undef) (a' := ?_) #[true, true, true, true, true, true, true, true, false, false, false, false, false, false, false, false, false, false, false, false, false, false, false, false, false, false, false, false, false, false, false, false, false, false, false, false, false, false] rfl rfl (any_of HT_.out (by kernel_rfl)) (fun _ _ _ h => h) (Or.inr ⟨by rfl, rfl⟩) ?_ ?_
                rotate_left
                · simp only [Act.put, List.setIfInBounds_toArray, List.set_cons_zero, List.set_cons_succ, i64_w, i32_w]
                  rfl
                refine pure_ (i := 8) (N := some 19) (v := undef) (a' := ?_) #[true, true, true, true, true, true, true, true, true, false, false, false, false, false, false, false, false, false, false, false, false, false, false, false, false, false, false, false, false, false, false, false, false, false, false, false, false, false] rfl rfl (any_of HT_.out (by kernel_rfl)) (fun _ _ _ h => h) (Or.inr ⟨by rfl, rfl⟩) ?_ ?_
                rotate_left
                · simp only [Act.put, List.setIfInBounds_toArray, List.set_cons_zero, List.set_cons_succ, i64_w, i32_w]
                  rfl
                refine pure_ (i := 9) (N := some 20) (v := undef) (a' := ?_) #[true, true, true, true, true, true, true, true, true, true, false, false, false, false, false, false, false, false, false, false, false, false, false, false, false, false, false, false, false, false, false, false, false, false, false, false, false, false] rfl rfl (any_of HT_.out (by kernel_rfl)) (fun _ _ _ h => h) (Or.inr ⟨by rfl, rfl⟩) ?_ ?_
                rotate_left
                · simp only [Act.put, List.setIfInBounds_toArray, List.set_cons_zero, List.set_cons_succ, i64_w, i32_w]
                  rfl
                refine pure_ (i := 10) (N := some 21) (v := ?_) (a' := ?_) #[true, true, true, true, true, true, true, true, true, true, true, false, false, false, false, false, false, false, false, false, false, false, false, false, false, false, false, false, false, false, false, false, false, false, false, false, false, false] rfl rfl (any_of HT_.out (by kernel_rfl)) (fun _ _ _ h => h) (Or.inl ⟨by rfl, ?_⟩) ?_ ?_
                rotate_left
                · intro w'
                  go_simp
                  with_reducible rfl
                rotate_left
                · simp only [Act.put, List.setIfInBounds_toArray, List.set_cons_zero, List.set_cons_succ, i64_w, i32_w]
                  rfl
                refine pure_ (i := 11) (N := some 22) (v := ?_) (a' := ?_) #[true, true, true, true, true, true, true, true, true, true, true, true, false, false, false, false, false, false, false, false, false, false, false, false, false, false, false, false, false, false, false, false, false, false, false, false, false, false] rfl rfl (any_of HT_.out (by kernel_rfl)) (fun _ _ _ h => h) (Or.inl ⟨by rfl, ?_⟩) ?_ ?_
                rotate_left
                · intro w'
                  go_simp
                  with_reducible rfl
                rotate_left
                · simp only [Act.put, List.setIfInBounds_toArray, List.set_cons_zero, List.set_cons_succ, i64_w, i32_w]
                  rfl
                refine pure_ (i := 12) (N := some 23) (v := ?_) (a' := ?_) #[true, true, true, true, true, true, true, true, true, true, true, true, true, false, false, false, false, false, false, false, false, false, false, false, false, false, false, false, false, false, false, false, false, false, false, false, false, false] rfl rfl (any_of HT_.out (by kernel_rfl)) (fun _ _ _ h => h) (Or.inl ⟨by rfl, ?_⟩) ?_ ?_
                rotate_left
                · intro w'
                  go_simp
                  with_reducible rfl
                rotate_left
                · simp only [Act.put, List.setIfInBounds_toArray, List.set_cons_zero, List.set_cons_succ, i64_w, i32_w]
                  rfl
                refine take_ (i := 13) (N := some 24) (v := ?_) (a' := ?_) #[true, true, true, true, true, true, true, true, true, true, true, true, true, true, false, false, false, false, false, false, false, false, false, false, false, false, false, false, false, false, false, false, false, false, false, false, false, false] rfl rfl (take_ofW HT_.out HW_.out (by kernel_rfl)) (fun _ _ _ h => h) (Or.inl ⟨by rfl, ?_⟩) hHeld ?_ ?_
                rotate_left
                · rintro w' ⟨s0, s1, s2, s3, s4, s5, s6, s7, s8, s9, s10, s11, s12, s13, s14⟩
                  go_simp
                  with_reducible rfl
                rotate_left
                · simp only [Act.put, List.setIfInBounds_toArray, List.set_cons_zero, List.set_cons_succ, i64_w, i32_w]
                  rfl
                refine take_ (i := 14) (N := some 25) (v := ?_) (a' := ?_) #[true, true, true, true, true, true, true, true, true, true, true, true, true, true, true, false, false, false, false, false, false, false, false, false, false, false, false, false, false, false, false, false, false, false, false, false, false, false] rfl rfl (take_ofW HT_.out HW_.out (by kernel_rfl)) (fun _ _ _ h => h) (Or.inl ⟨by rfl, ?_⟩) hHeld ?_ ?_
                rotate_left
                · rintro w' ⟨s0, s1, s2, s3, s4, s5, s6, s7, s8, s9, s10, s11, s12, s13, s14⟩
                  go_simp
                  with_reducible rfl
                rotate_left
                · simp only [Act.put, List.setIfInBounds_toArray, List.set_cons_zero, List.set_cons_succ, i64_w, i32_w]
                  rfl
                refine one_ (i := 15) (N := some 26) #[true, true, true, true, true, true, true, true, true, true, true, true, true, true, true, true, false, false, false, false, false, false, false, false, false, false, false, false, false, false, false, false, false, false, false, false, false, false] rfl rfl (one_of HT_.out (by kernel_rfl)) (by decide) (fun K hK => ?_)
                refine goes_ Try.func15 (by kernel_rfl) rfl #[.agg #[.int .u32 a0_0, .int .u32 a0_1, .int .u16 a0_2, .int .u16 a0_3, .int .u8 a0_4], .agg #[.int .u32 a1_0, .int .u32 a1_1, .int .u16 a1_2, .int .u16 a1_3, .int .u8 a1_4]] (by rfl) rfl rfl (by (try simp only [List.map_toArray, List.map_cons, List.map_nil]); first | done | rfl) ?_
                with_reducible refine (key_Less.calls k a0_0 a0_1 a0_2 a0_3 a0_4 a1_0 a1_1 a1_2 a1_3 a1_4 true _ A14.out).mono ?_
                rintro e w29 ⟨rfl, hb⟩
                refine ⟨_, rfl, ?_⟩
                have n0_ := Aside0.mk (blk_below (g := gb289) (o := .cells #[.int .u32 a0_0, .int .u32 a0_1, .int .u16 a0_2, .int .u16 a0_3, .int .u8 a0_4] 29 (0, 0)) (by (with_reducible repeat first | apply blk_drewN | apply blk_drew | apply blk_alloc); exact BK289.out) hb)
                have n1_ := Aside0.mk (blk_below (g := gb290) (o := .cells #[.int .u32 a1_0, .int .u32 a1_1, .int .u16 a1_2, .int .u16 a1_3, .int .u8 a1_4] 29 (0, 0)) (by (with_reducible repeat first | apply blk_drewN | apply blk_drew | apply blk_alloc); exact BK290.out) hb)
                have n2_ := Aside0.mk (blk_below (g := gb291) (o := .cells #[.int .u32 a2_0, .int .u32 a2_1, .int .u16 a2_2, .int .u16 a2_3, .int .u8 a2_4] 29 (0, 0)) (by (with_reducible repeat first | apply blk_drewN | apply blk_drew | apply blk_alloc); exact BK291.out) hb)
                have n3_ := Aside0.mk (below_step (by repeat first | (with_reducible first | exact HB.out | apply below_alloc | apply pw_below_drewN | apply below_drew1 | refine below_set ?_ GE289.out | refine below_set ?_ GE290.out | refine below_set ?_ GE291.out) | exact HB.out) hb)
                clear BK289
                clear BK290
                clear BK291
                clear HB
                have BK289 := n0_
                have BK290 := n1_
                have BK291 := n2_
                have HB := n3_
                clear n0_ n1_ n2_ n3_
                (try clear hb)
                (try clear hb2)
                (try clear hk)
                (try clear hi)
                refine hK.out _ _ ⟨(blk_cell BK289.out 0).trans rfl, (blk_cell BK289.out 1).trans rfl, (blk_cell BK289.out 2).trans rfl, (blk_cell BK289.out 3).trans rfl, (blk_cell BK289.out 4).trans rfl, (blk_cell BK290.out 0).trans rfl, (blk_cell BK290.out 1).trans rfl, (blk_cell BK290.out 2).trans rfl, (blk_cell BK290.out 3).trans rfl, (blk_cell BK290.out 4).trans rfl, (blk_cell BK291.out 0).trans rfl, (blk_cell BK291.out 1).trans rfl, (blk_cell BK291.out 2).trans rfl, (blk_cell BK291.out 3).trans rfl, (blk_cell BK291.out 4).trans rfl⟩ (fun hHeld => ?_)
                clear hK K
                refine norm_ (a' := ?_) ?_ ?_
                rotate_left
                · show Act.put _ (some 26) _ = _
                  simp only [Act.put, List.setIfInBounds_toArray, List.set_cons_zero, List.set_cons_succ, i64_w, i32_w]
                  rfl
                refine pure_ (i := 16) (N := some 27) (v := ?_) (a' := ?_) #[true, true, true, true, true, true, true, true, true, true, true, true, true, true, true, true, true, false, false, false, false, false, false, false, false, false, false, false, false, false, false, false, false, false, false, false, false, false] rfl rfl (any_of HT_.out (by kernel_rfl)) (fun _ _ _ h => h) (Or.inl ⟨by rfl, ?_⟩) ?_ ?_
                rotate_left
                · intro w'
                  go_simp
                  with_reducible rfl
                rotate_left
                · simp only [Act.put, List.setIfInBounds_toArray, List.set_cons_zero, List.set_cons_succ, i64_w, i32_w]
                  rfl
                refine take_ (i := 17) (N := some 28) (v := ?_) (a' := ?_) #[true, true, true, true, true, true, true, true, true, true, true, true, true, true, true, true, true, true, false, false, false, false, false, false, false, false, false, false, false, false, false, false, false, false, false, false, false, false] rfl rfl (take_ofW HT_.out HW_.out (by kernel_rfl)) (fun _ _ _ h => h) (Or.inl ⟨by rfl, ?_⟩) hHeld ?_ ?_
                rotate_left
                · rintro w' ⟨s0, s1, s2, s3, s4, s5, s6, s7, s8, s9, s10, s11, s12, s13, s14⟩
                  go_simp
                  with_reducible rfl
                rotate_left
                · simp only [Act.put, List.setIfInBounds_toArray, List.set_cons_zero, List.set_cons_succ, i64_w, i32_w]
                  rfl
                refine take_ (i := 18) (N := some 29) (v := ?_) (a' := ?_) #[true, true, true, true, true, true, true, true, true, true, true, true, true, true, true, true, true, true, true, false, false, false, false, false, false, false, false, false, false, false, false, false, false, false, false, false, false, false] rfl rfl (take_ofW HT_.out HW_.out (by kernel_rfl)) (fun _ _ _ h => h) (Or.inl ⟨by rfl, ?_⟩) hHeld ?_ ?_
                rotate_left
                · rintro w' ⟨s0, s1, s2, s3, s4, s5, s6, s7, s8, s9, s10, s11, s12, s13, s14⟩
                  go_simp
                  with_reducible rfl
                rotate_left
                · simp only [Act.put, List.setIfInBounds_toArray, List.set_cons_zero, List.set_cons_succ, i64_w, i32_w]
                  rfl
                refine one_ (i := 19) (N := some 30) #[true, true, true, true, true, true, true, true, true, true, true, true, true, true, true, true, true, true, true, true, false, false, false, false, false, false, false, false, false, false, false, false, false, false, false, false, false, false] rfl rfl (one_of HT_.out (by kernel_rfl)) (by decide) (fun K hK => ?_)
                refine goes_ Try.func15 (by kernel_rfl) rfl #[.agg #[.int .u32 a1_0, .int .u32 a1_1, .int .u16 a1_2, .int .u16 a1_3, .int .u8 a1_4], .agg #[.int .u32 a0_0, .int .u32 a0_1, .int .u16 a0_2, .int .u16 a0_3, .int .u8 a0_4]] (by rfl) rfl rfl (by (try simp only [List.map_toArray, List.map_cons, List.map_nil]); first | done | rfl) ?_
                with_reducible refine (key_Less.calls k a1_0 a1_1 a1_2 a1_3 a1_4 a0_0 a0_1 a0_2 a0_3 a0_4 false _ A16.out).mono ?_
                rintro e w30 ⟨rfl, hb⟩
                refine ⟨_, rfl, ?_⟩
                have n0_ := Aside0.mk (blk_below (g := gb289) (o := .cells #[.int .u32 a0_0, .int .u32 a0_1, .int .u16 a0_2, .int .u16 a0_3, .int .u8 a0_4] 29 (0, 0)) (by (with_reducible repeat first | apply blk_drewN | apply blk_drew | apply blk_alloc); exact BK289.out) hb)
                have n1_ := Aside0.mk (blk_below (g := gb290) (o := .cells #[.int .u32 a1_0, .int .u32 a1_1, .int .u16 a1_2, .int .u16 a1_3, .int .u8 a1_4] 29 (0, 0)) (by (with_reducible repeat first | apply blk_drewN | apply blk_drew | apply blk_alloc); exact BK290.out) hb)
                have n2_ := Aside0.mk (blk_below (g := gb291) (o := .cells #[.int .u32 a2_0, .int .u32 a2_1, .int .u16 a2_2, .int .u16 a2_3, .int .u8 a2_4] 29 (0, 0)) (by (with_reducible repeat first | apply blk_drewN | apply blk_drew | apply blk_alloc); exact BK291.out) hb)
                have n3_ := Aside0.mk (below_step (by repeat first | (with_reducible first | exact HB.out | apply below_alloc | apply pw_below_drewN | apply below_drew1 | refine below_set ?_ GE289.out | refine below_set ?_ GE290.out | refine below_set ?_ GE291.out) | exact HB.out) hb)
                clear BK289
                clear BK290
                clear BK291
                clear HB
                have BK289 := n0_
                have BK290 := n1_
                have BK291 := n2_
                have HB := n3_
                clear n0_ n1_ n2_ n3_
                (try clear hb)
                (try clear hb2)
                (try clear hk)
                (try clear hi)
                refine hK.out _ _ ⟨(blk_cell BK289.out 0).trans rfl, (blk_cell BK289.out 1).trans rfl, (blk_cell BK289.out 2).trans rfl, (blk_cell BK289.out 3).trans rfl, (blk_cell BK289.out 4).trans rfl, (blk_cell BK290.out 0).trans rfl, (blk_cell BK290.out 1).trans rfl, (blk_cell BK290.out 2).trans rfl, (blk_cell BK290.out 3).trans rfl, (blk_cell BK290.out 4).trans rfl, (blk_cell BK291.out 0).trans rfl, (blk_cell BK291.out 1).trans rfl, (blk_cell BK291.out 2).trans rfl, (blk_cell BK291.out 3).trans rfl, (blk_cell BK291.out 4).trans rfl⟩ (fun hHeld => ?_)
                clear hK K
                refine norm_ (a' := ?_) ?_ ?_
                rotate_left
                · show Act.put _ (some 30) _ = _
                  simp only [Act.put, List.setIfInBounds_toArray, List.set_cons_zero, List.set_cons_succ, i64_w, i32_w]
                  rfl
                refine pure_ (i := 20) (N := some 31) (v := ?_) (a' := ?_) #[true, true, true, true, true, true, true, true, true, true, true, true, true, true, true, true, true, true, true, true, true, false, false, false, false, false, false, false, false, false, false, false, false, false, false, false, false, false] rfl rfl (any_of HT_.out (by kernel_rfl)) (fun _ _ _ h => h) (Or.inl ⟨by rfl, ?_⟩) ?_ ?_
                rotate_left
                · intro w'
                  go_simp
                  with_reducible rfl
                rotate_left
                · simp only [Act.put, List.setIfInBounds_toArray, List.set_cons_zero, List.set_cons_succ, i64_w, i32_w]
                  rfl
                refine pure_ (i := 21) (N := some 32) (v := ?_) (a' := ?_) #[true, true, true, true, true, true, true, true, true, true, true, true, true, true, true, true, true, true, true, true, true, true, false, false, false, false, false, false, false, false, false, false, false, false, false, false, false, false] rfl rfl (any_of HT_.out (by kernel_rfl)) (fun _ _ _ h => h) (Or.inl ⟨by rfl, ?_⟩) ?_ ?_
                rotate_left
                · intro w'
                  go_simp
                  with_reducible rfl
                rotate_left
                · simp only [Act.put, List.setIfInBounds_toArray, List.set_cons_zero, List.set_cons_succ, i64_w, i32_w]
                  rfl
                refine pure_ (i := 22) (N := some 33) (v := ?_) (a' := ?_) #[true, true, true, true, true, true, true, true, true, true, true, true, true, true, true, true, true, true, true, true, true, true, true, false, false, false, false, false, false, false, false, false, false, false, false, false, false, false] rfl rfl (any_of HT_.out (by kernel_rfl)) (fun _ _ _ h => h) (Or.inl ⟨by rfl, ?_⟩) ?_ ?_
                rotate_left
                · intro w'
                  go_simp
                  with_reducible rfl
                rotate_left
                · simp only [Act.put, List.setIfInBounds_toArray, List.set_cons_zero, List.set_cons_succ, i64_w, i32_w]
                  rfl
                refine take_ (i := 23) (N := some 34) (v := ?_) (a' := ?_) #[true, true, true, true, true, true, true, true, true, true, true, true, true, true, true, true, true, true, true, true, true, true, true, true, false, false, false, false, false, false, false, false, false, false, false, false, false, false] rfl rfl (take_ofW HT_.out HW_.out (by kernel_rfl)) (fun _ _ _ h => h) (Or.inl ⟨by rfl, ?_⟩) hHeld ?_ ?_
                rotate_left
                · rintro w' ⟨s0, s1, s2, s3, s4, s5, s6, s7, s8, s9, s10, s11, s12, s13, s14⟩
                  go_simp
                  with_reducible rfl
                rotate_left
                · simp only [Act.put, List.setIfInBounds_toArray, List.set_cons_zero, List.set_cons_succ, i64_w, i32_w]
                  rfl
                refine take_ (i := 24) (N := some 35) (v := ?_) (a' := ?_) #[true, true, true, true, true, true, true, true, true, true, true, true, true, true, true, true, true, true, true, true, true, true, true, true, true, false, false, false, false, false, false, false, false, false, false, false, false, false] rfl rfl (take_ofW HT_.out HW_.out (by kernel_rfl)) (fun _ _ _ h => h) (Or.inl ⟨by rfl, ?_⟩) hHeld ?_ ?_
                rotate_left
                · rintro w' ⟨s0, s1, s2, s3, s4, s5, s6, s7, s8, s9, s10, s11, s12, s13, s14⟩
                  go_simp
                  with_reducible rfl
                rotate_left
                · simp only [Act.put, List.setIfInBounds_toArray, List.set_cons_zero, List.set_cons_succ, i64_w, i32_w]
                  rfl
                refine one_ (i := 25) (N := some 36) #[true, true, true, true, true, true, true, true, true, true, true, true, true, true, true, true, true, true, true, true, true, true, true, true, true, true, false, false, false, false, false, false, false, false, false, false, false, false] rfl rfl (one_of HT_.out (by kernel_rfl)) (by decide) (fun K hK => ?_)
                refine goes_ Try.func15 (by kernel_rfl) rfl #[.agg #[.int .u32 a0_0, .int .u32 a0_1, .int .u16 a0_2, .int .u16 a0_3, .int .u8 a0_4], .agg #[.int .u32 a1_0, .int .u32 a1_1, .int .u16 a1_2, .int .u16 a1_3, .int .u8 a1_4]] (by rfl) rfl rfl (by (try simp only [List.map_toArray, List.map_cons, List.map_nil]); first | done | rfl) ?_
                with_reducible refine (key_Less.calls k a0_0 a0_1 a0_2 a0_3 a0_4 a1_0 a1_1 a1_2 a1_3 a1_4 true _ A22.out).mono ?_
                rintro e w31 ⟨rfl, hb⟩
                refine ⟨_, rfl, ?_⟩
                have n0_ := Aside0.mk (blk_below (g := gb289) (o := .cells #[.int .u32 a0_0, .int .u32 a0_1, .int .u16 a0_2, .int .u16 a0_3, .int .u8 a0_4] 29 (0, 0)) (by (with_reducible repeat first | apply blk_drewN | apply blk_drew | apply blk_alloc); exact BK289.out) hb)
                have n1_ := Aside0.mk (blk_below (g := gb290) (o := .cells #[.int .u32 a1_0, .int .u32 a1_1, .int .u16 a1_2, .int .u16 a1_3, .int .u8 a1_4] 29 (0, 0)) (by (with_reducible repeat first | apply blk_drewN | apply blk_drew | apply blk_alloc); exact BK290.out) hb)
                have n2_ := Aside0.mk (blk_below (g := gb291) (o := .cells #[.int .u32 a2_0, .int .u32 a2_1, .int .u16 a2_2, .int .u16 a2_3, .int .u8 a2_4] 29 (0, 0)) (by (with_reducible repeat first | apply blk_drewN | apply blk_drew | apply blk_alloc); exact BK291.out) hb)
                have n3_ := Aside0.mk (below_step (by repeat first | (with_reducible first | exact HB.out | apply below_alloc | apply pw_below_drewN | apply below_drew1 | refine below_set ?_ GE289.out | refine below_set ?_ GE290.out | refine below_set ?_ GE291.out) | exact HB.out) hb)
                clear BK289
                clear BK290
                clear BK291
                clear HB
                have BK289 := n0_
                have BK290 := n1_
                have BK291 := n2_
                have HB := n3_
                clear n0_ n1_ n2_ n3_
                (try clear hb)
                (try clear hb2)
                (try clear hk)
                (try clear hi)
                refine hK.out _ _ ⟨(blk_cell BK289.out 0).trans rfl, (blk_cell BK289.out 1).trans rfl, (blk_cell BK289.out 2).trans rfl, (blk_cell BK289.out 3).trans rfl, (blk_cell BK289.out 4).trans rfl, (blk_cell BK290.out 0).trans rfl, (blk_cell BK290.out 1).trans rfl, (blk_cell BK290.out 2).trans rfl, (blk_cell BK290.out 3).trans rfl, (blk_cell BK290.out 4).trans rfl, (blk_cell BK291.out 0).trans rfl, (blk_cell BK291.out 1).trans rfl, (blk_cell BK291.out 2).trans rfl, (blk_cell BK291.out 3).trans rfl, (blk_cell BK291.out 4).trans rfl⟩ (fun hHeld => ?_)
                clear hK K
                refine norm_ (a' := ?_) ?_ ?_
                rotate_left
                · show Act.put _ (some 36) _ = _
                  simp only [Act.put, List.setIfInBounds_toArray, List.set_cons_zero, List.set_cons_succ, i64_w, i32_w]
                  rfl
                refine pure_ (i := 26) (N := some 37) (v := ?_) (a' := ?_) #[true, true, true, true, true, true, true, true, true, true, true, true, true, true, true, true, true, true, true, true, true, true, true, true, true, true, true, false, false, false, false, false, false, false, false, false, false, false] rfl rfl (any_of HT_.out (by kernel_rfl)) (fun _ _ _ h => h) (Or.inl ⟨by rfl, ?_⟩) ?_ ?_
                rotate_left
                · intro w'
                  go_simp
                  with_reducible rfl
                rotate_left
                · simp only [Act.put, List.setIfInBounds_toArray, List.set_cons_zero, List.set_cons_succ, i64_w, i32_w]
                  rfl
                refine take_ (i := 27) (N := some 38) (v := ?_) (a' := ?_) #[true, true, true, true, true, true, true, true, true, true, true, true, true, true, true, true, true, true, true, true, true, true, true, true, true, true, true, true, false, false, false, false, false, false, false, false, false, false] rfl rfl (take_ofW HT_.out HW_.out (by kernel_rfl)) (fun _ _ _ h => h) (Or.inl ⟨by rfl, ?_⟩) hHeld ?_ ?_
                rotate_left
                · rintro w' ⟨s0, s1, s2, s3, s4, s5, s6, s7, s8, s9, s10, s11, s12, s13, s14⟩
                  go_simp
                  with_reducible rfl
                rotate_left
                · simp only [Act.put, List.setIfInBounds_toArray, List.set_cons_zero, List.set_cons_succ, i64_w, i32_w]
                  rfl
                refine take_ (i := 28) (N := some 39) (v := ?_) (a' := ?_) #[true, true, true, true, true, true, true, true, true, true, true, true, true, true, true, true, true, true, true, true, true, true, true, true, true, true, true, true, true, false, false, false, false, false, false, false, false, false] rfl rfl (take_ofW HT_.out HW_.out (by kernel_rfl)) (fun _ _ _ h => h) (Or.inl ⟨by rfl, ?_⟩) hHeld ?_ ?_
                rotate_left
                · rintro w' ⟨s0, s1, s2, s3, s4, s5, s6, s7, s8, s9, s10, s11, s12, s13, s14⟩
                  go_simp
                  with_reducible rfl
                rotate_left
                · simp only [Act.put, List.setIfInBounds_toArray, List.set_cons_zero, List.set_cons_succ, i64_w, i32_w]
                  rfl
                refine one_ (i := 29) (N := some 40) #[true, true, true, true, true, true, true, true, true, true, true, true, true, true, true, true, true, true, true, true, true, true, true, true, true, true, true, true, true, true, false, false, false, false, false, false, false, false] rfl rfl (one_of HT_.out (by kernel_rfl)) (by decide) (fun K hK => ?_)
                refine goes_ Try.func15 (by kernel_rfl) rfl #[.agg #[.int .u32 a1_0, .int .u32 a1_1, .int .u16 a1_2, .int .u16 a1_3, .int .u8 a1_4], .agg #[.int .u32 a2_0, .int .u32 a2_1, .int .u16 a2_2, .int .u16 a2_3, .int .u8 a2_4]] (by rfl) rfl rfl (by (try simp only [List.map_toArray, List.map_cons, List.map_nil]); first | done | rfl) ?_
                with_reducible refine (key_Less.calls k a1_0 a1_1 a1_2 a1_3 a1_4 a2_0 a2_1 a2_2 a2_3 a2_4 true _ A24.out).mono ?_
                rintro e w32 ⟨rfl, hb⟩
                refine ⟨_, rfl, ?_⟩
                have n0_ := Aside0.mk (blk_below (g := gb289) (o := .cells #[.int .u32 a0_0, .int .u32 a0_1, .int .u16 a0_2, .int .u16 a0_3, .int .u8 a0_4] 29 (0, 0)) (by (with_reducible repeat first | apply blk_drewN | apply blk_drew | apply blk_alloc); exact BK289.out) hb)
                have n1_ := Aside0.mk (blk_below (g := gb290) (o := .cells #[.int .u32 a1_0, .int .u32 a1_1, .int .u16 a1_2, .int .u16 a1_3, .int .u8 a1_4] 29 (0, 0)) (by (with_reducible repeat first | apply blk_drewN | apply blk_drew | apply blk_alloc); exact BK290.out) hb)
                have n2_ := Aside0.mk (blk_below (g := gb291) (o := .cells #[.int .u32 a2_0, .int .u32 a2_1, .int .u16 a2_2, .int .u16 a2_3, .int .u8 a2_4] 29 (0, 0)) (by (with_reducible repeat first | apply blk_drewN | apply blk_drew | apply blk_alloc); exact BK291.out) hb)
                have n3_ := Aside0.mk (below_step (by repeat first | (with_reducible first | exact HB.out | apply below_alloc | apply pw_below_drewN | apply below_drew1 | refine below_set ?_ GE289.out | refine below_set ?_ GE290.out | refine below_set ?_ GE291.out) | exact HB.out) hb)
                clear BK289
                clear BK290
                clear BK291
                clear HB
                have BK289 := n0_
                have BK290 := n1_
                have BK291 := n2_
                have HB := n3_
                clear n0_ n1_ n2_ n3_
                (try clear hb)
                (try clear hb2)
                (try clear hk)
                (try clear hi)
                refine hK.out _ _ ⟨(blk_cell BK289.out 0).trans rfl, (blk_cell BK289.out 1).trans rfl, (blk_cell BK289.out 2).trans rfl, (blk_cell BK289.out 3).trans rfl, (blk_cell BK289.out 4).trans rfl, (blk_cell BK290.out 0).trans rfl, (blk_cell BK290.out 1).trans rfl, (blk_cell BK290.out 2).trans rfl, (blk_cell BK290.out 3).trans rfl, (blk_cell BK290.out 4).trans rfl, (blk_cell BK291.out 0).trans rfl, (blk_cell BK291.out 1).trans rfl, (blk_cell BK291.out 2).trans rfl, (blk_cell BK291.out 3).trans rfl, (blk_cell BK291.out 4).trans rfl⟩ (fun hHeld => ?_)
                clear hK K
                refine norm_ (a' := ?_) ?_ ?_
                rotate_left
                · show Act.put _ (some 40) _ = _
                  simp only [Act.put, List.setIfInBounds_toArray, List.set_cons_zero, List.set_cons_succ, i64_w, i32_w]
                  rfl
                refine pure_ (i := 30) (N := some 41) (v := ?_) (a' := ?_) #[true, true, true, true, true, true, true, true, true, true, true, true, true, true, true, true, true, true, true, true, true, true, true, true, true, true, true, true, true, true, true, false, false, false, false, false, false, false] rfl rfl (any_of HT_.out (by kernel_rfl)) (fun _ _ _ h => h) (Or.inl ⟨by rfl, ?_⟩) ?_ ?_
                rotate_left
                · intro w'
                  go_simp
                  with_reducible rfl
                rotate_left
                · simp only [Act.put, List.setIfInBounds_toArray, List.set_cons_zero, List.set_cons_succ, i64_w, i32_w]
                  rfl
                refine pure_ (i := 31) (N := some 42) (v := ?_) (a' := ?_) #[true, true, true, true, true, true, true, true, true, true, true, true, true, true, true, true, true, true, true, true, true, true, true, true, true, true, true, true, true, true, true, true, false, false, false, false, false, false] rfl rfl (any_of HT_.out (by kernel_rfl)) (fun _ _ _ h => h) (Or.inl ⟨by rfl, ?_⟩) ?_ ?_
                rotate_left
                · intro w'
                  go_simp
                  with_reducible rfl
                rotate_left
                · simp only [Act.put, List.setIfInBounds_toArray, List.set_cons_zero, List.set_cons_succ, i64_w, i32_w]
                  rfl
                refine take_ (i := 32) (N := some 43) (v := ?_) (a' := ?_) #[true, true, true, true, true, true, true, true, true, true, true, true, true, true, true, true, true, true, true, true, true, true, true, true, true, true, true, true, true, true, true, true, true, false, false, false, false, false] rfl rfl (take_ofW HT_.out HW_.out (by kernel_rfl)) (fun _ _ _ h => h) (Or.inl ⟨by rfl, ?_⟩) hHeld ?_ ?_
                rotate_left
                · rintro w' ⟨s0, s1, s2, s3, s4, s5, s6, s7, s8, s9, s10, s11, s12, s13, s14⟩
                  go_simp
                  with_reducible rfl
                rotate_left
                · simp only [Act.put, List.setIfInBounds_toArray, List.set_cons_zero, List.set_cons_succ, i64_w, i32_w]
                  rfl
                refine take_ (i := 33) (N := some 44) (v := ?_) (a' := ?_) #[true, true, true, true, true, true, true, true, true, true, true, true, true, true, true, true, true, true, true, true, true, true, true, true, true, true, true, true, true, true, true, true, true, true, false, false, false, false] rfl rfl (take_ofW HT_.out HW_.out (by kernel_rfl)) (fun _ _ _ h => h) (Or.inl ⟨by rfl, ?_⟩) hHeld ?_ ?_
                rotate_left
                · rintro w' ⟨s0, s1, s2, s3, s4, s5, s6, s7, s8, s9, s10, s11, s12, s13, s14⟩
                  go_simp
                  with_reducible rfl
                rotate_left
                · simp only [Act.put, List.setIfInBounds_toArray, List.set_cons_zero, List.set_cons_succ, i64_w, i32_w]
                  rfl
                refine one_ (i := 34) (N := some 45) #[true, true, true, true, true, true, true, true, true, true, true, true, true, true, true, true, true, true, true, true, true, true, true, true, true, true, true, true, true, true, true, true, true, true, true, false, false, false] rfl rfl (one_of HT_.out (by kernel_rfl)) (by decide) (fun K hK => ?_)
                refine goes_ Try.func15 (by kernel_rfl) rfl #[.agg #[.int .u32 a0_0, .int .u32 a0_1, .int .u16 a0_2, .int .u16 a0_3, .int .u8 a0_4], .agg #[.int .u32 a2_0, .int .u32 a2_1, .int .u16 a2_2, .int .u16 a2_3, .int .u8 a2_4]] (by rfl) rfl rfl (by (try simp only [List.map_toArray, List.map_cons, List.map_nil]); first | done | rfl) ?_
                with_reducible refine (key_Less.calls k a0_0 a0_1 a0_2 a0_3 a0_4 a2_0 a2_1 a2_2 a2_3 a2_4 t297 _ A26.out).mono ?_
                rintro e w33 ⟨rfl, hb⟩
                refine ⟨_, rfl, ?_⟩
                have n0_ := Aside0.mk (blk_below (g := gb289) (o := .cells #[.int .u32 a0_0, .int .u32 a0_1, .int .u16 a0_2, .int .u16 a0_3, .int .u8 a0_4] 29 (0, 0)) (by (with_reducible repeat first | apply blk_drewN | apply blk_drew | apply blk_alloc); exact BK289.out) hb)
                have n1_ := Aside0.mk (blk_below (g := gb290) (o := .cells #[.int .u32 a1_0, .int .u32 a1_1, .int .u16 a1_2, .int .u16 a1_3, .int .u8 a1_4] 29 (0, 0)) (by (with_reducible repeat first | apply blk_drewN | apply blk_drew | apply blk_alloc); exact BK290.out) hb)
                have n2_ := Aside0.mk (blk_below (g := gb291) (o := .cells #[.int .u32 a2_0, .int .u32 a2_1, .int .u16 a2_2, .int .u16 a2_3, .int .u8 a2_4] 29 (0, 0)) (by (with_reducible repeat first | apply blk_drewN | apply blk_drew | apply blk_alloc); exact BK291.out) hb)
                have n3_ := Aside0.mk (below_step (by repeat first | (with_reducible first | exact HB.out | apply below_alloc | apply pw_below_drewN | apply below_drew1 | refine below_set ?_ GE289.out | refine below_set ?_ GE290.out | refine below_set ?_ GE291.out) | exact HB.out) hb)
                clear BK289
                clear BK290
                clear BK291
                clear HB
                have BK289 := n0_
                have BK290 := n1_
                have BK291 := n2_
                have HB := n3_
                clear n0_ n1_ n2_ n3_
                (try clear hb)
                (try clear hb2)
                (try clear hk)
                (try clear hi)
                refine hK.out _ _ ⟨(blk_cell BK289.out 0).trans rfl, (blk_cell BK289.out 1).trans rfl, (blk_cell BK289.out 2).trans rfl, (blk_cell BK289.out 3).trans rfl, (blk_cell BK289.out 4).trans rfl, (blk_cell BK290.out 0).trans rfl, (blk_cell BK290.out 1).trans rfl, (blk_cell BK290.out 2).trans rfl, (blk_cell BK290.out 3).trans rfl, (blk_cell BK290.out 4).trans rfl, (blk_cell BK291.out 0).trans rfl, (blk_cell BK291.out 1).trans rfl, (blk_cell BK291.out 2).trans rfl, (blk_cell BK291.out 3).trans rfl, (blk_cell BK291.out 4).trans rfl⟩ (fun hHeld => ?_)
                clear hK K
                refine norm_ (a' := ?_) ?_ ?_
                rotate_left
                · show Act.put _ (some 45) _ = _
                  simp only [Act.put, List.setIfInBounds_toArray, List.set_cons_zero, List.set_cons_succ, i64_w, i32_w]
                  rfl
                refine pure_ (i := 35) (N := some 46) (v := ?_) (a' := ?_) #[true, true, true, true, true, true, true, true, true, true, true, true, true, true, true, true, true, true, true, true, true, true, true, true, true, true, true, true, true, true, true, true, true, true, true, true, false, false] rfl rfl (any_of HT_.out (by kernel_rfl)) (fun _ _ _ h => h) (Or.inl ⟨by rfl, ?_⟩) ?_ ?_
                rotate_left
                · intro w'
                  go_simp
                  with_reducible rfl
                rotate_left
                · simp only [Act.put, List.setIfInBounds_toArray, List.set_cons_zero, List.set_cons_succ, i64_w, i32_w]
                  rfl
                refine pure_ (i := 36) (N := some 47) (v := ?_) (a' := ?_) #[true, true, true, true, true, true, true, true, true, true, true, true, true, true, true, true, true, true, true, true, true, true, true, true, true, true, true, true, true, true, true, true, true, true, true, true, true, false] rfl rfl (any_of HT_.out (by kernel_rfl)) (fun _ _ _ h => h) (Or.inl ⟨by rfl, ?_⟩) ?_ ?_
                rotate_left
                · intro w'
                  go_simp
                  with_reducible rfl
                rotate_left
                · simp only [Act.put, List.setIfInBounds_toArray, List.set_cons_zero, List.set_cons_succ, i64_w, i32_w]
                  rfl
                refine pure_ (i := 37) (N := some 48) (v := ?_) (a' := ?_) #[true, true, true, true, true, true, true, true, true, true, true, true, true, true, true, true, true, true, true, true, true, true, true, true, true, true, true, true, true, true, true, true, true, true, true, true, true, true] rfl rfl (any_of HT_.out (by kernel_rfl)) (fun _ _ _ h => h) (Or.inl ⟨by rfl, ?_⟩) ?_ ?_
                rotate_left
                · intro w'
                  go_simp
                  with_reducible rfl
                rotate_left
                · simp only [Act.put, List.setIfInBounds_toArray, List.set_cons_zero, List.set_cons_succ, i64_w, i32_w]
                  rfl
                refine done_ (done_of HT_.out (by kernel_rfl)) ?_
                try go_wp2
                go_meet
                case rel => exact ⟨_, (!t297), (by first | rfl | (simp; done) | (simp [*]; done)), H', ⟨by first | omega | exact Nat.le_refl _⟩, ⟨by (with_reducible repeat first | apply blk_drewN | apply blk_drew | apply blk_alloc); exact BK289.out⟩, ⟨by (with_reducible repeat first | apply blk_drewN | apply blk_drew | apply blk_alloc); exact BK290.out⟩, ⟨by (with_reducible repeat first | apply blk_drewN | apply blk_drew | apply blk_alloc); exact BK291.out⟩, ⟨by repeat first | (with_reducible first | exact HB.out | apply below_alloc | apply pw_below_drewN | apply below_drew1 | refine below_set ?_ GE289.out | refine below_set ?_ GE290.out | refine below_set ?_ GE291.out) | exact HB.out⟩⟩
              · replace c25 := Bool.eq_false_iff.mpr c25
                subst c25
                have H1 : (mantletlaw10_KeyOrders.j0 k a3 false a0_0 a0_1 a0_2 a0_3 a0_4) = some r := by rw [if_neg (show ¬ (false = true) by decide)] at H; exact H
                clear H
                have H := H1
                clear H1
                have H' := Aside0.mk H
                clear H
                try go_wp2
                have n0_ := Aside0.mk (blk_drew BK289.out)
                have n1_ := Aside0.mk (blk_drew BK290.out)
                have n2_ := Aside0.mk (blk_drew BK291.out)
                have n3_ := Aside0.mk (below_drew1 HB.out)
                clear BK289
                clear BK290
                clear BK291
                clear HB
                have BK289 := n0_
                have BK290 := n1_
                have BK291 := n2_
                have HB := n3_
                clear n0_ n1_ n2_ n3_
                refine start_ (n := 38) (S := fun w' => w'.cell? ⟨gb289, 0, none⟩ = some (.int .u32 a0_0) ∧ w'.cell? ⟨gb289, 1, none⟩ = some (.int .u32 a0_1) ∧ w'.cell? ⟨gb289, 2, none⟩ = some (.int .u16 a0_2) ∧ w'.cell? ⟨gb289, 3, none⟩ = some (.int .u16 a0_3) ∧ w'.cell? ⟨gb289, 4, none⟩ = some (.int .u8 a0_4) ∧ w'.cell? ⟨gb290, 0, none⟩ = some (.int .u32 a1_0) ∧ w'.cell? ⟨gb290, 1, none⟩ = some (.int .u32 a1_1) ∧ w'.cell? ⟨gb290, 2, none⟩ = some (.int .u16 a1_2) ∧ w'.cell? ⟨gb290, 3, none⟩ = some (.int .u16 a1_3) ∧ w'.cell? ⟨gb290, 4, none⟩ = some (.int .u8 a1_4) ∧ w'.cell? ⟨gb291, 0, none⟩ = some (.int .u32 a2_0) ∧ w'.cell? ⟨gb291, 1, none⟩ = some (.int .u32 a2_1) ∧ w'.cell? ⟨gb291, 2, none⟩ = some (.int .u16 a2_2) ∧ w'.cell? ⟨gb291, 3, none⟩ = some (.int .u16 a2_3) ∧ w'.cell? ⟨gb291, 4, none⟩ = some (.int .u8 a2_4)) (ds := []) #[false, false, false, false, false, false, false, false, false, false, false, false, false, false, false, false, false, false, false, false, false, false, false, false, false, false, false, false, false, false, false, false, false, false, false, false, false, false] (by kernel_rfl) rfl rfl ⟨(blk_cell BK289.out 0).trans rfl, (blk_cell BK289.out 1).trans rfl, (blk_cell BK289.out 2).trans rfl, (blk_cell BK289.out 3).trans rfl, (blk_cell BK289.out 4).trans rfl, (blk_cell BK290.out 0).trans rfl, (blk_cell BK290.out 1).trans rfl, (blk_cell BK290.out 2).trans rfl, (blk_cell BK290.out 3).trans rfl, (blk_cell BK290.out 4).trans rfl, (blk_cell BK291.out 0).trans rfl, (blk_cell BK291.out 1).trans rfl, (blk_cell BK291.out 2).trans rfl, (blk_cell BK291.out 3).trans rfl, (blk_cell BK291.out 4).trans rfl⟩ (fun hHeld => ?_); refine with_tabW mantletlaw10_KeyOrders.tab1 mantletlaw10_KeyOrders.bits1 (fun HT_ HW_ => ?_)
                generalize w8.drew = w34 at BK289 BK290 BK291 HB hHeld ⊢
                refine take_ (i := 0) (N := some 11) (v := ?_) (a' := ?_) #[true, false, false, false, false, false, false, false, false, false, false, false, false, false, false, false, false, false, false, false, false, false, false, false, false, false, false, false, false, false, false, false, false, false, false, false, false, false] rfl rfl (take_ofW HT_.out HW_.out (by kernel_rfl)) (fun _ _ _ h => h) (Or.inl ⟨by rfl, ?_⟩) hHeld ?_ ?_
                rotate_left
                · rintro w' ⟨s0, s1, s2, s3, s4, s5, s6, s7, s8, s9, s10, s11, s12, s13, s14⟩
                  go_simp
                  with_reducible rfl
                rotate_left
                · simp only [Act.put, List.setIfInBounds_toArray, List.set_cons_zero, List.set_cons_succ, i64_w, i32_w]
                  rfl
                refine take_ (i := 1) (N := some 12) (v := ?_) (a' := ?_) #[true, true, false, false, false, false, false, false, false, false, false, false, false, false, false, false, false, false, false, false, false, false, false, false, false, false, false, false, false, false, false, false, false, false, false, false, false, false] rfl rfl (take_ofW HT_.out HW_.out (by kernel_rfl)) (fun _ _ _ h => h) (Or.inl ⟨by rfl, ?_⟩) hHeld ?_ ?_
                rotate_left
                · rintro w' ⟨s0, s1, s2, s3, s4, s5, s6, s7, s8, s9, s10, s11, s12, s13, s14⟩
                  go_simp
                  with_reducible rfl
                rotate_left
                · simp only [Act.put, List.setIfInBounds_toArray, List.set_cons_zero, List.set_cons_succ, i64_w, i32_w]
                  rfl
                refine pure_ (i := 2) (N := some 13) (v := ?_) (a' := ?_) #[true, true, true, false, false, false, false, false, false, false, false, false, false, false, false, false, false, false, false, false, false, false, false, false, false, false, false, false, false, false, false, false, false, false, false, false, false, false] rfl rfl (any_of HT_.out (by kernel_rfl)) (fun _ _ _ h => h) (Or.inl ⟨by rfl, ?_⟩) ?_ ?_
                rotate_left
                · intro w'
                  go_simp
                  with_reducible rfl
                rotate_left
                · simp only [Act.put, List.setIfInBounds_toArray, List.set_cons_zero, List.set_cons_succ, i64_w, i32_w]
                  rfl
                refine take_ (i := 3) (N := some 14) (v := ?_) (a' := ?_) #[true, true, true, true, false, false, false, false, false, false, false, false, false, false, false, false, false, false, false, false, false, false, false, false, false, false, false, false, false, false, false, false, false, false, false, false, false, false] rfl rfl (take_ofW HT_.out HW_.out (by kernel_rfl)) (fun _ _ _ h => h) (Or.inl ⟨by rfl, ?_⟩) hHeld ?_ ?_
                rotate_left
                · rintro w' ⟨s0, s1, s2, s3, s4, s5, s6, s7, s8, s9, s10, s11, s12, s13, s14⟩
                  go_simp
                  with_reducible rfl
                rotate_left
                · simp only [Act.put, List.setIfInBounds_toArray, List.set_cons_zero, List.set_cons_succ, i64_w, i32_w]
                  rfl
                refine take_ (i := 4) (N := some 15) (v := ?_) (a' := ?_) #[true, true, true, true, true, false, false, false, false, false, false, false, false, false, false, false, false, false, false, false, false, false, false, false, false, false, false, false, false, false, false, false, false, false, false, false, false, false] rfl rfl (take_ofW HT_.out HW_.out (by kernel_rfl)) (fun _ _ _ h => h) (Or.inl ⟨by rfl, ?_⟩) hHeld ?_ ?_
                rotate_left
                · rintro w' ⟨s0, s1, s2, s3, s4, s5, s6, s7, s8, s9, s10, s11, s12, s13, s14⟩
                  go_simp
                  with_reducible rfl
                rotate_left
                · simp only [Act.put, List.setIfInBounds_toArray, List.set_cons_zero, List.set_cons_succ, i64_w, i32_w]
                  rfl
                refine one_ (i := 5) (N := some 16) #[true, true, true, true, true, true, false, false, false, false, false, false, false, false, false, false, false, false, false, false, false, false, false, false, false, false, false, false, false, false, false, false, false, false, false, false, false, false] rfl rfl (one_of HT_.out (by kernel_rfl)) (by decide) (fun K hK => ?_)
                refine goes_ Try.func15 (by kernel_rfl) rfl #[.agg #[.int .u32 a0_0, .int .u32 a0_1, .int .u16 a0_2, .int .u16 a0_3, .int .u8 a0_4], .agg #[.int .u32 a1_0, .int .u32 a1_1, .int .u16 a1_2, .int .u16 a1_3, .int .u8 a1_4]] (by rfl) rfl rfl (by (try simp only [List.map_toArray, List.map_cons, List.map_nil]); first | done | rfl) ?_
                with_reducible refine (key_Less.calls k a0_0 a0_1 a0_2 a0_3 a0_4 a1_0 a1_1 a1_2 a1_3 a1_4 true _ A9.out).mono ?_
                rintro e w35 ⟨rfl, hb⟩
                refine ⟨_, rfl, ?_⟩
                have n0_ := Aside0.mk (blk_below (g := gb289) (o := .cells #[.int .u32 a0_0, .int .u32 a0_1, .int .u16 a0_2, .int .u16 a0_3, .int .u8 a0_4] 29 (0, 0)) (by (with_reducible repeat first | apply blk_drewN | apply blk_drew | apply blk_alloc); exact BK289.out) hb)
                have n1_ := Aside0.mk (blk_below (g := gb290) (o := .cells #[.int .u32 a1_0, .int .u32 a1_1, .int .u16 a1_2, .int .u16 a1_3, .int .u8 a1_4] 29 (0, 0)) (by (with_reducible repeat first | apply blk_drewN | apply blk_drew | apply blk_alloc); exact BK290.out) hb)
                have n2_ := Aside0.mk (blk_below (g := gb291) (o := .cells #[.int .u32 a2_0, .int .u32 a2_1, .int .u16 a2_2, .int .u16 a2_3, .int .u8 a2_4] 29 (0, 0)) (by (with_reducible repeat first | apply blk_drewN | apply blk_drew | apply blk_alloc); exact BK291.out) hb)
                have n3_ := Aside0.mk (below_step (by repeat first | (with_reducible first | exact HB.out | apply below_alloc | apply pw_below_drewN | apply below_drew1 | refine below_set ?_ GE289.out | refine below_set ?_ GE290.out | refine below_set ?_ GE291.out) | exact HB.out) hb)
                clear BK289
                clear BK290
                clear BK291
                clear HB
                have BK289 := n0_
                have BK290 := n1_
                have BK291 := n2_
                have HB := n3_
                clear n0_ n1_ n2_ n3_
                (try clear hb)
                (try clear hb2)
                (try clear hk)
                (try clear hi)
                refine hK.out _ _ ⟨(blk_cell BK289.out 0).trans rfl, (blk_cell BK289.out 1).trans rfl, (blk_cell BK289.out 2).trans rfl, (blk_cell BK289.out 3).trans rfl, (blk_cell BK289.out 4).trans rfl, (blk_cell BK290.out 0).trans rfl, (blk_cell BK290.out 1).trans rfl, (blk_cell BK290.out 2).trans rfl, (blk_cell BK290.out 3).trans rfl, (blk_cell BK290.out 4).trans rfl, (blk_cell BK291.out 0).trans rfl, (blk_cell BK291.out 1).trans rfl, (blk_cell BK291.out 2).trans rfl, (blk_cell BK291.out 3).trans rfl, (blk_cell BK291.out 4).trans rfl⟩ (fun hHeld => ?_)
                clear hK K
                refine norm_ (a' := ?_) ?_ ?_
                rotate_left
                · show Act.put _ (some 16) _ = _
                  simp only [Act.put, List.setIfInBounds_toArray, List.set_cons_zero, List.set_cons_succ, i64_w, i32_w]
                  rfl
                refine pure_ (i := 6) (N := some 17) (v := ?_) (a' := ?_) #[true, true, true, true, true, true, true, false, false, false, false, false, false, false, false, false, false, false, false, false, false, false, false, false, false, false, false, false, false, false, false, false, false, false, false, false, false, false] rfl rfl (any_of HT_.out (by kernel_rfl)) (fun _ _ _ h => h) (Or.inl ⟨by rfl, ?_⟩) ?_ ?_
                rotate_left
                · intro w'
                  go_simp
                  with_reducible rfl
                rotate_left
                · simp only [Act.put, List.setIfInBounds_toArray, List.set_cons_zero, List.set_cons_succ, i64_w, i32_w]
                  rfl
                refine pure_ (i := 7) (N := some 18) (v := undef) (a' := ?_) #[true, true, true, true, true, true, true, true, false, false, false, false, false, false, false, false, false, false, false, false, false, false, false, false, false, false, false, false, false, false, false, false, false, false, false, false, false, false] rfl rfl (any_of HT_.out (by kernel_rfl)) (fun _ _ _ h => h) (Or.inr ⟨by rfl, rfl⟩) ?_ ?_
                rotate_left
                · simp only [Act.put, List.setIfInBounds_toArray, List.set_cons_zero, List.set_cons_succ, i64_w, i32_w]
                  rfl
                refine pure_ (i := 8) (N := some 19) (v := undef) (a' := ?_) #[true, true, true, true, true, true, true, true, true, false, false, false, false, false, false, false, false, false, false, false, false, false, false, false, false, false, false, false, false, false, false, false, false, false, false, false, false, false] rfl rfl (any_of HT_.out (by kernel_rfl)) (fun _ _ _ h => h) (Or.inr ⟨by rfl, rfl⟩) ?_ ?_
                rotate_left
                · simp only [Act.put, List.setIfInBounds_toArray, List.set_cons_zero, List.set_cons_succ, i64_w, i32_w]
                  rfl
                refine pure_ (i := 9) (N := some 20) (v := undef) (a' := ?_) #[true, true, true, true, true, true, true, true, true, true, false, false, false, false, false, false, false, false, false, false, false, false, false, false, false, false, false, false, false, false, false, false, false, false, false, false, false, false] rfl rfl (any_of HT_.out (by kernel_rfl)) (fun _ _ _ h => h) (Or.inr ⟨by rfl, rfl⟩) ?_ ?_
                rotate_left
                · simp only [Act.put, List.setIfInBounds_toArray, List.set_cons_zero, List.set_cons_succ, i64_w, i32_w]
                  rfl
                refine pure_ (i := 10) (N := some 21) (v := ?_) (a' := ?_) #[true, true, true, true, true, true, true, true, true, true, true, false, false, false, false, false, false, false, false, false, false, false, false, false, false, false, false, false, false, false, false, false, false, false, false, false, false, false] rfl rfl (any_of HT_.out (by kernel_rfl)) (fun _ _ _ h => h) (Or.inl ⟨by rfl, ?_⟩) ?_ ?_
                rotate_left
                · intro w'
                  go_simp
                  with_reducible rfl
                rotate_left
                · simp only [Act.put, List.setIfInBounds_toArray, List.set_cons_zero, List.set_cons_succ, i64_w, i32_w]
                  rfl
                refine pure_ (i := 11) (N := some 22) (v := ?_) (a' := ?_) #[true, true, true, true, true, true, true, true, true, true, true, true, false, false, false, false, false, false, false, false, false, false, false, false, false, false, false, false, false, false, false, false, false, false, false, false, false, false] rfl rfl (any_of HT_.out (by kernel_rfl)) (fun _ _ _ h => h) (Or.inl ⟨by rfl, ?_⟩) ?_ ?_
                rotate_left
                · intro w'
                  go_simp
                  with_reducible rfl
                rotate_left
                · simp only [Act.put, List.setIfInBounds_toArray, List.set_cons_zero, List.set_cons_succ, i64_w, i32_w]
                  rfl
                refine pure_ (i := 12) (N := some 23) (v := ?_) (a' := ?_) #[true, true, true, true, true, true, true, true, true, true, true, true, true, false, false, false, false, false, false, false, false, false, false, false, false, false, false, false, false, false, false, false, false, false, false, false, false, false] rfl rfl (any_of HT_.out (by kernel_rfl)) (fun _ _ _ h => h) (Or.inl ⟨by rfl, ?_⟩) ?_ ?_
                rotate_left
                · intro w'
                  go_simp
                  with_reducible rfl
                rotate_left
                · simp only [Act.put, List.setIfInBounds_toArray, List.set_cons_zero, List.set_cons_succ, i64_w, i32_w]
                  rfl
                refine take_ (i := 13) (N := some 24) (v := ?_) (a' := ?_) #[true, true, true, true, true, true, true, true, true, true, true, true, true, true, false, false, false, false, false, false, false, false, false, false, false, false, false, false, false, false, false, false, false, false, false, false, false, false] rfl rfl (take_ofW HT_.out HW_.out (by kernel_rfl)) (fun _ _ _ h => h) (Or.inl ⟨by rfl, ?_⟩) hHeld ?_ ?_
                rotate_left
                · rintro w' ⟨s0, s1, s2, s3, s4, s5, s6, s7, s8, s9, s10, s11, s12, s13, s14⟩
                  go_simp
                  with_reducible rfl
                rotate_left
                · simp only [Act.put, List.setIfInBounds_toArray, List.set_cons_zero, List.set_cons_succ, i64_w, i32_w]
                  rfl
                refine take_ (i := 14) (N := some 25) (v := ?_) (a' := ?_) #[true, true, true, true, true, true, true, true, true, true, true, true, true, true, true, false, false, false, false, false, false, false, false, false, false, false, false, false, false, false, false, false, false, false, false, false, false, false] rfl rfl (take_ofW HT_.out HW_.out (by kernel_rfl)) (fun _ _ _ h => h) (Or.inl ⟨by rfl, ?_⟩) hHeld ?_ ?_
                rotate_left
                · rintro w' ⟨s0, s1, s2, s3, s4, s5, s6, s7, s8, s9, s10, s11, s12, s13, s14⟩
                  go_simp
                  with_reducible rfl
                rotate_left
                · simp only [Act.put, List.setIfInBounds_toArray, List.set_cons_zero, List.set_cons_succ, i64_w, i32_w]
                  rfl
                refine one_ (i := 15) (N := some 26) #[true, true, true, true, true, true, true, true, true, true, true, true, true, true, true, true, false, false, false, false, false, false, false, false, false, false, false, false, false, false, false, false, false, false, false, false, false, false] rfl rfl (one_of HT_.out (by kernel_rfl)) (by decide) (fun K hK => ?_)
                refine goes_ Try.func15 (by kernel_rfl) rfl #[.agg #[.int .u32 a0_0, .int .u32 a0_1, .int .u16 a0_2, .int .u16 a0_3, .int .u8 a0_4], .agg #[.int .u32 a1_0, .int .u32 a1_1, .int .u16 a1_2, .int .u16 a1_3, .int .u8 a1_4]] (by rfl) rfl rfl (by (try simp only [List.map_toArray, List.map_cons, List.map_nil]); first | done | rfl) ?_
                with_reducible refine (key_Less.calls k a0_0 a0_1 a0_2 a0_3 a0_4 a1_0 a1_1 a1_2 a1_3 a1_4 true _ A14.out).mono ?_
                rintro e w36 ⟨rfl, hb⟩
                refine ⟨_, rfl, ?_⟩
                have n0_ := Aside0.mk (blk_below (g := gb289) (o := .cells #[.int .u32 a0_0, .int .u32 a0_1, .int .u16 a0_2, .int .u16 a0_3, .int .u8 a0_4] 29 (0, 0)) (by (with_reducible repeat first | apply blk_drewN | apply blk_drew | apply blk_alloc); exact BK289.out) hb)
                have n1_ := Aside0.mk (blk_below (g := gb290) (o := .cells #[.int .u32 a1_0, .int .u32 a1_1, .int .u16 a1_2, .int .u16 a1_3, .int .u8 a1_4] 29 (0, 0)) (by (with_reducible repeat first | apply blk_drewN | apply blk_drew | apply blk_alloc); exact BK290.out) hb)
                have n2_ := Aside0.mk (blk_below (g := gb291) (o := .cells #[.int .u32 a2_0, .int .u32 a2_1, .int .u16 a2_2, .int .u16 a2_3, .int .u8 a2_4] 29 (0, 0)) (by (with_reducible repeat first | apply blk_drewN | apply blk_drew | apply blk_alloc); exact BK291.out) hb)
                have n3_ := Aside0.mk (below_step (by repeat first | (with_reducible first | exact HB.out | apply below_alloc | apply pw_below_drewN | apply below_drew1 | refine below_set ?_ GE289.out | refine below_set ?_ GE290.out | refine below_set ?_ GE291.out) | exact HB.out) hb)
                clear BK289
                clear BK290
                clear BK291
                clear HB
                have BK289 := n0_
                have BK290 := n1_
                have BK291 := n2_
                have HB := n3_
                clear n0_ n1_ n2_ n3_
                (try clear hb)
                (try clear hb2)
                (try clear hk)
                (try clear hi)
                refine hK.out _ _ ⟨(blk_cell BK289.out 0).trans rfl, (blk_cell BK289.out 1).trans rfl, (blk_cell BK289.out 2).trans rfl, (blk_cell BK289.out 3).trans rfl, (blk_cell BK289.out 4).trans rfl, (blk_cell BK290.out 0).trans rfl, (blk_cell BK290.out 1).trans rfl, (blk_cell BK290.out 2).trans rfl, (blk_cell BK290.out 3).trans rfl, (blk_cell BK290.out 4).trans rfl, (blk_cell BK291.out 0).trans rfl, (blk_cell BK291.out 1).trans rfl, (blk_cell BK291.out 2).trans rfl, (blk_cell BK291.out 3).trans rfl, (blk_cell BK291.out 4).trans rfl⟩ (fun hHeld => ?_)
                clear hK K
                refine norm_ (a' := ?_) ?_ ?_
                rotate_left
                · show Act.put _ (some 26) _ = _
                  simp only [Act.put, List.setIfInBounds_toArray, List.set_cons_zero, List.set_cons_succ, i64_w, i32_w]
                  rfl
                refine pure_ (i := 16) (N := some 27) (v := ?_) (a' := ?_) #[true, true, true, true, true, true, true, true, true, true, true, true, true, true, true, true, true, false, false, false, false, false, false, false, false, false, false, false, false, false, false, false, false, false, false, false, false, false] rfl rfl (any_of HT_.out (by kernel_rfl)) (fun _ _ _ h => h) (Or.inl ⟨by rfl, ?_⟩) ?_ ?_
                rotate_left
                · intro w'
                  go_simp
                  with_reducible rfl
                rotate_left
                · simp only [Act.put, List.setIfInBounds_toArray, List.set_cons_zero, List.set_cons_succ, i64_w, i32_w]
                  rfl
                refine take_ (i := 17) (N := some 28) (v := ?_) (a' := ?_) #[true, true, true, true, true, true, true, true, true, true, true, true, true, true, true, true, true, true, false, false, false, false, false, false, false, false, false, false, false, false, false, false, false, false, false, false, false, false] rfl rfl (take_ofW HT_.out HW_.out (by kernel_rfl)) (fun _ _ _ h => h) (Or.inl ⟨by rfl, ?_⟩) hHeld ?_ ?_
                rotate_left
                · rintro w' ⟨s0, s1, s2, s3, s4, s5, s6, s7, s8, s9, s10, s11, s12, s13, s14⟩
                  go_simp
                  with_reducible rfl
                rotate_left
                · simp only [Act.put, List.setIfInBounds_toArray, List.set_cons_zero, List.set_cons_succ, i64_w, i32_w]
                  rfl
                refine take_ (i := 18) (N := some 29) (v := ?_) (a' := ?_) #[true, true, true, true, true, true, true, true, true, true, true, true, true, true, true, true, true, true, true, false, false, false, false, false, false, false, false, false, false, false, false, false, false, false, false, false, false, false] rfl rfl (take_ofW HT_.out HW_.out (by kernel_rfl)) (fun _ _ _ h => h) (Or.inl ⟨by rfl, ?_⟩) hHeld ?_ ?_
                rotate_left
                · rintro w' ⟨s0, s1, s2, s3, s4, s5, s6, s7, s8, s9, s10, s11, s12, s13, s14⟩
                  go_simp
                  with_reducible rfl
                rotate_left
                · simp only [Act.put, List.setIfInBounds_toArray, List.set_cons_zero, List.set_cons_succ, i64_w, i32_w]
                  rfl
                refine one_ (i := 19) (N := some 30) #[true, true, true, true, true, true, true, true, true, true, true, true, true, true, true, true, true, true, true, true, false, false, false, false, false, false, false, false, false, false, false, false, false, false, false, false, false, false] rfl rfl (one_of HT_.out (by kernel_rfl)) (by decide) (fun K hK => ?_)
                refine goes_ Try.func15 (by kernel_rfl) rfl #[.agg #[.int .u32 a1_0, .int .u32 a1_1, .int .u16 a1_2, .int .u16 a1_3, .int .u8 a1_4], .agg #[.int .u32 a0_0, .int .u32 a0_1, .int .u16 a0_2, .int .u16 a0_3, .int .u8 a0_4]] (by rfl) rfl rfl (by (try simp only [List.map_toArray, List.map_cons, List.map_nil]); first | done | rfl) ?_
                with_reducible refine (key_Less.calls k a1_0 a1_1 a1_2 a1_3 a1_4 a0_0 a0_1 a0_2 a0_3 a0_4 false _ A16.out).mono ?_
                rintro e w37 ⟨rfl, hb⟩
                refine ⟨_, rfl, ?_⟩
                have n0_ := Aside0.mk (blk_below (g := gb289) (o := .cells #[.int .u32 a0_0, .int .u32 a0_1, .int .u16 a0_2, .int .u16 a0_3, .int .u8 a0_4] 29 (0, 0)) (by (with_reducible repeat first | apply blk_drewN | apply blk_drew | apply blk_alloc); exact BK289.out) hb)
                have n1_ := Aside0.mk (blk_below (g := gb290) (o := .cells #[.int .u32 a1_0, .int .u32 a1_1, .int .u16 a1_2, .int .u16 a1_3, .int .u8 a1_4] 29 (0, 0)) (by (with_reducible repeat first | apply blk_drewN | apply blk_drew | apply blk_alloc); exact BK290.out) hb)
                have n2_ := Aside0.mk (blk_below (g := gb291) (o := .cells #[.int .u32 a2_0, .int .u32 a2_1, .int .u16 a2_2, .int .u16 a2_3, .int .u8 a2_4] 29 (0, 0)) (by (with_reducible repeat first | apply blk_drewN | apply blk_drew | apply blk_alloc); exact BK291.out) hb)
                have n3_ := Aside0.mk (below_step (by repeat first | (with_reducible first | exact HB.out | apply below_alloc | apply pw_below_drewN | apply below_drew1 | refine below_set ?_ GE289.out | refine below_set ?_ GE290.out | refine below_set ?_ GE291.out) | exact HB.out) hb)
                clear BK289
                clear BK290
                clear BK291
                clear HB
                have BK289 := n0_
                have BK290 := n1_
                have BK291 := n2_
                have HB := n3_
                clear n0_ n1_ n2_ n3_
                (try clear hb)
                (try clear hb2)
                (try clear hk)
                (try clear hi)
                refine hK.out _ _ ⟨(blk_cell BK289.out 0).trans rfl, (blk_cell BK289.out 1).trans rfl, (blk_cell BK289.out 2).trans rfl, (blk_cell BK289.out 3).trans rfl, (blk_cell BK289.out 4).trans rfl, (blk_cell BK290.out 0).trans rfl, (blk_cell BK290.out 1).trans rfl, (blk_cell BK290.out 2).trans rfl, (blk_cell BK290.out 3).trans rfl, (blk_cell BK290.out 4).trans rfl, (blk_cell BK291.out 0).trans rfl, (blk_cell BK291.out 1).trans rfl, (blk_cell BK291.out 2).trans rfl, (blk_cell BK291.out 3).trans rfl, (blk_cell BK291.out 4).trans rfl⟩ (fun hHeld => ?_)
                clear hK K
                refine norm_ (a' := ?_) ?_ ?_
                rotate_left
                · show Act.put _ (some 30) _ = _
                  simp only [Act.put, List.setIfInBounds_toArray, List.set_cons_zero, List.set_cons_succ, i64_w, i32_w]
                  rfl
                refine pure_ (i := 20) (N := some 31) (v := ?_) (a' := ?_) #[true, true, true, true, true, true, true, true, true, true, true, true, true, true, true, true, true, true, true, true, true, false, false, false, false, false, false, false, false, false, false, false, false, false, false, false, false, false] rfl rfl (any_of HT_.out (by kernel_rfl)) (fun _ _ _ h => h) (Or.inl ⟨by rfl, ?_⟩) ?_ ?_
                rotate_left
                · intro w'
                  go_simp
                  with_reducible rfl
                rotate_left
                · simp only [Act.put, List.setIfInBounds_toArray, List.set_cons_zero, List.set_cons_succ, i64_w, i32_w]
                  rfl
                refine pure_ (i := 21) (N := some 32) (v := ?_) (a' := ?_) #[true, true, true, true, true, true, true, true, true, true, true, true, true, true, true, true, true, true, true, true, true, true, false, false, false, false, false, false, false, false, false, false, false, false, false, false, false, false] rfl rfl (any_of HT_.out (by kernel_rfl)) (fun _ _ _ h => h) (Or.inl ⟨by rfl, ?_⟩) ?_ ?_
                rotate_left
                · intro w'
                  go_simp
                  with_reducible rfl
                rotate_left
                · simp only [Act.put, List.setIfInBounds_toArray, List.set_cons_zero, List.set_cons_succ, i64_w, i32_w]
                  rfl
                refine pure_ (i := 22) (N := some 33) (v := ?_) (a' := ?_) #[true, true, true, true, true, true, true, true, true, true, true, true, true, true, true, true, true, true, true, true, true, true, true, false, false, false, false, false, false, false, false, false, false, false, false, false, false, false] rfl rfl (any_of HT_.out (by kernel_rfl)) (fun _ _ _ h => h) (Or.inl ⟨by rfl, ?_⟩) ?_ ?_
                rotate_left
                · intro w'
                  go_simp
                  with_reducible rfl
                rotate_left
                · simp only [Act.put, List.setIfInBounds_toArray, List.set_cons_zero, List.set_cons_succ, i64_w, i32_w]
                  rfl
                refine take_ (i := 23) (N := some 34) (v := ?_) (a' := ?_) #[true, true, true, true, true, true, true, true, true, true, true, true, true, true, true, true, true, true, true, true, true, true, true, true, false, false, false, false, false, false, false, false, false, false, false, false, false, false] rfl rfl (take_ofW HT_.out HW_.out (by kernel_rfl)) (fun _ _ _ h => h) (Or.inl ⟨by rfl, ?_⟩) hHeld ?_ ?_
                rotate_left
                · rintro w' ⟨s0, s1, s2, s3, s4, s5, s6, s7, s8, s9, s10, s11, s12, s13, s14⟩
                  go_simp
                  with_reducible rfl
                rotate_left
                · simp only [Act.put, List.setIfInBounds_toArray, List.set_cons_zero, List.set_cons_succ, i64_w, i32_w]
                  rfl
                refine take_ (i := 24) (N := some 35) (v := ?_) (a' := ?_) #[true, true, true, true, true, true, true, true, true, true, true, true, true, true, true, true, true, true, true, true, true, true, true, true, true, false, false, false, false, false, false, false, false, false, false, false, false, false] rfl rfl (take_ofW HT_.out HW_.out (by kernel_rfl)) (fun _ _ _ h => h) (Or.inl ⟨by rfl, ?_⟩) hHeld ?_ ?_
                rotate_left
                · rintro w' ⟨s0, s1, s2, s3, s4, s5, s6, s7, s8, s9, s10, s11, s12, s13, s14⟩
                  go_simp
                  with_reducible rfl
                rotate_left
                · simp only [Act.put, List.setIfInBounds_toArray, List.set_cons_zero, List.set_cons_succ, i64_w, i32_w]
                  rfl
                refine one_ (i := 25) (N := some 36) #[true, true, true, true, true, true, true, true, true, true, true, true, true, true, true, true, true, true, true, true, true, true, true, true, true, true, false, false, false, false, false, false, false, false, false, false, false, false] rfl rfl (one_of HT_.out (by kernel_rfl)) (by decide) (fun K hK => ?_)
                refine goes_ Try.func15 (by kernel_rfl) rfl #[.agg #[.int .u32 a0_0, .int .u32 a0_1, .int .u16 a0_2, .int .u16 a0_3, .int .u8 a0_4], .agg #[.int .u32 a1_0, .int .u32 a1_1, .int .u16 a1_2, .int .u16 a1_3, .int .u8 a1_4]] (by rfl) rfl rfl (by (try simp only [List.map_toArray, List.map_cons, List.map_nil]); first | done | rfl) ?_
                with_reducible refine (key_Less.calls k a0_0 a0_1 a0_2 a0_3 a0_4 a1_0 a1_1 a1_2 a1_3 a1_4 true _ A22.out).mono ?_
                rintro e w38 ⟨rfl, hb⟩
                refine ⟨_, rfl, ?_⟩
                have n0_ := Aside0.mk (blk_below (g := gb289) (o := .cells #[.int .u32 a0_0, .int .u32 a0_1, .int .u16 a0_2, .int .u16 a0_3, .int .u8 a0_4] 29 (0, 0)) (by (with_reducible repeat first | apply blk_drewN | apply blk_drew | apply blk_alloc); exact BK289.out) hb)
                have n1_ := Aside0.mk (blk_below (g := gb290) (o := .cells #[.int .u32 a1_0, .int .u32 a1_1, .int .u16 a1_2, .int .u16 a1_3, .int .u8 a1_4] 29 (0, 0)) (by (with_reducible repeat first | apply blk_drewN | apply blk_drew | apply blk_alloc); exact BK290.out) hb)
                have n2_ := Aside0.mk (blk_below (g := gb291) (o := .cells #[.int .u32 a2_0, .int .u32 a2_1, .int .u16 a2_2, .int .u16 a2_3, .int .u8 a2_4] 29 (0, 0)) (by (with_reducible repeat first | apply blk_drewN | apply blk_drew | apply blk_alloc); exact BK291.out) hb)
                have n3_ := Aside0.mk (below_step (by repeat first | (with_reducible first | exact HB.out | apply below_alloc | apply pw_below_drewN | apply below_drew1 | refine below_set ?_ GE289.out | refine below_set ?_ GE290.out | refine below_set ?_ GE291.out) | exact HB.out) hb)
                clear BK289
                clear BK290
                clear BK291
                clear HB
                have BK289 := n0_
                have BK290 := n1_
                have BK291 := n2_
                have HB := n3_
                clear n0_ n1_ n2_ n3_
                (try clear hb)
                (try clear hb2)
                (try clear hk)
                (try clear hi)
                refine hK.out _ _ ⟨(blk_cell BK289.out 0).trans rfl, (blk_cell BK289.out 1).trans rfl, (blk_cell BK289.out 2).trans rfl, (blk_cell BK289.out 3).trans rfl, (blk_cell BK289.out 4).trans rfl, (blk_cell BK290.out 0).trans rfl, (blk_cell BK290.out 1).trans rfl, (blk_cell BK290.out 2).trans rfl, (blk_cell BK290.out 3).trans rfl, (blk_cell BK290.out 4).trans rfl, (blk_cell BK291.out 0).trans rfl, (blk_cell BK291.out 1).trans rfl, (blk_cell BK291.out 2).trans rfl, (blk_cell BK291.out 3).trans rfl, (blk_cell BK291.out 4).trans rfl⟩ (fun hHeld => ?_)
                clear hK K
                refine norm_ (a' := ?_) ?_ ?_
                rotate_left
                · show Act.put _ (some 36) _ = _
                  simp only [Act.put, List.setIfInBounds_toArray, List.set_cons_zero, List.set_cons_succ, i64_w, i32_w]
                  rfl
                refine pure_ (i := 26) (N := some 37) (v := ?_) (a' := ?_) #[true, true, true, true, true, true, true, true, true, true, true, true, true, true, true, true, true, true, true, true, true, true, true, true, true, true, true, false, false, false, false, false, false, false, false, false, false, false] rfl rfl (any_of HT_.out (by kernel_rfl)) (fun _ _ _ h => h) (Or.inl ⟨by rfl, ?_⟩) ?_ ?_
                rotate_left
                · intro w'
                  go_simp
                  with_reducible rfl
                rotate_left
                · simp only [Act.put, List.setIfInBounds_toArray, List.set_cons_zero, List.set_cons_succ, i64_w, i32_w]
                  rfl
                refine take_ (i := 27) (N := some 38) (v := ?_) (a' := ?_) #[true, true, true, true, true, true, true, true, true, true, true, true, true, true, true, true, true, true, true, true, true, true, true, true, true, true, true, true, false, false, false, false, false, false, false, false, false, false] rfl rfl (take_ofW HT_.out HW_.out (by kernel_rfl)) (fun _ _ _ h => h) (Or.inl ⟨by rfl, ?_⟩) hHeld ?_ ?_
                rotate_left
                · rintro w' ⟨s0, s1, s2, s3, s4, s5, s6, s7, s8, s9, s10, s11, s12, s13, s14⟩
                  go_simp
                  with_reducible rfl
                rotate_left
                · simp only [Act.put, List.setIfInBounds_toArray, List.set_cons_zero, List.set_cons_succ, i64_w, i32_w]
                  rfl
                refine take_ (i := 28) (N := some 39) (v := ?_) (a' := ?_) #[true, true, true, true, true, true, true, true, true, true, true, true, true, true, true, true, true, true, true, true, true, true, true, true, true, true, true, true, true, false, false, false, false, false, false, false, false, false] rfl rfl (take_ofW HT_.out HW_.out (by kernel_rfl)) (fun _ _ _ h => h) (Or.inl ⟨by rfl, ?_⟩) hHeld ?_ ?_
                rotate_left
                · rintro w' ⟨s0, s1, s2, s3, s4, s5, s6, s7, s8, s9, s10, s11, s12, s13, s14⟩
                  go_simp
                  with_reducible rfl
                rotate_left
                · simp only [Act.put, List.setIfInBounds_toArray, List.set_cons_zero, List.set_cons_succ, i64_w, i32_w]
                  rfl
                refine one_ (i := 29) (N := some 40) #[true, true, true, true, true, true, true, true, true, true, true, true, true, true, true, true, true, true, true, true, true, true, true, true, true, true, true, true, true, true, false, false, false, false, false, false, false, false] rfl rfl (one_of HT_.out (by kernel_rfl)) (by decide) (fun K hK => ?_)
                refine goes_ Try.func15 (by kernel_rfl) rfl #[.agg #[.int .u32 a1_0, .int .u32 a1_1, .int .u16 a1_2, .int .u16 a1_3, .int .u8 a1_4], .agg #[.int .u32 a2_0, .int .u32 a2_1, .int .u16 a2_2, .int .u16 a2_3, .int .u8 a2_4]] (by rfl) rfl rfl (by (try simp only [List.map_toArray, List.map_cons, List.map_nil]); first | done | rfl) ?_
                with_reducible refine (key_Less.calls k a1_0 a1_1 a1_2 a1_3 a1_4 a2_0 a2_1 a2_2 a2_3 a2_4 false _ A24.out).mono ?_
                rintro e w39 ⟨rfl, hb⟩
                refine ⟨_, rfl, ?_⟩
                have n0_ := Aside0.mk (blk_below (g := gb289) (o := .cells #[.int .u32 a0_0, .int .u32 a0_1, .int .u16 a0_2, .int .u16 a0_3, .int .u8 a0_4] 29 (0, 0)) (by (with_reducible repeat first | apply blk_drewN | apply blk_drew | apply blk_alloc); exact BK289.out) hb)
                have n1_ := Aside0.mk (blk_below (g := gb290) (o := .cells #[.int .u32 a1_0, .int .u32 a1_1, .int .u16 a1_2, .int .u16 a1_3, .int .u8 a1_4] 29 (0, 0)) (by (with_reducible repeat first | apply blk_drewN | apply blk_drew | apply blk_alloc); exact BK290.out) hb)
                have n2_ := Aside0.mk (blk_below (g := gb291) (o := .cells #[.int .u32 a2_0, .int .u32 a2_1, .int .u16 a2_2, .int .u16 a2_3, .int .u8 a2_4] 29 (0, 0)) (by (with_reducible repeat first | apply blk_drewN | apply blk_drew | apply blk_alloc); exact BK291.out) hb)
                have n3_ := Aside0.mk (below_step (by repeat first | (with_reducible first | exact HB.out | apply below_alloc | apply pw_below_drewN | apply below_drew1 | refine below_set ?_ GE289.out | refine below_set ?_ GE290.out | refine below_set ?_ GE291.out) | exact HB.out) hb)
                clear BK289
                clear BK290
                clear BK291
                clear HB
                have BK289 := n0_
                have BK290 := n1_
                have BK291 := n2_
                have HB := n3_
                clear n0_ n1_ n2_ n3_
                (try clear hb)
                (try clear hb2)
                (try clear hk)
                (try clear hi)
                refine hK.out _ _ ⟨(blk_cell BK289.out 0).trans rfl, (blk_cell BK289.out 1).trans rfl, (blk_cell BK289.out 2).trans rfl, (blk_cell BK289.out 3).trans rfl, (blk_cell BK289.out 4).trans rfl, (blk_cell BK290.out 0).trans rfl, (blk_cell BK290.out 1).trans rfl, (blk_cell BK290.out 2).trans rfl, (blk_cell BK290.out 3).trans rfl, (blk_cell BK290.out 4).trans rfl, (blk_cell BK291.out 0).trans rfl, (blk_cell BK291.out 1).trans rfl, (blk_cell BK291.out 2).trans rfl, (blk_cell BK291.out 3).trans rfl, (blk_cell BK291.out 4).trans rfl⟩ (fun hHeld => ?_)
                clear hK K
                refine norm_ (a' := ?_) ?_ ?_
                rotate_left
                · show Act.put _ (some 40) _ = _
                  simp only [Act.put, List.setIfInBounds_toArray, List.set_cons_zero, List.set_cons_succ, i64_w, i32_w]
                  rfl
                refine pure_ (i := 30) (N := some 41) (v := ?_) (a' := ?_) #[true, true, true, true, true, true, true, true, true, true, true, true, true, true, true, true, true, true, true, true, true, true, true, true, true, true, true, true, true, true, true, false, false, false, false, false, false, false] rfl rfl (any_of HT_.out (by kernel_rfl)) (fun _ _ _ h => h) (Or.inl ⟨by rfl, ?_⟩) ?_ ?_
                rotate_left
                · intro w'
                  go_simp
                  with_reducible rfl
                rotate_left
                · simp only [Act.put, List.setIfInBounds_toArray, List.set_cons_zero, List.set_cons_succ, i64_w, i32_w]
                  rfl
                refine pure_ (i := 31) (N := some 42) (v := ?_) (a' := ?_) #[true, true, true, true, true, true, true, true, true, true, true, true, true, true, true, true, true, true, true, true, true, true, true, true, true, true, true, true, true, true, true, true, false, false, false, false, false, false] rfl rfl (any_of HT_.out (by kernel_rfl)) (fun _ _ _ h => h) (Or.inl ⟨by rfl, ?_⟩) ?_ ?_
                rotate_left
                · intro w'
                  go_simp
                  with_reducible rfl
                rotate_left
                · simp only [Act.put, List.setIfInBounds_toArray, List.set_cons_zero, List.set_cons_succ, i64_w, i32_w]
                  rfl
                refine pure_ (i := 32) (N := some 43) (v := undef) (a' := ?_) #[true, true, true, true, true, true, true, true, true, true, true, true, true, true, true, true, true, true, true, true, true, true, true, true, true, true, true, true, true, true, true, true, true, false, false, false, false, false] rfl rfl (any_of HT_.out (by kernel_rfl)) (fun _ _ _ h => h) (Or.inr ⟨by rfl, rfl⟩) ?_ ?_
                rotate_left
                · simp only [Act.put, List.setIfInBounds_toArray, List.set_cons_zero, List.set_cons_succ, i64_w, i32_w]
                  rfl
                refine pure_ (i := 33) (N := some 44) (v := undef) (a' := ?_) #[true, true, true, true, true, true, true, true, true, true, true, true, true, true, true, true, true, true, true, true, true, true, true, true, true, true, true, true, true, true, true, true, true, true, false, false, false, false] rfl rfl (any_of HT_.out (by kernel_rfl)) (fun _ _ _ h => h) (Or.inr ⟨by rfl, rfl⟩) ?_ ?_
                rotate_left
                · simp only [Act.put, List.setIfInBounds_toArray, List.set_cons_zero, List.set_cons_succ, i64_w, i32_w]
                  rfl
                refine pure_ (i := 34) (N := some 45) (v := undef) (a' := ?_) #[true, true, true, true, true, true, true, true, true, true, true, true, true, true, true, true, true, true, true, true, true, true, true, true, true, true, true, true, true, true, true, true, true, true, true, false, false, false] rfl rfl (any_of HT_.out (by kernel_rfl)) (fun _ _ _ h => h) (Or.inr ⟨by rfl, rfl⟩) ?_ ?_
                rotate_left
                · simp only [Act.put, List.setIfInBounds_toArray, List.set_cons_zero, List.set_cons_succ, i64_w, i32_w]
                  rfl
                refine pure_ (i := 35) (N := some 46) (v := undef) (a' := ?_) #[true, true, true, true, true, true, true, true, true, true, true, true, true, true, true, true, true, true, true, true, true, true, true, true, true, true, true, true, true, true, true, true, true, true, true, true, false, false] rfl rfl (any_of HT_.out (by kernel_rfl)) (fun _ _ _ h => h) (Or.inr ⟨by rfl, rfl⟩) ?_ ?_
                rotate_left
                · simp only [Act.put, List.setIfInBounds_toArray, List.set_cons_zero, List.set_cons_succ, i64_w, i32_w]
                  rfl
                refine pure_ (i := 36) (N := some 47) (v := ?_) (a' := ?_) #[true, true, true, true, true, true, true, true, true, true, true, true, true, true, true, true, true, true, true, true, true, true, true, true, true, true, true, true, true, true, true, true, true, true, true, true, true, false] rfl rfl (any_of HT_.out (by kernel_rfl)) (fun _ _ _ h => h) (Or.inl ⟨by rfl, ?_⟩) ?_ ?_
                rotate_left
                · intro w'
                  go_simp
                  with_reducible rfl
                rotate_left
                · simp only [Act.put, List.setIfInBounds_toArray, List.set_cons_zero, List.set_cons_succ, i64_w, i32_w]
                  rfl
                refine pure_ (i := 37) (N := some 48) (v := ?_) (a' := ?_) #[true, true, true, true, true, true, true, true, true, true, true, true, true, true, true, true, true, true, true, true, true, true, true, true, true, true, true, true, true, true, true, true, true, true, true, true, true, true] rfl rfl (any_of HT_.out (by kernel_rfl)) (fun _ _ _ h => h) (Or.inl ⟨by rfl, ?_⟩) ?_ ?_
                rotate_left
                · intro w'
                  go_simp
                  with_reducible rfl
                rotate_left
                · simp only [Act.put, List.setIfInBounds_toArray, List.set_cons_zero, List.set_cons_succ, i64_w, i32_w]
                  rfl
                refine done_ (done_of HT_.out (by kernel_rfl)) ?_
                try go_wp2
                go_meet
                case rel => exact ⟨_, (false), (by first | rfl | (simp; done) | (simp [*]; done)), H', ⟨by first | omega | exact Nat.le_refl _⟩, ⟨by (with_reducible repeat first | apply blk_drewN | apply blk_drew | apply blk_alloc); exact BK289.out⟩, ⟨by (with_reducible repeat first | apply blk_drewN | apply blk_drew | apply blk_alloc); exact BK290.out⟩, ⟨by (with_reducible repeat first | apply blk_drewN | apply blk_drew | apply blk_alloc); exact BK291.out⟩, ⟨by repeat first | (with_reducible first | exact HB.out | apply below_alloc | apply pw_below_drewN | apply below_drew1 | refine below_set ?_ GE289.out | refine below_set ?_ GE290.out | refine below_set ?_ GE291.out) | exact HB.out⟩⟩
            · exact absurd (Option.some.inj (A22.out.symm.trans A9.out)) c23
        · exact absurd (Option.some.inj (A14.out.symm.trans A9.out)) c15
    · replace c10 := Bool.eq_false_iff.mpr c10
      subst c10
      have H1 : ((key_Less.f k a1_0 a1_1 a1_2 a1_3 a1_4 a0_0 a0_1 a0_2 a0_3 a0_4).bind fun t301 => (if (((!(a0_0 == a1_0) || (!(a0_1 == a1_1))) || ((!(a0_2 == a1_2) || (!(a0_3 == a1_3))) || (!(a0_4 == a1_4)))) != t301) = true then (mantletlaw10_KeyOrders.j0 k a3 true a0_0 a0_1 a0_2 a0_3 a0_4) else ((key_Less.f k a0_0 a0_1 a0_2 a0_3 a0_4 a1_0 a1_1 a1_2 a1_3 a1_4).bind fun t302 => (if t302 = true then ((key_Less.f k a1_0 a1_1 a1_2 a1_3 a1_4 a0_0 a0_1 a0_2 a0_3 a0_4).bind fun t303 => (if t303 = true then (mantletlaw10_KeyOrders.j0 k a3 true a0_0 a0_1 a0_2 a0_3 a0_4) else ((key_Less.f k a0_0 a0_1 a0_2 a0_3 a0_4 a1_0 a1_1 a1_2 a1_3 a1_4).bind fun t304 => (if t304 = true then ((key_Less.f k a1_0 a1_1 a1_2 a1_3 a1_4 a2_0 a2_1 a2_2 a2_3 a2_4).bind fun t305 => (if t305 = true then ((key_Less.f k a0_0 a0_1 a0_2 a0_3 a0_4 a2_0 a2_1 a2_2 a2_3 a2_4).bind fun t306 => (mantletlaw10_KeyOrders.j0 k a3 (!t306) a0_0 a0_1 a0_2 a0_3 a0_4)) else (mantletlaw10_KeyOrders.j0 k a3 false a0_0 a0_1 a0_2 a0_3 a0_4))) else (mantletlaw10_KeyOrders.j0 k a3 false a0_0 a0_1 a0_2 a0_3 a0_4))))) else ((key_Less.f k a0_0 a0_1 a0_2 a0_3 a0_4 a1_0 a1_1 a1_2 a1_3 a1_4).bind fun t307 => (if t307 = true then ((key_Less.f k a1_0 a1_1 a1_2 a1_3 a1_4 a2_0 a2_1 a2_2 a2_3 a2_4).bind fun t308 => (if t308 = true then ((key_Less.f k a0_0 a0_1 a0_2 a0_3 a0_4 a2_0 a2_1 a2_2 a2_3 a2_4).bind fun t309 => (mantletlaw10_KeyOrders.j0 k a3 (!t309) a0_0 a0_1 a0_2 a0_3 a0_4)) else (mantletlaw10_KeyOrders.j0 k a3 false a0_0 a0_1 a0_2 a0_3 a0_4))) else (mantletlaw10_KeyOrders.j0 k a3 false a0_0 a0_1 a0_2 a0_3 a0_4))))))) = some r := by rw [if_neg (show ¬ (false = true) by decide)] at H; exact H
      clear H
      have H := H1
      clear H1
      replace H := Option.bind_eq_some_iff.mp H
      obtain ⟨t301, A650, H⟩ := H
      replace H : (if (((!(a0_0 == a1_0) || (!(a0_1 == a1_1))) || ((!(a0_2 == a1_2) || (!(a0_3 == a1_3))) || (!(a0_4 == a1_4)))) != t301) = true then (mantletlaw10_KeyOrders.j0 k a3 true a0_0 a0_1 a0_2 a0_3 a0_4) else ((key_Less.f k a0_0 a0_1 a0_2 a0_3 a0_4 a1_0 a1_1 a1_2 a1_3 a1_4).bind fun t302 => (if t302 = true then ((key_Less.f k a1_0 a1_1 a1_2 a1_3 a1_4 a0_0 a0_1 a0_2 a0_3 a0_4).bind fun t303 => (if t303 = true then (mantletlaw10_KeyOrders.j0 k a3 true a0_0 a0_1 a0_2 a0_3 a0_4) else ((key_Less.f k a0_0 a0_1 a0_2 a0_3 a0_4 a1_0 a1_1 a1_2 a1_3 a1_4).bind fun t304 => (if t304 = true then ((key_Less.f k a1_0 a1_1 a1_2 a1_3 a1_4 a2_0 a2_1 a2_2 a2_3 a2_4).bind fun t305 => (if t305 = true then ((key_Less.f k a0_0 a0_1 a0_2 a0_3 a0_4 a2_0 a2_1 a2_2 a2_3 a2_4).bind fun t306 => (mantletlaw10_KeyOrders.j0 k a3 (!t306) a0_0 a0_1 a0_2 a0_3 a0_4)) else (mantletlaw10_KeyOrders.j0 k a3 false a0_0 a0_1 a0_2 a0_3 a0_4))) else (mantletlaw10_KeyOrders.j0 k a3 false a0_0 a0_1 a0_2 a0_3 a0_4))))) else ((key_Less.f k a0_0 a0_1 a0_2 a0_3 a0_4 a1_0 a1_1 a1_2 a1_3 a1_4).bind fun t307 => (if t307 = true then ((key_Less.f k a1_0 a1_1 a1_2 a1_3 a1_4 a2_0 a2_1 a2_2 a2_3 a2_4).bind fun t308 => (if t308 = true then ((key_Less.f k a0_0 a0_1 a0_2 a0_3 a0_4 a2_0 a2_1 a2_2 a2_3 a2_4).bind fun t309 => (mantletlaw10_KeyOrders.j0 k a3 (!t309) a0_0 a0_1 a0_2 a0_3 a0_4)) else (mantletlaw10_KeyOrders.j0 k a3 false a0_0 a0_1 a0_2 a0_3 a0_4))) else (mantletlaw10_KeyOrders.j0 k a3 false a0_0 a0_1 a0_2 a0_3 a0_4)))))) = some r := H
      have A65 := Aside0.mk A650
      clear A650
      by_cases c66 : (((!(a0_0 == a1_0) || (!(a0_1 == a1_1))) || ((!(a0_2 == a1_2) || (!(a0_3 == a1_3))) || (!(a0_4 == a1_4)))) != t301) = true
      · rw [if_pos c66] at H
        exact absurd ((mantletlaw10_KeyOrders.no_ H).symm.trans HT.out) (by decide)
      · rw [if_neg c66] at H
        have c66b0 : (((!(a0_0 == a1_0) || (!(a0_1 == a1_1))) || ((!(a0_2 == a1_2) || (!(a0_3 == a1_3))) || (!(a0_4 == a1_4)))) != t301) = false := by simpa using c66
        (try (have c66b1 : decide (((!(a0_0 == a1_0) || (!(a0_1 == a1_1))) || ((!(a0_2 == a1_2) || (!(a0_3 == a1_3))) || (!(a0_4 == a1_4)))) = t301) = true := by simpa using c66))
        (try (have c66b2 : (((!(a0_0 == a1_0) || (!(a0_1 == a1_1))) || ((!(a0_2 == a1_2) || (!(a0_3 == a1_3))) || (!(a0_4 == a1_4)))) == t301) = true := by simpa using c66))
        clear c66
        replace H := Option.bind_eq_some_iff.mp H
        obtain ⟨t302, A700, H⟩ := H
        replace H : (if t302 = true then ((key_Less.f k a1_0 a1_1 a1_2 a1_3 a1_4 a0_0 a0_1 a0_2 a0_3 a0_4).bind fun t303 => (if t303 = true then (mantletlaw10_KeyOrders.j0 k a3 true a0_0 a0_1 a0_2 a0_3 a0_4) else ((key_Less.f k a0_0 a0_1 a0_2 a0_3 a0_4 a1_0 a1_1 a1_2 a1_3 a1_4).bind fun t304 => (if t304 = true then ((key_Less.f k a1_0 a1_1 a1_2 a1_3 a1_4 a2_0 a2_1 a2_2 a2_3 a2_4).bind fun t305 => (if t305 = true then ((key_Less.f k a0_0 a0_1 a0_2 a0_3 a0_4 a2_0 a2_1 a2_2 a2_3 a2_4).bind fun t306 => (mantletlaw10_KeyOrders.j0 k a3 (!t306) a0_0 a0_1 a0_2 a0_3 a0_4)) else (mantletlaw10_KeyOrders.j0 k a3 false a0_0 a0_1 a0_2 a0_3 a0_4))) else (mantletlaw10_KeyOrders.j0 k a3 false a0_0 a0_1 a0_2 a0_3 a0_4))))) else ((key_Less.f k a0_0 a0_1 a0_2 a0_3 a0_4 a1_0 a1_1 a1_2 a1_3 a1_4).bind fun t307 => (if t307 = true then ((key_Less.f k a1_0 a1_1 a1_2 a1_3 a1_4 a2_0 a2_1 a2_2 a2_3 a2_4).bind fun t308 => (if t308 = true then ((key_Less.f k a0_0 a0_1 a0_2 a0_3 a0_4 a2_0 a2_1 a2_2 a2_3 a2_4).bind fun t309 => (mantletlaw10_KeyOrders.j0 k a3 (!t309) a0_0 a0_1 a0_2 a0_3 a0_4)) else (mantletlaw10_KeyOrders.j0 k a3 false a0_0 a0_1 a0_2 a0_3 a0_4))) else (mantletlaw10_KeyOrders.j0 k a3 false a0_0 a0_1 a0_2 a0_3 a0_4)))) = some r := H
        have A70 := Aside0.mk A700
        clear A700
        by_cases c71 : t302 = true
        · exact absurd ((Option.some.inj (A70.out.symm.trans A9.out)).symm.trans c71) (by decide)
        · replace c71 := Bool.eq_false_iff.mpr c71
          subst c71
          have H1 : ((key_Less.f k a0_0 a0_1 a0_2 a0_3 a0_4 a1_0 a1_1 a1_2 a1_3 a1_4).bind fun t307 => (if t307 = true then ((key_Less.f k a1_0 a1_1 a1_2 a1_3 a1_4 a2_0 a2_1 a2_2 a2_3 a2_4).bind fun t308 => (if t308 = true then ((key_Less.f k a0_0 a0_1 a0_2 a0_3 a0_4 a2_0 a2_1 a2_2 a2_3 a2_4).bind fun t309 => (mantletlaw10_KeyOrders.j0 k a3 (!t309) a0_0 a0_1 a0_2 a0_3 a0_4)) else (mantletlaw10_KeyOrders.j0 k a3 false a0_0 a0_1 a0_2 a0_3 a0_4))) else (mantletlaw10_KeyOrders.j0 k a3 false a0_0 a0_1 a0_2 a0_3 a0_4))) = some r := by rw [if_neg (show ¬ (false = true) by decide)] at H; exact H
          clear H
          have H := H1
          clear H1
          replace H := Option.bind_eq_some_iff.mp H
          obtain ⟨t307, A1050, H⟩ := H
          replace H : (if t307 = true then ((key_Less.f k a1_0 a1_1 a1_2 a1_3 a1_4 a2_0 a2_1 a2_2 a2_3 a2_4).bind fun t308 => (if t308 = true then ((key_Less.f k a0_0 a0_1 a0_2 a0_3 a0_4 a2_0 a2_1 a2_2 a2_3 a2_4).bind fun t309 => (mantletlaw10_KeyOrders.j0 k a3 (!t309) a0_0 a0_1 a0_2 a0_3 a0_4)) else (mantletlaw10_KeyOrders.j0 k a3 false a0_0 a0_1 a0_2 a0_3 a0_4))) else (mantletlaw10_KeyOrders.j0 k a3 false a0_0 a0_1 a0_2 a0_3 a0_4)) = some r := H
          have A105 := Aside0.mk A1050
          clear A1050
          by_cases c106 : t307 = true
          · exact absurd ((Option.some.inj (A105.out.symm.trans A9.out)).symm.trans c106) (by decide)
          · replace c106 := Bool.eq_false_iff.mpr c106
            subst c106
            have H1 : (mantletlaw10_KeyOrders.j0 k a3 false a0_0 a0_1 a0_2 a0_3 a0_4) = some r := by rw [if_neg (show ¬ (false = true) by decide)] at H; exact H
            clear H
            have H := H1
            clear H1
            have H' := Aside0.mk H
            clear H
            try go_wp2
            have n0_ := Aside0.mk (blk_drew BK289.out)
            have n1_ := Aside0.mk (blk_drew BK290.out)
            have n2_ := Aside0.mk (blk_drew BK291.out)
            have n3_ := Aside0.mk (below_drew1 HB.out)
            clear BK289
            clear BK290
            clear BK291
            clear HB
            have BK289 := n0_
            have BK290 := n1_
            have BK291 := n2_
            have HB := n3_
            clear n0_ n1_ n2_ n3_
            refine start_ (n := 38) (S := fun w' => w'.cell? ⟨gb289, 0, none⟩ = some (.int .u32 a0_0) ∧ w'.cell? ⟨gb289, 1, none⟩ = some (.int .u32 a0_1) ∧ w'.cell? ⟨gb289, 2, none⟩ = some (.int .u16 a0_2) ∧ w'.cell? ⟨gb289, 3, none⟩ = some (.int .u16 a0_3) ∧ w'.cell? ⟨gb289, 4, none⟩ = some (.int .u8 a0_4) ∧ w'.cell? ⟨gb290, 0, none⟩ = some (.int .u32 a1_0) ∧ w'.cell? ⟨gb290, 1, none⟩ = some (.int .u32 a1_1) ∧ w'.cell? ⟨gb290, 2, none⟩ = some (.int .u16 a1_2) ∧ w'.cell? ⟨gb290, 3, none⟩ = some (.int .u16 a1_3) ∧ w'.cell? ⟨gb290, 4, none⟩ = some (.int .u8 a1_4)) (ds := []) #[false, false, false, false, false, false, false, false, false, false, false, false, false, false, false, false, false, false, false, false, false, false, false, false, false, false, false, false, false, false, false, false, false, false, false, false, false, false] (by kernel_rfl) rfl rfl ⟨(blk_cell BK289.out 0).trans rfl, (blk_cell BK289.out 1).trans rfl, (blk_cell BK289.out 2).trans rfl, (blk_cell BK289.out 3).trans rfl, (blk_cell BK289.out 4).trans rfl, (blk_cell BK290.out 0).trans rfl, (blk_cell BK290.out 1).trans rfl, (blk_cell BK290.out 2).trans rfl, (blk_cell BK290.out 3).trans rfl, (blk_cell BK290.out 4).trans rfl⟩ (fun hHeld => ?_); refine with_tabW mantletlaw10_KeyOrders.tab1 mantletlaw10_KeyOrders.bits1 (fun HT_ HW_ => ?_)
            generalize w8.drew = w123 at BK289 BK290 BK291 HB hHeld ⊢
            refine take_ (i := 0) (N := some 11) (v := ?_) (a' := ?_) #[true, false, false, false, false, false, false, false, false, false, false, false, false, false, false, false, false, false, false, false, false, false, false, false, false, false, false, false, false, false, false, false, false, false, false, false, false, false] rfl rfl (take_ofW HT_.out HW_.out (by kernel_rfl)) (fun _ _ _ h => h) (Or.inl ⟨by rfl, ?_⟩) hHeld ?_ ?_
            rotate_left
            · rintro w' ⟨s0, s1, s2, s3, s4, s5, s6, s7, s8, s9⟩
              go_simp
              with_reducible rfl
            rotate_left
            · simp only [Act.put, List.setIfInBounds_toArray, List.set_cons_zero, List.set_cons_succ, i64_w, i32_w]
              rfl
            refine take_ (i := 1) (N := some 12) (v := ?_) (a' := ?_) #[true, true, false, false, false, false, false, false, false, false, false, false, false, false, false, false, false, false, false, false, false, false, false, false, false, false, false, false, false, false, false, false, false, false, false, false, false, false] rfl rfl (take_ofW HT_.out HW_.out (by kernel_rfl)) (fun _ _ _ h => h) (Or.inl ⟨by rfl, ?_⟩) hHeld ?_ ?_
            rotate_left
            · rintro w' ⟨s0, s1, s2, s3, s4, s5, s6, s7, s8, s9⟩
              go_simp
              with_reducible rfl
            rotate_left
            · simp only [Act.put, List.setIfInBounds_toArray, List.set_cons_zero, List.set_cons_succ, i64_w, i32_w]
              rfl
            refine pure_ (i := 2) (N := some 13) (v := ?_) (a' := ?_) #[true, true, true, false, false, false, false, false, false, false, false, false, false, false, false, false, false, false, false, false, false, false, false, false, false, false, false, false, false, false, false, false, false, false, false, false, false, false] rfl rfl (any_of HT_.out (by kernel_rfl)) (fun _ _ _ h => h) (Or.inl ⟨by rfl, ?_⟩) ?_ ?_
            rotate_left
            · intro w'
              go_simp
              with_reducible rfl
            rotate_left
            · simp only [Act.put, List.setIfInBounds_toArray, List.set_cons_zero, List.set_cons_succ, i64_w, i32_w]
              rfl
            refine take_ (i := 3) (N := some 14) (v := ?_) (a' := ?_) #[true, true, true, true, false, false, false, false, false, false, false, false, false, false, false, false, false, false, false, false, false, false, false, false, false, false, false, false, false, false, false, false, false, false, false, false, false, false] rfl rfl (take_ofW HT_.out HW_.out (by kernel_rfl)) (fun _ _ _ h => h) (Or.inl ⟨by rfl, ?_⟩) hHeld ?_ ?_
            rotate_left
            · rintro w' ⟨s0, s1, s2, s3, s4, s5, s6, s7, s8, s9⟩
              go_simp
              with_reducible rfl
            rotate_left
            · simp only [Act.put, List.setIfInBounds_toArray, List.set_cons_zero, List.set_cons_succ, i64_w, i32_w]
              rfl
            refine take_ (i := 4) (N := some 15) (v := ?_) (a' := ?_) #[true, true, true, true, true, false, false, false, false, false, false, false, false, false, false, false, false, false, false, false, false, false, false, false, false, false, false, false, false, false, false, false, false, false, false, false, false, false] rfl rfl (take_ofW HT_.out HW_.out (by kernel_rfl)) (fun _ _ _ h => h) (Or.inl ⟨by rfl, ?_⟩) hHeld ?_ ?_
            rotate_left
            · rintro w' ⟨s0, s1, s2, s3, s4, s5, s6, s7, s8, s9⟩
              go_simp
              with_reducible rfl
            rotate_left
            · simp only [Act.put, List.setIfInBounds_toArray, List.set_cons_zero, List.set_cons_succ, i64_w, i32_w]
              rfl
            refine one_ (i := 5) (N := some 16) #[true, true, true, true, true, true, false, false, false, false, false, false, false, false, false, false, false, false, false, false, false, false, false, false, false, false, false, false, false, false, false, false, false, false, false, false, false, false] rfl rfl (one_of HT_.out (by kernel_rfl)) (by decide) (fun K hK => ?_)
            refine goes_ Try.func15 (by kernel_rfl) rfl #[.agg #[.int .u32 a0_0, .int .u32 a0_1, .int .u16 a0_2, .int .u16 a0_3, .int .u8 a0_4], .agg #[.int .u32 a1_0, .int .u32 a1_1, .int .u16 a1_2, .int .u16 a1_3, .int .u8 a1_4]] (by rfl) rfl rfl (by (try simp only [List.map_toArray, List.map_cons, List.map_nil]); first | done | rfl) ?_
            with_reducible refine (key_Less.calls k a0_0 a0_1 a0_2 a0_3 a0_4 a1_0 a1_1 a1_2 a1_3 a1_4 false _ A9.out).mono ?_
            rintro e w124 ⟨rfl, hb⟩
            refine ⟨_, rfl, ?_⟩
            have n0_ := Aside0.mk (blk_below (g := gb289) (o := .cells #[.int .u32 a0_0, .int .u32 a0_1, .int .u16 a0_2, .int .u16 a0_3, .int .u8 a0_4] 29 (0, 0)) (by (with_reducible repeat first | apply blk_drewN | apply blk_drew | apply blk_alloc); exact BK289.out) hb)
            have n1_ := Aside0.mk (blk_below (g := gb290) (o := .cells #[.int .u32 a1_0, .int .u32 a1_1, .int .u16 a1_2, .int .u16 a1_3, .int .u8 a1_4] 29 (0, 0)) (by (with_reducible repeat first | apply blk_drewN | apply blk_drew | apply blk_alloc); exact BK290.out) hb)
            have n2_ := Aside0.mk (blk_below (g := gb291) (o := .cells #[.int .u32 a2_0, .int .u32 a2_1, .int .u16 a2_2, .int .u16 a2_3, .int .u8 a2_4] 29 (0, 0)) (by (with_reducible repeat first | apply blk_drewN | apply blk_drew | apply blk_alloc); exact BK291.out) hb)
            have n3_ := Aside0.mk (below_step (by repeat first | (with_reducible first | exact HB.out | apply below_alloc | apply pw_below_drewN | apply below_drew1 | refine below_set ?_ GE289.out | refine below_set ?_ GE290.out | refine below_set ?_ GE291.out) | exact HB.out) hb)
            clear BK289
            clear BK290
            clear BK291
            clear HB
            have BK289 := n0_
            have BK290 := n1_
            have BK291 := n2_
            have HB := n3_
            clear n0_ n1_ n2_ n3_
            (try clear hb)
            (try clear hb2)
            (try clear hk)
            (try clear hi)
            refine hK.out _ _ ⟨(blk_cell BK289.out 0).trans rfl, (blk_cell BK289.out 1).trans rfl, (blk_cell BK289.out 2).trans rfl, (blk_cell BK289.out 3).trans rfl, (blk_cell BK289.out 4).trans rfl, (blk_cell BK290.out 0).trans rfl, (blk_cell BK290.out 1).trans rfl, (blk_cell BK290.out 2).trans rfl, (blk_cell BK290.out 3).trans rfl, (blk_cell BK290.out 4).trans rfl⟩ (fun hHeld => ?_)
            clear hK K
            refine norm_ (a' := ?_) ?_ ?_
            rotate_left
            · show Act.put _ (some 16) _ = _
              simp only [Act.put, List.setIfInBounds_toArray, List.set_cons_zero, List.set_cons_succ, i64_w, i32_w]
              rfl
            refine pure_ (i := 6) (N := some 17) (v := ?_) (a' := ?_) #[true, true, true, true, true, true, true, false, false, false, false, false, false, false, false, false, false, false, false, false, false, false, false, false, false, false, false, false, false, false, false, false, false, false, false, false, false, false] rfl rfl (any_of HT_.out (by kernel_rfl)) (fun _ _ _ h => h) (Or.inl ⟨by rfl, ?_⟩) ?_ ?_
            rotate_left
            · intro w'
              go_simp
              with_reducible rfl
            rotate_left
            · simp only [Act.put, List.setIfInBounds_toArray, List.set_cons_zero, List.set_cons_succ, i64_w, i32_w]
              rfl
            refine take_ (i := 7) (N := some 18) (v := ?_) (a' := ?_) #[true, true, true, true, true, true, true, true, false, false, false, false, false, false, false, false, false, false, false, false, false, false, false, false, false, false, false, false, false, false, false, false, false, false, false, false, false, false] rfl rfl (take_ofW HT_.out HW_.out (by kernel_rfl)) (fun _ _ _ h => h) (Or.inl ⟨by rfl, ?_⟩) hHeld ?_ ?_
            rotate_left
            · rintro w' ⟨s0, s1, s2, s3, s4, s5, s6, s7, s8, s9⟩
              go_simp
              with_reducible rfl
            rotate_left
            · simp only [Act.put, List.setIfInBounds_toArray, List.set_cons_zero, List.set_cons_succ, i64_w, i32_w]
              rfl
            refine take_ (i := 8) (N := some 19) (v := ?_) (a' := ?_) #[true, true, true, true, true, true, true, true, true, false, false, false, false, false, false, false, false, false, false, false, false, false, false, false, false, false, false, false, false, false, false, false, false, false, false, false, false, false] rfl rfl (take_ofW HT_.out HW_.out (by kernel_rfl)) (fun _ _ _ h => h) (Or.inl ⟨by rfl, ?_⟩) hHeld ?_ ?_
            rotate_left
            · rintro w' ⟨s0, s1, s2, s3, s4, s5, s6, s7, s8, s9⟩
              go_simp
              with_reducible rfl
            rotate_left
            · simp only [Act.put, List.setIfInBounds_toArray, List.set_cons_zero, List.set_cons_succ, i64_w, i32_w]
              rfl
            refine one_ (i := 9) (N := some 20) #[true, true, true, true, true, true, true, true, true, true, false, false, false, false, false, false, false, false, false, false, false, false, false, false, false, false, false, false, false, false, false, false, false, false, false, false, false, false] rfl rfl (one_of HT_.out (by kernel_rfl)) (by decide) (fun K hK => ?_)
            refine goes_ Try.func15 (by kernel_rfl) rfl #[.agg #[.int .u32 a1_0, .int .u32 a1_1, .int .u16 a1_2, .int .u16 a1_3, .int .u8 a1_4], .agg #[.int .u32 a0_0, .int .u32 a0_1, .int .u16 a0_2, .int .u16 a0_3, .int .u8 a0_4]] (by rfl) rfl rfl (by (try simp only [List.map_toArray, List.map_cons, List.map_nil]); first | done | rfl) ?_
            with_reducible refine (key_Less.calls k a1_0 a1_1 a1_2 a1_3 a1_4 a0_0 a0_1 a0_2 a0_3 a0_4 t301 _ A65.out).mono ?_
            rintro e w125 ⟨rfl, hb⟩
            refine ⟨_, rfl, ?_⟩
            have n0_ := Aside0.mk (blk_below (g := gb289) (o := .cells #[.int .u32 a0_0, .int .u32 a0_1, .int .u16 a0_2, .int .u16 a0_3, .int .u8 a0_4] 29 (0, 0)) (by (with_reducible repeat first | apply blk_drewN | apply blk_drew | apply blk_alloc); exact BK289.out) hb)
            have n1_ := Aside0.mk (blk_below (g := gb290) (o := .cells #[.int .u32 a1_0, .int .u32 a1_1, .int .u16 a1_2, .int .u16 a1_3, .int .u8 a1_4] 29 (0, 0)) (by (with_reducible repeat first | apply blk_drewN | apply blk_drew | apply blk_alloc); exact BK290.out) hb)
            have n2_ := Aside0.mk (blk_below (g := gb291) (o := .cells #[.int .u32 a2_0, .int .u32 a2_1, .int .u16 a2_2, .int .u16 a2_3, .int .u8 a2_4] 29 (0, 0)) (by (with_reducible repeat first | apply blk_drewN | apply blk_drew | apply blk_alloc); exact BK291.out) hb)
            have n3_ := Aside0.mk (below_step (by repeat first | (with_reducible first | exact HB.out | apply below_alloc | apply pw_below_drewN | apply below_drew1 | refine below_set ?_ GE289.out | refine below_set ?_ GE290.out | refine below_set ?_ GE291.out) | exact HB.out) hb)
            clear BK289
            clear BK290
            clear BK291
            clear HB
            have BK289 := n0_
            have BK290 := n1_
            have BK291 := n2_
            have HB := n3_
            clear n0_ n1_ n2_ n3_
            (try clear hb)
            (try clear hb2)
            (try clear hk)
            (try clear hi)
            refine hK.out _ _ ⟨(blk_cell BK289.out 0).trans rfl, (blk_cell BK289.out 1).trans rfl, (blk_cell BK289.out 2).trans rfl, (blk_cell BK289.out 3).trans rfl, (blk_cell BK289.out 4).trans rfl, (blk_cell BK290.out 0).trans rfl, (blk_cell BK290.out 1).trans rfl, (blk_cell BK290.out 2).trans rfl, (blk_cell BK290.out 3).trans rfl, (blk_cell BK290.out 4).trans rfl⟩ (fun hHeld => ?_)
            clear hK K
            refine norm_ (a' := ?_) ?_ ?_
            rotate_left
            · show Act.put _ (some 20) _ = _
              simp only [Act.put, List.setIfInBounds_toArray, List.set_cons_zero, List.set_cons_succ, i64_w, i32_w]
              rfl
            refine pure_ (i := 10) (N := some 21) (v := ?_) (a' := ?_) #[true, true, true, true, true, true, true, true, true, true, true, false, false, false, false, false, false, false, false, false, false, false, false, false, false, false, false, false, false, false, false, false, false, false, false, false, false, false] rfl rfl (any_of HT_.out (by kernel_rfl)) (fun _ _ _ h => h) (Or.inl ⟨by rfl, ?_⟩) ?_ ?_
            rotate_left
            · intro w'
              go_simp
              with_reducible rfl
            rotate_left
            · simp only [Act.put, List.setIfInBounds_toArray, List.set_cons_zero, List.set_cons_succ, i64_w, i32_w]
              rfl
            refine pure_ (i := 11) (N := some 22) (v := ?_) (a' := ?_) #[true, true, true, true, true, true, true, true, true, true, true, true, false, false, false, false, false, false, false, false, false, false, false, false, false, false, false, false, false, false, false, false, false, false, false, false, false, false] rfl rfl (any_of HT_.out (by kernel_rfl)) (fun _ _ _ h => h) (Or.inl ⟨by rfl, ?_⟩) ?_ ?_
            rotate_left
            · intro w'
              go_simp
              with_reducible rfl
            rotate_left
            · simp only [Act.put, List.setIfInBounds_toArray, List.set_cons_zero, List.set_cons_succ, i64_w, i32_w]
              rfl
            refine pure_ (i := 12) (N := some 23) (v := ?_) (a' := ?_) #[true, true, true, true, true, true, true, true, true, true, true, true, true, false, false, false, false, false, false, false, false, false, false, false, false, false, false, false, false, false, false, false, false, false, false, false, false, false] rfl rfl (any_of HT_.out (by kernel_rfl)) (fun _ _ _ h => h) (Or.inl ⟨by rfl, ?_⟩) ?_ ?_
            rotate_left
            · intro w'
              go_simp
              with_reducible rfl
            rotate_left
            · simp only [Act.put, List.setIfInBounds_toArray, List.set_cons_zero, List.set_cons_succ, i64_w, i32_w]
              rfl
            refine take_ (i := 13) (N := some 24) (v := ?_) (a' := ?_) #[true, true, true, true, true, true, true, true, true, true, true, true, true, true, false, false, false, false, false, false, false, false, false, false, false, false, false, false, false, false, false, false, false, false, false, false, false, false] rfl rfl (take_ofW HT_.out HW_.out (by kernel_rfl)) (fun _ _ _ h => h) (Or.inl ⟨by rfl, ?_⟩) hHeld ?_ ?_
            rotate_left
            · rintro w' ⟨s0, s1, s2, s3, s4, s5, s6, s7, s8, s9⟩
              go_simp
              with_reducible rfl
            rotate_left
            · simp only [Act.put, List.setIfInBounds_toArray, List.set_cons_zero, List.set_cons_succ, i64_w, i32_w]
              rfl
            refine take_ (i := 14) (N := some 25) (v := ?_) (a' := ?_) #[true, true, true, true, true, true, true, true, true, true, true, true, true, true, true, false, false, false, false, false, false, false, false, false, false, false, false, false, false, false, false, false, false, false, false, false, false, false] rfl rfl (take_ofW HT_.out HW_.out (by kernel_rfl)) (fun _ _ _ h => h) (Or.inl ⟨by rfl, ?_⟩) hHeld ?_ ?_
            rotate_left
            · rintro w' ⟨s0, s1, s2, s3, s4, s5, s6, s7, s8, s9⟩
              go_simp
              with_reducible rfl
            rotate_left
            · simp only [Act.put, List.setIfInBounds_toArray, List.set_cons_zero, List.set_cons_succ, i64_w, i32_w]
              rfl
            refine one_ (i := 15) (N := some 26) #[true, true, true, true, true, true, true, true, true, true, true, true, true, true, true, true, false, false, false, false, false, false, false, false, false, false, false, false, false, false, false, false, false, false, false, false, false, false] rfl rfl (one_of HT_.out (by kernel_rfl)) (by decide) (fun K hK => ?_)
            refine goes_ Try.func15 (by kernel_rfl) rfl #[.agg #[.int .u32 a0_0, .int .u32 a0_1, .int .u16 a0_2, .int .u16 a0_3, .int .u8 a0_4], .agg #[.int .u32 a1_0, .int .u32 a1_1, .int .u16 a1_2, .int .u16 a1_3, .int .u8 a1_4]] (by rfl) rfl rfl (by (try simp only [List.map_toArray, List.map_cons, List.map_nil]); first | done | rfl) ?_
            with_reducible refine (key_Less.calls k a0_0 a0_1 a0_2 a0_3 a0_4 a1_0 a1_1 a1_2 a1_3 a1_4 false _ A70.out).mono ?_
            rintro e w126 ⟨rfl, hb⟩
            refine ⟨_, rfl, ?_⟩
            have n0_ := Aside0.mk (blk_below (g := gb289) (o := .cells #[.int .u32 a0_0, .int .u32 a0_1, .int .u16 a0_2, .int .u16 a0_3, .int .u8 a0_4] 29 (0, 0)) (by (with_reducible repeat first | apply blk_drewN | apply blk_drew | apply blk_alloc); exact BK289.out) hb)
            have n1_ := Aside0.mk (blk_below (g := gb290) (o := .cells #[.int .u32 a1_0, .int .u32 a1_1, .int .u16 a1_2, .int .u16 a1_3, .int .u8 a1_4] 29 (0, 0)) (by (with_reducible repeat first | apply blk_drewN | apply blk_drew | apply blk_alloc); exact BK290.out) hb)
            have n2_ := Aside0.mk (blk_below (g := gb291) (o := .cells #[.int .u32 a2_0, .int .u32 a2_1, .int .u16 a2_2, .int .u16 a2_3, .int .u8 a2_4] 29 (0, 0)) (by (with_reducible repeat first | apply blk_drewN | apply blk_drew | apply blk_alloc); exact BK291.out) hb)
            have n3_ := Aside0.mk (below_step (by repeat first | (with_reducible first | exact HB.out | apply below_alloc | apply pw_below_drewN | apply below_drew1 | refine below_set ?_ GE289.out | refine below_set ?_ GE290.out | refine below_set ?_ GE291.out) | exact HB.out) hb)
            clear BK289
            clear BK290
            clear BK291
            clear HB
            have BK289 := n0_
            have BK290 := n1_
            have BK291 := n2_
            have HB := n3_
            clear n0_ n1_ n2_ n3_
            (try clear hb)
            (try clear hb2)
            (try clear hk)
            (try clear hi)
            refine hK.out _ _ ⟨(blk_cell BK289.out 0).trans rfl, (blk_cell BK289.out 1).trans rfl, (blk_cell BK289.out 2).trans rfl, (blk_cell BK289.out 3).trans rfl, (blk_cell BK289.out 4).trans rfl, (blk_cell BK290.out 0).trans rfl, (blk_cell BK290.out 1).trans rfl, (blk_cell BK290.out 2).trans rfl, (blk_cell BK290.out 3).trans rfl, (blk_cell BK290.out 4).trans rfl⟩ (fun hHeld => ?_)
            clear hK K
            refine norm_ (a' := ?_) ?_ ?_
            rotate_left
            · show Act.put _ (some 26) _ = _
              simp only [Act.put, List.setIfInBounds_toArray, List.set_cons_zero, List.set_cons_succ, i64_w, i32_w]
              rfl
            refine pure_ (i := 16) (N := some 27) (v := ?_) (a' := ?_) #[true, true, true, true, true, true, true, true, true, true, true, true, true, true, true, true, true, false, false, false, false, false, false, false, false, false, false, false, false, false, false, false, false, false, false, false, false, false] rfl rfl (any_of HT_.out (by kernel_rfl)) (fun _ _ _ h => h) (Or.inl ⟨by rfl, ?_⟩) ?_ ?_
            rotate_left
            · intro w'
              go_simp
              with_reducible rfl
            rotate_left
            · simp only [Act.put, List.setIfInBounds_toArray, List.set_cons_zero, List.set_cons_succ, i64_w, i32_w]
              rfl
            refine pure_ (i := 17) (N := some 28) (v := undef) (a' := ?_) #[true, true, true, true, true, true, true, true, true, true, true, true, true, true, true, true, true, true, false, false, false, false, false, false, false, false, false, false, false, false, false, false, false, false, false, false, false, false] rfl rfl (any_of HT_.out (by kernel_rfl)) (fun _ _ _ h => h) (Or.inr ⟨by rfl, rfl⟩) ?_ ?_
            rotate_left
            · simp only [Act.put, List.setIfInBounds_toArray, List.set_cons_zero, List.set_cons_succ, i64_w, i32_w]
              rfl
            refine pure_ (i := 18) (N := some 29) (v := undef) (a' := ?_) #[true, true, true, true, true, true, true, true, true, true, true, true, true, true, true, true, true, true, true, false, false, false, false, false, false, false, false, false, false, false, false, false, false, false, false, false, false, false] rfl rfl (any_of HT_.out (by kernel_rfl)) (fun _ _ _ h => h) (Or.inr ⟨by rfl, rfl⟩) ?_ ?_
            rotate_left
            · simp only [Act.put, List.setIfInBounds_toArray, List.set_cons_zero, List.set_cons_succ, i64_w, i32_w]
              rfl
            refine pure_ (i := 19) (N := some 30) (v := undef) (a' := ?_) #[true, true, true, true, true, true, true, true, true, true, true, true, true, true, true, true, true, true, true, true, false, false, false, false, false, false, false, false, false, false, false, false, false, false, false, false, false, false] rfl rfl (any_of HT_.out (by kernel_rfl)) (fun _ _ _ h => h) (Or.inr ⟨by rfl, rfl⟩) ?_ ?_
            rotate_left
            · simp only [Act.put, List.setIfInBounds_toArray, List.set_cons_zero, List.set_cons_succ, i64_w, i32_w]
              rfl
            refine pure_ (i := 20) (N := some 31) (v := ?_) (a' := ?_) #[true, true, true, true, true, true, true, true, true, true, true, true, true, true, true, true, true, true, true, true, true, false, false, false, false, false, false, false, false, false, false, false, false, false, false, false, false, false] rfl rfl (any_of HT_.out (by kernel_rfl)) (fun _ _ _ h => h) (Or.inl ⟨by rfl, ?_⟩) ?_ ?_
            rotate_left
            · intro w'
              go_simp
              with_reducible rfl
            rotate_left
            · simp only [Act.put, List.setIfInBounds_toArray, List.set_cons_zero, List.set_cons_succ, i64_w, i32_w]
              rfl
            refine pure_ (i := 21) (N := some 32) (v := ?_) (a' := ?_) #[true, true, true, true, true, true, true, true, true, true, true, true, true, true, true, true, true, true, true, true, true, true, false, false, false, false, false, false, false, false, false, false, false, false, false, false, false, false] rfl rfl (any_of HT_.out (by kernel_rfl)) (fun _ _ _ h => h) (Or.inl ⟨by rfl, ?_⟩) ?_ ?_
            rotate_left
            · intro w'
              go_simp
              with_reducible rfl
            rotate_left
            · simp only [Act.put, List.setIfInBounds_toArray, List.set_cons_zero, List.set_cons_succ, i64_w, i32_w]
              rfl
            refine pure_ (i := 22) (N := some 33) (v := ?_) (a' := ?_) #[true, true, true, true, true, true, true, true, true, true, true, true, true, true, true, true, true, true, true, true, true, true, true, false, false, false, false, false, false, false, false, false, false, false, false, false, false, false] rfl rfl (any_of HT_.out (by kernel_rfl)) (fun _ _ _ h => h) (Or.inl ⟨by rfl, ?_⟩) ?_ ?_
            rotate_left
            · intro w'
              go_simp
              with_reducible rfl
            rotate_left
            · simp only [Act.put, List.setIfInBounds_toArray, List.set_cons_zero, List.set_cons_succ, i64_w, i32_w]
              rfl
            refine take_ (i := 23) (N := some 34) (v := ?_) (a' := ?_) #[true, true, true, true, true, true, true, true, true, true, true, true, true, true, true, true, true, true, true, true, true, true, true, true, false, false, false, false, false, false, false, false, false, false, false, false, false, false] rfl rfl (take_ofW HT_.out HW_.out (by kernel_rfl)) (fun _ _ _ h => h) (Or.inl ⟨by rfl, ?_⟩) hHeld ?_ ?_
            rotate_left
            · rintro w' ⟨s0, s1, s2, s3, s4, s5, s6, s7, s8, s9⟩
              go_simp
              with_reducible rfl
            rotate_left
            · simp only [Act.put, List.setIfInBounds_toArray, List.set_cons_zero, List.set_cons_succ, i64_w, i32_w]
              rfl
            refine take_ (i := 24) (N := some 35) (v := ?_) (a' := ?_) #[true, true, true, true, true, true, true, true, true, true, true, true, true, true, true, true, true, true, true, true, true, true, true, true, true, false, false, false, false, false, false, false, false, false, false, false, false, false] rfl rfl (take_ofW HT_.out HW_.out (by kernel_rfl)) (fun _ _ _ h => h) (Or.inl ⟨by rfl, ?_⟩) hHeld ?_ ?_
            rotate_left
            · rintro w' ⟨s0, s1, s2, s3, s4, s5, s6, s7, s8, s9⟩
              go_simp
              with_reducible rfl
            rotate_left
            · simp only [Act.put, List.setIfInBounds_toArray, List.set_cons_zero, List.set_cons_succ, i64_w, i32_w]
              rfl
            refine one_ (i := 25) (N := some 36) #[true, true, true, true, true, true, true, true, true, true, true, true, true, true, true, true, true, true, true, true, true, true, true, true, true, true, false, false, false, false, false, false, false, false, false, false, false, false] rfl rfl (one_of HT_.out (by kernel_rfl)) (by decide) (fun K hK => ?_)
            refine goes_ Try.func15 (by kernel_rfl) rfl #[.agg #[.int .u32 a0_0, .int .u32 a0_1, .int .u16 a0_2, .int .u16 a0_3, .int .u8 a0_4], .agg #[.int .u32 a1_0, .int .u32 a1_1, .int .u16 a1_2, .int .u16 a1_3, .int .u8 a1_4]] (by rfl) rfl rfl (by (try simp only [List.map_toArray, List.map_cons, List.map_nil]); first | done | rfl) ?_
            with_reducible refine (key_Less.calls k a0_0 a0_1 a0_2 a0_3 a0_4 a1_0 a1_1 a1_2 a1_3 a1_4 false _ A105.out).mono ?_
            rintro e w127 ⟨rfl, hb⟩
            refine ⟨_, rfl, ?_⟩
            have n0_ := Aside0.mk (blk_below (g := gb289) (o := .cells #[.int .u32 a0_0, .int .u32 a0_1, .int .u16 a0_2, .int .u16 a0_3, .int .u8 a0_4] 29 (0, 0)) (by (with_reducible repeat first | apply blk_drewN | apply blk_drew | apply blk_alloc); exact BK289.out) hb)
            have n1_ := Aside0.mk (blk_below (g := gb290) (o := .cells #[.int .u32 a1_0, .int .u32 a1_1, .int .u16 a1_2, .int .u16 a1_3, .int .u8 a1_4] 29 (0, 0)) (by (with_reducible repeat first | apply blk_drewN | apply blk_drew | apply blk_alloc); exact BK290.out) hb)
            have n2_ := Aside0.mk (blk_below (g := gb291) (o := .cells #[.int .u32 a2_0, .int .u32 a2_1, .int .u16 a2_2, .int .u16 a2_3, .int .u8 a2_4] 29 (0, 0)) (by (with_reducible repeat first | apply blk_drewN | apply blk_drew | apply blk_alloc); exact BK291.out) hb)
            have n3_ := Aside0.mk (below_step (by repeat first | (with_reducible first | exact HB.out | apply below_alloc | apply pw_below_drewN | apply below_drew1 | refine below_set ?_ GE289.out | refine below_set ?_ GE290.out | refine below_set ?_ GE291.out) | exact HB.out) hb)
            clear BK289
            clear BK290
            clear BK291
            clear HB
            have BK289 := n0_
            have BK290 := n1_
            have BK291 := n2_
            have HB := n3_
            clear n0_ n1_ n2_ n3_
            (try clear hb)
            (try clear hb2)
            (try clear hk)
            (try clear hi)
            refine hK.out _ _ ⟨(blk_cell BK289.out 0).trans rfl, (blk_cell BK289.out 1).trans rfl, (blk_cell BK289.out 2).trans rfl, (blk_cell BK289.out 3).trans rfl, (blk_cell BK289.out 4).trans rfl, (blk_cell BK290.out 0).trans rfl, (blk_cell BK290.out 1).trans rfl, (blk_cell BK290.out 2).trans rfl, (blk_cell BK290.out 3).trans rfl, (blk_cell BK290.out 4).trans rfl⟩ (fun hHeld => ?_)
            clear hK K
            refine norm_ (a' := ?_) ?_ ?_
            rotate_left
            · show Act.put _ (some 36) _ = _
              simp only [Act.put, List.setIfInBounds_toArray, List.set_cons_zero, List.set_cons_succ, i64_w, i32_w]
              rfl
            refine pure_ (i := 26) (N := some 37) (v := ?_) (a' := ?_) #[true, true, true, true, true, true, true, true, true, true, true, true, true, true, true, true, true, true, true, true, true, true, true, true, true, true, true, false, false, false, false, false, false, false, false, false, false, false] rfl rfl (any_of HT_.out (by kernel_rfl)) (fun _ _ _ h => h) (Or.inl ⟨by rfl, ?_⟩) ?_ ?_
            rotate_left
            · intro w'
              go_simp
              with_reducible rfl
            rotate_left
            · simp only [Act.put, List.setIfInBounds_toArray, List.set_cons_zero, List.set_cons_succ, i64_w, i32_w]
              rfl
            refine pure_ (i := 27) (N := some 38) (v := undef) (a' := ?_) #[true, true, true, true, true, true, true, true, true, true, true, true, true, true, true, true, true, true, true, true, true, true, true, true, true, true, true, true, false, false, false, false, false, false, false, false, false, false] rfl rfl (any_of HT_.out (by kernel_rfl)) (fun _ _ _ h => h) (Or.inr ⟨by rfl, rfl⟩) ?_ ?_
            rotate_left
            · simp only [Act.put, List.setIfInBounds_toArray, List.set_cons_zero, List.set_cons_succ, i64_w, i32_w]
              rfl
            refine pure_ (i := 28) (N := some 39) (v := undef) (a' := ?_) #[true, true, true, true, true, true, true, true, true, true, true, true, true, true, true, true, true, true, true, true, true, true, true, true, true, true, true, true, true, false, false, false, false, false, false, false, false, false] rfl rfl (any_of HT_.out (by kernel_rfl)) (fun _ _ _ h => h) (Or.inr ⟨by rfl, rfl⟩) ?_ ?_
            rotate_left
            · simp only [Act.put, List.setIfInBounds_toArray, List.set_cons_zero, List.set_cons_succ, i64_w, i32_w]
              rfl
            refine pure_ (i := 29) (N := some 40) (v := undef) (a' := ?_) #[true, true, true, true, true, true, true, true, true, true, true, true, true, true, true, true, true, true, true, true, true, true, true, true, true, true, true, true, true, true, false, false, false, false, false, false, false, false] rfl rfl (any_of HT_.out (by kernel_rfl)) (fun _ _ _ h => h) (Or.inr ⟨by rfl, rfl⟩) ?_ ?_
            rotate_left
            · simp only [Act.put, List.setIfInBounds_toArray, List.set_cons_zero, List.set_cons_succ, i64_w, i32_w]
              rfl
            refine pure_ (i := 30) (N := some 41) (v := ?_) (a' := ?_) #[true, true, true, true, true, true, true, true, true, true, true, true, true, true, true, true, true, true, true, true, true, true, true, true, true, true, true, true, true, true, true, false, false, false, false, false, false, false] rfl rfl (any_of HT_.out (by kernel_rfl)) (fun _ _ _ h => h) (Or.inl ⟨by rfl, ?_⟩) ?_ ?_
            rotate_left
            · intro w'
              go_simp
              with_reducible rfl
            rotate_left
            · simp only [Act.put, List.setIfInBounds_toArray, List.set_cons_zero, List.set_cons_succ, i64_w, i32_w]
              rfl
            refine pure_ (i := 31) (N := some 42) (v := ?_) (a' := ?_) #[true, true, true, true, true, true, true, true, true, true, true, true, true, true, true, true, true, true, true, true, true, true, true, true, true, true, true, true, true, true, true, true, false, false, false, false, false, false] rfl rfl (any_of HT_.out (by kernel_rfl)) (fun _ _ _ h => h) (Or.inl ⟨by rfl, ?_⟩) ?_ ?_
            rotate_left
            · intro w'
              go_simp
              with_reducible rfl
            rotate_left
            · simp only [Act.put, List.setIfInBounds_toArray, List.set_cons_zero, List.set_cons_succ, i64_w, i32_w]
              rfl
            refine pure_ (i := 32) (N := some 43) (v := undef) (a' := ?_) #[true, true, true, true, true, true, true, true, true, true, true, true, true, true, true, true, true, true, true, true, true, true, true, true, true, true, true, true, true, true, true, true, true, false, false, false, false, false] rfl rfl (any_of HT_.out (by kernel_rfl)) (fun _ _ _ h => h) (Or.inr ⟨by rfl, rfl⟩) ?_ ?_
            rotate_left
            · simp only [Act.put, List.setIfInBounds_toArray, List.set_cons_zero, List.set_cons_succ, i64_w, i32_w]
              rfl
            refine pure_ (i := 33) (N := some 44) (v := undef) (a' := ?_) #[true, true, true, true, true, true, true, true, true, true, true, true, true, true, true, true, true, true, true, true, true, true, true, true, true, true, true, true, true, true, true, true, true, true, false, false, false, false] rfl rfl (any_of HT_.out (by kernel_rfl)) (fun _ _ _ h => h) (Or.inr ⟨by rfl, rfl⟩) ?_ ?_
            rotate_left
            · simp only [Act.put, List.setIfInBounds_toArray, List.set_cons_zero, List.set_cons_succ, i64_w, i32_w]
              rfl
            refine pure_ (i := 34) (N := some 45) (v := undef) (a' := ?_) #[true, true, true, true, true, true, true, true, true, true, true, true, true, true, true, true, true, true, true, true, true, true, true, true, true, true, true, true, true, true, true, true, true, true, true, false, false, false] rfl rfl (any_of HT_.out (by kernel_rfl)) (fun _ _ _ h => h) (Or.inr ⟨by rfl, rfl⟩) ?_ ?_
            rotate_left
            · simp only [Act.put, List.setIfInBounds_toArray, List.set_cons_zero, List.set_cons_succ, i64_w, i32_w]
              rfl
            refine pure_ (i := 35) (N := some 46) (v := undef) (a' := ?_) #[true, true, true, true, true, true, true, true, true, true, true, true, true, true, true, true, true, true, true, true, true, true, true, true, true, true, true, true, true, true, true, true, true, true, true, true, false, false] rfl rfl (any_of HT_.out (by kernel_rfl)) (fun _ _ _ h => h) (Or.inr ⟨by rfl, rfl⟩) ?_ ?_
            rotate_left
            · simp only [Act.put, List.setIfInBounds_toArray, List.set_cons_zero, List.set_cons_succ, i64_w, i32_w]
              rfl
            refine pure_ (i := 36) (N := some 47) (v := ?_) (a' := ?_) #[true, true, true, true, true, true, true, true, true, true, true, true, true, true, true, true, true, true, true, true, true, true, true, true, true, true, true, true, true, true, true, true, true, true, true, true, true, false] rfl rfl (any_of HT_.out (by kernel_rfl)) (fun _ _ _ h => h) (Or.inl ⟨by rfl, ?_⟩) ?_ ?_
            rotate_left
            · intro w'
              go_simp
              with_reducible rfl
            rotate_left
            · simp only [Act.put, List.setIfInBounds_toArray, List.set_cons_zero, List.set_cons_succ, i64_w, i32_w]
              rfl
            refine pure_ (i := 37) (N := some 48) (v := ?_) (a' := ?_) #[true, true, true, true, true, true, true, true, true, true, true, true, true, true, true, true, true, true, true, true, true, true, true, true, true, true, true, true, true, true, true, true, true, true, true, true, true, true] rfl rfl (any_of HT_.out (by kernel_rfl)) (fun _ _ _ h => h) (Or.inl ⟨by rfl, ?_⟩) ?_ ?_
            rotate_left
            · intro w'
              go_simp
              with_reducible rfl
            rotate_left
            · simp only [Act.put, List.setIfInBounds_toArray, List.set_cons_zero, List.set_cons_succ, i64_w, i32_w]
              rfl
            refine done_ (done_of HT_.out (by kernel_rfl)) ?_
            try go_wp2
            go_meet
            case rel => exact ⟨_, (false), (by first | rfl | (simp; done) | (simp [*]; done)), H', ⟨by first | omega | exact Nat.le_refl _⟩, ⟨by (with_reducible repeat first | apply blk_drewN | apply blk_drew | apply blk_alloc); exact BK289.out⟩, ⟨by (with_reducible repeat first | apply blk_drewN | apply blk_drew | apply blk_alloc); exact BK290.out⟩, ⟨by (with_reducible repeat first | apply blk_drewN | apply blk_drew | apply blk_alloc); exact BK291.out⟩, ⟨by repeat first | (with_reducible first | exact HB.out | apply below_alloc | apply pw_below_drewN | apply below_drew1 | refine below_set ?_ GE289.out | refine below_set ?_ GE290.out | refine below_set ?_ GE291.out) | exact HB.out⟩⟩
  case rest =>
    clear HC5
    try clear c1
    try clear p2
    try clear c10
    try clear c15
    try clear c106
    obtain ⟨kq, x48_4, rfl, HA, HJ4, BK289, BK290, BK291, HB⟩ := hcut
    cases kq with
    | zero => exact absurd HA.out (by simp [mantletlaw10_KeyOrders.j0])
    | succ kj4 =>
      have H := HA.out
      clear HA
      simp only [mantletlaw10_KeyOrders.j0] at H
      by_cases c128 : x48_4 = true
      · subst c128
        have H1 : (some false) = some r := by rw [if_pos rfl] at H; exact H
        clear H
        have H := H1
        clear H1
        exact absurd ((Option.some.inj H).trans HT.out) (by decide)
      · replace c128 := Bool.eq_false_iff.mpr c128
        subst c128
        have H1 : (if 0 ≤ (Int.tmod a3 13) then ((key_Stripe.f kj4 a0_0 a0_1 a0_2 a0_3 a0_4 (shl .i64 1 (Int.tmod a3 13))).bind fun t310 => ((mantletlaw10_awake.f kj4).bind fun t311 => (if t311 = true then (if t310 ≥ 0 then (if t310 < (shl .i64 1 (Int.tmod a3 13)) then (if (shl .i64 1 (Int.tmod a3 13)) = 1 then (some true) else ((key_Stripe.f kj4 a0_0 a0_1 a0_2 a0_3 a0_4 (wrap64 (Int.tdiv (shl .i64 1 (Int.tmod a3 13)) 2))).bind fun t312 => (if (wrap64 (Int.tdiv (shl .i64 1 (Int.tmod a3 13)) 2)) = 0 then (none) else (some (t312 == (Int.tmod t310 (wrap64 (Int.tdiv (shl .i64 1 (Int.tmod a3 13)) 2)))))))) else (some false)) else (some false)) else (some false)))) else (none)) = some r := by rw [if_neg (show ¬ (false = true) by decide)] at H; exact H
        clear H
        have H := H1
        clear H1
        obtain ⟨ji129, hji129⟩ : ∃ j_ : Int, (Int.tmod a3 13) = j_ := ⟨_, rfl⟩
        replace H : (if 0 ≤ (ji129) then ((key_Stripe.f kj4 a0_0 a0_1 a0_2 a0_3 a0_4 (shl .i64 1 (ji129))).bind fun t310 => ((mantletlaw10_awake.f kj4).bind fun t311 => (if t311 = true then (if t310 ≥ 0 then (if t310 < (shl .i64 1 (ji129)) then (if (shl .i64 1 (ji129)) = 1 then (some true) else ((key_Stripe.f kj4 a0_0 a0_1 a0_2 a0_3 a0_4 (wrap64 (Int.tdiv (shl .i64 1 (ji129)) 2))).bind fun t312 => (if (wrap64 (Int.tdiv (shl .i64 1 (ji129)) 2)) = 0 then (none) else (some (t312 == (Int.tmod t310 (wrap64 (Int.tdiv (shl .i64 1 (ji129)) 2)))))))) else (some false)) else (some false)) else (some false)))) else (none)) = some r := by first | (rw [hji129] at H; exact H) | (simp only [hji129] at H ⊢; exact H)
        by_cases c130 : 0 ≤ (ji129)
        · rw [if_pos c130] at H
          have c130b0 := eq_true c130
          have c130b1 : decide (0 ≤ (ji129)) = true := decide_eq_true c130
          clear c130
          obtain ⟨ji131, hji131⟩ : ∃ j_ : Int, (shl .i64 1 (ji129)) = j_ := ⟨_, rfl⟩
          replace H : ((key_Stripe.f kj4 a0_0 a0_1 a0_2 a0_3 a0_4 (ji131)).bind fun t310 => ((mantletlaw10_awake.f kj4).bind fun t311 => (if t311 = true then (if t310 ≥ 0 then (if t310 < (ji131) then (if (ji131) = 1 then (some true) else ((key_Stripe.f kj4 a0_0 a0_1 a0_2 a0_3 a0_4 (wrap64 (Int.tdiv (ji131) 2))).bind fun t312 => (if (wrap64 (Int.tdiv (ji131) 2)) = 0 then (none) else (some (t312 == (Int.tmod t310 (wrap64 (Int.tdiv (ji131) 2)))))))) else (some false)) else (some false)) else (some false)))) = some r := by first | (rw [hji131] at H; exact H) | (simp only [hji131] at H ⊢; exact H)
          have hji131_ : (IntKind.i64.wrap (1 * 2 ^ min (ji129).toNat 64)) = ji131 := hji131
          have hji131z : (ji129) ≤ 64 → (IntKind.i64.wrap (1 * 2 ^ (ji129).toNat)) = ji131 := shl_small hji131
          have hji131u : (IntKind.i64.wrap (2 ^ min (ji129).toNat 64)) = ji131 := by have h_ := hji131_; rw [Int.one_mul] at h_; exact h_
          have hji131v : (ji129) ≤ 64 → (IntKind.i64.wrap (2 ^ (ji129).toNat)) = ji131 := fun hle_ => by have h_ := hji131z hle_; rw [Int.one_mul] at h_; exact h_
          have hji131y : (wrap64 (1 * 2 ^ min (ji129).toNat 64)) = ji131 := (i64_w _).symm.trans hji131_
          have hji131x : (ji129) ≤ 64 → (wrap64 (1 * 2 ^ (ji129).toNat)) = ji131 := fun h_ => (i64_w _).symm.trans (hji131z h_)
          replace H := Option.bind_eq_some_iff.mp H
          obtain ⟨t310, A1320, H⟩ := H
          replace H : ((mantletlaw10_awake.f kj4).bind fun t311 => (if t311 = true then (if t310 ≥ 0 then (if t310 < (ji131) then (if (ji131) = 1 then (some true) else ((key_Stripe.f kj4 a0_0 a0_1 a0_2 a0_3 a0_4 (wrap64 (Int.tdiv (ji131) 2))).bind fun t312 => (if (wrap64 (Int.tdiv (ji131) 2)) = 0 then (none) else (some (t312 == (Int.tmod t310 (wrap64 (Int.tdiv (ji131) 2)))))))) else (some false)) else (some false)) else (some false))) = some r := H
          have A132 := Aside0.mk A1320
          clear A1320
          replace H := Option.bind_eq_some_iff.mp H
          obtain ⟨t311, A1330, H⟩ := H
          replace H : (if t311 = true then (if t310 ≥ 0 then (if t310 < (ji131) then (if (ji131) = 1 then (some true) else ((key_Stripe.f kj4 a0_0 a0_1 a0_2 a0_3 a0_4 (wrap64 (Int.tdiv (ji131) 2))).bind fun t312 => (if (wrap64 (Int.tdiv (ji131) 2)) = 0 then (none) else (some (t312 == (Int.tmod t310 (wrap64 (Int.tdiv (ji131) 2)))))))) else (some false)) else (some false)) else (some false)) = some r := H
          have A133 := Aside0.mk A1330
          clear A1330
          by_cases c134 : t311 = true
          · subst c134
            have H1 : (if t310 ≥ 0 then (if t310 < (ji131) then (if (ji131) = 1 then (some true) else ((key_Stripe.f kj4 a0_0 a0_1 a0_2 a0_3 a0_4 (wrap64 (Int.tdiv (ji131) 2))).bind fun t312 => (if (wrap64 (Int.tdiv (ji131) 2)) = 0 then (none) else (some (t312 == (Int.tmod t310 (wrap64 (Int.tdiv (ji131) 2)))))))) else (some false)) else (some false)) = some r := by rw [if_pos rfl] at H; exact H
            clear H
            have H := H1
            clear H1
            by_cases c135 : t310 ≥ 0
            · rw [if_pos c135] at H
              have c135b0 : decide (0 ≤ t310) = true := decide_eq_true c135
              clear c135
              by_cases c136 : t310 < (ji131)
              · rw [if_pos c136] at H
                have c136b0 : decide (t310 < (ji131)) = true := decide_eq_true c136
                clear c136
                by_cases c137 : (ji131) = 1
                · rw [if_pos c137] at H
                  have c137b0 : ((ji131) == 1) = true := beq_iff_eq.mpr c137
                  have c137b1 : ((ji131) != 1) = false := bne_eq_false_iff_eq.mpr c137
                  clear c137
                  obtain rfl := Option.some.inj H
                  have hnb138 := NB289_290.out
                  have hnc138 := NB290_289.out
                  have hnb139 := NB289_291.out
                  have hnc139 := NB291_289.out
                  have hcz140_0 : wc.cell? ⟨gb289, 0, none⟩ = some (.int .u32 a0_0) := (blk_cell BK289.out 0).trans rfl
                  have hcz140_1 : wc.cell? ⟨gb289, 1, none⟩ = some (.int .u32 a0_1) := (blk_cell BK289.out 1).trans rfl
                  have hcz140_2 : wc.cell? ⟨gb289, 2, none⟩ = some (.int .u16 a0_2) := (blk_cell BK289.out 2).trans rfl
                  have hcz140_3 : wc.cell? ⟨gb289, 3, none⟩ = some (.int .u16 a0_3) := (blk_cell BK289.out 3).trans rfl
                  have hcz140_4 : wc.cell? ⟨gb289, 4, none⟩ = some (.int .u8 a0_4) := (blk_cell BK289.out 4).trans rfl
                  have hfz140_0 := blk_frozen BK289.out 0
                  have hfz140_1 := blk_frozen BK289.out 1
                  have hfz140_2 := blk_frozen BK289.out 2
                  have hfz140_3 := blk_frozen BK289.out 3
                  have hfz140_4 := blk_frozen BK289.out 4
                  try go_wp2_with (first | ((with_reducible refine gate_callee (f := 13) rfl ?_); refine goesL_ (some 54) rfl rfl Try.func13 (by kernel_rfl) rfl #[.agg #[.int .u32 a0_0, .int .u32 a0_1, .int .u16 a0_2, .int .u16 a0_3, .int .u8 a0_4], .int .i64 ji131] rfl (by (try simp only [List.map_toArray, List.map_cons, List.map_nil]); first | done | (simp only [hji131]; rfl) | rfl | (simp only [List.length_drop, List.length_take]; rfl)) ?_; (with_reducible refine (key_Stripe.calls kj4 a0_0 a0_1 a0_2 a0_3 a0_4 ji131 t310 _ A132.out).mono ?_); rintro e w141 ⟨rfl, hb⟩; refine ⟨_, rfl, ?_⟩; have n0_ := Aside0.mk (blk_below (g := gb289) (o := .cells #[.int .u32 a0_0, .int .u32 a0_1, .int .u16 a0_2, .int .u16 a0_3, .int .u8 a0_4] 29 (0, 0)) (by (with_reducible repeat first | apply blk_drewN | apply blk_drew | apply blk_alloc); exact BK289.out) hb); have n1_ := Aside0.mk (blk_below (g := gb290) (o := .cells #[.int .u32 a1_0, .int .u32 a1_1, .int .u16 a1_2, .int .u16 a1_3, .int .u8 a1_4] 29 (0, 0)) (by (with_reducible repeat first | apply blk_drewN | apply blk_drew | apply blk_alloc); exact BK290.out) hb); have n2_ := Aside0.mk (blk_below (g := gb291) (o := .cells #[.int .u32 a2_0, .int .u32 a2_1, .int .u16 a2_2, .int .u16 a2_3, .int .u8 a2_4] 29 (0, 0)) (by (with_reducible repeat first | apply blk_drewN | apply blk_drew | apply blk_alloc); exact BK291.out) hb); have n3_ := Aside0.mk (below_step (by repeat first | (with_reducible first | exact HB.out | apply below_alloc | apply pw_below_drewN | apply below_drew1 | refine below_set ?_ GE289.out | refine below_set ?_ GE290.out | refine below_set ?_ GE291.out) | exact HB.out) hb); clear BK289; clear BK290; clear BK291; clear HB; have BK289 := n0_; have BK290 := n1_; have BK291 := n2_; have HB := n3_; clear n0_ n1_ n2_ n3_; (try clear hb); (try clear hb2); (try clear hk); (try clear hi)))
                  have n0_ := Aside0.mk (blk_drew BK289.out)
                  have n1_ := Aside0.mk (blk_drew BK290.out)
                  have n2_ := Aside0.mk (blk_drew BK291.out)
                  have n3_ := Aside0.mk (below_drew1 HB.out)
                  clear BK289
                  clear BK290
                  clear BK291
                  clear HB
                  have BK289 := n0_
                  have BK290 := n1_
                  have BK291 := n2_
                  have HB := n3_
                  clear n0_ n1_ n2_ n3_
                  refine start_ (n := 26) (S := fun w' => True) (ds := []) #[false, false, false, false, false, false, false, false, false, false, false, false, false, false, false, false, false, false, false, false, false, false, false, false, false, false] (by kernel_rfl) rfl rfl trivial (fun hHeld => ?_); refine with_tabW mantletlaw10_KeyOrders.tab5 mantletlaw10_KeyOrders.bits5 (fun HT_ HW_ => ?_)
                  generalize w141.drew = w142 at BK289 BK290 BK291 HB hHeld ⊢
                  refine one_ (i := 0) (N := some 55) #[true, false, false, false, false, false, false, false, false, false, false, false, false, false, false, false, false, false, false, false, false, false, false, false, false, false] rfl rfl (one_of HT_.out (by kernel_rfl)) (by decide) (fun K hK => ?_)
                  refine goes_ Try.func10 (by kernel_rfl) rfl #[] (by rfl) rfl rfl (by (try simp only [List.map_toArray, List.map_cons, List.map_nil]); first | done | rfl) ?_
                  with_reducible refine (mantletlaw10_awake.calls kj4  true _ A133.out).mono ?_
                  rintro e w143 ⟨rfl, hb⟩
                  refine ⟨_, rfl, ?_⟩
                  have n0_ := Aside0.mk (blk_below (g := gb289) (o := .cells #[.int .u32 a0_0, .int .u32 a0_1, .int .u16 a0_2, .int .u16 a0_3, .int .u8 a0_4] 29 (0, 0)) (by (with_reducible repeat first | apply blk_drewN | apply blk_drew | apply blk_alloc); exact BK289.out) hb)
                  have n1_ := Aside0.mk (blk_below (g := gb290) (o := .cells #[.int .u32 a1_0, .int .u32 a1_1, .int .u16 a1_2, .int .u16 a1_3, .int .u8 a1_4] 29 (0, 0)) (by (with_reducible repeat first | apply blk_drewN | apply blk_drew | apply blk_alloc); exact BK290.out) hb)
                  have n2_ := Aside0.mk (blk_below (g := gb291) (o := .cells #[.int .u32 a2_0, .int .u32 a2_1, .int .u16 a2_2, .int .u16 a2_3, .int .u8 a2_4] 29 (0, 0)) (by (with_reducible repeat first | apply blk_drewN | apply blk_drew | apply blk_alloc); exact BK291.out) hb)
                  have n3_ := Aside0.mk (below_step (by repeat first | (with_reducible first | exact HB.out | apply below_alloc | apply pw_below_drewN | apply below_drew1 | refine below_set ?_ GE289.out | refine below_set ?_ GE290.out | refine below_set ?_ GE291.out) | exact HB.out) hb)
                  clear BK289
                  clear BK290
                  clear BK291
                  clear HB
                  have BK289 := n0_
                  have BK290 := n1_
                  have BK291 := n2_
                  have HB := n3_
                  clear n0_ n1_ n2_ n3_
                  (try clear hb)
                  (try clear hb2)
                  (try clear hk)
                  (try clear hi)
                  refine hK.out _ _ trivial (fun hHeld => ?_)
                  clear hK K
                  refine norm_ (a' := ?_) ?_ ?_
                  rotate_left
                  · show Act.put _ (some 55) _ = _
                    simp only [Act.put, List.setIfInBounds_toArray, List.set_cons_zero, List.set_cons_succ, i64_w, i32_w]
                    rfl
                  refine pure_ (i := 1) (N := some 56) (v := ?_) (a' := ?_) #[true, true, false, false, false, false, false, false, false, false, false, false, false, false, false, false, false, false, false, false, false, false, false, false, false, false] rfl rfl (any_of HT_.out (by kernel_rfl)) (fun _ _ _ h => h) (Or.inl ⟨by rfl, ?_⟩) ?_ ?_
                  rotate_left
                  · intro w'
                    go_simp
                    with_reducible rfl
                  rotate_left
                  · simp only [Act.put, List.setIfInBounds_toArray, List.set_cons_zero, List.set_cons_succ, i64_w, i32_w]
                    rfl
                  refine pure_ (i := 2) (N := some 57) (v := ?_) (a' := ?_) #[true, true, true, false, false, false, false, false, false, false, false, false, false, false, false, false, false, false, false, false, false, false, false, false, false, false] rfl rfl (any_of HT_.out (by kernel_rfl)) (fun _ _ _ h => h) (Or.inl ⟨by rfl, ?_⟩) ?_ ?_
                  rotate_left
                  · intro w'
                    go_simp
                    with_reducible rfl
                  rotate_left
                  · simp only [Act.put, List.setIfInBounds_toArray, List.set_cons_zero, List.set_cons_succ, i64_w, i32_w]
                    rfl
                  refine pure_ (i := 3) (N := some 58) (v := ?_) (a' := ?_) #[true, true, true, true, false, false, false, false, false, false, false, false, false, false, false, false, false, false, false, false, false, false, false, false, false, false] rfl rfl (any_of HT_.out (by kernel_rfl)) (fun _ _ _ h => h) (Or.inl ⟨by rfl, ?_⟩) ?_ ?_
                  rotate_left
                  · intro w'
                    go_simp
                    with_reducible rfl
                  rotate_left
                  · simp only [Act.put, List.setIfInBounds_toArray, List.set_cons_zero, List.set_cons_succ, i64_w, i32_w]
                    rfl
                  refine pure_ (i := 4) (N := some 59) (v := ?_) (a' := ?_) #[true, true, true, true, true, false, false, false, false, false, false, false, false, false, false, false, false, false, false, false, false, false, false, false, false, false] rfl rfl (any_of HT_.out (by kernel_rfl)) (fun _ _ _ h => h) (Or.inl ⟨by rfl, ?_⟩) ?_ ?_
                  rotate_left
                  · intro w'
                    go_simp
                    with_reducible rfl
                  rotate_left
                  · simp only [Act.put, List.setIfInBounds_toArray, List.set_cons_zero, List.set_cons_succ, i64_w, i32_w]
                    rfl
                  refine pure_ (i := 5) (N := some 60) (v := ?_) (a' := ?_) #[true, true, true, true, true, true, false, false, false, false, false, false, false, false, false, false, false, false, false, false, false, false, false, false, false, false] rfl rfl (any_of HT_.out (by kernel_rfl)) (fun _ _ _ h => h) (Or.inl ⟨by rfl, ?_⟩) ?_ ?_
                  rotate_left
                  · intro w'
                    go_simp
                    with_reducible rfl
                  rotate_left
                  · simp only [Act.put, List.setIfInBounds_toArray, List.set_cons_zero, List.set_cons_succ, i64_w, i32_w]
                    rfl
                  refine pure_ (i := 6) (N := some 61) (v := ?_) (a' := ?_) #[true, true, true, true, true, true, true, false, false, false, false, false, false, false, false, false, false, false, false, false, false, false, false, false, false, false] rfl rfl (any_of HT_.out (by kernel_rfl)) (fun _ _ _ h => h) (Or.inl ⟨by rfl, ?_⟩) ?_ ?_
                  rotate_left
                  · intro w'
                    go_simp
                    with_reducible rfl
                  rotate_left
                  · simp only [Act.put, List.setIfInBounds_toArray, List.set_cons_zero, List.set_cons_succ, i64_w, i32_w]
                    rfl
                  refine pure_ (i := 7) (N := some 62) (v := ?_) (a' := ?_) #[true, true, true, true, true, true, true, true, false, false, false, false, false, false, false, false, false, false, false, false, false, false, false, false, false, false] rfl rfl (any_of HT_.out (by kernel_rfl)) (fun _ _ _ h => h) (Or.inl ⟨by rfl, ?_⟩) ?_ ?_
                  rotate_left
                  · intro w'
                    go_simp
                    with_reducible rfl
                  rotate_left
                  · simp only [Act.put, List.setIfInBounds_toArray, List.set_cons_zero, List.set_cons_succ, i64_w, i32_w]
                    rfl
                  refine pure_ (i := 8) (N := some 63) (v := ?_) (a' := ?_) #[true, true, true, true, true, true, true, true, true, false, false, false, false, false, false, false, false, false, false, false, false, false, false, false, false, false] rfl rfl (any_of HT_.out (by kernel_rfl)) (fun _ _ _ h => h) (Or.inl ⟨by rfl, ?_⟩) ?_ ?_
                  rotate_left
                  · intro w'
                    go_simp
                    with_reducible rfl
                  rotate_left
                  · simp only [Act.put, List.setIfInBounds_toArray, List.set_cons_zero, List.set_cons_succ, i64_w, i32_w]
                    rfl
                  refine pure_ (i := 9) (N := some 64) (v := ?_) (a' := ?_) #[true, true, true, true, true, true, true, true, true, true, false, false, false, false, false, false, false, false, false, false, false, false, false, false, false, false] rfl rfl (any_of HT_.out (by kernel_rfl)) (fun _ _ _ h => h) (Or.inl ⟨by rfl, ?_⟩) ?_ ?_
                  rotate_left
                  · intro w'
                    go_simp
                    with_reducible rfl
                  rotate_left
                  · simp only [Act.put, List.setIfInBounds_toArray, List.set_cons_zero, List.set_cons_succ, i64_w, i32_w]
                    rfl
                  refine pure_ (i := 10) (N := some 65) (v := ?_) (a' := ?_) #[true, true, true, true, true, true, true, true, true, true, true, false, false, false, false, false, false, false, false, false, false, false, false, false, false, false] rfl rfl (any_of HT_.out (by kernel_rfl)) (fun _ _ _ h => h) (Or.inl ⟨by rfl, ?_⟩) ?_ ?_
                  rotate_left
                  · intro w'
                    go_simp
                    with_reducible rfl
                  rotate_left
                  · simp only [Act.put, List.setIfInBounds_toArray, List.set_cons_zero, List.set_cons_succ, i64_w, i32_w]
                    rfl
                  refine pure_ (i := 11) (N := some 66) (v := ?_) (a' := ?_) #[true, true, true, true, true, true, true, true, true, true, true, true, false, false, false, false, false, false, false, false, false, false, false, false, false, false] rfl rfl (any_of HT_.out (by kernel_rfl)) (fun _ _ _ h => h) (Or.inl ⟨by rfl, ?_⟩) ?_ ?_
                  rotate_left
                  · intro w'
                    go_simp
                    with_reducible rfl
                  rotate_left
                  · simp only [Act.put, List.setIfInBounds_toArray, List.set_cons_zero, List.set_cons_succ, i64_w, i32_w]
                    rfl
                  refine pure_ (i := 12) (N := some 67) (v := ?_) (a' := ?_) #[true, true, true, true, true, true, true, true, true, true, true, true, true, false, false, false, false, false, false, false, false, false, false, false, false, false] rfl rfl (any_of HT_.out (by kernel_rfl)) (fun _ _ _ h => h) (Or.inl ⟨by rfl, ?_⟩) ?_ ?_
                  rotate_left
                  · intro w'
                    go_simp
                    with_reducible rfl
                  rotate_left
                  · simp only [Act.put, List.setIfInBounds_toArray, List.set_cons_zero, List.set_cons_succ, i64_w, i32_w]
                    rfl
                  refine pure_ (i := 13) (N := some 68) (v := ?_) (a' := ?_) #[true, true, true, true, true, true, true, true, true, true, true, true, true, true, false, false, false, false, false, false, false, false, false, false, false, false] rfl rfl (any_of HT_.out (by kernel_rfl)) (fun _ _ _ h => h) (Or.inl ⟨by rfl, ?_⟩) ?_ ?_
                  rotate_left
                  · intro w'
                    go_simp
                    with_reducible rfl
                  rotate_left
                  · simp only [Act.put, List.setIfInBounds_toArray, List.set_cons_zero, List.set_cons_succ, i64_w, i32_w]
                    rfl
                  refine pure_ (i := 14) (N := some 69) (v := undef) (a' := ?_) #[true, true, true, true, true, true, true, true, true, true, true, true, true, true, true, false, false, false, false, false, false, false, false, false, false, false] rfl rfl (any_of HT_.out (by kernel_rfl)) (fun _ _ _ h => h) (Or.inr ⟨by rfl, rfl⟩) ?_ ?_
                  rotate_left
                  · simp only [Act.put, List.setIfInBounds_toArray, List.set_cons_zero, List.set_cons_succ, i64_w, i32_w]
                    rfl
                  refine pure_ (i := 15) (N := some 70) (v := undef) (a' := ?_) #[true, true, true, true, true, true, true, true, true, true, true, true, true, true, true, true, false, false, false, false, false, false, false, false, false, false] rfl rfl (any_of HT_.out (by kernel_rfl)) (fun _ _ _ h => h) (Or.inr ⟨by rfl, rfl⟩) ?_ ?_
                  rotate_left
                  · simp only [Act.put, List.setIfInBounds_toArray, List.set_cons_zero, List.set_cons_succ, i64_w, i32_w]
                    rfl
                  refine pure_ (i := 16) (N := some 71) (v := undef) (a' := ?_) #[true, true, true, true, true, true, true, true, true, true, true, true, true, true, true, true, true, false, false, false, false, false, false, false, false, false] rfl rfl (any_of HT_.out (by kernel_rfl)) (fun _ _ _ h => h) (Or.inr ⟨by rfl, rfl⟩) ?_ ?_
                  rotate_left
                  · simp only [Act.put, List.setIfInBounds_toArray, List.set_cons_zero, List.set_cons_succ, i64_w, i32_w]
                    rfl
                  refine pure_ (i := 17) (N := some 72) (v := undef) (a' := ?_) #[true, true, true, true, true, true, true, true, true, true, true, true, true, true, true, true, true, true, false, false, false, false, false, false, false, false] rfl rfl (any_of HT_.out (by kernel_rfl)) (fun _ _ _ h => h) (Or.inr ⟨by rfl, rfl⟩) ?_ ?_
                  rotate_left
                  · simp only [Act.put, List.setIfInBounds_toArray, List.set_cons_zero, List.set_cons_succ, i64_w, i32_w]
                    rfl
                  refine pure_ (i := 18) (N := some 73) (v := undef) (a' := ?_) #[true, true, true, true, true, true, true, true, true, true, true, true, true, true, true, true, true, true, true, false, false, false, false, false, false, false] rfl rfl (any_of HT_.out (by kernel_rfl)) (fun _ _ _ h => h) (Or.inr ⟨by rfl, rfl⟩) ?_ ?_
                  rotate_left
                  · simp only [Act.put, List.setIfInBounds_toArray, List.set_cons_zero, List.set_cons_succ, i64_w, i32_w]
                    rfl
                  refine pure_ (i := 19) (N := some 74) (v := undef) (a' := ?_) #[true, true, true, true, true, true, true, true, true, true, true, true, true, true, true, true, true, true, true, true, false, false, false, false, false, false] rfl rfl (any_of HT_.out (by kernel_rfl)) (fun _ _ _ h => h) (Or.inr ⟨by rfl, rfl⟩) ?_ ?_
                  rotate_left
                  · simp only [Act.put, List.setIfInBounds_toArray, List.set_cons_zero, List.set_cons_succ, i64_w, i32_w]
                    rfl
                  refine pure_ (i := 20) (N := some 75) (v := undef) (a' := ?_) #[true, true, true, true, true, true, true, true, true, true, true, true, true, true, true, true, true, true, true, true, true, false, false, false, false, false] rfl rfl (any_of HT_.out (by kernel_rfl)) (fun _ _ _ h => h) (Or.inr ⟨by rfl, rfl⟩) ?_ ?_
                  rotate_left
                  · simp only [Act.put, List.setIfInBounds_toArray, List.set_cons_zero, List.set_cons_succ, i64_w, i32_w]
                    rfl
                  refine pure_ (i := 21) (N := some 76) (v := undef) (a' := ?_) #[true, true, true, true, true, true, true, true, true, true, true, true, true, true, true, true, true, true, true, true, true, true, false, false, false, false] rfl rfl (any_of HT_.out (by kernel_rfl)) (fun _ _ _ h => h) (Or.inr ⟨by rfl, rfl⟩) ?_ ?_
                  rotate_left
                  · simp only [Act.put, List.setIfInBounds_toArray, List.set_cons_zero, List.set_cons_succ, i64_w, i32_w]
                    rfl
                  refine pure_ (i := 22) (N := some 77) (v := undef) (a' := ?_) #[true, true, true, true, true, true, true, true, true, true, true, true, true, true, true, true, true, true, true, true, true, true, true, false, false, false] rfl rfl (any_of HT_.out (by kernel_rfl)) (fun _ _ _ h => h) (Or.inr ⟨by rfl, rfl⟩) ?_ ?_
                  rotate_left
                  · simp only [Act.put, List.setIfInBounds_toArray, List.set_cons_zero, List.set_cons_succ, i64_w, i32_w]
                    rfl
                  refine pure_ (i := 23) (N := some 78) (v := ?_) (a' := ?_) #[true, true, true, true, true, true, true, true, true, true, true, true, true, true, true, true, true, true, true, true, true, true, true, true, false, false] rfl rfl (any_of HT_.out (by kernel_rfl)) (fun _ _ _ h => h) (Or.inl ⟨by rfl, ?_⟩) ?_ ?_
                  rotate_left
                  · intro w'
                    go_simp
                    with_reducible rfl
                  rotate_left
                  · simp only [Act.put, List.setIfInBounds_toArray, List.set_cons_zero, List.set_cons_succ, i64_w, i32_w]
                    rfl
                  refine pure_ (i := 24) (N := some 79) (v := ?_) (a' := ?_) #[true, true, true, true, true, true, true, true, true, true, true, true, true, true, true, true, true, true, true, true, true, true, true, true, true, false] rfl rfl (any_of HT_.out (by kernel_rfl)) (fun _ _ _ h => h) (Or.inl ⟨by rfl, ?_⟩) ?_ ?_
                  rotate_left
                  · intro w'
                    go_simp
                    with_reducible rfl
                  rotate_left
                  · simp only [Act.put, List.setIfInBounds_toArray, List.set_cons_zero, List.set_cons_succ, i64_w, i32_w]
                    rfl
                  refine pure_ (i := 25) (N := some 8) (v := ?_) (a' := ?_) #[true, true, true, true, true, true, true, true, true, true, true, true, true, true, true, true, true, true, true, true, true, true, true, true, true, true] rfl rfl (any_of HT_.out (by kernel_rfl)) (fun _ _ _ h => h) (Or.inl ⟨by rfl, ?_⟩) ?_ ?_
                  rotate_left
                  · intro w'
                    go_simp
                    with_reducible rfl
                  rotate_left
                  · simp only [Act.put, List.setIfInBounds_toArray, List.set_cons_zero, List.set_cons_succ, i64_w, i32_w]
                    rfl
                  refine done_ (done_of HT_.out (by kernel_rfl)) ?_
                  try go_wp2
                  go_ret
                  exact ⟨by first | rfl | (simp [errW_none, errW_some] <;> rfl) | (simp only [← hji129, ← hji131]; first | rfl | (simp [errW_none, errW_some] <;> rfl)) | (simp [*, errW_none, errW_some] <;> rfl), by repeat first | (with_reducible first | exact HB.out | apply below_alloc | apply pw_below_drewN | apply below_drew1 | refine below_set ?_ GE289.out | refine below_set ?_ GE290.out | refine below_set ?_ GE291.out) | exact HB.out⟩
                · rw [if_neg c137] at H
                  have c137b0 : ((ji131) == 1) = false := beq_eq_false_iff_ne.mpr c137
                  have c137b1 : ((ji131) != 1) = true := bne_iff_ne.mpr c137
                  replace H := Option.bind_eq_some_iff.mp H
                  obtain ⟨t312, A1440, H⟩ := H
                  replace H : (if (wrap64 (Int.tdiv (ji131) 2)) = 0 then (none) else (some (t312 == (Int.tmod t310 (wrap64 (Int.tdiv (ji131) 2)))))) = some r := H
                  have A144 := Aside0.mk A1440
                  clear A1440
                  by_cases c145 : (wrap64 (Int.tdiv (ji131) 2)) = 0
                  · rw [if_pos c145] at H
                    exact absurd H (by simp)
                  · rw [if_neg c145] at H
                    have c145b0 : ((wrap64 (Int.tdiv (ji131) 2)) == 0) = false := beq_eq_false_iff_ne.mpr c145
                    have c145b1 : ((wrap64 (Int.tdiv (ji131) 2)) != 0) = true := bne_iff_ne.mpr c145
                    obtain rfl := Option.some.inj H
                    have hnb146 := NB289_290.out
                    have hnc146 := NB290_289.out
                    have hnb147 := NB289_291.out
                    have hnc147 := NB291_289.out
                    have hcz148_0 : wc.cell? ⟨gb289, 0, none⟩ = some (.int .u32 a0_0) := (blk_cell BK289.out 0).trans rfl
                    have hcz148_1 : wc.cell? ⟨gb289, 1, none⟩ = some (.int .u32 a0_1) := (blk_cell BK289.out 1).trans rfl
                    have hcz148_2 : wc.cell? ⟨gb289, 2, none⟩ = some (.int .u16 a0_2) := (blk_cell BK289.out 2).trans rfl
                    have hcz148_3 : wc.cell? ⟨gb289, 3, none⟩ = some (.int .u16 a0_3) := (blk_cell BK289.out 3).trans rfl
                    have hcz148_4 : wc.cell? ⟨gb289, 4, none⟩ = some (.int .u8 a0_4) := (blk_cell BK289.out 4).trans rfl
                    have hfz148_0 := blk_frozen BK289.out 0
                    have hfz148_1 := blk_frozen BK289.out 1
                    have hfz148_2 := blk_frozen BK289.out 2
                    have hfz148_3 := blk_frozen BK289.out 3
                    have hfz148_4 := blk_frozen BK289.out 4
                    try go_wp2_with (first | ((with_reducible refine gate_callee (f := 13) rfl ?_); refine goesL_ (some 54) rfl rfl Try.func13 (by kernel_rfl) rfl #[.agg #[.int .u32 a0_0, .int .u32 a0_1, .int .u16 a0_2, .int .u16 a0_3, .int .u8 a0_4], .int .i64 ji131] rfl (by (try simp only [List.map_toArray, List.map_cons, List.map_nil]); first | done | (simp only [hji131]; rfl) | rfl | (simp only [List.length_drop, List.length_take]; rfl)) ?_; (with_reducible refine (key_Stripe.calls kj4 a0_0 a0_1 a0_2 a0_3 a0_4 ji131 t310 _ A132.out).mono ?_); rintro e w149 ⟨rfl, hb⟩; refine ⟨_, rfl, ?_⟩; have n0_ := Aside0.mk (blk_below (g := gb289) (o := .cells #[.int .u32 a0_0, .int .u32 a0_1, .int .u16 a0_2, .int .u16 a0_3, .int .u8 a0_4] 29 (0, 0)) (by (with_reducible repeat first | apply blk_drewN | apply blk_drew | apply blk_alloc); exact BK289.out) hb); have n1_ := Aside0.mk (blk_below (g := gb290) (o := .cells #[.int .u32 a1_0, .int .u32 a1_1, .int .u16 a1_2, .int .u16 a1_3, .int .u8 a1_4] 29 (0, 0)) (by (with_reducible repeat first | apply blk_drewN | apply blk_drew | apply blk_alloc); exact BK290.out) hb); have n2_ := Aside0.mk (blk_below (g := gb291) (o := .cells #[.int .u32 a2_0, .int .u32 a2_1, .int .u16 a2_2, .int .u16 a2_3, .int .u8 a2_4] 29 (0, 0)) (by (with_reducible repeat first | apply blk_drewN | apply blk_drew | apply blk_alloc); exact BK291.out) hb); have n3_ := Aside0.mk (below_step (by repeat first | (with_reducible first | exact HB.out | apply below_alloc | apply pw_below_drewN | apply below_drew1 | refine below_set ?_ GE289.out | refine below_set ?_ GE290.out | refine below_set ?_ GE291.out) | exact HB.out) hb); clear BK289; clear BK290; clear BK291; clear HB; have BK289 := n0_; have BK290 := n1_; have BK291 := n2_; have HB := n3_; clear n0_ n1_ n2_ n3_; (try clear hb); (try clear hb2); (try clear hk); (try clear hi)))
                    have n0_ := Aside0.mk (blk_drew BK289.out)
                    have n1_ := Aside0.mk (blk_drew BK290.out)
                    have n2_ := Aside0.mk (blk_drew BK291.out)
                    have n3_ := Aside0.mk (below_drew1 HB.out)
                    clear BK289
                    clear BK290
                    clear BK291
                    clear HB
                    have BK289 := n0_
                    have BK290 := n1_
                    have BK291 := n2_
                    have HB := n3_
                    clear n0_ n1_ n2_ n3_
                    refine start_ (n := 26) (S := fun w' => w'.cell? ⟨gb289, 0, none⟩ = some (.int .u32 a0_0) ∧ w'.cell? ⟨gb289, 1, none⟩ = some (.int .u32 a0_1) ∧ w'.cell? ⟨gb289, 2, none⟩ = some (.int .u16 a0_2) ∧ w'.cell? ⟨gb289, 3, none⟩ = some (.int .u16 a0_3) ∧ w'.cell? ⟨gb289, 4, none⟩ = some (.int .u8 a0_4)) (ds := []) #[false, false, false, false, false, false, false, false, false, false, false, false, false, false, false, false, false, false, false, false, false, false, false, false, false, false] (by kernel_rfl) rfl rfl ⟨(blk_cell BK289.out 0).trans rfl, (blk_cell BK289.out 1).trans rfl, (blk_cell BK289.out 2).trans rfl, (blk_cell BK289.out 3).trans rfl, (blk_cell BK289.out 4).trans rfl⟩ (fun hHeld => ?_); refine with_tabW mantletlaw10_KeyOrders.tab5 mantletlaw10_KeyOrders.bits5 (fun HT_ HW_ => ?_)
                    generalize w149.drew = w150 at BK289 BK290 BK291 HB hHeld ⊢
                    refine one_ (i := 0) (N := some 55) #[true, false, false, false, false, false, false, false, false, false, false, false, false, false, false, false, false, false, false, false, false, false, false, false, false, false] rfl rfl (one_of HT_.out (by kernel_rfl)) (by decide) (fun K hK => ?_)
                    refine goes_ Try.func10 (by kernel_rfl) rfl #[] (by rfl) rfl rfl (by (try simp only [List.map_toArray, List.map_cons, List.map_nil]); first | done | rfl) ?_
                    with_reducible refine (mantletlaw10_awake.calls kj4  true _ A133.out).mono ?_
                    rintro e w151 ⟨rfl, hb⟩
                    refine ⟨_, rfl, ?_⟩
                    have n0_ := Aside0.mk (blk_below (g := gb289) (o := .cells #[.int .u32 a0_0, .int .u32 a0_1, .int .u16 a0_2, .int .u16 a0_3, .int .u8 a0_4] 29 (0, 0)) (by (with_reducible repeat first | apply blk_drewN | apply blk_drew | apply blk_alloc); exact BK289.out) hb)
                    have n1_ := Aside0.mk (blk_below (g := gb290) (o := .cells #[.int .u32 a1_0, .int .u32 a1_1, .int .u16 a1_2, .int .u16 a1_3, .int .u8 a1_4] 29 (0, 0)) (by (with_reducible repeat first | apply blk_drewN | apply blk_drew | apply blk_alloc); exact BK290.out) hb)
                    have n2_ := Aside0.mk (blk_below (g := gb291) (o := .cells #[.int .u32 a2_0, .int .u32 a2_1, .int .u16 a2_2, .int .u16 a2_3, .int .u8 a2_4] 29 (0, 0)) (by (with_reducible repeat first | apply blk_drewN | apply blk_drew | apply blk_alloc); exact BK291.out) hb)
                    have n3_ := Aside0.mk (below_step (by repeat first | (with_reducible first | exact HB.out | apply below_alloc | apply pw_below_drewN | apply below_drew1 | refine below_set ?_ GE289.out | refine below_set ?_ GE290.out | refine below_set ?_ GE291.out) | exact HB.out) hb)
                    clear BK289
                    clear BK290
                    clear BK291
                    clear HB
                    have BK289 := n0_
                    have BK290 := n1_
                    have BK291 := n2_
                    have HB := n3_
                    clear n0_ n1_ n2_ n3_
                    (try clear hb)
                    (try clear hb2)
                    (try clear hk)
                    (try clear hi)
                    refine hK.out _ _ ⟨(blk_cell BK289.out 0).trans rfl, (blk_cell BK289.out 1).trans rfl, (blk_cell BK289.out 2).trans rfl, (blk_cell BK289.out 3).trans rfl, (blk_cell BK289.out 4).trans rfl⟩ (fun hHeld => ?_)
                    clear hK K
                    refine norm_ (a' := ?_) ?_ ?_
                    rotate_left
                    · show Act.put _ (some 55) _ = _
                      simp only [Act.put, List.setIfInBounds_toArray, List.set_cons_zero, List.set_cons_succ, i64_w, i32_w]
                      rfl
                    refine pure_ (i := 1) (N := some 56) (v := ?_) (a' := ?_) #[true, true, false, false, false, false, false, false, false, false, false, false, false, false, false, false, false, false, false, false, false, false, false, false, false, false] rfl rfl (any_of HT_.out (by kernel_rfl)) (fun _ _ _ h => h) (Or.inl ⟨by rfl, ?_⟩) ?_ ?_
                    rotate_left
                    · intro w'
                      go_simp
                      with_reducible rfl
                    rotate_left
                    · simp only [Act.put, List.setIfInBounds_toArray, List.set_cons_zero, List.set_cons_succ, i64_w, i32_w]
                      rfl
                    refine pure_ (i := 2) (N := some 57) (v := ?_) (a' := ?_) #[true, true, true, false, false, false, false, false, false, false, false, false, false, false, false, false, false, false, false, false, false, false, false, false, false, false] rfl rfl (any_of HT_.out (by kernel_rfl)) (fun _ _ _ h => h) (Or.inl ⟨by rfl, ?_⟩) ?_ ?_
                    rotate_left
                    · intro w'
                      go_simp
                      with_reducible rfl
                    rotate_left
                    · simp only [Act.put, List.setIfInBounds_toArray, List.set_cons_zero, List.set_cons_succ, i64_w, i32_w]
                      rfl
                    refine pure_ (i := 3) (N := some 58) (v := ?_) (a' := ?_) #[true, true, true, true, false, false, false, false, false, false, false, false, false, false, false, false, false, false, false, false, false, false, false, false, false, false] rfl rfl (any_of HT_.out (by kernel_rfl)) (fun _ _ _ h => h) (Or.inl ⟨by rfl, ?_⟩) ?_ ?_
                    rotate_left
                    · intro w'
                      go_simp
                      with_reducible rfl
                    rotate_left
                    · simp only [Act.put, List.setIfInBounds_toArray, List.set_cons_zero, List.set_cons_succ, i64_w, i32_w]
                      rfl
                    refine pure_ (i := 4) (N := some 59) (v := ?_) (a' := ?_) #[true, true, true, true, true, false, false, false, false, false, false, false, false, false, false, false, false, false, false, false, false, false, false, false, false, false] rfl rfl (any_of HT_.out (by kernel_rfl)) (fun _ _ _ h => h) (Or.inl ⟨by rfl, ?_⟩) ?_ ?_
                    rotate_left
                    · intro w'
                      go_simp
                      with_reducible rfl
                    rotate_left
                    · simp only [Act.put, List.setIfInBounds_toArray, List.set_cons_zero, List.set_cons_succ, i64_w, i32_w]
                      rfl
                    refine pure_ (i := 5) (N := some 60) (v := ?_) (a' := ?_) #[true, true, true, true, true, true, false, false, false, false, false, false, false, false, false, false, false, false, false, false, false, false, false, false, false, false] rfl rfl (any_of HT_.out (by kernel_rfl)) (fun _ _ _ h => h) (Or.inl ⟨by rfl, ?_⟩) ?_ ?_
                    rotate_left
                    · intro w'
                      go_simp
                      with_reducible rfl
                    rotate_left
                    · simp only [Act.put, List.setIfInBounds_toArray, List.set_cons_zero, List.set_cons_succ, i64_w, i32_w]
                      rfl
                    refine pure_ (i := 6) (N := some 61) (v := ?_) (a' := ?_) #[true, true, true, true, true, true, true, false, false, false, false, false, false, false, false, false, false, false, false, false, false, false, false, false, false, false] rfl rfl (any_of HT_.out (by kernel_rfl)) (fun _ _ _ h => h) (Or.inl ⟨by rfl, ?_⟩) ?_ ?_
                    rotate_left
                    · intro w'
                      go_simp
                      with_reducible rfl
                    rotate_left
                    · simp only [Act.put, List.setIfInBounds_toArray, List.set_cons_zero, List.set_cons_succ, i64_w, i32_w]
                      rfl
                    refine pure_ (i := 7) (N := some 62) (v := ?_) (a' := ?_) #[true, true, true, true, true, true, true, true, false, false, false, false, false, false, false, false, false, false, false, false, false, false, false, false, false, false] rfl rfl (any_of HT_.out (by kernel_rfl)) (fun _ _ _ h => h) (Or.inl ⟨by rfl, ?_⟩) ?_ ?_
                    rotate_left
                    · intro w'
                      go_simp
                      with_reducible rfl
                    rotate_left
                    · simp only [Act.put, List.setIfInBounds_toArray, List.set_cons_zero, List.set_cons_succ, i64_w, i32_w]
                      rfl
                    refine pure_ (i := 8) (N := some 63) (v := ?_) (a' := ?_) #[true, true, true, true, true, true, true, true, true, false, false, false, false, false, false, false, false, false, false, false, false, false, false, false, false, false] rfl rfl (any_of HT_.out (by kernel_rfl)) (fun _ _ _ h => h) (Or.inl ⟨by rfl, ?_⟩) ?_ ?_
                    rotate_left
                    · intro w'
                      go_simp
                      with_reducible rfl
                    rotate_left
                    · simp only [Act.put, List.setIfInBounds_toArray, List.set_cons_zero, List.set_cons_succ, i64_w, i32_w]
                      rfl
                    refine pure_ (i := 9) (N := some 64) (v := ?_) (a' := ?_) #[true, true, true, true, true, true, true, true, true, true, false, false, false, false, false, false, false, false, false, false, false, false, false, false, false, false] rfl rfl (any_of HT_.out (by kernel_rfl)) (fun _ _ _ h => h) (Or.inl ⟨by rfl, ?_⟩) ?_ ?_
                    rotate_left
                    · intro w'
                      go_simp
                      with_reducible rfl
                    rotate_left
                    · simp only [Act.put, List.setIfInBounds_toArray, List.set_cons_zero, List.set_cons_succ, i64_w, i32_w]
                      rfl
                    refine pure_ (i := 10) (N := some 65) (v := ?_) (a' := ?_) #[true, true, true, true, true, true, true, true, true, true, true, false, false, false, false, false, false, false, false, false, false, false, false, false, false, false] rfl rfl (any_of HT_.out (by kernel_rfl)) (fun _ _ _ h => h) (Or.inl ⟨by rfl, ?_⟩) ?_ ?_
                    rotate_left
                    · intro w'
                      go_simp
                      with_reducible rfl
                    rotate_left
                    · simp only [Act.put, List.setIfInBounds_toArray, List.set_cons_zero, List.set_cons_succ, i64_w, i32_w]
                      rfl
                    refine pure_ (i := 11) (N := some 66) (v := ?_) (a' := ?_) #[true, true, true, true, true, true, true, true, true, true, true, true, false, false, false, false, false, false, false, false, false, false, false, false, false, false] rfl rfl (any_of HT_.out (by kernel_rfl)) (fun _ _ _ h => h) (Or.inl ⟨by rfl, ?_⟩) ?_ ?_
                    rotate_left
                    · intro w'
                      go_simp
                      with_reducible rfl
                    rotate_left
                    · simp only [Act.put, List.setIfInBounds_toArray, List.set_cons_zero, List.set_cons_succ, i64_w, i32_w]
                      rfl
                    refine pure_ (i := 12) (N := some 67) (v := ?_) (a' := ?_) #[true, true, true, true, true, true, true, true, true, true, true, true, true, false, false, false, false, false, false, false, false, false, false, false, false, false] rfl rfl (any_of HT_.out (by kernel_rfl)) (fun _ _ _ h => h) (Or.inl ⟨by rfl, ?_⟩) ?_ ?_
                    rotate_left
                    · intro w'
                      go_simp
                      with_reducible rfl
                    rotate_left
                    · simp only [Act.put, List.setIfInBounds_toArray, List.set_cons_zero, List.set_cons_succ, i64_w, i32_w]
                      rfl
                    refine pure_ (i := 13) (N := some 68) (v := ?_) (a' := ?_) #[true, true, true, true, true, true, true, true, true, true, true, true, true, true, false, false, false, false, false, false, false, false, false, false, false, false] rfl rfl (any_of HT_.out (by kernel_rfl)) (fun _ _ _ h => h) (Or.inl ⟨by rfl, ?_⟩) ?_ ?_
                    rotate_left
                    · intro w'
                      go_simp
                      with_reducible rfl
                    rotate_left
                    · simp only [Act.put, List.setIfInBounds_toArray, List.set_cons_zero, List.set_cons_succ, i64_w, i32_w]
                      rfl
                    refine pure_ (i := 15) (N := some 70) (v := ?_) (a' := ?_) #[true, true, true, true, true, true, true, true, true, true, true, true, true, true, false, true, false, false, false, false, false, false, false, false, false, false] rfl rfl (any_of HT_.out (by kernel_rfl)) (fun _ _ _ h => h) (Or.inl ⟨by rfl, ?_⟩) ?_ ?_
                    rotate_left
                    · intro w'
                      go_simp
                      with_reducible rfl
                    rotate_left
                    · simp only [Act.put, List.setIfInBounds_toArray, List.set_cons_zero, List.set_cons_succ, i64_w, i32_w]
                      rfl
                    refine pure_ (i := 16) (N := some 71) (v := ?_) (a' := ?_) #[true, true, true, true, true, true, true, true, true, true, true, true, true, true, false, true, true, false, false, false, false, false, false, false, false, false] rfl rfl (any_of HT_.out (by kernel_rfl)) (fun _ _ _ h => h) (Or.inl ⟨by rfl, ?_⟩) ?_ ?_
                    rotate_left
                    · intro w'
                      go_simp
                      with_reducible rfl
                    rotate_left
                    · simp only [Act.put, List.setIfInBounds_toArray, List.set_cons_zero, List.set_cons_succ, i64_w, i32_w]
                      rfl
                    refine pure_ (i := 18) (N := some 73) (v := ?_) (a' := ?_) #[true, true, true, true, true, true, true, true, true, true, true, true, true, true, false, true, true, false, true, false, false, false, false, false, false, false] rfl rfl (any_of HT_.out (by kernel_rfl)) (fun _ _ _ h => h) (Or.inl ⟨by rfl, ?_⟩) ?_ ?_
                    rotate_left
                    · intro w'
                      go_simp
                      with_reducible rfl
                    rotate_left
                    · simp only [Act.put, List.setIfInBounds_toArray, List.set_cons_zero, List.set_cons_succ, i64_w, i32_w]
                      rfl
                    refine pure_ (i := 19) (N := some 74) (v := ?_) (a' := ?_) #[true, true, true, true, true, true, true, true, true, true, true, true, true, true, false, true, true, false, true, true, false, false, false, false, false, false] rfl rfl (any_of HT_.out (by kernel_rfl)) (fun _ _ _ h => h) (Or.inl ⟨by rfl, ?_⟩) ?_ ?_
                    rotate_left
                    · intro w'
                      go_simp
                      with_reducible rfl
                    rotate_left
                    · simp only [Act.put, List.setIfInBounds_toArray, List.set_cons_zero, List.set_cons_succ, i64_w, i32_w]
                      rfl
                    refine pure_ (i := 20) (N := some 75) (v := ?_) (a' := ?_) #[true, true, true, true, true, true, true, true, true, true, true, true, true, true, false, true, true, false, true, true, true, false, false, false, false, false] rfl rfl (any_of HT_.out (by kernel_rfl)) (fun _ _ _ h => h) (Or.inl ⟨by rfl, ?_⟩) ?_ ?_
                    rotate_left
                    · intro w'
                      go_simp
                      with_reducible rfl
                    rotate_left
                    · simp only [Act.put, List.setIfInBounds_toArray, List.set_cons_zero, List.set_cons_succ, i64_w, i32_w]
                      rfl
                    refine pure_ (i := 21) (N := some 76) (v := ?_) (a' := ?_) #[true, true, true, true, true, true, true, true, true, true, true, true, true, true, false, true, true, false, true, true, true, true, false, false, false, false] rfl rfl (any_of HT_.out (by kernel_rfl)) (fun _ _ _ h => h) (Or.inl ⟨by rfl, ?_⟩) ?_ ?_
                    rotate_left
                    · intro w'
                      go_simp
                      with_reducible rfl
                    rotate_left
                    · simp only [Act.put, List.setIfInBounds_toArray, List.set_cons_zero, List.set_cons_succ, i64_w, i32_w]
                      rfl
                    refine take_ (i := 14) (N := some 69) (v := ?_) (a' := ?_) #[true, true, true, true, true, true, true, true, true, true, true, true, true, true, true, true, true, false, true, true, true, true, false, false, false, false] rfl rfl (take_ofW HT_.out HW_.out (by kernel_rfl)) (fun _ _ _ h => h) (Or.inl ⟨by rfl, ?_⟩) hHeld ?_ ?_
                    rotate_left
                    · rintro w' ⟨s0, s1, s2, s3, s4⟩
                      go_simp
                      with_reducible rfl
                    rotate_left
                    · simp only [Act.put, List.setIfInBounds_toArray, List.set_cons_zero, List.set_cons_succ, i64_w, i32_w]
                      rfl
                    refine one_ (i := 17) (N := some 72) #[true, true, true, true, true, true, true, true, true, true, true, true, true, true, true, true, true, true, true, true, true, true, false, false, false, false] rfl rfl (one_of HT_.out (by kernel_rfl)) (by decide) (fun K hK => ?_)
                    refine goes_ Try.func13 (by kernel_rfl) rfl #[.agg #[.int .u32 a0_0, .int .u32 a0_1, .int .u16 a0_2, .int .u16 a0_3, .int .u8 a0_4], .int .i64 (wrap64 (Int.tdiv (ji131) 2))] (by rfl) rfl rfl (by (try simp only [List.map_toArray, List.map_cons, List.map_nil]); first | done | (simp only [hji131]; rfl) | rfl | (simp only [List.length_drop, List.length_take]; rfl)) ?_
                    with_reducible refine (key_Stripe.calls kj4 a0_0 a0_1 a0_2 a0_3 a0_4 (wrap64 (Int.tdiv (ji131) 2)) t312 _ A144.out).mono ?_
                    rintro e w152 ⟨rfl, hb⟩
                    refine ⟨_, rfl, ?_⟩
                    have n0_ := Aside0.mk (blk_below (g := gb289) (o := .cells #[.int .u32 a0_0, .int .u32 a0_1, .int .u16 a0_2, .int .u16 a0_3, .int .u8 a0_4] 29 (0, 0)) (by (with_reducible repeat first | apply blk_drewN | apply blk_drew | apply blk_alloc); exact BK289.out) hb)
                    have n1_ := Aside0.mk (blk_below (g := gb290) (o := .cells #[.int .u32 a1_0, .int .u32 a1_1, .int .u16 a1_2, .int .u16 a1_3, .int .u8 a1_4] 29 (0, 0)) (by (with_reducible repeat first | apply blk_drewN | apply blk_drew | apply blk_alloc); exact BK290.out) hb)
                    have n2_ := Aside0.mk (blk_below (g := gb291) (o := .cells #[.int .u32 a2_0, .int .u32 a2_1, .int .u16 a2_2, .int .u16 a2_3, .int .u8 a2_4] 29 (0, 0)) (by (with_reducible repeat first | apply blk_drewN | apply blk_drew | apply blk_alloc); exact BK291.out) hb)
                    have n3_ := Aside0.mk (below_step (by repeat first | (with_reducible first | exact HB.out | apply below_alloc | apply pw_below_drewN | apply below_drew1 | refine below_set ?_ GE289.out | refine below_set ?_ GE290.out | refine below_set ?_ GE291.out) | exact HB.out) hb)
                    clear BK289
                    clear BK290
                    clear BK291
                    clear HB
                    have BK289 := n0_
                    have BK290 := n1_
                    have BK291 := n2_
                    have HB := n3_
                    clear n0_ n1_ n2_ n3_
                    (try clear hb)
                    (try clear hb2)
                    (try clear hk)
                    (try clear hi)
                    refine hK.out _ _ ⟨(blk_cell BK289.out 0).trans rfl, (blk_cell BK289.out 1).trans rfl, (blk_cell BK289.out 2).trans rfl, (blk_cell BK289.out 3).trans rfl, (blk_cell BK289.out 4).trans rfl⟩ (fun hHeld => ?_)
                    clear hK K
                    refine norm_ (a' := ?_) ?_ ?_
                    rotate_left
                    · show Act.put _ (some 72) _ = _
                      simp only [Act.put, List.setIfInBounds_toArray, List.set_cons_zero, List.set_cons_succ, i64_w, i32_w]
                      rfl
                    refine pure_ (i := 22) (N := some 77) (v := ?_) (a' := ?_) #[true, true, true, true, true, true, true, true, true, true, true, true, true, true, true, true, true, true, true, true, true, true, true, false, false, false] rfl rfl (any_of HT_.out (by kernel_rfl)) (fun _ _ _ h => h) (Or.inl ⟨by rfl, ?_⟩) ?_ ?_
                    rotate_left
                    · intro w'
                      go_simp
                      with_reducible rfl
                    rotate_left
                    · simp only [Act.put, List.setIfInBounds_toArray, List.set_cons_zero, List.set_cons_succ, i64_w, i32_w]
                      rfl
                    refine pure_ (i := 23) (N := some 78) (v := ?_) (a' := ?_) #[true, true, true, true, true, true, true, true, true, true, true, true, true, true, true, true, true, true, true, true, true, true, true, true, false, false] rfl rfl (any_of HT_.out (by kernel_rfl)) (fun _ _ _ h => h) (Or.inl ⟨by rfl, ?_⟩) ?_ ?_
                    rotate_left
                    · intro w'
                      go_simp
                      with_reducible rfl
                    rotate_left
                    · simp only [Act.put, List.setIfInBounds_toArray, List.set_cons_zero, List.set_cons_succ, i64_w, i32_w]
                      rfl
                    refine pure_ (i := 24) (N := some 79) (v := ?_) (a' := ?_) #[true, true, true, true, true, true, true, true, true, true, true, true, true, true, true, true, true, true, true, true, true, true, true, true, true, false] rfl rfl (any_of HT_.out (by kernel_rfl)) (fun _ _ _ h => h) (Or.inl ⟨by rfl, ?_⟩) ?_ ?_
                    rotate_left
                    · intro w'
                      go_simp
                      with_reducible rfl
                    rotate_left
                    · simp only [Act.put, List.setIfInBounds_toArray, List.set_cons_zero, List.set_cons_succ, i64_w, i32_w]
                      rfl
                    refine pure_ (i := 25) (N := some 8) (v := ?_) (a' := ?_) #[true, true, true, true, true, true, true, true, true, true, true, true, true, true, true, true, true, true, true, true, true, true, true, true, true, true] rfl rfl (any_of HT_.out (by kernel_rfl)) (fun _ _ _ h => h) (Or.inl ⟨by rfl, ?_⟩) ?_ ?_
                    rotate_left
                    · intro w'
                      go_simp
                      with_reducible rfl
                    rotate_left
                    · simp only [Act.put, List.setIfInBounds_toArray, List.set_cons_zero, List.set_cons_succ, i64_w, i32_w]
                      rfl
                    refine done_ (done_of HT_.out (by kernel_rfl)) ?_
                    try go_wp2
                    go_ret
                    exact ⟨by first | rfl | (simp [errW_none, errW_some] <;> rfl) | (simp only [← hji129, ← hji131]; first | rfl | (simp [errW_none, errW_some] <;> rfl)) | (simp [*, errW_none, errW_some] <;> rfl), by repeat first | (with_reducible first | exact HB.out | apply below_alloc | apply pw_below_drewN | apply below_drew1 | refine below_set ?_ GE289.out | refine below_set ?_ GE290.out | refine below_set ?_ GE291.out) | exact HB.out⟩
              · rw [if_neg c136] at H
                have c136b0 : decide (t310 < (ji131)) = false := decide_eq_false c136
                clear c136
                exact absurd ((Option.some.inj H).trans HT.out) (by decide)
            · rw [if_neg c135] at H
              have c135b0 : decide (0 ≤ t310) = false := decide_eq_false c135
              clear c135
              exact absurd ((Option.some.inj H).trans HT.out) (by decide)
          · replace c134 := Bool.eq_false_iff.mpr c134
            subst c134
            have H1 : (some false) = some r := by rw [if_neg (show ¬ (false = true) by decide)] at H; exact H
            clear H
            have H := H1
            clear H1
            exact absurd ((Option.some.inj H).trans HT.out) (by decide)
        · rw [if_neg c130] at H
          exact absurd H (by simp)

/-- THE ONE PURE STATEMENT of mantletlaw10_KeyOrders: yours. -/
def mantletlaw10_KeyOrders.Pure : Prop := ∀ (a0_0 : Int) (a0_1 : Int) (a0_2 : Int) (a0_3 : Int) (a0_4 : Int) (a1_0 : Int) (a1_1 : Int) (a1_2 : Int) (a1_3 : Int) (a1_4 : Int) (a2_0 : Int) (a2_1 : Int) (a2_2 : Int) (a2_3 : Int) (a2_4 : Int) (a3 : Int), (Lit.int .u32 a0_0).wf = true → (Lit.int .u32 a0_1).wf = true → (Lit.int .u16 a0_2).wf = true → (Lit.int .u16 a0_3).wf = true → (Lit.int .u8 a0_4).wf = true → (Lit.int .u32 a1_0).wf = true → (Lit.int .u32 a1_1).wf = true → (Lit.int .u16 a1_2).wf = true → (Lit.int .u16 a1_3).wf = true → (Lit.int .u8 a1_4).wf = true → (Lit.int .u32 a2_0).wf = true → (Lit.int .u32 a2_1).wf = true → (Lit.int .u16 a2_2).wf = true → (Lit.int .u16 a2_3).wf = true → (Lit.int .u8 a2_4).wf = true → (Lit.int .u8 a3).wf = true → ∃ k, mantletlaw10_KeyOrders.f k a0_0 a0_1 a0_2 a0_3 a0_4 a1_0 a1_1 a1_2 a1_3 a1_4 a2_0 a2_1 a2_2 a2_3 a2_4 a3 = some true
theorem mantletlaw10_KeyOrders.walk (P : mantletlaw10_KeyOrders.Pure) (a0_0 : Int) (a0_1 : Int) (a0_2 : Int) (a0_3 : Int) (a0_4 : Int) (a1_0 : Int) (a1_1 : Int) (a1_2 : Int) (a1_3 : Int) (a1_4 : Int) (a2_0 : Int) (a2_1 : Int) (a2_2 : Int) (a2_3 : Int) (a2_4 : Int) (a3 : Int) (w : World) (w0_0 : (Lit.int .u32 a0_0).wf = true) (w0_1 : (Lit.int .u32 a0_1).wf = true) (w0_2 : (Lit.int .u16 a0_2).wf = true) (w0_3 : (Lit.int .u16 a0_3).wf = true) (w0_4 : (Lit.int .u8 a0_4).wf = true) (w1_0 : (Lit.int .u32 a1_0).wf = true) (w1_1 : (Lit.int .u32 a1_1).wf = true) (w1_2 : (Lit.int .u16 a1_2).wf = true) (w1_3 : (Lit.int .u16 a1_3).wf = true) (w1_4 : (Lit.int .u8 a1_4).wf = true) (w2_0 : (Lit.int .u32 a2_0).wf = true) (w2_1 : (Lit.int .u32 a2_1).wf = true) (w2_2 : (Lit.int .u16 a2_2).wf = true) (w2_3 : (Lit.int .u16 a2_3).wf = true) (w2_4 : (Lit.int .u8 a2_4).wf = true) (w3 : (Lit.int .u8 a3).wf = true) :
    Calls Try.prog 7 #[.agg #[.int .u32 a0_0, .int .u32 a0_1, .int .u16 a0_2, .int .u16 a0_3, .int .u8 a0_4], .agg #[.int .u32 a1_0, .int .u32 a1_1, .int .u16 a1_2, .int .u16 a1_3, .int .u8 a1_4], .agg #[.int .u32 a2_0, .int .u32 a2_1, .int .u16 a2_2, .int .u16 a2_3, .int .u8 a2_4], .int .u8 a3] w fun e w' => e = .returned (.bool true) ∧ Below w.heap.size w w' := by
  obtain ⟨k, h⟩ := P a0_0 a0_1 a0_2 a0_3 a0_4 a1_0 a1_1 a1_2 a1_3 a1_4 a2_0 a2_1 a2_2 a2_3 a2_4 a3 w0_0 w0_1 w0_2 w0_3 w0_4 w1_0 w1_1 w1_2 w1_3 w1_4 w2_0 w2_1 w2_2 w2_3 w2_4 w3
  refine (mantletlaw10_KeyOrders.calls k a0_0 a0_1 a0_2 a0_3 a0_4 a1_0 a1_1 a1_2 a1_3 a1_4 a2_0 a2_1 a2_2 a2_3 a2_4 a3 true w h rfl).mono ?_
  rintro e w' ⟨rfl, hd⟩
  exact ⟨rfl, hd⟩

end Go.Proofs.Ytplioggeccoleaa.Key
