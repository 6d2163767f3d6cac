-- Made by a program of this workplace (wip/pr.sh) out of Lean's print of the translation; Lean checks it.
import Derived.Test.YtplioggeccoleaaKeyx0
import Derived.Test.YtplioggeccoleaaKeyx2
import Derived.Test.YtplioggeccoleaaKeyx8
import Derived.Test.YtplioggeccoleaaKeyx22
namespace Go.Proofs.Ytplioggeccoleaa.Key
open Go.Proofs.Ytplioggeccoleaa.Ext
open Go.RowKit Go.Proofs.YtplioggeccoleaaW.PrintWords Go.Proofs.YtplioggeccoleaaW.PrintLast Go.Proofs.YtplioggeccoleaaW.PrintMore
attribute [local go_sem] max2_int min2_int max_two min_two max_three min_three max_four min_four   -- for this text's walks alone
set_option linter.unusedVariables false
set_option linter.unusedSimpArgs false

attribute [local go_sem high] eqA29
/-! ### mantletlaw10_KeySame: function 6 -/
mutual
def mantletlaw10_KeySame.j0 : Nat → Bool → Int → Int → Int → Int → Int → Int → Int → Int → Int → Int → Int → Int → Int → Int → Int → Int → Int → Int → Int → Int → Int → Int → Int → Int → Option (Bool)
  | 0, _, _, _, _, _, _, _, _, _, _, _, _, _, _, _, _, _, _, _, _, _, _, _, _, _ => none
  | k + 1, x9, x273000, x273001, x273002, x273003, x273004, x273005, x273006, x274000, x274001, x274002, x274003, x274004, x274005, x274006, x281000, x281001, x281002, x281003, x281004, x288000, x288001, x288002, x288003, x288004 => if x273001 = x274002 then (if x273003 = x274004 then (if x273002 = x274001 then (mantletlaw10_KeySame.j1 k x9 (x273004 == x274003) x273000 x273001 x273002 x273003 x273004 x273005 x273006 x274000 x274001 x274002 x274003 x274004 x274005 x274006 x281000 x281001 x281002 x281003 x281004 x288000 x288001 x288002 x288003 x288004) else (mantletlaw10_KeySame.j1 k x9 false x273000 x273001 x273002 x273003 x273004 x273005 x273006 x274000 x274001 x274002 x274003 x274004 x274005 x274006 x281000 x281001 x281002 x281003 x281004 x288000 x288001 x288002 x288003 x288004)) else (mantletlaw10_KeySame.j1 k x9 false x273000 x273001 x273002 x273003 x273004 x273005 x273006 x274000 x274001 x274002 x274003 x274004 x274005 x274006 x281000 x281001 x281002 x281003 x281004 x288000 x288001 x288002 x288003 x288004)) else (mantletlaw10_KeySame.j1 k x9 false x273000 x273001 x273002 x273003 x273004 x273005 x273006 x274000 x274001 x274002 x274003 x274004 x274005 x274006 x281000 x281001 x281002 x281003 x281004 x288000 x288001 x288002 x288003 x288004)
def mantletlaw10_KeySame.j1 : Nat → Bool → Bool → Int → Int → Int → Int → Int → Int → Int → Int → Int → Int → Int → Int → Int → Int → Int → Int → Int → Int → Int → Int → Int → Int → Int → Int → Option (Bool)
  | 0, _, _, _, _, _, _, _, _, _, _, _, _, _, _, _, _, _, _, _, _, _, _, _, _, _, _ => none
  | k + 1, x9, x10, x273000, x273001, x273002, x273003, x273004, x273005, x273006, x274000, x274001, x274002, x274003, x274004, x274005, x274006, x281000, x281001, x281002, x281003, x281004, x288000, x288001, x288002, x288003, x288004 => (mantletlaw10_awake.f k).bind fun t288 => (if t288 = true then (if x273000 = x274000 then (if x9 = true then (some (((x281000 == x288000 && (x281001 == x288001)) && ((x281002 == x288002 && (x281003 == x288003)) && (x281004 == x288004))) == true)) else (some (((x281000 == x288000 && (x281001 == x288001)) && ((x281002 == x288002 && (x281003 == x288003)) && (x281004 == x288004))) == x10))) else (some (((x281000 == x288000 && (x281001 == x288001)) && ((x281002 == x288002 && (x281003 == x288003)) && (x281004 == x288004))) == false))) else (some false))
end
def mantletlaw10_KeySame.f (k : Nat) (a0_0 : Int) (a0_1 : Int) (a0_2 : Int) (a0_3 : Int) (a0_4 : Int) (a0_5 : Int) (a0_6 : Int) (a1_0 : Int) (a1_1 : Int) (a1_2 : Int) (a1_3 : Int) (a1_4 : Int) (a1_5 : Int) (a1_6 : Int) : Option (Bool) := (key_Of.f k a0_0 a0_1 a0_2 a0_3 a0_4 a0_5 a0_6).bind fun bt274 => ((key_Of.f k a1_0 a1_1 a1_2 a1_3 a1_4 a1_5 a1_6).bind fun bt281 => (if a0_1 = a1_1 then (if a0_3 = a1_3 then (if a0_2 = a1_2 then (mantletlaw10_KeySame.j0 k (a0_4 == a1_4) a0_0 a0_1 a0_2 a0_3 a0_4 a0_5 a0_6 a1_0 a1_1 a1_2 a1_3 a1_4 a1_5 a1_6 bt274.1 bt274.2.1 bt274.2.2.1 bt274.2.2.2.1 bt274.2.2.2.2.1 bt281.1 bt281.2.1 bt281.2.2.1 bt281.2.2.2.1 bt281.2.2.2.2.1) else (mantletlaw10_KeySame.j0 k false a0_0 a0_1 a0_2 a0_3 a0_4 a0_5 a0_6 a1_0 a1_1 a1_2 a1_3 a1_4 a1_5 a1_6 bt274.1 bt274.2.1 bt274.2.2.1 bt274.2.2.2.1 bt274.2.2.2.2.1 bt281.1 bt281.2.1 bt281.2.2.1 bt281.2.2.2.1 bt281.2.2.2.2.1)) else (mantletlaw10_KeySame.j0 k false a0_0 a0_1 a0_2 a0_3 a0_4 a0_5 a0_6 a1_0 a1_1 a1_2 a1_3 a1_4 a1_5 a1_6 bt274.1 bt274.2.1 bt274.2.2.1 bt274.2.2.2.1 bt274.2.2.2.2.1 bt281.1 bt281.2.1 bt281.2.2.1 bt281.2.2.2.1 bt281.2.2.2.2.1)) else (mantletlaw10_KeySame.j0 k false a0_0 a0_1 a0_2 a0_3 a0_4 a0_5 a0_6 a1_0 a1_1 a1_2 a1_3 a1_4 a1_5 a1_6 bt274.1 bt274.2.1 bt274.2.2.1 bt274.2.2.2.1 bt274.2.2.2.2.1 bt281.1 bt281.2.1 bt281.2.2.1 bt281.2.2.2.1 bt281.2.2.2.2.1)))
theorem mantletlaw10_KeySame.mono_l : ∀ k, (∀ y0 y1 y2 y3 y4 y5 y6 y7 y8 y9 y10 y11 y12 y13 y14 y15 y16 y17 y18 y19 y20 y21 y22 y23 y24, LeO (mantletlaw10_KeySame.j0 k y0 y1 y2 y3 y4 y5 y6 y7 y8 y9 y10 y11 y12 y13 y14 y15 y16 y17 y18 y19 y20 y21 y22 y23 y24) (mantletlaw10_KeySame.j0 (k + 1) y0 y1 y2 y3 y4 y5 y6 y7 y8 y9 y10 y11 y12 y13 y14 y15 y16 y17 y18 y19 y20 y21 y22 y23 y24)) ∧ (∀ y0 y1 y2 y3 y4 y5 y6 y7 y8 y9 y10 y11 y12 y13 y14 y15 y16 y17 y18 y19 y20 y21 y22 y23 y24 y25, LeO (mantletlaw10_KeySame.j1 k y0 y1 y2 y3 y4 y5 y6 y7 y8 y9 y10 y11 y12 y13 y14 y15 y16 y17 y18 y19 y20 y21 y22 y23 y24 y25) (mantletlaw10_KeySame.j1 (k + 1) y0 y1 y2 y3 y4 y5 y6 y7 y8 y9 y10 y11 y12 y13 y14 y15 y16 y17 y18 y19 y20 y21 y22 y23 y24 y25))
  | 0 => ⟨fun _ _ _ _ _ _ _ _ _ _ _ _ _ _ _ _ _ _ _ _ _ _ _ _ _ r h => by simp [mantletlaw10_KeySame.j0] at h, fun _ _ _ _ _ _ _ _ _ _ _ _ _ _ _ _ _ _ _ _ _ _ _ _ _ _ r h => by simp [mantletlaw10_KeySame.j1] at h⟩
  | k + 1 => by
    obtain ⟨ih0, ih1⟩ := mantletlaw10_KeySame.mono_l k
    refine ⟨?_, ?_⟩
    · intro y0 y1 y2 y3 y4 y5 y6 y7 y8 y9 y10 y11 y12 y13 y14 y15 y16 y17 y18 y19 y20 y21 y22 y23 y24
      unfold mantletlaw10_KeySame.j0
      repeat' first
      | (with_reducible exact ih0 _ _ _ _ _ _ _ _ _ _ _ _ _ _ _ _ _ _ _ _ _ _ _ _ _)
      | (with_reducible exact ih1 _ _ _ _ _ _ _ _ _ _ _ _ _ _ _ _ _ _ _ _ _ _ _ _ _ _)
      | (with_reducible exact key_Of.mono _ _ _ _ _ _ _ _)
      | (with_reducible exact mantletlaw10_awake.mono _)
      | (with_reducible exact LeO.refl _)
      | (with_reducible exact LeO.none _)
      | (with_reducible refine LeO.ite ?_ ?_)
      | (with_reducible refine LeO.bind ?_ (fun _ => ?_))
      | exact ih0 _ _ _ _ _ _ _ _ _ _ _ _ _ _ _ _ _ _ _ _ _ _ _ _ _
      | exact ih1 _ _ _ _ _ _ _ _ _ _ _ _ _ _ _ _ _ _ _ _ _ _ _ _ _ _
      | exact key_Of.mono _ _ _ _ _ _ _ _
      | exact mantletlaw10_awake.mono _
      | exact LeO.none _
      | refine LeO.ite ?_ ?_
      | refine LeO.bind ?_ (fun _ => ?_)
    · intro y0 y1 y2 y3 y4 y5 y6 y7 y8 y9 y10 y11 y12 y13 y14 y15 y16 y17 y18 y19 y20 y21 y22 y23 y24 y25
      unfold mantletlaw10_KeySame.j1
      repeat' first
      | (with_reducible exact ih0 _ _ _ _ _ _ _ _ _ _ _ _ _ _ _ _ _ _ _ _ _ _ _ _ _)
      | (with_reducible exact ih1 _ _ _ _ _ _ _ _ _ _ _ _ _ _ _ _ _ _ _ _ _ _ _ _ _ _)
      | (with_reducible exact key_Of.mono _ _ _ _ _ _ _ _)
      | (with_reducible exact mantletlaw10_awake.mono _)
      | (with_reducible exact LeO.refl _)
      | (with_reducible exact LeO.none _)
      | (with_reducible refine LeO.ite ?_ ?_)
      | (with_reducible refine LeO.bind ?_ (fun _ => ?_))
      | exact ih0 _ _ _ _ _ _ _ _ _ _ _ _ _ _ _ _ _ _ _ _ _ _ _ _ _
      | exact ih1 _ _ _ _ _ _ _ _ _ _ _ _ _ _ _ _ _ _ _ _ _ _ _ _ _ _
      | exact key_Of.mono _ _ _ _ _ _ _ _
      | exact mantletlaw10_awake.mono _
      | exact LeO.none _
      | refine LeO.ite ?_ ?_
      | refine LeO.bind ?_ (fun _ => ?_)
theorem mantletlaw10_KeySame.mono : ∀ a0 a1 a2 a3 a4 a5 a6 a7 a8 a9 a10 a11 a12 a13 k, LeO (mantletlaw10_KeySame.f k a0 a1 a2 a3 a4 a5 a6 a7 a8 a9 a10 a11 a12 a13) (mantletlaw10_KeySame.f (k + 1) a0 a1 a2 a3 a4 a5 a6 a7 a8 a9 a10 a11 a12 a13) := by
  intro a0 a1 a2 a3 a4 a5 a6 a7 a8 a9 a10 a11 a12 a13 k
  obtain ⟨ih0, ih1⟩ := mantletlaw10_KeySame.mono_l k
  unfold mantletlaw10_KeySame.f
  repeat' first
      | (with_reducible exact ih0 _ _ _ _ _ _ _ _ _ _ _ _ _ _ _ _ _ _ _ _ _ _ _ _ _)
      | (with_reducible exact ih1 _ _ _ _ _ _ _ _ _ _ _ _ _ _ _ _ _ _ _ _ _ _ _ _ _ _)
      | (with_reducible exact key_Of.mono _ _ _ _ _ _ _ _)
      | (with_reducible exact mantletlaw10_awake.mono _)
      | (with_reducible exact LeO.refl _)
      | (with_reducible exact LeO.none _)
      | (with_reducible refine LeO.ite ?_ ?_)
      | (with_reducible refine LeO.bind ?_ (fun _ => ?_))
      | exact ih0 _ _ _ _ _ _ _ _ _ _ _ _ _ _ _ _ _ _ _ _ _ _ _ _ _
      | exact ih1 _ _ _ _ _ _ _ _ _ _ _ _ _ _ _ _ _ _ _ _ _ _ _ _ _ _
      | exact key_Of.mono _ _ _ _ _ _ _ _
      | exact mantletlaw10_awake.mono _
      | exact LeO.none _
      | refine LeO.ite ?_ ?_
      | refine LeO.bind ?_ (fun _ => ?_)
def mantletlaw10_KeySame.T5 : Bool × List (List Nat × List Nat) := (true, [([], []), ([0, 0], [0]), ([1], [1]), ([1], [1]), ([2, 3, 1], [1, 2, 3]), ([1], [1]), ([5, 1], [1, 5]), ([1], [1]), ([7, 1], [1, 7]), ([6, 8, 1], [1, 6, 8]), ([9, 1, 1], [1, 9]), ([10], [10]), ([11, 10, 10], [10, 11]), ([12], [12]), ([12, 13, 10], [10, 12, 13]), ([10, 14, 1], [1, 10, 14]), ([4, 15, 1], [1, 4, 15]), ([1, 16], [1, 16]), ([17, 12, 0, 1, 2, 3, 4, 5, 6, 7, 8, 9, 10, 11, 12, 13, 14, 15, 16, 17], [17])])
def mantletlaw10_KeySame.B5 : List Nat := [0, 1, 3, 3, 15, 3, 35, 3, 131, 483, 995, 2019, 4067, 8163, 16355, 32739, 65535, 131071, 262143]
theorem mantletlaw10_KeySame.tab5 : rtab .any (opsOf Try.f6 5) = mantletlaw10_KeySame.T5 := by kernel_rfl
theorem mantletlaw10_KeySame.bits5 : waitsOk mantletlaw10_KeySame.T5.2 mantletlaw10_KeySame.B5 = true := by kernel_rfl
set_option maxHeartbeats 8000000 in
set_option maxRecDepth 100000 in
theorem mantletlaw10_KeySame.calls (k : Nat) (a0_0 : Int) (a0_1 : Int) (a0_2 : Int) (a0_3 : Int) (a0_4 : Int) (a0_5 : Int) (a0_6 : Int) (a1_0 : Int) (a1_1 : Int) (a1_2 : Int) (a1_3 : Int) (a1_4 : Int) (a1_5 : Int) (a1_6 : Int) (r : Bool) (w : World) (h : mantletlaw10_KeySame.f k a0_0 a0_1 a0_2 a0_3 a0_4 a0_5 a0_6 a1_0 a1_1 a1_2 a1_3 a1_4 a1_5 a1_6 = some r) :
    Calls Try.prog 6 #[.agg #[.int .u8 a0_0, .int .u32 a0_1, .int .u32 a0_2, .int .u16 a0_3, .int .u16 a0_4, .int .u8 a0_5, .int .u8 a0_6], .agg #[.int .u8 a1_0, .int .u32 a1_1, .int .u32 a1_2, .int .u16 a1_3, .int .u16 a1_4, .int .u8 a1_5, .int .u8 a1_6]] w fun e w' => e = .returned (.bool r) ∧ Below w.heap.size w w' := by
  have hu25 := Try.underlying25
  have hu29 := Try.underlying29
  have HB := Aside0.mk (Below.refl w.heap.size w)
  have H : ((key_Of.f k a0_0 a0_1 a0_2 a0_3 a0_4 a0_5 a0_6).bind fun bt274 => ((key_Of.f k a1_0 a1_1 a1_2 a1_3 a1_4 a1_5 a1_6).bind fun bt281 => (if a0_1 = a1_1 then (if a0_3 = a1_3 then (if a0_2 = a1_2 then (mantletlaw10_KeySame.j0 k (a0_4 == a1_4) a0_0 a0_1 a0_2 a0_3 a0_4 a0_5 a0_6 a1_0 a1_1 a1_2 a1_3 a1_4 a1_5 a1_6 bt274.1 bt274.2.1 bt274.2.2.1 bt274.2.2.2.1 bt274.2.2.2.2.1 bt281.1 bt281.2.1 bt281.2.2.1 bt281.2.2.2.1 bt281.2.2.2.2.1) else (mantletlaw10_KeySame.j0 k false a0_0 a0_1 a0_2 a0_3 a0_4 a0_5 a0_6 a1_0 a1_1 a1_2 a1_3 a1_4 a1_5 a1_6 bt274.1 bt274.2.1 bt274.2.2.1 bt274.2.2.2.1 bt274.2.2.2.2.1 bt281.1 bt281.2.1 bt281.2.2.1 bt281.2.2.2.1 bt281.2.2.2.2.1)) else (mantletlaw10_KeySame.j0 k false a0_0 a0_1 a0_2 a0_3 a0_4 a0_5 a0_6 a1_0 a1_1 a1_2 a1_3 a1_4 a1_5 a1_6 bt274.1 bt274.2.1 bt274.2.2.1 bt274.2.2.2.1 bt274.2.2.2.2.1 bt281.1 bt281.2.1 bt281.2.2.1 bt281.2.2.2.1 bt281.2.2.2.2.1)) else (mantletlaw10_KeySame.j0 k false a0_0 a0_1 a0_2 a0_3 a0_4 a0_5 a0_6 a1_0 a1_1 a1_2 a1_3 a1_4 a1_5 a1_6 bt274.1 bt274.2.1 bt274.2.2.1 bt274.2.2.2.1 bt274.2.2.2.2.1 bt281.1 bt281.2.1 bt281.2.2.1 bt281.2.2.2.1 bt281.2.2.2.2.1)))) = some r := h
  clear h
  replace H := Option.bind_eq_some_iff.mp H
  obtain ⟨⟨t274, t275, t276, t277, t278, t279⟩, A30, H⟩ := H
  replace H : ((key_Of.f k a1_0 a1_1 a1_2 a1_3 a1_4 a1_5 a1_6).bind fun bt281 => (if a0_1 = a1_1 then (if a0_3 = a1_3 then (if a0_2 = a1_2 then (mantletlaw10_KeySame.j0 k (a0_4 == a1_4) a0_0 a0_1 a0_2 a0_3 a0_4 a0_5 a0_6 a1_0 a1_1 a1_2 a1_3 a1_4 a1_5 a1_6 t274 t275 t276 t277 t278 bt281.1 bt281.2.1 bt281.2.2.1 bt281.2.2.2.1 bt281.2.2.2.2.1) else (mantletlaw10_KeySame.j0 k false a0_0 a0_1 a0_2 a0_3 a0_4 a0_5 a0_6 a1_0 a1_1 a1_2 a1_3 a1_4 a1_5 a1_6 t274 t275 t276 t277 t278 bt281.1 bt281.2.1 bt281.2.2.1 bt281.2.2.2.1 bt281.2.2.2.2.1)) else (mantletlaw10_KeySame.j0 k false a0_0 a0_1 a0_2 a0_3 a0_4 a0_5 a0_6 a1_0 a1_1 a1_2 a1_3 a1_4 a1_5 a1_6 t274 t275 t276 t277 t278 bt281.1 bt281.2.1 bt281.2.2.1 bt281.2.2.2.1 bt281.2.2.2.2.1)) else (mantletlaw10_KeySame.j0 k false a0_0 a0_1 a0_2 a0_3 a0_4 a0_5 a0_6 a1_0 a1_1 a1_2 a1_3 a1_4 a1_5 a1_6 t274 t275 t276 t277 t278 bt281.1 bt281.2.1 bt281.2.2.1 bt281.2.2.2.1 bt281.2.2.2.2.1))) = some r := H
  have A3 := Aside0.mk A30
  clear A30
  replace H := Option.bind_eq_some_iff.mp H
  obtain ⟨⟨t281, t282, t283, t284, t285, t286⟩, A40, H⟩ := H
  replace H : (if a0_1 = a1_1 then (if a0_3 = a1_3 then (if a0_2 = a1_2 then (mantletlaw10_KeySame.j0 k (a0_4 == a1_4) a0_0 a0_1 a0_2 a0_3 a0_4 a0_5 a0_6 a1_0 a1_1 a1_2 a1_3 a1_4 a1_5 a1_6 t274 t275 t276 t277 t278 t281 t282 t283 t284 t285) else (mantletlaw10_KeySame.j0 k false a0_0 a0_1 a0_2 a0_3 a0_4 a0_5 a0_6 a1_0 a1_1 a1_2 a1_3 a1_4 a1_5 a1_6 t274 t275 t276 t277 t278 t281 t282 t283 t284 t285)) else (mantletlaw10_KeySame.j0 k false a0_0 a0_1 a0_2 a0_3 a0_4 a0_5 a0_6 a1_0 a1_1 a1_2 a1_3 a1_4 a1_5 a1_6 t274 t275 t276 t277 t278 t281 t282 t283 t284 t285)) else (mantletlaw10_KeySame.j0 k false a0_0 a0_1 a0_2 a0_3 a0_4 a0_5 a0_6 a1_0 a1_1 a1_2 a1_3 a1_4 a1_5 a1_6 t274 t275 t276 t277 t278 t281 t282 t283 t284 t285)) = some r := H
  have A4 := Aside0.mk A40
  clear A40
  have HC5 := Aside0.mk H
  clear H
  go_enter Try.func6, Try.ntmps6
  go_upto_region 3 with (first | ((with_reducible refine gate_dst (N := 2) rfl ?_); refine box_event ?hg (N := 2) ?hd (cs := #[.int .u8 a0_0, .int .u32 a0_1, .int .u32 a0_2, .int .u16 a0_3, .int .u16 a0_4, .int .u8 a0_5, .int .u8 a0_6]) (t := 25) ?hr ?_; (case hd => rfl); (case hg => rfl); (case hr => first | (go_simp; done) | (go_simp; rfl)); intro gb272 hg w6 hbox hb; have n0_ := Aside0.mk (below_step (by repeat first | (with_reducible first | exact HB.out | apply below_alloc | apply pw_below_drewN | apply below_drew1) | exact HB.out) hb); have n1_ := Aside0.mk (hbox); have n2_ := Aside0.mk ((by rw [hg]; exact (below_size (by repeat first | (with_reducible first | exact HB.out | apply below_alloc | apply pw_below_drewN | apply below_drew1) | exact HB.out)) : w.heap.size ≤ gb272)); have n3_ := Aside0.mk ((by rw [hg]; exact (below_size (by repeat first | (with_reducible first | exact HB.out | apply below_alloc | apply pw_below_drewN | apply below_drew1) | exact HB.out)) : w.heap.size ≤ gb272)); clear HB; have HB := n0_; have BK272 := n1_; have GW272 := n2_; have GE272 := n3_; clear n0_ n1_ n2_ n3_; clear hb hbox hg) | ((with_reducible refine gate_dst (N := 3) rfl ?_); refine box_event ?hg (N := 3) ?hd (cs := #[.int .u8 a1_0, .int .u32 a1_1, .int .u32 a1_2, .int .u16 a1_3, .int .u16 a1_4, .int .u8 a1_5, .int .u8 a1_6]) (t := 25) ?hr ?_; (case hd => rfl); (case hg => rfl); (case hr => first | (go_simp; done) | (go_simp; rfl)); intro gb273 hg w7 hbox hb; have n0_ := Aside0.mk (blk_below (g := gb272) (o := .cells #[.int .u8 a0_0, .int .u32 a0_1, .int .u32 a0_2, .int .u16 a0_3, .int .u16 a0_4, .int .u8 a0_5, .int .u8 a0_6] 25 (0, 0)) (by (with_reducible repeat first | apply blk_drewN | apply blk_drew | apply blk_alloc); exact BK272.out) hb); have n1_ := Aside0.mk (below_step (by repeat first | (with_reducible first | exact HB.out | apply below_alloc | apply pw_below_drewN | apply below_drew1 | refine below_set ?_ GE272.out) | exact HB.out) hb); have n2_ := Aside0.mk (hbox); have n3_ := Aside0.mk ((by rw [hg]; exact (below_size (by repeat first | (with_reducible first | exact HB.out | apply below_alloc | apply pw_below_drewN | apply below_drew1 | refine below_set ?_ GE272.out) | exact HB.out)) : w.heap.size ≤ gb273)); have n4_ := Aside0.mk ((by rw [hg]; exact (below_size (by repeat first | (with_reducible first | exact HB.out | apply below_alloc | apply pw_below_drewN | apply below_drew1 | refine below_set ?_ GE272.out) | exact HB.out)) : w.heap.size ≤ gb273)); have n5_ := Aside0.mk ((by rw [hg]; exact Nat.ne_of_lt (blk_lt (g := gb272) (o := .cells #[.int .u8 a0_0, .int .u32 a0_1, .int .u32 a0_2, .int .u16 a0_3, .int .u16 a0_4, .int .u8 a0_5, .int .u8 a0_6] 25 (0, 0)) (by (with_reducible repeat first | apply blk_drewN | apply blk_drew | apply blk_alloc); exact BK272.out)) : gb272 ≠ gb273)); have n6_ := Aside0.mk ((by rw [hg]; exact Nat.ne_of_gt (blk_lt (g := gb272) (o := .cells #[.int .u8 a0_0, .int .u32 a0_1, .int .u32 a0_2, .int .u16 a0_3, .int .u16 a0_4, .int .u8 a0_5, .int .u8 a0_6] 25 (0, 0)) (by (with_reducible repeat first | apply blk_drewN | apply blk_drew | apply blk_alloc); exact BK272.out)) : gb273 ≠ gb272)); clear BK272; clear HB; have BK272 := n0_; have HB := n1_; have BK273 := n2_; have GW273 := n3_; have GE273 := n4_; have NB272_273 := n5_; have NB273_272 := n6_; clear n0_ n1_ n2_ n3_ n4_ n5_ n6_; clear hb hbox hg; have hnb8 := NB272_273.out; have hnc8 := NB273_272.out; have hcz9_0 : w7.cell? ⟨gb272, 0, none⟩ = some (.int .u8 a0_0) := (blk_cell BK272.out 0).trans rfl; have hcz9_1 : w7.cell? ⟨gb272, 1, none⟩ = some (.int .u32 a0_1) := (blk_cell BK272.out 1).trans rfl; have hcz9_2 : w7.cell? ⟨gb272, 2, none⟩ = some (.int .u32 a0_2) := (blk_cell BK272.out 2).trans rfl; have hcz9_3 : w7.cell? ⟨gb272, 3, none⟩ = some (.int .u16 a0_3) := (blk_cell BK272.out 3).trans rfl; have hcz9_4 : w7.cell? ⟨gb272, 4, none⟩ = some (.int .u16 a0_4) := (blk_cell BK272.out 4).trans rfl; have hcz9_5 : w7.cell? ⟨gb272, 5, none⟩ = some (.int .u8 a0_5) := (blk_cell BK272.out 5).trans rfl; have hcz9_6 : w7.cell? ⟨gb272, 6, none⟩ = some (.int .u8 a0_6) := (blk_cell BK272.out 6).trans rfl; have hfz9_0 := blk_frozen BK272.out 0; have hfz9_1 := blk_frozen BK272.out 1; have hfz9_2 := blk_frozen BK272.out 2; have hfz9_3 := blk_frozen BK272.out 3; have hfz9_4 := blk_frozen BK272.out 4; have hfz9_5 := blk_frozen BK272.out 5; have hfz9_6 := blk_frozen BK272.out 6) | ((with_reducible refine gate_callee (f := 8) rfl ?_); refine goesL_ (some 13) rfl rfl Try.func8 (by kernel_rfl) rfl #[.agg #[.int .u8 a0_0, .int .u32 a0_1, .int .u32 a0_2, .int .u16 a0_3, .int .u16 a0_4, .int .u8 a0_5, .int .u8 a0_6]] rfl (by (try simp only [List.map_toArray, List.map_cons, List.map_nil]); first | done | rfl) ?_; (with_reducible refine (key_Of.calls k a0_0 a0_1 a0_2 a0_3 a0_4 a0_5 a0_6 t274 t275 t276 t277 t278 t279 _ A3.out).mono ?_); rintro e w10 ⟨rfl, hb⟩; refine ⟨_, rfl, ?_⟩; have n0_ := Aside0.mk (blk_below (g := gb272) (o := .cells #[.int .u8 a0_0, .int .u32 a0_1, .int .u32 a0_2, .int .u16 a0_3, .int .u16 a0_4, .int .u8 a0_5, .int .u8 a0_6] 25 (0, 0)) (by (with_reducible repeat first | apply blk_drewN | apply blk_drew | apply blk_alloc); exact BK272.out) hb); have n1_ := Aside0.mk (blk_below (g := gb273) (o := .cells #[.int .u8 a1_0, .int .u32 a1_1, .int .u32 a1_2, .int .u16 a1_3, .int .u16 a1_4, .int .u8 a1_5, .int .u8 a1_6] 25 (0, 0)) (by (with_reducible repeat first | apply blk_drewN | apply blk_drew | apply blk_alloc); exact BK273.out) hb); have n2_ := Aside0.mk (below_step (by repeat first | (with_reducible first | exact HB.out | apply below_alloc | apply pw_below_drewN | apply below_drew1 | refine below_set ?_ GE272.out | refine below_set ?_ GE273.out) | exact HB.out) hb); clear BK272; clear BK273; clear HB; have BK272 := n0_; have BK273 := n1_; have HB := n2_; clear n0_ n1_ n2_; (try clear hb); (try clear hb2); (try clear hk); (try clear hi)) | ((with_reducible refine gate_dst (N := 5) rfl ?_); refine box_event ?hg (N := 5) ?hd (cs := #[.int .u32 0, .int .u32 0, .int .u16 0, .int .u16 0, .int .u8 0]) (t := 29) ?hr ?_; (case hd => rfl); (case hg => rfl); (case hr => first | (go_simp; done) | (go_simp; rfl)); intro gb280 hg w11 hbox hb; have n0_ := Aside0.mk (blk_below (g := gb272) (o := .cells #[.int .u8 a0_0, .int .u32 a0_1, .int .u32 a0_2, .int .u16 a0_3, .int .u16 a0_4, .int .u8 a0_5, .int .u8 a0_6] 25 (0, 0)) (by (with_reducible repeat first | apply blk_drewN | apply blk_drew | apply blk_alloc); exact BK272.out) hb); have n1_ := Aside0.mk (blk_below (g := gb273) (o := .cells #[.int .u8 a1_0, .int .u32 a1_1, .int .u32 a1_2, .int .u16 a1_3, .int .u16 a1_4, .int .u8 a1_5, .int .u8 a1_6] 25 (0, 0)) (by (with_reducible repeat first | apply blk_drewN | apply blk_drew | apply blk_alloc); exact BK273.out) hb); have n2_ := Aside0.mk (below_step (by repeat first | (with_reducible first | exact HB.out | apply below_alloc | apply pw_below_drewN | apply below_drew1 | refine below_set ?_ GE272.out | refine below_set ?_ GE273.out) | exact HB.out) hb); have n3_ := Aside0.mk (hbox); have n4_ := Aside0.mk ((by rw [hg]; exact (below_size (by repeat first | (with_reducible first | exact HB.out | apply below_alloc | apply pw_below_drewN | apply below_drew1 | refine below_set ?_ GE272.out | refine below_set ?_ GE273.out) | exact HB.out)) : w.heap.size ≤ gb280)); have n5_ := Aside0.mk ((by rw [hg]; exact (below_size (by repeat first | (with_reducible first | exact HB.out | apply below_alloc | apply pw_below_drewN | apply below_drew1 | refine below_set ?_ GE272.out | refine below_set ?_ GE273.out) | exact HB.out)) : w.heap.size ≤ gb280)); have n6_ := Aside0.mk ((by rw [hg]; exact Nat.ne_of_lt (blk_lt (g := gb272) (o := .cells #[.int .u8 a0_0, .int .u32 a0_1, .int .u32 a0_2, .int .u16 a0_3, .int .u16 a0_4, .int .u8 a0_5, .int .u8 a0_6] 25 (0, 0)) (by (with_reducible repeat first | apply blk_drewN | apply blk_drew | apply blk_alloc); exact BK272.out)) : gb272 ≠ gb280)); have n7_ := Aside0.mk ((by rw [hg]; exact Nat.ne_of_gt (blk_lt (g := gb272) (o := .cells #[.int .u8 a0_0, .int .u32 a0_1, .int .u32 a0_2, .int .u16 a0_3, .int .u16 a0_4, .int .u8 a0_5, .int .u8 a0_6] 25 (0, 0)) (by (with_reducible repeat first | apply blk_drewN | apply blk_drew | apply blk_alloc); exact BK272.out)) : gb280 ≠ gb272)); have n8_ := Aside0.mk ((by rw [hg]; exact Nat.ne_of_lt (blk_lt (g := gb273) (o := .cells #[.int .u8 a1_0, .int .u32 a1_1, .int .u32 a1_2, .int .u16 a1_3, .int .u16 a1_4, .int .u8 a1_5, .int .u8 a1_6] 25 (0, 0)) (by (with_reducible repeat first | apply blk_drewN | apply blk_drew | apply blk_alloc); exact BK273.out)) : gb273 ≠ gb280)); have n9_ := Aside0.mk ((by rw [hg]; exact Nat.ne_of_gt (blk_lt (g := gb273) (o := .cells #[.int .u8 a1_0, .int .u32 a1_1, .int .u32 a1_2, .int .u16 a1_3, .int .u16 a1_4, .int .u8 a1_5, .int .u8 a1_6] 25 (0, 0)) (by (with_reducible repeat first | apply blk_drewN | apply blk_drew | apply blk_alloc); exact BK273.out)) : gb280 ≠ gb273)); clear BK272; clear BK273; clear HB; have BK272 := n0_; have BK273 := n1_; have HB := n2_; have BK280 := n3_; have GW280 := n4_; have GE280 := n5_; have NB272_280 := n6_; have NB280_272 := n7_; have NB273_280 := n8_; have NB280_273 := n9_; clear n0_ n1_ n2_ n3_ n4_ n5_ n6_ n7_ n8_ n9_; clear hb hbox hg; have hnb12 := NB280_272.out; have hnc12 := NB272_280.out; have hnb13 := NB280_273.out; have hnc13 := NB273_280.out; have hcz14_0 : w11.cell? ⟨gb280, 0, none⟩ = some (.int .u32 0) := (blk_cell BK280.out 0).trans rfl; have hcz14_1 : w11.cell? ⟨gb280, 1, none⟩ = some (.int .u32 0) := (blk_cell BK280.out 1).trans rfl; have hcz14_2 : w11.cell? ⟨gb280, 2, none⟩ = some (.int .u16 0) := (blk_cell BK280.out 2).trans rfl; have hcz14_3 : w11.cell? ⟨gb280, 3, none⟩ = some (.int .u16 0) := (blk_cell BK280.out 3).trans rfl; have hcz14_4 : w11.cell? ⟨gb280, 4, none⟩ = some (.int .u8 0) := (blk_cell BK280.out 4).trans rfl; have hfz14_0 := blk_frozen BK280.out 0; have hfz14_1 := blk_frozen BK280.out 1; have hfz14_2 := blk_frozen BK280.out 2; have hfz14_3 := blk_frozen BK280.out 3; have hfz14_4 := blk_frozen BK280.out 4) | ((with_reducible refine gate_store (t := 29) (p := 5) rfl ?_); (try (rw [drewN_self w11]; generalize hq_ : World.drewN w11 _ = w11; have n0_ := Aside0.mk (blk_at hq_ BK272.out); have n1_ := Aside0.mk (blk_at hq_ BK273.out); have n2_ := Aside0.mk (blk_at hq_ BK280.out); have n3_ := Aside0.mk (below_at hq_ HB.out); clear hq_ BK272 BK273 BK280 HB; have BK272 := n0_; have BK273 := n1_; have BK280 := n2_; have HB := n3_; clear n0_ n1_ n2_ n3_)); refine store_event (t := 29) (p := 5) (v := ?vo_w15) (w1 := (((((w11.setCell ⟨gb280, 0, none⟩ (.int .u32 t274)).setCell ⟨gb280, 1, none⟩ (.int .u32 t275)).setCell ⟨gb280, 2, none⟩ (.int .u16 t276)).setCell ⟨gb280, 3, none⟩ (.int .u16 t277)).setCell ⟨gb280, 4, none⟩ (.int .u8 t278))) ?hg ?ho ?hn ?hr ?_; (case ho => rfl); (case hg => rfl); (case hn => rfl); (case hr => first | (go_simp; done) | (go_simp; rfl) | (have hcy0_ : w11.cell? ⟨gb280, 0, none⟩ = some (.int .u32 0) := (blk_cell BK280.out 0).trans rfl; have hfy0_ := blk_frozen BK280.out 0; have hcy1_ : w11.cell? ⟨gb280, 1, none⟩ = some (.int .u32 0) := (blk_cell BK280.out 1).trans rfl; have hfy1_ := blk_frozen BK280.out 1; have hcy2_ : w11.cell? ⟨gb280, 2, none⟩ = some (.int .u16 0) := (blk_cell BK280.out 2).trans rfl; have hfy2_ := blk_frozen BK280.out 2; have hcy3_ : w11.cell? ⟨gb280, 3, none⟩ = some (.int .u16 0) := (blk_cell BK280.out 3).trans rfl; have hfy3_ := blk_frozen BK280.out 3; have hcy4_ : w11.cell? ⟨gb280, 4, none⟩ = some (.int .u8 0) := (blk_cell BK280.out 4).trans rfl; have hfy4_ := blk_frozen BK280.out 4; first | (go_simp; done) | (go_simp; rfl))); intro w15 hw; have n0_ : Aside0 (w15.heap[gb272]? = some (.cells #[.int .u8 a0_0, .int .u32 a0_1, .int .u32 a0_2, .int .u16 a0_3, .int .u16 a0_4, .int .u8 a0_5, .int .u8 a0_6] 25 (0, 0))) := ⟨(by rw [hw]; exact (by (with_reducible repeat first | apply blk_drewN | apply blk_drew | apply blk_alloc); refine blk_far ?_ NB272_280.out _; (with_reducible repeat first | apply blk_drewN | apply blk_drew | apply blk_alloc); refine blk_far ?_ NB272_280.out _; (with_reducible repeat first | apply blk_drewN | apply blk_drew | apply blk_alloc); refine blk_far ?_ NB272_280.out _; (with_reducible repeat first | apply blk_drewN | apply blk_drew | apply blk_alloc); refine blk_far ?_ NB272_280.out _; (with_reducible repeat first | apply blk_drewN | apply blk_drew | apply blk_alloc); refine blk_far ?_ NB272_280.out _; (with_reducible repeat first | apply blk_drewN | apply blk_drew | apply blk_alloc); exact BK272.out))⟩; have n1_ : Aside0 (w15.heap[gb273]? = some (.cells #[.int .u8 a1_0, .int .u32 a1_1, .int .u32 a1_2, .int .u16 a1_3, .int .u16 a1_4, .int .u8 a1_5, .int .u8 a1_6] 25 (0, 0))) := ⟨(by rw [hw]; exact (by (with_reducible repeat first | apply blk_drewN | apply blk_drew | apply blk_alloc); refine blk_far ?_ NB273_280.out _; (with_reducible repeat first | apply blk_drewN | apply blk_drew | apply blk_alloc); refine blk_far ?_ NB273_280.out _; (with_reducible repeat first | apply blk_drewN | apply blk_drew | apply blk_alloc); refine blk_far ?_ NB273_280.out _; (with_reducible repeat first | apply blk_drewN | apply blk_drew | apply blk_alloc); refine blk_far ?_ NB273_280.out _; (with_reducible repeat first | apply blk_drewN | apply blk_drew | apply blk_alloc); refine blk_far ?_ NB273_280.out _; (with_reducible repeat first | apply blk_drewN | apply blk_drew | apply blk_alloc); exact BK273.out))⟩; have n2_ : Aside0 (w15.heap[gb280]? = some (.cells #[.int .u32 t274, .int .u32 t275, .int .u16 t276, .int .u16 t277, .int .u8 t278] 29 (0, 0))) := ⟨(by rw [hw]; exact (by (with_reducible repeat first | apply blk_drewN | apply blk_drew | apply blk_alloc); refine blk_put (cs := #[.int .u32 t274, .int .u32 t275, .int .u16 t276, .int .u16 t277, .int .u8 0]) ?_ 4 _ rfl; (with_reducible repeat first | apply blk_drewN | apply blk_drew | apply blk_alloc); refine blk_put (cs := #[.int .u32 t274, .int .u32 t275, .int .u16 t276, .int .u16 0, .int .u8 0]) ?_ 3 _ rfl; (with_reducible repeat first | apply blk_drewN | apply blk_drew | apply blk_alloc); refine blk_put (cs := #[.int .u32 t274, .int .u32 t275, .int .u16 0, .int .u16 0, .int .u8 0]) ?_ 2 _ rfl; (with_reducible repeat first | apply blk_drewN | apply blk_drew | apply blk_alloc); refine blk_put (cs := #[.int .u32 t274, .int .u32 0, .int .u16 0, .int .u16 0, .int .u8 0]) ?_ 1 _ rfl; (with_reducible repeat first | apply blk_drewN | apply blk_drew | apply blk_alloc); refine blk_put (cs := #[.int .u32 0, .int .u32 0, .int .u16 0, .int .u16 0, .int .u8 0]) ?_ 0 _ rfl; (with_reducible repeat first | apply blk_drewN | apply blk_drew | apply blk_alloc); exact BK280.out))⟩; have n3_ : Aside0 (Below w.heap.size w w15) := ⟨(by rw [hw]; exact (by repeat first | (with_reducible first | exact HB.out | apply below_alloc | apply pw_below_drewN | apply below_drew1 | refine below_set ?_ GE272.out | refine below_set ?_ GE273.out | refine below_set ?_ GE280.out) | exact HB.out))⟩; clear hw; clear BK272; clear BK273; clear BK280; clear HB; have BK272 := n0_; have BK273 := n1_; have BK280 := n2_; have HB := n3_; clear n0_ n1_ n2_ n3_; have hcz16_0 : w15.cell? ⟨gb273, 0, none⟩ = some (.int .u8 a1_0) := (blk_cell BK273.out 0).trans rfl; have hcz16_1 : w15.cell? ⟨gb273, 1, none⟩ = some (.int .u32 a1_1) := (blk_cell BK273.out 1).trans rfl; have hcz16_2 : w15.cell? ⟨gb273, 2, none⟩ = some (.int .u32 a1_2) := (blk_cell BK273.out 2).trans rfl; have hcz16_3 : w15.cell? ⟨gb273, 3, none⟩ = some (.int .u16 a1_3) := (blk_cell BK273.out 3).trans rfl; have hcz16_4 : w15.cell? ⟨gb273, 4, none⟩ = some (.int .u16 a1_4) := (blk_cell BK273.out 4).trans rfl; have hcz16_5 : w15.cell? ⟨gb273, 5, none⟩ = some (.int .u8 a1_5) := (blk_cell BK273.out 5).trans rfl; have hcz16_6 : w15.cell? ⟨gb273, 6, none⟩ = some (.int .u8 a1_6) := (blk_cell BK273.out 6).trans rfl; have hfz16_0 := blk_frozen BK273.out 0; have hfz16_1 := blk_frozen BK273.out 1; have hfz16_2 := blk_frozen BK273.out 2; have hfz16_3 := blk_frozen BK273.out 3; have hfz16_4 := blk_frozen BK273.out 4; have hfz16_5 := blk_frozen BK273.out 5; have hfz16_6 := blk_frozen BK273.out 6) | ((with_reducible refine gate_callee (f := 8) rfl ?_); refine goesL_ (some 18) rfl rfl Try.func8 (by kernel_rfl) rfl #[.agg #[.int .u8 a1_0, .int .u32 a1_1, .int .u32 a1_2, .int .u16 a1_3, .int .u16 a1_4, .int .u8 a1_5, .int .u8 a1_6]] rfl (by (try simp only [List.map_toArray, List.map_cons, List.map_nil]); first | done | rfl) ?_; (with_reducible refine (key_Of.calls k a1_0 a1_1 a1_2 a1_3 a1_4 a1_5 a1_6 t281 t282 t283 t284 t285 t286 _ A4.out).mono ?_); rintro e w17 ⟨rfl, hb⟩; refine ⟨_, rfl, ?_⟩; have n0_ := Aside0.mk (blk_below (g := gb272) (o := .cells #[.int .u8 a0_0, .int .u32 a0_1, .int .u32 a0_2, .int .u16 a0_3, .int .u16 a0_4, .int .u8 a0_5, .int .u8 a0_6] 25 (0, 0)) (by (with_reducible repeat first | apply blk_drewN | apply blk_drew | apply blk_alloc); exact BK272.out) hb); have n1_ := Aside0.mk (blk_below (g := gb273) (o := .cells #[.int .u8 a1_0, .int .u32 a1_1, .int .u32 a1_2, .int .u16 a1_3, .int .u16 a1_4, .int .u8 a1_5, .int .u8 a1_6] 25 (0, 0)) (by (with_reducible repeat first | apply blk_drewN | apply blk_drew | apply blk_alloc); exact BK273.out) hb); have n2_ := Aside0.mk (blk_below (g := gb280) (o := .cells #[.int .u32 t274, .int .u32 t275, .int .u16 t276, .int .u16 t277, .int .u8 t278] 29 (0, 0)) (by (with_reducible repeat first | apply blk_drewN | apply blk_drew | apply blk_alloc); exact BK280.out) hb); have n3_ := Aside0.mk (below_step (by repeat first | (with_reducible first | exact HB.out | apply below_alloc | apply pw_below_drewN | apply below_drew1 | refine below_set ?_ GE272.out | refine below_set ?_ GE273.out | refine below_set ?_ GE280.out) | exact HB.out) hb); clear BK272; clear BK273; clear BK280; clear HB; have BK272 := n0_; have BK273 := n1_; have BK280 := n2_; have HB := n3_; clear n0_ n1_ n2_ n3_; (try clear hb); (try clear hb2); (try clear hk); (try clear hi)) | ((with_reducible refine gate_dst (N := 7) rfl ?_); refine box_event ?hg (N := 7) ?hd (cs := #[.int .u32 0, .int .u32 0, .int .u16 0, .int .u16 0, .int .u8 0]) (t := 29) ?hr ?_; (case hd => rfl); (case hg => rfl); (case hr => first | (go_simp; done) | (go_simp; rfl)); intro gb287 hg w18 hbox hb; have n0_ := Aside0.mk (blk_below (g := gb272) (o := .cells #[.int .u8 a0_0, .int .u32 a0_1, .int .u32 a0_2, .int .u16 a0_3, .int .u16 a0_4, .int .u8 a0_5, .int .u8 a0_6] 25 (0, 0)) (by (with_reducible repeat first | apply blk_drewN | apply blk_drew | apply blk_alloc); exact BK272.out) hb); have n1_ := Aside0.mk (blk_below (g := gb273) (o := .cells #[.int .u8 a1_0, .int .u32 a1_1, .int .u32 a1_2, .int .u16 a1_3, .int .u16 a1_4, .int .u8 a1_5, .int .u8 a1_6] 25 (0, 0)) (by (with_reducible repeat first | apply blk_drewN | apply blk_drew | apply blk_alloc); exact BK273.out) hb); have n2_ := Aside0.mk (blk_below (g := gb280) (o := .cells #[.int .u32 t274, .int .u32 t275, .int .u16 t276, .int .u16 t277, .int .u8 t278] 29 (0, 0)) (by (with_reducible repeat first | apply blk_drewN | apply blk_drew | apply blk_alloc); exact BK280.out) hb); have n3_ := Aside0.mk (below_step (by repeat first | (with_reducible first | exact HB.out | apply below_alloc | apply pw_below_drewN | apply below_drew1 | refine below_set ?_ GE272.out | refine below_set ?_ GE273.out | refine below_set ?_ GE280.out) | exact HB.out) hb); have n4_ := Aside0.mk (hbox); have n5_ := Aside0.mk ((by rw [hg]; exact (below_size (by repeat first | (with_reducible first | exact HB.out | apply below_alloc | apply pw_below_drewN | apply below_drew1 | refine below_set ?_ GE272.out | refine below_set ?_ GE273.out | refine below_set ?_ GE280.out) | exact HB.out)) : w.heap.size ≤ gb287)); have n6_ := Aside0.mk ((by rw [hg]; exact (below_size (by repeat first | (with_reducible first | exact HB.out | apply below_alloc | apply pw_below_drewN | apply below_drew1 | refine below_set ?_ GE272.out | refine below_set ?_ GE273.out | refine below_set ?_ GE280.out) | exact HB.out)) : w.heap.size ≤ gb287)); have n7_ := Aside0.mk ((by rw [hg]; exact Nat.ne_of_lt (blk_lt (g := gb272) (o := .cells #[.int .u8 a0_0, .int .u32 a0_1, .int .u32 a0_2, .int .u16 a0_3, .int .u16 a0_4, .int .u8 a0_5, .int .u8 a0_6] 25 (0, 0)) (by (with_reducible repeat first | apply blk_drewN | apply blk_drew | apply blk_alloc); exact BK272.out)) : gb272 ≠ gb287)); have n8_ := Aside0.mk ((by rw [hg]; exact Nat.ne_of_gt (blk_lt (g := gb272) (o := .cells #[.int .u8 a0_0, .int .u32 a0_1, .int .u32 a0_2, .int .u16 a0_3, .int .u16 a0_4, .int .u8 a0_5, .int .u8 a0_6] 25 (0, 0)) (by (with_reducible repeat first | apply blk_drewN | apply blk_drew | apply blk_alloc); exact BK272.out)) : gb287 ≠ gb272)); have n9_ := Aside0.mk ((by rw [hg]; exact Nat.ne_of_lt (blk_lt (g := gb273) (o := .cells #[.int .u8 a1_0, .int .u32 a1_1, .int .u32 a1_2, .int .u16 a1_3, .int .u16 a1_4, .int .u8 a1_5, .int .u8 a1_6] 25 (0, 0)) (by (with_reducible repeat first | apply blk_drewN | apply blk_drew | apply blk_alloc); exact BK273.out)) : gb273 ≠ gb287)); have n10_ := Aside0.mk ((by rw [hg]; exact Nat.ne_of_gt (blk_lt (g := gb273) (o := .cells #[.int .u8 a1_0, .int .u32 a1_1, .int .u32 a1_2, .int .u16 a1_3, .int .u16 a1_4, .int .u8 a1_5, .int .u8 a1_6] 25 (0, 0)) (by (with_reducible repeat first | apply blk_drewN | apply blk_drew | apply blk_alloc); exact BK273.out)) : gb287 ≠ gb273)); have n11_ := Aside0.mk ((by rw [hg]; exact Nat.ne_of_lt (blk_lt (g := gb280) (o := .cells #[.int .u32 t274, .int .u32 t275, .int .u16 t276, .int .u16 t277, .int .u8 t278] 29 (0, 0)) (by (with_reducible repeat first | apply blk_drewN | apply blk_drew | apply blk_alloc); exact BK280.out)) : gb280 ≠ gb287)); have n12_ := Aside0.mk ((by rw [hg]; exact Nat.ne_of_gt (blk_lt (g := gb280) (o := .cells #[.int .u32 t274, .int .u32 t275, .int .u16 t276, .int .u16 t277, .int .u8 t278] 29 (0, 0)) (by (with_reducible repeat first | apply blk_drewN | apply blk_drew | apply blk_alloc); exact BK280.out)) : gb287 ≠ gb280)); clear BK272; clear BK273; clear BK280; clear HB; have BK272 := n0_; have BK273 := n1_; have BK280 := n2_; have HB := n3_; have BK287 := n4_; have GW287 := n5_; have GE287 := n6_; have NB272_287 := n7_; have NB287_272 := n8_; have NB273_287 := n9_; have NB287_273 := n10_; have NB280_287 := n11_; have NB287_280 := n12_; clear n0_ n1_ n2_ n3_ n4_ n5_ n6_ n7_ n8_ n9_ n10_ n11_ n12_; clear hb hbox hg; have hnb19 := NB287_272.out; have hnc19 := NB272_287.out; have hnb20 := NB287_273.out; have hnc20 := NB273_287.out; have hnb21 := NB287_280.out; have hnc21 := NB280_287.out; have hcz22_0 : w18.cell? ⟨gb287, 0, none⟩ = some (.int .u32 0) := (blk_cell BK287.out 0).trans rfl; have hcz22_1 : w18.cell? ⟨gb287, 1, none⟩ = some (.int .u32 0) := (blk_cell BK287.out 1).trans rfl; have hcz22_2 : w18.cell? ⟨gb287, 2, none⟩ = some (.int .u16 0) := (blk_cell BK287.out 2).trans rfl; have hcz22_3 : w18.cell? ⟨gb287, 3, none⟩ = some (.int .u16 0) := (blk_cell BK287.out 3).trans rfl; have hcz22_4 : w18.cell? ⟨gb287, 4, none⟩ = some (.int .u8 0) := (blk_cell BK287.out 4).trans rfl; have hfz22_0 := blk_frozen BK287.out 0; have hfz22_1 := blk_frozen BK287.out 1; have hfz22_2 := blk_frozen BK287.out 2; have hfz22_3 := blk_frozen BK287.out 3; have hfz22_4 := blk_frozen BK287.out 4) | ((with_reducible refine gate_store (t := 29) (p := 7) rfl ?_); (try (rw [drewN_self w18]; generalize hq_ : World.drewN w18 _ = w18; have n0_ := Aside0.mk (blk_at hq_ BK272.out); have n1_ := Aside0.mk (blk_at hq_ BK273.out); have n2_ := Aside0.mk (blk_at hq_ BK280.out); have n3_ := Aside0.mk (blk_at hq_ BK287.out); have n4_ := Aside0.mk (below_at hq_ HB.out); clear hq_ BK272 BK273 BK280 BK287 HB; have BK272 := n0_; have BK273 := n1_; have BK280 := n2_; have BK287 := n3_; have HB := n4_; clear n0_ n1_ n2_ n3_ n4_)); refine store_event (t := 29) (p := 7) (v := ?vo_w23) (w1 := (((((w18.setCell ⟨gb287, 0, none⟩ (.int .u32 t281)).setCell ⟨gb287, 1, none⟩ (.int .u32 t282)).setCell ⟨gb287, 2, none⟩ (.int .u16 t283)).setCell ⟨gb287, 3, none⟩ (.int .u16 t284)).setCell ⟨gb287, 4, none⟩ (.int .u8 t285))) ?hg ?ho ?hn ?hr ?_; (case ho => rfl); (case hg => rfl); (case hn => rfl); (case hr => first | (go_simp; done) | (go_simp; rfl) | (have hcy0_ : w18.cell? ⟨gb287, 0, none⟩ = some (.int .u32 0) := (blk_cell BK287.out 0).trans rfl; have hfy0_ := blk_frozen BK287.out 0; have hcy1_ : w18.cell? ⟨gb287, 1, none⟩ = some (.int .u32 0) := (blk_cell BK287.out 1).trans rfl; have hfy1_ := blk_frozen BK287.out 1; have hcy2_ : w18.cell? ⟨gb287, 2, none⟩ = some (.int .u16 0) := (blk_cell BK287.out 2).trans rfl; have hfy2_ := blk_frozen BK287.out 2; have hcy3_ : w18.cell? ⟨gb287, 3, none⟩ = some (.int .u16 0) := (blk_cell BK287.out 3).trans rfl; have hfy3_ := blk_frozen BK287.out 3; have hcy4_ : w18.cell? ⟨gb287, 4, none⟩ = some (.int .u8 0) := (blk_cell BK287.out 4).trans rfl; have hfy4_ := blk_frozen BK287.out 4; first | (go_simp; done) | (go_simp; rfl))); intro w23 hw; have n0_ : Aside0 (w23.heap[gb272]? = some (.cells #[.int .u8 a0_0, .int .u32 a0_1, .int .u32 a0_2, .int .u16 a0_3, .int .u16 a0_4, .int .u8 a0_5, .int .u8 a0_6] 25 (0, 0))) := ⟨(by rw [hw]; exact (by (with_reducible repeat first | apply blk_drewN | apply blk_drew | apply blk_alloc); refine blk_far ?_ NB272_287.out _; (with_reducible repeat first | apply blk_drewN | apply blk_drew | apply blk_alloc); refine blk_far ?_ NB272_287.out _; (with_reducible repeat first | apply blk_drewN | apply blk_drew | apply blk_alloc); refine blk_far ?_ NB272_287.out _; (with_reducible repeat first | apply blk_drewN | apply blk_drew | apply blk_alloc); refine blk_far ?_ NB272_287.out _; (with_reducible repeat first | apply blk_drewN | apply blk_drew | apply blk_alloc); refine blk_far ?_ NB272_287.out _; (with_reducible repeat first | apply blk_drewN | apply blk_drew | apply blk_alloc); exact BK272.out))⟩; have n1_ : Aside0 (w23.heap[gb273]? = some (.cells #[.int .u8 a1_0, .int .u32 a1_1, .int .u32 a1_2, .int .u16 a1_3, .int .u16 a1_4, .int .u8 a1_5, .int .u8 a1_6] 25 (0, 0))) := ⟨(by rw [hw]; exact (by (with_reducible repeat first | apply blk_drewN | apply blk_drew | apply blk_alloc); refine blk_far ?_ NB273_287.out _; (with_reducible repeat first | apply blk_drewN | apply blk_drew | apply blk_alloc); refine blk_far ?_ NB273_287.out _; (with_reducible repeat first | apply blk_drewN | apply blk_drew | apply blk_alloc); refine blk_far ?_ NB273_287.out _; (with_reducible repeat first | apply blk_drewN | apply blk_drew | apply blk_alloc); refine blk_far ?_ NB273_287.out _; (with_reducible repeat first | apply blk_drewN | apply blk_drew | apply blk_alloc); refine blk_far ?_ NB273_287.out _; (with_reducible repeat first | apply blk_drewN | apply blk_drew | apply blk_alloc); exact BK273.out))⟩; have n2_ : Aside0 (w23.heap[gb280]? = some (.cells #[.int .u32 t274, .int .u32 t275, .int .u16 t276, .int .u16 t277, .int .u8 t278] 29 (0, 0))) := ⟨(by rw [hw]; exact (by (with_reducible repeat first | apply blk_drewN | apply blk_drew | apply blk_alloc); refine blk_far ?_ NB280_287.out _; (with_reducible repeat first | apply blk_drewN | apply blk_drew | apply blk_alloc); refine blk_far ?_ NB280_287.out _; (with_reducible repeat first | apply blk_drewN | apply blk_drew | apply blk_alloc); refine blk_far ?_ NB280_287.out _; (with_reducible repeat first | apply blk_drewN | apply blk_drew | apply blk_alloc); refine blk_far ?_ NB280_287.out _; (with_reducible repeat first | apply blk_drewN | apply blk_drew | apply blk_alloc); refine blk_far ?_ NB280_287.out _; (with_reducible repeat first | apply blk_drewN | apply blk_drew | apply blk_alloc); exact BK280.out))⟩; have n3_ : Aside0 (w23.heap[gb287]? = some (.cells #[.int .u32 t281, .int .u32 t282, .int .u16 t283, .int .u16 t284, .int .u8 t285] 29 (0, 0))) := ⟨(by rw [hw]; exact (by (with_reducible repeat first | apply blk_drewN | apply blk_drew | apply blk_alloc); refine blk_put (cs := #[.int .u32 t281, .int .u32 t282, .int .u16 t283, .int .u16 t284, .int .u8 0]) ?_ 4 _ rfl; (with_reducible repeat first | apply blk_drewN | apply blk_drew | apply blk_alloc); refine blk_put (cs := #[.int .u32 t281, .int .u32 t282, .int .u16 t283, .int .u16 0, .int .u8 0]) ?_ 3 _ rfl; (with_reducible repeat first | apply blk_drewN | apply blk_drew | apply blk_alloc); refine blk_put (cs := #[.int .u32 t281, .int .u32 t282, .int .u16 0, .int .u16 0, .int .u8 0]) ?_ 2 _ rfl; (with_reducible repeat first | apply blk_drewN | apply blk_drew | apply blk_alloc); refine blk_put (cs := #[.int .u32 t281, .int .u32 0, .int .u16 0, .int .u16 0, .int .u8 0]) ?_ 1 _ rfl; (with_reducible repeat first | apply blk_drewN | apply blk_drew | apply blk_alloc); refine blk_put (cs := #[.int .u32 0, .int .u32 0, .int .u16 0, .int .u16 0, .int .u8 0]) ?_ 0 _ rfl; (with_reducible repeat first | apply blk_drewN | apply blk_drew | apply blk_alloc); exact BK287.out))⟩; have n4_ : Aside0 (Below w.heap.size w w23) := ⟨(by rw [hw]; exact (by repeat first | (with_reducible first | exact HB.out | apply below_alloc | apply pw_below_drewN | apply below_drew1 | refine below_set ?_ GE272.out | refine below_set ?_ GE273.out | refine below_set ?_ GE280.out | refine below_set ?_ GE287.out) | exact HB.out))⟩; clear hw; clear BK272; clear BK273; clear BK280; clear BK287; clear HB; have BK272 := n0_; have BK273 := n1_; have BK280 := n2_; have BK287 := n3_; have HB := n4_; clear n0_ n1_ n2_ n3_ n4_))
  (try simp only [Act.put, List.setIfInBounds_toArray, List.set_cons_zero, List.set_cons_succ])
  go_cut [9] (fun v9 wc => ∃ (kq : Nat) (x9_4 : Bool), v9 = .bool x9_4 ∧ Aside0 (mantletlaw10_KeySame.j0 kq x9_4 a0_0 a0_1 a0_2 a0_3 a0_4 a0_5 a0_6 a1_0 a1_1 a1_2 a1_3 a1_4 a1_5 a1_6 t274 t275 t276 t277 t278 t281 t282 t283 t284 t285 = some r) ∧ Aside0 (kq ≤ k) ∧ Aside0 (wc.heap[gb272]? = some (.cells #[.int .u8 a0_0, .int .u32 a0_1, .int .u32 a0_2, .int .u16 a0_3, .int .u16 a0_4, .int .u8 a0_5, .int .u8 a0_6] 25 (0, 0))) ∧ Aside0 (wc.heap[gb273]? = some (.cells #[.int .u8 a1_0, .int .u32 a1_1, .int .u32 a1_2, .int .u16 a1_3, .int .u16 a1_4, .int .u8 a1_5, .int .u8 a1_6] 25 (0, 0))) ∧ Aside0 (wc.heap[gb280]? = some (.cells #[.int .u32 t274, .int .u32 t275, .int .u16 t276, .int .u16 t277, .int .u8 t278] 29 (0, 0))) ∧ Aside0 (wc.heap[gb287]? = some (.cells #[.int .u32 t281, .int .u32 t282, .int .u16 t283, .int .u16 t284, .int .u8 t285] 29 (0, 0))) ∧ Aside0 (Below w.heap.size w wc))
  case first =>
    have H := HC5.out
    clear HC5
    by_cases c24 : a0_1 = a1_1
    · rw [if_pos c24] at H
      have c24b0 : (a0_1 == a1_1) = true := beq_iff_eq.mpr c24
      have c24b1 : (a0_1 != a1_1) = false := bne_eq_false_iff_eq.mpr c24
      clear c24
      (first | rw [c24b0] | (simp only [i64_w, i32_w]; rw [c24b0]) | skip)
      by_cases c25 : a0_3 = a1_3
      · rw [if_pos c25] at H
        have c25b0 : (a0_3 == a1_3) = true := beq_iff_eq.mpr c25
        have c25b1 : (a0_3 != a1_3) = false := bne_eq_false_iff_eq.mpr c25
        clear c25
        by_cases c26 : a0_2 = a1_2
        · rw [if_pos c26] at H
          have c26b0 : (a0_2 == a1_2) = true := beq_iff_eq.mpr c26
          have c26b1 : (a0_2 != a1_2) = false := bne_eq_false_iff_eq.mpr c26
          clear c26
          have H' := Aside0.mk H
          clear H
          have hnb27 := NB272_273.out
          have hnc27 := NB273_272.out
          have hnb28 := NB272_280.out
          have hnc28 := NB280_272.out
          have hnb29 := NB272_287.out
          have hnc29 := NB287_272.out
          have hcz30_0 : w23.cell? ⟨gb272, 0, none⟩ = some (.int .u8 a0_0) := (blk_cell BK272.out 0).trans rfl
          have hcz30_1 : w23.cell? ⟨gb272, 1, none⟩ = some (.int .u32 a0_1) := (blk_cell BK272.out 1).trans rfl
          have hcz30_2 : w23.cell? ⟨gb272, 2, none⟩ = some (.int .u32 a0_2) := (blk_cell BK272.out 2).trans rfl
          have hcz30_3 : w23.cell? ⟨gb272, 3, none⟩ = some (.int .u16 a0_3) := (blk_cell BK272.out 3).trans rfl
          have hcz30_4 : w23.cell? ⟨gb272, 4, none⟩ = some (.int .u16 a0_4) := (blk_cell BK272.out 4).trans rfl
          have hcz30_5 : w23.cell? ⟨gb272, 5, none⟩ = some (.int .u8 a0_5) := (blk_cell BK272.out 5).trans rfl
          have hcz30_6 : w23.cell? ⟨gb272, 6, none⟩ = some (.int .u8 a0_6) := (blk_cell BK272.out 6).trans rfl
          have hfz30_0 := blk_frozen BK272.out 0
          have hfz30_1 := blk_frozen BK272.out 1
          have hfz30_2 := blk_frozen BK272.out 2
          have hfz30_3 := blk_frozen BK272.out 3
          have hfz30_4 := blk_frozen BK272.out 4
          have hfz30_5 := blk_frozen BK272.out 5
          have hfz30_6 := blk_frozen BK272.out 6
          have hnb31 := NB273_280.out
          have hnc31 := NB280_273.out
          have hnb32 := NB273_287.out
          have hnc32 := NB287_273.out
          have hcz33_0 : w23.cell? ⟨gb273, 0, none⟩ = some (.int .u8 a1_0) := (blk_cell BK273.out 0).trans rfl
          have hcz33_1 : w23.cell? ⟨gb273, 1, none⟩ = some (.int .u32 a1_1) := (blk_cell BK273.out 1).trans rfl
          have hcz33_2 : w23.cell? ⟨gb273, 2, none⟩ = some (.int .u32 a1_2) := (blk_cell BK273.out 2).trans rfl
          have hcz33_3 : w23.cell? ⟨gb273, 3, none⟩ = some (.int .u16 a1_3) := (blk_cell BK273.out 3).trans rfl
          have hcz33_4 : w23.cell? ⟨gb273, 4, none⟩ = some (.int .u16 a1_4) := (blk_cell BK273.out 4).trans rfl
          have hcz33_5 : w23.cell? ⟨gb273, 5, none⟩ = some (.int .u8 a1_5) := (blk_cell BK273.out 5).trans rfl
          have hcz33_6 : w23.cell? ⟨gb273, 6, none⟩ = some (.int .u8 a1_6) := (blk_cell BK273.out 6).trans rfl
          have hfz33_0 := blk_frozen BK273.out 0
          have hfz33_1 := blk_frozen BK273.out 1
          have hfz33_2 := blk_frozen BK273.out 2
          have hfz33_3 := blk_frozen BK273.out 3
          have hfz33_4 := blk_frozen BK273.out 4
          have hfz33_5 := blk_frozen BK273.out 5
          have hfz33_6 := blk_frozen BK273.out 6
          go_wp2
          go_meet
          case rel => exact ⟨_, ((a0_4 == a1_4)), (by first | rfl | (simp; done) | (simp [*]; done)), H', ⟨by first | omega | exact Nat.le_refl _⟩, ⟨by (with_reducible repeat first | apply blk_drewN | apply blk_drew | apply blk_alloc); exact BK272.out⟩, ⟨by (with_reducible repeat first | apply blk_drewN | apply blk_drew | apply blk_alloc); exact BK273.out⟩, ⟨by (with_reducible repeat first | apply blk_drewN | apply blk_drew | apply blk_alloc); exact BK280.out⟩, ⟨by (with_reducible repeat first | apply blk_drewN | apply blk_drew | apply blk_alloc); exact BK287.out⟩, ⟨by repeat first | (with_reducible first | exact HB.out | apply below_alloc | apply pw_below_drewN | apply below_drew1 | refine below_set ?_ GE272.out | refine below_set ?_ GE273.out | refine below_set ?_ GE280.out | refine below_set ?_ GE287.out) | exact HB.out⟩⟩
        · rw [if_neg c26] at H
          have c26b0 : (a0_2 == a1_2) = false := beq_eq_false_iff_ne.mpr c26
          have c26b1 : (a0_2 != a1_2) = true := bne_iff_ne.mpr c26
          have H' := Aside0.mk H
          clear H
          have hnb34 := NB272_273.out
          have hnc34 := NB273_272.out
          have hnb35 := NB272_280.out
          have hnc35 := NB280_272.out
          have hnb36 := NB272_287.out
          have hnc36 := NB287_272.out
          have hcz37_0 : w23.cell? ⟨gb272, 0, none⟩ = some (.int .u8 a0_0) := (blk_cell BK272.out 0).trans rfl
          have hcz37_1 : w23.cell? ⟨gb272, 1, none⟩ = some (.int .u32 a0_1) := (blk_cell BK272.out 1).trans rfl
          have hcz37_2 : w23.cell? ⟨gb272, 2, none⟩ = some (.int .u32 a0_2) := (blk_cell BK272.out 2).trans rfl
          have hcz37_3 : w23.cell? ⟨gb272, 3, none⟩ = some (.int .u16 a0_3) := (blk_cell BK272.out 3).trans rfl
          have hcz37_4 : w23.cell? ⟨gb272, 4, none⟩ = some (.int .u16 a0_4) := (blk_cell BK272.out 4).trans rfl
          have hcz37_5 : w23.cell? ⟨gb272, 5, none⟩ = some (.int .u8 a0_5) := (blk_cell BK272.out 5).trans rfl
          have hcz37_6 : w23.cell? ⟨gb272, 6, none⟩ = some (.int .u8 a0_6) := (blk_cell BK272.out 6).trans rfl
          have hfz37_0 := blk_frozen BK272.out 0
          have hfz37_1 := blk_frozen BK272.out 1
          have hfz37_2 := blk_frozen BK272.out 2
          have hfz37_3 := blk_frozen BK272.out 3
          have hfz37_4 := blk_frozen BK272.out 4
          have hfz37_5 := blk_frozen BK272.out 5
          have hfz37_6 := blk_frozen BK272.out 6
          have hnb38 := NB273_280.out
          have hnc38 := NB280_273.out
          have hnb39 := NB273_287.out
          have hnc39 := NB287_273.out
          have hcz40_0 : w23.cell? ⟨gb273, 0, none⟩ = some (.int .u8 a1_0) := (blk_cell BK273.out 0).trans rfl
          have hcz40_1 : w23.cell? ⟨gb273, 1, none⟩ = some (.int .u32 a1_1) := (blk_cell BK273.out 1).trans rfl
          have hcz40_2 : w23.cell? ⟨gb273, 2, none⟩ = some (.int .u32 a1_2) := (blk_cell BK273.out 2).trans rfl
          have hcz40_3 : w23.cell? ⟨gb273, 3, none⟩ = some (.int .u16 a1_3) := (blk_cell BK273.out 3).trans rfl
          have hcz40_4 : w23.cell? ⟨gb273, 4, none⟩ = some (.int .u16 a1_4) := (blk_cell BK273.out 4).trans rfl
          have hcz40_5 : w23.cell? ⟨gb273, 5, none⟩ = some (.int .u8 a1_5) := (blk_cell BK273.out 5).trans rfl
          have hcz40_6 : w23.cell? ⟨gb273, 6, none⟩ = some (.int .u8 a1_6) := (blk_cell BK273.out 6).trans rfl
          have hfz40_0 := blk_frozen BK273.out 0
          have hfz40_1 := blk_frozen BK273.out 1
          have hfz40_2 := blk_frozen BK273.out 2
          have hfz40_3 := blk_frozen BK273.out 3
          have hfz40_4 := blk_frozen BK273.out 4
          have hfz40_5 := blk_frozen BK273.out 5
          have hfz40_6 := blk_frozen BK273.out 6
          go_wp2
          go_meet
          case rel => exact ⟨_, (false), (by first | rfl | (simp; done) | (simp [*]; done)), H', ⟨by first | omega | exact Nat.le_refl _⟩, ⟨by (with_reducible repeat first | apply blk_drewN | apply blk_drew | apply blk_alloc); exact BK272.out⟩, ⟨by (with_reducible repeat first | apply blk_drewN | apply blk_drew | apply blk_alloc); exact BK273.out⟩, ⟨by (with_reducible repeat first | apply blk_drewN | apply blk_drew | apply blk_alloc); exact BK280.out⟩, ⟨by (with_reducible repeat first | apply blk_drewN | apply blk_drew | apply blk_alloc); exact BK287.out⟩, ⟨by repeat first | (with_reducible first | exact HB.out | apply below_alloc | apply pw_below_drewN | apply below_drew1 | refine below_set ?_ GE272.out | refine below_set ?_ GE273.out | refine below_set ?_ GE280.out | refine below_set ?_ GE287.out) | exact HB.out⟩⟩
      · rw [if_neg c25] at H
        have c25b0 : (a0_3 == a1_3) = false := beq_eq_false_iff_ne.mpr c25
        have c25b1 : (a0_3 != a1_3) = true := bne_iff_ne.mpr c25
        have H' := Aside0.mk H
        clear H
        have hnb41 := NB272_273.out
        have hnc41 := NB273_272.out
        have hnb42 := NB272_280.out
        have hnc42 := NB280_272.out
        have hnb43 := NB272_287.out
        have hnc43 := NB287_272.out
        have hcz44_0 : w23.cell? ⟨gb272, 0, none⟩ = some (.int .u8 a0_0) := (blk_cell BK272.out 0).trans rfl
        have hcz44_1 : w23.cell? ⟨gb272, 1, none⟩ = some (.int .u32 a0_1) := (blk_cell BK272.out 1).trans rfl
        have hcz44_2 : w23.cell? ⟨gb272, 2, none⟩ = some (.int .u32 a0_2) := (blk_cell BK272.out 2).trans rfl
        have hcz44_3 : w23.cell? ⟨gb272, 3, none⟩ = some (.int .u16 a0_3) := (blk_cell BK272.out 3).trans rfl
        have hcz44_4 : w23.cell? ⟨gb272, 4, none⟩ = some (.int .u16 a0_4) := (blk_cell BK272.out 4).trans rfl
        have hcz44_5 : w23.cell? ⟨gb272, 5, none⟩ = some (.int .u8 a0_5) := (blk_cell BK272.out 5).trans rfl
        have hcz44_6 : w23.cell? ⟨gb272, 6, none⟩ = some (.int .u8 a0_6) := (blk_cell BK272.out 6).trans rfl
        have hfz44_0 := blk_frozen BK272.out 0
        have hfz44_1 := blk_frozen BK272.out 1
        have hfz44_2 := blk_frozen BK272.out 2
        have hfz44_3 := blk_frozen BK272.out 3
        have hfz44_4 := blk_frozen BK272.out 4
        have hfz44_5 := blk_frozen BK272.out 5
        have hfz44_6 := blk_frozen BK272.out 6
        have hnb45 := NB273_280.out
        have hnc45 := NB280_273.out
        have hnb46 := NB273_287.out
        have hnc46 := NB287_273.out
        have hcz47_0 : w23.cell? ⟨gb273, 0, none⟩ = some (.int .u8 a1_0) := (blk_cell BK273.out 0).trans rfl
        have hcz47_1 : w23.cell? ⟨gb273, 1, none⟩ = some (.int .u32 a1_1) := (blk_cell BK273.out 1).trans rfl
        have hcz47_2 : w23.cell? ⟨gb273, 2, none⟩ = some (.int .u32 a1_2) := (blk_cell BK273.out 2).trans rfl
        have hcz47_3 : w23.cell? ⟨gb273, 3, none⟩ = some (.int .u16 a1_3) := (blk_cell BK273.out 3).trans rfl
        have hcz47_4 : w23.cell? ⟨gb273, 4, none⟩ = some (.int .u16 a1_4) := (blk_cell BK273.out 4).trans rfl
        have hcz47_5 : w23.cell? ⟨gb273, 5, none⟩ = some (.int .u8 a1_5) := (blk_cell BK273.out 5).trans rfl
        have hcz47_6 : w23.cell? ⟨gb273, 6, none⟩ = some (.int .u8 a1_6) := (blk_cell BK273.out 6).trans rfl
        have hfz47_0 := blk_frozen BK273.out 0
        have hfz47_1 := blk_frozen BK273.out 1
        have hfz47_2 := blk_frozen BK273.out 2
        have hfz47_3 := blk_frozen BK273.out 3
        have hfz47_4 := blk_frozen BK273.out 4
        have hfz47_5 := blk_frozen BK273.out 5
        have hfz47_6 := blk_frozen BK273.out 6
        go_wp2
        go_meet
        case rel => exact ⟨_, (false), (by first | rfl | (simp; done) | (simp [*]; done)), H', ⟨by first | omega | exact Nat.le_refl _⟩, ⟨by (with_reducible repeat first | apply blk_drewN | apply blk_drew | apply blk_alloc); exact BK272.out⟩, ⟨by (with_reducible repeat first | apply blk_drewN | apply blk_drew | apply blk_alloc); exact BK273.out⟩, ⟨by (with_reducible repeat first | apply blk_drewN | apply blk_drew | apply blk_alloc); exact BK280.out⟩, ⟨by (with_reducible repeat first | apply blk_drewN | apply blk_drew | apply blk_alloc); exact BK287.out⟩, ⟨by repeat first | (with_reducible first | exact HB.out | apply below_alloc | apply pw_below_drewN | apply below_drew1 | refine below_set ?_ GE272.out | refine below_set ?_ GE273.out | refine below_set ?_ GE280.out | refine below_set ?_ GE287.out) | exact HB.out⟩⟩
    · rw [if_neg c24] at H
      have c24b0 : (a0_1 == a1_1) = false := beq_eq_false_iff_ne.mpr c24
      have c24b1 : (a0_1 != a1_1) = true := bne_iff_ne.mpr c24
      (first | rw [c24b0] | (simp only [i64_w, i32_w]; rw [c24b0]) | skip)
      have H' := Aside0.mk H
      clear H
      have hnb48 := NB272_273.out
      have hnc48 := NB273_272.out
      have hnb49 := NB272_280.out
      have hnc49 := NB280_272.out
      have hnb50 := NB272_287.out
      have hnc50 := NB287_272.out
      have hcz51_0 : w23.cell? ⟨gb272, 0, none⟩ = some (.int .u8 a0_0) := (blk_cell BK272.out 0).trans rfl
      have hcz51_1 : w23.cell? ⟨gb272, 1, none⟩ = some (.int .u32 a0_1) := (blk_cell BK272.out 1).trans rfl
      have hcz51_2 : w23.cell? ⟨gb272, 2, none⟩ = some (.int .u32 a0_2) := (blk_cell BK272.out 2).trans rfl
      have hcz51_3 : w23.cell? ⟨gb272, 3, none⟩ = some (.int .u16 a0_3) := (blk_cell BK272.out 3).trans rfl
      have hcz51_4 : w23.cell? ⟨gb272, 4, none⟩ = some (.int .u16 a0_4) := (blk_cell BK272.out 4).trans rfl
      have hcz51_5 : w23.cell? ⟨gb272, 5, none⟩ = some (.int .u8 a0_5) := (blk_cell BK272.out 5).trans rfl
      have hcz51_6 : w23.cell? ⟨gb272, 6, none⟩ = some (.int .u8 a0_6) := (blk_cell BK272.out 6).trans rfl
      have hfz51_0 := blk_frozen BK272.out 0
      have hfz51_1 := blk_frozen BK272.out 1
      have hfz51_2 := blk_frozen BK272.out 2
      have hfz51_3 := blk_frozen BK272.out 3
      have hfz51_4 := blk_frozen BK272.out 4
      have hfz51_5 := blk_frozen BK272.out 5
      have hfz51_6 := blk_frozen BK272.out 6
      have hnb52 := NB273_280.out
      have hnc52 := NB280_273.out
      have hnb53 := NB273_287.out
      have hnc53 := NB287_273.out
      have hcz54_0 : w23.cell? ⟨gb273, 0, none⟩ = some (.int .u8 a1_0) := (blk_cell BK273.out 0).trans rfl
      have hcz54_1 : w23.cell? ⟨gb273, 1, none⟩ = some (.int .u32 a1_1) := (blk_cell BK273.out 1).trans rfl
      have hcz54_2 : w23.cell? ⟨gb273, 2, none⟩ = some (.int .u32 a1_2) := (blk_cell BK273.out 2).trans rfl
      have hcz54_3 : w23.cell? ⟨gb273, 3, none⟩ = some (.int .u16 a1_3) := (blk_cell BK273.out 3).trans rfl
      have hcz54_4 : w23.cell? ⟨gb273, 4, none⟩ = some (.int .u16 a1_4) := (blk_cell BK273.out 4).trans rfl
      have hcz54_5 : w23.cell? ⟨gb273, 5, none⟩ = some (.int .u8 a1_5) := (blk_cell BK273.out 5).trans rfl
      have hcz54_6 : w23.cell? ⟨gb273, 6, none⟩ = some (.int .u8 a1_6) := (blk_cell BK273.out 6).trans rfl
      have hfz54_0 := blk_frozen BK273.out 0
      have hfz54_1 := blk_frozen BK273.out 1
      have hfz54_2 := blk_frozen BK273.out 2
      have hfz54_3 := blk_frozen BK273.out 3
      have hfz54_4 := blk_frozen BK273.out 4
      have hfz54_5 := blk_frozen BK273.out 5
      have hfz54_6 := blk_frozen BK273.out 6
      go_wp2
      go_meet
      case rel => exact ⟨_, (false), (by first | rfl | (simp; done) | (simp [*]; done)), H', ⟨by first | omega | exact Nat.le_refl _⟩, ⟨by (with_reducible repeat first | apply blk_drewN | apply blk_drew | apply blk_alloc); exact BK272.out⟩, ⟨by (with_reducible repeat first | apply blk_drewN | apply blk_drew | apply blk_alloc); exact BK273.out⟩, ⟨by (with_reducible repeat first | apply blk_drewN | apply blk_drew | apply blk_alloc); exact BK280.out⟩, ⟨by (with_reducible repeat first | apply blk_drewN | apply blk_drew | apply blk_alloc); exact BK287.out⟩, ⟨by repeat first | (with_reducible first | exact HB.out | apply below_alloc | apply pw_below_drewN | apply below_drew1 | refine below_set ?_ GE272.out | refine below_set ?_ GE273.out | refine below_set ?_ GE280.out | refine below_set ?_ GE287.out) | exact HB.out⟩⟩
  case rest =>
    clear HC5
    try clear c1
    try clear c2
    try clear p2
    try clear c3
    try clear c4
    try clear c5
    try clear c6
    try clear c8
    try clear c12
    try clear c13
    try clear c19
    try clear c20
    try clear c21
    try clear c24
    try clear c24b0
    try clear c24b1
    try clear c25
    try clear c25b0
    try clear c25b1
    try clear c26
    try clear c26b0
    try clear c26b1
    try clear c27
    try clear c28
    try clear c29
    try clear c31
    try clear c32
    try clear c34
    try clear c35
    try clear c36
    try clear c38
    try clear c39
    try clear c41
    try clear c42
    try clear c43
    try clear c45
    try clear c46
    try clear c48
    try clear c49
    try clear c50
    try clear c52
    try clear c53
    try clear hcz14_0
    try clear hcz14_1
    try clear hcz14_2
    try clear hcz14_3
    try clear hcz14_4
    try clear hcz16_0
    try clear hcz16_1
    try clear hcz16_2
    try clear hcz16_3
    try clear hcz16_4
    try clear hcz16_5
    try clear hcz16_6
    try clear hcz22_0
    try clear hcz22_1
    try clear hcz22_2
    try clear hcz22_3
    try clear hcz22_4
    try clear hcz30_0
    try clear hcz30_1
    try clear hcz30_2
    try clear hcz30_3
    try clear hcz30_4
    try clear hcz30_5
    try clear hcz30_6
    try clear hcz33_0
    try clear hcz33_1
    try clear hcz33_2
    try clear hcz33_3
    try clear hcz33_4
    try clear hcz33_5
    try clear hcz33_6
    try clear hcz37_0
    try clear hcz37_1
    try clear hcz37_2
    try clear hcz37_3
    try clear hcz37_4
    try clear hcz37_5
    try clear hcz37_6
    try clear hcz40_0
    try clear hcz40_1
    try clear hcz40_2
    try clear hcz40_3
    try clear hcz40_4
    try clear hcz40_5
    try clear hcz40_6
    try clear hcz44_0
    try clear hcz44_1
    try clear hcz44_2
    try clear hcz44_3
    try clear hcz44_4
    try clear hcz44_5
    try clear hcz44_6
    try clear hcz47_0
    try clear hcz47_1
    try clear hcz47_2
    try clear hcz47_3
    try clear hcz47_4
    try clear hcz47_5
    try clear hcz47_6
    try clear hcz51_0
    try clear hcz51_1
    try clear hcz51_2
    try clear hcz51_3
    try clear hcz51_4
    try clear hcz51_5
    try clear hcz51_6
    try clear hcz54_0
    try clear hcz54_1
    try clear hcz54_2
    try clear hcz54_3
    try clear hcz54_4
    try clear hcz54_5
    try clear hcz54_6
    try clear hcz9_0
    try clear hcz9_1
    try clear hcz9_2
    try clear hcz9_3
    try clear hcz9_4
    try clear hcz9_5
    try clear hcz9_6
    try clear hfz14_0
    try clear hfz14_1
    try clear hfz14_2
    try clear hfz14_3
    try clear hfz14_4
    try clear hfz16_0
    try clear hfz16_1
    try clear hfz16_2
    try clear hfz16_3
    try clear hfz16_4
    try clear hfz16_5
    try clear hfz16_6
    try clear hfz22_0
    try clear hfz22_1
    try clear hfz22_2
    try clear hfz22_3
    try clear hfz22_4
    try clear hfz30_0
    try clear hfz30_1
    try clear hfz30_2
    try clear hfz30_3
    try clear hfz30_4
    try clear hfz30_5
    try clear hfz30_6
    try clear hfz33_0
    try clear hfz33_1
    try clear hfz33_2
    try clear hfz33_3
    try clear hfz33_4
    try clear hfz33_5
    try clear hfz33_6
    try clear hfz37_0
    try clear hfz37_1
    try clear hfz37_2
    try clear hfz37_3
    try clear hfz37_4
    try clear hfz37_5
    try clear hfz37_6
    try clear hfz40_0
    try clear hfz40_1
    try clear hfz40_2
    try clear hfz40_3
    try clear hfz40_4
    try clear hfz40_5
    try clear hfz40_6
    try clear hfz44_0
    try clear hfz44_1
    try clear hfz44_2
    try clear hfz44_3
    try clear hfz44_4
    try clear hfz44_5
    try clear hfz44_6
    try clear hfz47_0
    try clear hfz47_1
    try clear hfz47_2
    try clear hfz47_3
    try clear hfz47_4
    try clear hfz47_5
    try clear hfz47_6
    try clear hfz51_0
    try clear hfz51_1
    try clear hfz51_2
    try clear hfz51_3
    try clear hfz51_4
    try clear hfz51_5
    try clear hfz51_6
    try clear hfz54_0
    try clear hfz54_1
    try clear hfz54_2
    try clear hfz54_3
    try clear hfz54_4
    try clear hfz54_5
    try clear hfz54_6
    try clear hfz9_0
    try clear hfz9_1
    try clear hfz9_2
    try clear hfz9_3
    try clear hfz9_4
    try clear hfz9_5
    try clear hfz9_6
    obtain ⟨kq, x9_4, rfl, HA, HJ4, BK272, BK273, BK280, BK287, HB⟩ := hcut
    cases kq with
    | zero => exact absurd HA.out (by simp [mantletlaw10_KeySame.j0])
    | succ kj4 =>
      have H := HA.out
      clear HA
      simp only [mantletlaw10_KeySame.j0] at H
      have HC55 := Aside0.mk H
      clear H
      go_upto_region 4 with (fail)
      go_cut [10] (fun v10 wc => ∃ (kq : Nat) (x10_54 : Bool), v10 = .bool x10_54 ∧ Aside0 (mantletlaw10_KeySame.j1 kq x9_4 x10_54 a0_0 a0_1 a0_2 a0_3 a0_4 a0_5 a0_6 a1_0 a1_1 a1_2 a1_3 a1_4 a1_5 a1_6 t274 t275 t276 t277 t278 t281 t282 t283 t284 t285 = some r) ∧ Aside0 (kq ≤ kj4) ∧ Aside0 (wc.heap[gb272]? = some (.cells #[.int .u8 a0_0, .int .u32 a0_1, .int .u32 a0_2, .int .u16 a0_3, .int .u16 a0_4, .int .u8 a0_5, .int .u8 a0_6] 25 (0, 0))) ∧ Aside0 (wc.heap[gb273]? = some (.cells #[.int .u8 a1_0, .int .u32 a1_1, .int .u32 a1_2, .int .u16 a1_3, .int .u16 a1_4, .int .u8 a1_5, .int .u8 a1_6] 25 (0, 0))) ∧ Aside0 (wc.heap[gb280]? = some (.cells #[.int .u32 t274, .int .u32 t275, .int .u16 t276, .int .u16 t277, .int .u8 t278] 29 (0, 0))) ∧ Aside0 (wc.heap[gb287]? = some (.cells #[.int .u32 t281, .int .u32 t282, .int .u16 t283, .int .u16 t284, .int .u8 t285] 29 (0, 0))) ∧ Aside0 (Below w.heap.size w wc))
      case first =>
        have H := HC55.out
        clear HC55
        by_cases c56 : a0_1 = a1_2
        · rw [if_pos c56] at H
          have c56b0 : (a0_1 == a1_2) = true := beq_iff_eq.mpr c56
          have c56b1 : (a0_1 != a1_2) = false := bne_eq_false_iff_eq.mpr c56
          clear c56
          (first | rw [c56b0] | (simp only [i64_w, i32_w]; rw [c56b0]) | skip)
          by_cases c57 : a0_3 = a1_4
          · rw [if_pos c57] at H
            have c57b0 : (a0_3 == a1_4) = true := beq_iff_eq.mpr c57
            have c57b1 : (a0_3 != a1_4) = false := bne_eq_false_iff_eq.mpr c57
            clear c57
            by_cases c58 : a0_2 = a1_1
            · rw [if_pos c58] at H
              have c58b0 : (a0_2 == a1_1) = true := beq_iff_eq.mpr c58
              have c58b1 : (a0_2 != a1_1) = false := bne_eq_false_iff_eq.mpr c58
              clear c58
              have H' := Aside0.mk H
              clear H
              have hnb59 := NB272_273.out
              have hnc59 := NB273_272.out
              have hnb60 := NB272_280.out
              have hnc60 := NB280_272.out
              have hnb61 := NB272_287.out
              have hnc61 := NB287_272.out
              have hcz62_0 : wc.cell? ⟨gb272, 0, none⟩ = some (.int .u8 a0_0) := (blk_cell BK272.out 0).trans rfl
              have hcz62_1 : wc.cell? ⟨gb272, 1, none⟩ = some (.int .u32 a0_1) := (blk_cell BK272.out 1).trans rfl
              have hcz62_2 : wc.cell? ⟨gb272, 2, none⟩ = some (.int .u32 a0_2) := (blk_cell BK272.out 2).trans rfl
              have hcz62_3 : wc.cell? ⟨gb272, 3, none⟩ = some (.int .u16 a0_3) := (blk_cell BK272.out 3).trans rfl
              have hcz62_4 : wc.cell? ⟨gb272, 4, none⟩ = some (.int .u16 a0_4) := (blk_cell BK272.out 4).trans rfl
              have hcz62_5 : wc.cell? ⟨gb272, 5, none⟩ = some (.int .u8 a0_5) := (blk_cell BK272.out 5).trans rfl
              have hcz62_6 : wc.cell? ⟨gb272, 6, none⟩ = some (.int .u8 a0_6) := (blk_cell BK272.out 6).trans rfl
              have hfz62_0 := blk_frozen BK272.out 0
              have hfz62_1 := blk_frozen BK272.out 1
              have hfz62_2 := blk_frozen BK272.out 2
              have hfz62_3 := blk_frozen BK272.out 3
              have hfz62_4 := blk_frozen BK272.out 4
              have hfz62_5 := blk_frozen BK272.out 5
              have hfz62_6 := blk_frozen BK272.out 6
              have hnb63 := NB273_280.out
              have hnc63 := NB280_273.out
              have hnb64 := NB273_287.out
              have hnc64 := NB287_273.out
              have hcz65_0 : wc.cell? ⟨gb273, 0, none⟩ = some (.int .u8 a1_0) := (blk_cell BK273.out 0).trans rfl
              have hcz65_1 : wc.cell? ⟨gb273, 1, none⟩ = some (.int .u32 a1_1) := (blk_cell BK273.out 1).trans rfl
              have hcz65_2 : wc.cell? ⟨gb273, 2, none⟩ = some (.int .u32 a1_2) := (blk_cell BK273.out 2).trans rfl
              have hcz65_3 : wc.cell? ⟨gb273, 3, none⟩ = some (.int .u16 a1_3) := (blk_cell BK273.out 3).trans rfl
              have hcz65_4 : wc.cell? ⟨gb273, 4, none⟩ = some (.int .u16 a1_4) := (blk_cell BK273.out 4).trans rfl
              have hcz65_5 : wc.cell? ⟨gb273, 5, none⟩ = some (.int .u8 a1_5) := (blk_cell BK273.out 5).trans rfl
              have hcz65_6 : wc.cell? ⟨gb273, 6, none⟩ = some (.int .u8 a1_6) := (blk_cell BK273.out 6).trans rfl
              have hfz65_0 := blk_frozen BK273.out 0
              have hfz65_1 := blk_frozen BK273.out 1
              have hfz65_2 := blk_frozen BK273.out 2
              have hfz65_3 := blk_frozen BK273.out 3
              have hfz65_4 := blk_frozen BK273.out 4
              have hfz65_5 := blk_frozen BK273.out 5
              have hfz65_6 := blk_frozen BK273.out 6
              go_wp2
              go_meet
              case rel => exact ⟨_, ((a0_4 == a1_3)), (by first | rfl | (simp; done) | (simp [*]; done)), H', ⟨by have := HJ4.out; first | omega | exact Nat.le_refl _⟩, ⟨by (with_reducible repeat first | apply blk_drewN | apply blk_drew | apply blk_alloc); exact BK272.out⟩, ⟨by (with_reducible repeat first | apply blk_drewN | apply blk_drew | apply blk_alloc); exact BK273.out⟩, ⟨by (with_reducible repeat first | apply blk_drewN | apply blk_drew | apply blk_alloc); exact BK280.out⟩, ⟨by (with_reducible repeat first | apply blk_drewN | apply blk_drew | apply blk_alloc); exact BK287.out⟩, ⟨by repeat first | (with_reducible first | exact HB.out | apply below_alloc | apply pw_below_drewN | apply below_drew1 | refine below_set ?_ GE272.out | refine below_set ?_ GE273.out | refine below_set ?_ GE280.out | refine below_set ?_ GE287.out) | exact HB.out⟩⟩
            · rw [if_neg c58] at H
              have c58b0 : (a0_2 == a1_1) = false := beq_eq_false_iff_ne.mpr c58
              have c58b1 : (a0_2 != a1_1) = true := bne_iff_ne.mpr c58
              have H' := Aside0.mk H
              clear H
              have hnb66 := NB272_273.out
              have hnc66 := NB273_272.out
              have hnb67 := NB272_280.out
              have hnc67 := NB280_272.out
              have hnb68 := NB272_287.out
              have hnc68 := NB287_272.out
              have hcz69_0 : wc.cell? ⟨gb272, 0, none⟩ = some (.int .u8 a0_0) := (blk_cell BK272.out 0).trans rfl
              have hcz69_1 : wc.cell? ⟨gb272, 1, none⟩ = some (.int .u32 a0_1) := (blk_cell BK272.out 1).trans rfl
              have hcz69_2 : wc.cell? ⟨gb272, 2, none⟩ = some (.int .u32 a0_2) := (blk_cell BK272.out 2).trans rfl
              have hcz69_3 : wc.cell? ⟨gb272, 3, none⟩ = some (.int .u16 a0_3) := (blk_cell BK272.out 3).trans rfl
              have hcz69_4 : wc.cell? ⟨gb272, 4, none⟩ = some (.int .u16 a0_4) := (blk_cell BK272.out 4).trans rfl
              have hcz69_5 : wc.cell? ⟨gb272, 5, none⟩ = some (.int .u8 a0_5) := (blk_cell BK272.out 5).trans rfl
              have hcz69_6 : wc.cell? ⟨gb272, 6, none⟩ = some (.int .u8 a0_6) := (blk_cell BK272.out 6).trans rfl
              have hfz69_0 := blk_frozen BK272.out 0
              have hfz69_1 := blk_frozen BK272.out 1
              have hfz69_2 := blk_frozen BK272.out 2
              have hfz69_3 := blk_frozen BK272.out 3
              have hfz69_4 := blk_frozen BK272.out 4
              have hfz69_5 := blk_frozen BK272.out 5
              have hfz69_6 := blk_frozen BK272.out 6
              have hnb70 := NB273_280.out
              have hnc70 := NB280_273.out
              have hnb71 := NB273_287.out
              have hnc71 := NB287_273.out
              have hcz72_0 : wc.cell? ⟨gb273, 0, none⟩ = some (.int .u8 a1_0) := (blk_cell BK273.out 0).trans rfl
              have hcz72_1 : wc.cell? ⟨gb273, 1, none⟩ = some (.int .u32 a1_1) := (blk_cell BK273.out 1).trans rfl
              have hcz72_2 : wc.cell? ⟨gb273, 2, none⟩ = some (.int .u32 a1_2) := (blk_cell BK273.out 2).trans rfl
              have hcz72_3 : wc.cell? ⟨gb273, 3, none⟩ = some (.int .u16 a1_3) := (blk_cell BK273.out 3).trans rfl
              have hcz72_4 : wc.cell? ⟨gb273, 4, none⟩ = some (.int .u16 a1_4) := (blk_cell BK273.out 4).trans rfl
              have hcz72_5 : wc.cell? ⟨gb273, 5, none⟩ = some (.int .u8 a1_5) := (blk_cell BK273.out 5).trans rfl
              have hcz72_6 : wc.cell? ⟨gb273, 6, none⟩ = some (.int .u8 a1_6) := (blk_cell BK273.out 6).trans rfl
              have hfz72_0 := blk_frozen BK273.out 0
              have hfz72_1 := blk_frozen BK273.out 1
              have hfz72_2 := blk_frozen BK273.out 2
              have hfz72_3 := blk_frozen BK273.out 3
              have hfz72_4 := blk_frozen BK273.out 4
              have hfz72_5 := blk_frozen BK273.out 5
              have hfz72_6 := blk_frozen BK273.out 6
              go_wp2
              go_meet
              case rel => exact ⟨_, (false), (by first | rfl | (simp; done) | (simp [*]; done)), H', ⟨by have := HJ4.out; first | omega | exact Nat.le_refl _⟩, ⟨by (with_reducible repeat first | apply blk_drewN | apply blk_drew | apply blk_alloc); exact BK272.out⟩, ⟨by (with_reducible repeat first | apply blk_drewN | apply blk_drew | apply blk_alloc); exact BK273.out⟩, ⟨by (with_reducible repeat first | apply blk_drewN | apply blk_drew | apply blk_alloc); exact BK280.out⟩, ⟨by (with_reducible repeat first | apply blk_drewN | apply blk_drew | apply blk_alloc); exact BK287.out⟩, ⟨by repeat first | (with_reducible first | exact HB.out | apply below_alloc | apply pw_below_drewN | apply below_drew1 | refine below_set ?_ GE272.out | refine below_set ?_ GE273.out | refine below_set ?_ GE280.out | refine below_set ?_ GE287.out) | exact HB.out⟩⟩
          · rw [if_neg c57] at H
            have c57b0 : (a0_3 == a1_4) = false := beq_eq_false_iff_ne.mpr c57
            have c57b1 : (a0_3 != a1_4) = true := bne_iff_ne.mpr c57
            have H' := Aside0.mk H
            clear H
            have hnb73 := NB272_273.out
            have hnc73 := NB273_272.out
            have hnb74 := NB272_280.out
            have hnc74 := NB280_272.out
            have hnb75 := NB272_287.out
            have hnc75 := NB287_272.out
            have hcz76_0 : wc.cell? ⟨gb272, 0, none⟩ = some (.int .u8 a0_0) := (blk_cell BK272.out 0).trans rfl
            have hcz76_1 : wc.cell? ⟨gb272, 1, none⟩ = some (.int .u32 a0_1) := (blk_cell BK272.out 1).trans rfl
            have hcz76_2 : wc.cell? ⟨gb272, 2, none⟩ = some (.int .u32 a0_2) := (blk_cell BK272.out 2).trans rfl
            have hcz76_3 : wc.cell? ⟨gb272, 3, none⟩ = some (.int .u16 a0_3) := (blk_cell BK272.out 3).trans rfl
            have hcz76_4 : wc.cell? ⟨gb272, 4, none⟩ = some (.int .u16 a0_4) := (blk_cell BK272.out 4).trans rfl
            have hcz76_5 : wc.cell? ⟨gb272, 5, none⟩ = some (.int .u8 a0_5) := (blk_cell BK272.out 5).trans rfl
            have hcz76_6 : wc.cell? ⟨gb272, 6, none⟩ = some (.int .u8 a0_6) := (blk_cell BK272.out 6).trans rfl
            have hfz76_0 := blk_frozen BK272.out 0
            have hfz76_1 := blk_frozen BK272.out 1
            have hfz76_2 := blk_frozen BK272.out 2
            have hfz76_3 := blk_frozen BK272.out 3
            have hfz76_4 := blk_frozen BK272.out 4
            have hfz76_5 := blk_frozen BK272.out 5
            have hfz76_6 := blk_frozen BK272.out 6
            have hnb77 := NB273_280.out
            have hnc77 := NB280_273.out
            have hnb78 := NB273_287.out
            have hnc78 := NB287_273.out
            have hcz79_0 : wc.cell? ⟨gb273, 0, none⟩ = some (.int .u8 a1_0) := (blk_cell BK273.out 0).trans rfl
            have hcz79_1 : wc.cell? ⟨gb273, 1, none⟩ = some (.int .u32 a1_1) := (blk_cell BK273.out 1).trans rfl
            have hcz79_2 : wc.cell? ⟨gb273, 2, none⟩ = some (.int .u32 a1_2) := (blk_cell BK273.out 2).trans rfl
            have hcz79_3 : wc.cell? ⟨gb273, 3, none⟩ = some (.int .u16 a1_3) := (blk_cell BK273.out 3).trans rfl
            have hcz79_4 : wc.cell? ⟨gb273, 4, none⟩ = some (.int .u16 a1_4) := (blk_cell BK273.out 4).trans rfl
            have hcz79_5 : wc.cell? ⟨gb273, 5, none⟩ = some (.int .u8 a1_5) := (blk_cell BK273.out 5).trans rfl
            have hcz79_6 : wc.cell? ⟨gb273, 6, none⟩ = some (.int .u8 a1_6) := (blk_cell BK273.out 6).trans rfl
            have hfz79_0 := blk_frozen BK273.out 0
            have hfz79_1 := blk_frozen BK273.out 1
            have hfz79_2 := blk_frozen BK273.out 2
            have hfz79_3 := blk_frozen BK273.out 3
            have hfz79_4 := blk_frozen BK273.out 4
            have hfz79_5 := blk_frozen BK273.out 5
            have hfz79_6 := blk_frozen BK273.out 6
            go_wp2
            go_meet
            case rel => exact ⟨_, (false), (by first | rfl | (simp; done) | (simp [*]; done)), H', ⟨by have := HJ4.out; first | omega | exact Nat.le_refl _⟩, ⟨by (with_reducible repeat first | apply blk_drewN | apply blk_drew | apply blk_alloc); exact BK272.out⟩, ⟨by (with_reducible repeat first | apply blk_drewN | apply blk_drew | apply blk_alloc); exact BK273.out⟩, ⟨by (with_reducible repeat first | apply blk_drewN | apply blk_drew | apply blk_alloc); exact BK280.out⟩, ⟨by (with_reducible repeat first | apply blk_drewN | apply blk_drew | apply blk_alloc); exact BK287.out⟩, ⟨by repeat first | (with_reducible first | exact HB.out | apply below_alloc | apply pw_below_drewN | apply below_drew1 | refine below_set ?_ GE272.out | refine below_set ?_ GE273.out | refine below_set ?_ GE280.out | refine below_set ?_ GE287.out) | exact HB.out⟩⟩
        · rw [if_neg c56] at H
          have c56b0 : (a0_1 == a1_2) = false := beq_eq_false_iff_ne.mpr c56
          have c56b1 : (a0_1 != a1_2) = true := bne_iff_ne.mpr c56
          (first | rw [c56b0] | (simp only [i64_w, i32_w]; rw [c56b0]) | skip)
          have H' := Aside0.mk H
          clear H
          have hnb80 := NB272_273.out
          have hnc80 := NB273_272.out
          have hnb81 := NB272_280.out
          have hnc81 := NB280_272.out
          have hnb82 := NB272_287.out
          have hnc82 := NB287_272.out
          have hcz83_0 : wc.cell? ⟨gb272, 0, none⟩ = some (.int .u8 a0_0) := (blk_cell BK272.out 0).trans rfl
          have hcz83_1 : wc.cell? ⟨gb272, 1, none⟩ = some (.int .u32 a0_1) := (blk_cell BK272.out 1).trans rfl
          have hcz83_2 : wc.cell? ⟨gb272, 2, none⟩ = some (.int .u32 a0_2) := (blk_cell BK272.out 2).trans rfl
          have hcz83_3 : wc.cell? ⟨gb272, 3, none⟩ = some (.int .u16 a0_3) := (blk_cell BK272.out 3).trans rfl
          have hcz83_4 : wc.cell? ⟨gb272, 4, none⟩ = some (.int .u16 a0_4) := (blk_cell BK272.out 4).trans rfl
          have hcz83_5 : wc.cell? ⟨gb272, 5, none⟩ = some (.int .u8 a0_5) := (blk_cell BK272.out 5).trans rfl
          have hcz83_6 : wc.cell? ⟨gb272, 6, none⟩ = some (.int .u8 a0_6) := (blk_cell BK272.out 6).trans rfl
          have hfz83_0 := blk_frozen BK272.out 0
          have hfz83_1 := blk_frozen BK272.out 1
          have hfz83_2 := blk_frozen BK272.out 2
          have hfz83_3 := blk_frozen BK272.out 3
          have hfz83_4 := blk_frozen BK272.out 4
          have hfz83_5 := blk_frozen BK272.out 5
          have hfz83_6 := blk_frozen BK272.out 6
          have hnb84 := NB273_280.out
          have hnc84 := NB280_273.out
          have hnb85 := NB273_287.out
          have hnc85 := NB287_273.out
          have hcz86_0 : wc.cell? ⟨gb273, 0, none⟩ = some (.int .u8 a1_0) := (blk_cell BK273.out 0).trans rfl
          have hcz86_1 : wc.cell? ⟨gb273, 1, none⟩ = some (.int .u32 a1_1) := (blk_cell BK273.out 1).trans rfl
          have hcz86_2 : wc.cell? ⟨gb273, 2, none⟩ = some (.int .u32 a1_2) := (blk_cell BK273.out 2).trans rfl
          have hcz86_3 : wc.cell? ⟨gb273, 3, none⟩ = some (.int .u16 a1_3) := (blk_cell BK273.out 3).trans rfl
          have hcz86_4 : wc.cell? ⟨gb273, 4, none⟩ = some (.int .u16 a1_4) := (blk_cell BK273.out 4).trans rfl
          have hcz86_5 : wc.cell? ⟨gb273, 5, none⟩ = some (.int .u8 a1_5) := (blk_cell BK273.out 5).trans rfl
          have hcz86_6 : wc.cell? ⟨gb273, 6, none⟩ = some (.int .u8 a1_6) := (blk_cell BK273.out 6).trans rfl
          have hfz86_0 := blk_frozen BK273.out 0
          have hfz86_1 := blk_frozen BK273.out 1
          have hfz86_2 := blk_frozen BK273.out 2
          have hfz86_3 := blk_frozen BK273.out 3
          have hfz86_4 := blk_frozen BK273.out 4
          have hfz86_5 := blk_frozen BK273.out 5
          have hfz86_6 := blk_frozen BK273.out 6
          go_wp2
          go_meet
          case rel => exact ⟨_, (false), (by first | rfl | (simp; done) | (simp [*]; done)), H', ⟨by have := HJ4.out; first | omega | exact Nat.le_refl _⟩, ⟨by (with_reducible repeat first | apply blk_drewN | apply blk_drew | apply blk_alloc); exact BK272.out⟩, ⟨by (with_reducible repeat first | apply blk_drewN | apply blk_drew | apply blk_alloc); exact BK273.out⟩, ⟨by (with_reducible repeat first | apply blk_drewN | apply blk_drew | apply blk_alloc); exact BK280.out⟩, ⟨by (with_reducible repeat first | apply blk_drewN | apply blk_drew | apply blk_alloc); exact BK287.out⟩, ⟨by repeat first | (with_reducible first | exact HB.out | apply below_alloc | apply pw_below_drewN | apply below_drew1 | refine below_set ?_ GE272.out | refine below_set ?_ GE273.out | refine below_set ?_ GE280.out | refine below_set ?_ GE287.out) | exact HB.out⟩⟩
      case rest =>
        clear HC55
        try clear c1
        try clear c2
        try clear p2
        try clear c3
        try clear c4
        try clear c5
        try clear c6
        try clear c7
        try clear c8
        try clear c12
        try clear c13
        try clear c19
        try clear c20
        try clear c21
        try clear c24
        try clear c24b0
        try clear c24b1
        try clear c25
        try clear c25b0
        try clear c25b1
        try clear c26
        try clear c26b0
        try clear c26b1
        try clear c27
        try clear c28
        try clear c29
        try clear c31
        try clear c32
        try clear c34
        try clear c35
        try clear c36
        try clear c38
        try clear c39
        try clear c41
        try clear c42
        try clear c43
        try clear c45
        try clear c46
        try clear c48
        try clear c49
        try clear c50
        try clear c52
        try clear c53
        try clear c56
        try clear c56b0
        try clear c56b1
        try clear c57
        try clear c57b0
        try clear c57b1
        try clear c58
        try clear c58b0
        try clear c58b1
        try clear c59
        try clear c60
        try clear c61
        try clear c63
        try clear c64
        try clear c66
        try clear c67
        try clear c68
        try clear c70
        try clear c71
        try clear c73
        try clear c74
        try clear c75
        try clear c77
        try clear c78
        try clear c80
        try clear c81
        try clear c82
        try clear c84
        try clear c85
        try clear hcz14_0
        try clear hcz14_1
        try clear hcz14_2
        try clear hcz14_3
        try clear hcz14_4
        try clear hcz16_0
        try clear hcz16_1
        try clear hcz16_2
        try clear hcz16_3
        try clear hcz16_4
        try clear hcz16_5
        try clear hcz16_6
        try clear hcz22_0
        try clear hcz22_1
        try clear hcz22_2
        try clear hcz22_3
        try clear hcz22_4
        try clear hcz30_0
        try clear hcz30_1
        try clear hcz30_2
        try clear hcz30_3
        try clear hcz30_4
        try clear hcz30_5
        try clear hcz30_6
        try clear hcz33_0
        try clear hcz33_1
        try clear hcz33_2
        try clear hcz33_3
        try clear hcz33_4
        try clear hcz33_5
        try clear hcz33_6
        try clear hcz37_0
        try clear hcz37_1
        try clear hcz37_2
        try clear hcz37_3
        try clear hcz37_4
        try clear hcz37_5
        try clear hcz37_6
        try clear hcz40_0
        try clear hcz40_1
        try clear hcz40_2
        try clear hcz40_3
        try clear hcz40_4
        try clear hcz40_5
        try clear hcz40_6
        try clear hcz44_0
        try clear hcz44_1
        try clear hcz44_2
        try clear hcz44_3
        try clear hcz44_4
        try clear hcz44_5
        try clear hcz44_6
        try clear hcz47_0
        try clear hcz47_1
        try clear hcz47_2
        try clear hcz47_3
        try clear hcz47_4
        try clear hcz47_5
        try clear hcz47_6
        try clear hcz51_0
        try clear hcz51_1
        try clear hcz51_2
        try clear hcz51_3
        try clear hcz51_4
        try clear hcz51_5
        try clear hcz51_6
        try clear hcz54_0
        try clear hcz54_1
        try clear hcz54_2
        try clear hcz54_3
        try clear hcz54_4
        try clear hcz54_5
        try clear hcz54_6
        try clear hcz62_0
        try clear hcz62_1
        try clear hcz62_2
        try clear hcz62_3
        try clear hcz62_4
        try clear hcz62_5
        try clear hcz62_6
        try clear hcz65_0
        try clear hcz65_1
        try clear hcz65_2
        try clear hcz65_3
        try clear hcz65_4
        try clear hcz65_5
        try clear hcz65_6
        try clear hcz69_0
        try clear hcz69_1
        try clear hcz69_2
        try clear hcz69_3
        try clear hcz69_4
        try clear hcz69_5
        try clear hcz69_6
        try clear hcz72_0
        try clear hcz72_1
        try clear hcz72_2
        try clear hcz72_3
        try clear hcz72_4
        try clear hcz72_5
        try clear hcz72_6
        try clear hcz76_0
        try clear hcz76_1
        try clear hcz76_2
        try clear hcz76_3
        try clear hcz76_4
        try clear hcz76_5
        try clear hcz76_6
        try clear hcz79_0
        try clear hcz79_1
        try clear hcz79_2
        try clear hcz79_3
        try clear hcz79_4
        try clear hcz79_5
        try clear hcz79_6
        try clear hcz83_0
        try clear hcz83_1
        try clear hcz83_2
        try clear hcz83_3
        try clear hcz83_4
        try clear hcz83_5
        try clear hcz83_6
        try clear hcz86_0
        try clear hcz86_1
        try clear hcz86_2
        try clear hcz86_3
        try clear hcz86_4
        try clear hcz86_5
        try clear hcz86_6
        try clear hcz9_0
        try clear hcz9_1
        try clear hcz9_2
        try clear hcz9_3
        try clear hcz9_4
        try clear hcz9_5
        try clear hcz9_6
        try clear hfz14_0
        try clear hfz14_1
        try clear hfz14_2
        try clear hfz14_3
        try clear hfz14_4
        try clear hfz16_0
        try clear hfz16_1
        try clear hfz16_2
        try clear hfz16_3
        try clear hfz16_4
        try clear hfz16_5
        try clear hfz16_6
        try clear hfz22_0
        try clear hfz22_1
        try clear hfz22_2
        try clear hfz22_3
        try clear hfz22_4
        try clear hfz30_0
        try clear hfz30_1
        try clear hfz30_2
        try clear hfz30_3
        try clear hfz30_4
        try clear hfz30_5
        try clear hfz30_6
        try clear hfz33_0
        try clear hfz33_1
        try clear hfz33_2
        try clear hfz33_3
        try clear hfz33_4
        try clear hfz33_5
        try clear hfz33_6
        try clear hfz37_0
        try clear hfz37_1
        try clear hfz37_2
        try clear hfz37_3
        try clear hfz37_4
        try clear hfz37_5
        try clear hfz37_6
        try clear hfz40_0
        try clear hfz40_1
        try clear hfz40_2
        try clear hfz40_3
        try clear hfz40_4
        try clear hfz40_5
        try clear hfz40_6
        try clear hfz44_0
        try clear hfz44_1
        try clear hfz44_2
        try clear hfz44_3
        try clear hfz44_4
        try clear hfz44_5
        try clear hfz44_6
        try clear hfz47_0
        try clear hfz47_1
        try clear hfz47_2
        try clear hfz47_3
        try clear hfz47_4
        try clear hfz47_5
        try clear hfz47_6
        try clear hfz51_0
        try clear hfz51_1
        try clear hfz51_2
        try clear hfz51_3
        try clear hfz51_4
        try clear hfz51_5
        try clear hfz51_6
        try clear hfz54_0
        try clear hfz54_1
        try clear hfz54_2
        try clear hfz54_3
        try clear hfz54_4
        try clear hfz54_5
        try clear hfz54_6
        try clear hfz62_0
        try clear hfz62_1
        try clear hfz62_2
        try clear hfz62_3
        try clear hfz62_4
        try clear hfz62_5
        try clear hfz62_6
        try clear hfz65_0
        try clear hfz65_1
        try clear hfz65_2
        try clear hfz65_3
        try clear hfz65_4
        try clear hfz65_5
        try clear hfz65_6
        try clear hfz69_0
        try clear hfz69_1
        try clear hfz69_2
        try clear hfz69_3
        try clear hfz69_4
        try clear hfz69_5
        try clear hfz69_6
        try clear hfz72_0
        try clear hfz72_1
        try clear hfz72_2
        try clear hfz72_3
        try clear hfz72_4
        try clear hfz72_5
        try clear hfz72_6
        try clear hfz76_0
        try clear hfz76_1
        try clear hfz76_2
        try clear hfz76_3
        try clear hfz76_4
        try clear hfz76_5
        try clear hfz76_6
        try clear hfz79_0
        try clear hfz79_1
        try clear hfz79_2
        try clear hfz79_3
        try clear hfz79_4
        try clear hfz79_5
        try clear hfz79_6
        try clear hfz83_0
        try clear hfz83_1
        try clear hfz83_2
        try clear hfz83_3
        try clear hfz83_4
        try clear hfz83_5
        try clear hfz83_6
        try clear hfz86_0
        try clear hfz86_1
        try clear hfz86_2
        try clear hfz86_3
        try clear hfz86_4
        try clear hfz86_5
        try clear hfz86_6
        try clear hfz9_0
        try clear hfz9_1
        try clear hfz9_2
        try clear hfz9_3
        try clear hfz9_4
        try clear hfz9_5
        try clear hfz9_6
        try clear p2
        obtain ⟨kq, x10_54, rfl, HA, HJ54, BK272, BK273, BK280, BK287, HB⟩ := hcut
        cases kq with
        | zero => exact absurd HA.out (by simp [mantletlaw10_KeySame.j1])
        | succ kj54 =>
          have H := HA.out
          clear HA
          simp only [mantletlaw10_KeySame.j1] at H
          replace H := Option.bind_eq_some_iff.mp H
          obtain ⟨t288, A870, H⟩ := H
          replace H : (if t288 = true then (if a0_0 = a1_0 then (if x9_4 = true then (some (((t274 == t281 && (t275 == t282)) && ((t276 == t283 && (t277 == t284)) && (t278 == t285))) == true)) else (some (((t274 == t281 && (t275 == t282)) && ((t276 == t283 && (t277 == t284)) && (t278 == t285))) == x10_54))) else (some (((t274 == t281 && (t275 == t282)) && ((t276 == t283 && (t277 == t284)) && (t278 == t285))) == false))) else (some false)) = some r := H
          have A87 := Aside0.mk A870
          clear A870
          by_cases c88 : t288 = true
          · subst c88
            have H1 : (if a0_0 = a1_0 then (if x9_4 = true then (some (((t274 == t281 && (t275 == t282)) && ((t276 == t283 && (t277 == t284)) && (t278 == t285))) == true)) else (some (((t274 == t281 && (t275 == t282)) && ((t276 == t283 && (t277 == t284)) && (t278 == t285))) == x10_54))) else (some (((t274 == t281 && (t275 == t282)) && ((t276 == t283 && (t277 == t284)) && (t278 == t285))) == false))) = some r := by rw [if_pos rfl] at H; exact H
            clear H
            have H := H1
            clear H1
            by_cases c89 : a0_0 = a1_0
            · rw [if_pos c89] at H
              have c89b0 : (a0_0 == a1_0) = true := beq_iff_eq.mpr c89
              have c89b1 : (a0_0 != a1_0) = false := bne_eq_false_iff_eq.mpr c89
              clear c89
              by_cases c90 : x9_4 = true
              · subst c90
                have H1 : (some (((t274 == t281 && (t275 == t282)) && ((t276 == t283 && (t277 == t284)) && (t278 == t285))) == true)) = some r := by rw [if_pos rfl] at H; exact H
                clear H
                have H := H1
                clear H1
                obtain rfl := Option.some.inj H
                try go_wp2
                have n0_ := Aside0.mk (blk_drew BK272.out)
                have n1_ := Aside0.mk (blk_drew BK273.out)
                have n2_ := Aside0.mk (blk_drew BK280.out)
                have n3_ := Aside0.mk (blk_drew BK287.out)
                have n4_ := Aside0.mk (below_drew1 HB.out)
                clear BK272
                clear BK273
                clear BK280
                clear BK287
                clear HB
                have BK272 := n0_
                have BK273 := n1_
                have BK280 := n2_
                have BK287 := n3_
                have HB := n4_
                clear n0_ n1_ n2_ n3_ n4_
                refine start_ (n := 19) (S := fun w' => w'.cell? ⟨gb280, 0, none⟩ = some (.int .u32 t274) ∧ w'.cell? ⟨gb280, 1, none⟩ = some (.int .u32 t275) ∧ w'.cell? ⟨gb280, 2, none⟩ = some (.int .u16 t276) ∧ w'.cell? ⟨gb280, 3, none⟩ = some (.int .u16 t277) ∧ w'.cell? ⟨gb280, 4, none⟩ = some (.int .u8 t278) ∧ w'.cell? ⟨gb287, 0, none⟩ = some (.int .u32 t281) ∧ w'.cell? ⟨gb287, 1, none⟩ = some (.int .u32 t282) ∧ w'.cell? ⟨gb287, 2, none⟩ = some (.int .u16 t283) ∧ w'.cell? ⟨gb287, 3, none⟩ = some (.int .u16 t284) ∧ w'.cell? ⟨gb287, 4, none⟩ = some (.int .u8 t285) ∧ w'.cell? ⟨gb272, 0, none⟩ = some (.int .u8 a0_0) ∧ w'.cell? ⟨gb272, 1, none⟩ = some (.int .u32 a0_1) ∧ w'.cell? ⟨gb272, 2, none⟩ = some (.int .u32 a0_2) ∧ w'.cell? ⟨gb272, 3, none⟩ = some (.int .u16 a0_3) ∧ w'.cell? ⟨gb272, 4, none⟩ = some (.int .u16 a0_4) ∧ w'.cell? ⟨gb272, 5, none⟩ = some (.int .u8 a0_5) ∧ w'.cell? ⟨gb272, 6, none⟩ = some (.int .u8 a0_6) ∧ w'.cell? ⟨gb273, 0, none⟩ = some (.int .u8 a1_0) ∧ w'.cell? ⟨gb273, 1, none⟩ = some (.int .u32 a1_1) ∧ w'.cell? ⟨gb273, 2, none⟩ = some (.int .u32 a1_2) ∧ w'.cell? ⟨gb273, 3, none⟩ = some (.int .u16 a1_3) ∧ w'.cell? ⟨gb273, 4, none⟩ = some (.int .u16 a1_4) ∧ w'.cell? ⟨gb273, 5, none⟩ = some (.int .u8 a1_5) ∧ w'.cell? ⟨gb273, 6, none⟩ = some (.int .u8 a1_6)) (ds := []) #[false, false, false, false, false, false, false, false, false, false, false, false, false, false, false, false, false, false, false] (by kernel_rfl) rfl rfl ⟨(blk_cell BK280.out 0).trans rfl, (blk_cell BK280.out 1).trans rfl, (blk_cell BK280.out 2).trans rfl, (blk_cell BK280.out 3).trans rfl, (blk_cell BK280.out 4).trans rfl, (blk_cell BK287.out 0).trans rfl, (blk_cell BK287.out 1).trans rfl, (blk_cell BK287.out 2).trans rfl, (blk_cell BK287.out 3).trans rfl, (blk_cell BK287.out 4).trans rfl, (blk_cell BK272.out 0).trans rfl, (blk_cell BK272.out 1).trans rfl, (blk_cell BK272.out 2).trans rfl, (blk_cell BK272.out 3).trans rfl, (blk_cell BK272.out 4).trans rfl, (blk_cell BK272.out 5).trans rfl, (blk_cell BK272.out 6).trans rfl, (blk_cell BK273.out 0).trans rfl, (blk_cell BK273.out 1).trans rfl, (blk_cell BK273.out 2).trans rfl, (blk_cell BK273.out 3).trans rfl, (blk_cell BK273.out 4).trans rfl, (blk_cell BK273.out 5).trans rfl, (blk_cell BK273.out 6).trans rfl⟩ (fun hHeld => ?_); refine with_tabW mantletlaw10_KeySame.tab5 mantletlaw10_KeySame.bits5 (fun HT_ HW_ => ?_)
                generalize wc.drew = w91 at BK272 BK273 BK280 BK287 HB hHeld ⊢
                refine one_ (i := 0) (N := some 73) #[true, false, false, false, false, false, false, false, false, false, false, false, false, false, false, false, false, false, false] rfl rfl (one_of HT_.out (by kernel_rfl)) (by decide) (fun K hK => ?_)
                refine goes_ Try.func10 (by kernel_rfl) rfl #[] (by rfl) rfl rfl (by (try simp only [List.map_toArray, List.map_cons, List.map_nil]); first | done | rfl) ?_
                with_reducible refine (mantletlaw10_awake.calls kj54  true _ A87.out).mono ?_
                rintro e w92 ⟨rfl, hb⟩
                refine ⟨_, rfl, ?_⟩
                have n0_ := Aside0.mk (blk_below (g := gb272) (o := .cells #[.int .u8 a0_0, .int .u32 a0_1, .int .u32 a0_2, .int .u16 a0_3, .int .u16 a0_4, .int .u8 a0_5, .int .u8 a0_6] 25 (0, 0)) (by (with_reducible repeat first | apply blk_drewN | apply blk_drew | apply blk_alloc); exact BK272.out) hb)
                have n1_ := Aside0.mk (blk_below (g := gb273) (o := .cells #[.int .u8 a1_0, .int .u32 a1_1, .int .u32 a1_2, .int .u16 a1_3, .int .u16 a1_4, .int .u8 a1_5, .int .u8 a1_6] 25 (0, 0)) (by (with_reducible repeat first | apply blk_drewN | apply blk_drew | apply blk_alloc); exact BK273.out) hb)
                have n2_ := Aside0.mk (blk_below (g := gb280) (o := .cells #[.int .u32 t274, .int .u32 t275, .int .u16 t276, .int .u16 t277, .int .u8 t278] 29 (0, 0)) (by (with_reducible repeat first | apply blk_drewN | apply blk_drew | apply blk_alloc); exact BK280.out) hb)
                have n3_ := Aside0.mk (blk_below (g := gb287) (o := .cells #[.int .u32 t281, .int .u32 t282, .int .u16 t283, .int .u16 t284, .int .u8 t285] 29 (0, 0)) (by (with_reducible repeat first | apply blk_drewN | apply blk_drew | apply blk_alloc); exact BK287.out) hb)
                have n4_ := Aside0.mk (below_step (by repeat first | (with_reducible first | exact HB.out | apply below_alloc | apply pw_below_drewN | apply below_drew1 | refine below_set ?_ GE272.out | refine below_set ?_ GE273.out | refine below_set ?_ GE280.out | refine below_set ?_ GE287.out) | exact HB.out) hb)
                clear BK272
                clear BK273
                clear BK280
                clear BK287
                clear HB
                have BK272 := n0_
                have BK273 := n1_
                have BK280 := n2_
                have BK287 := n3_
                have HB := n4_
                clear n0_ n1_ n2_ n3_ n4_
                (try clear hb)
                (try clear hb2)
                (try clear hk)
                (try clear hi)
                refine hK.out _ _ ⟨(blk_cell BK280.out 0).trans rfl, (blk_cell BK280.out 1).trans rfl, (blk_cell BK280.out 2).trans rfl, (blk_cell BK280.out 3).trans rfl, (blk_cell BK280.out 4).trans rfl, (blk_cell BK287.out 0).trans rfl, (blk_cell BK287.out 1).trans rfl, (blk_cell BK287.out 2).trans rfl, (blk_cell BK287.out 3).trans rfl, (blk_cell BK287.out 4).trans rfl, (blk_cell BK272.out 0).trans rfl, (blk_cell BK272.out 1).trans rfl, (blk_cell BK272.out 2).trans rfl, (blk_cell BK272.out 3).trans rfl, (blk_cell BK272.out 4).trans rfl, (blk_cell BK272.out 5).trans rfl, (blk_cell BK272.out 6).trans rfl, (blk_cell BK273.out 0).trans rfl, (blk_cell BK273.out 1).trans rfl, (blk_cell BK273.out 2).trans rfl, (blk_cell BK273.out 3).trans rfl, (blk_cell BK273.out 4).trans rfl, (blk_cell BK273.out 5).trans rfl, (blk_cell BK273.out 6).trans rfl⟩ (fun hHeld => ?_)
                clear hK K
                refine norm_ (a' := ?_) ?_ ?_
                rotate_left
                · show Act.put _ (some 73) _ = _
                  simp only [Act.put, List.setIfInBounds_toArray, List.set_cons_zero, List.set_cons_succ, i64_w, i32_w]
                  rfl
                refine pure_ (i := 1) (N := some 74) (v := ?_) (a' := ?_) #[true, true, false, false, false, false, false, false, false, false, false, false, false, false, false, false, false, false, false] rfl rfl (any_of HT_.out (by kernel_rfl)) (fun _ _ _ h => h) (Or.inl ⟨by rfl, ?_⟩) ?_ ?_
                rotate_left
                · intro w'
                  go_simp
                  with_reducible rfl
                rotate_left
                · simp only [Act.put, List.setIfInBounds_toArray, List.set_cons_zero, List.set_cons_succ, i64_w, i32_w]
                  rfl
                refine pure_ (i := 5) (N := some 78) (v := ?_) (a' := ?_) #[true, true, false, false, false, true, false, false, false, false, false, false, false, false, false, false, false, false, false] rfl rfl (any_of HT_.out (by kernel_rfl)) (fun _ _ _ h => h) (Or.inl ⟨by rfl, ?_⟩) ?_ ?_
                rotate_left
                · intro w'
                  go_simp
                  with_reducible rfl
                rotate_left
                · simp only [Act.put, List.setIfInBounds_toArray, List.set_cons_zero, List.set_cons_succ, i64_w, i32_w]
                  rfl
                refine pure_ (i := 7) (N := some 80) (v := ?_) (a' := ?_) #[true, true, false, false, false, true, false, true, false, false, false, false, false, false, false, false, false, false, false] rfl rfl (any_of HT_.out (by kernel_rfl)) (fun _ _ _ h => h) (Or.inl ⟨by rfl, ?_⟩) ?_ ?_
                rotate_left
                · intro w'
                  go_simp
                  with_reducible rfl
                rotate_left
                · simp only [Act.put, List.setIfInBounds_toArray, List.set_cons_zero, List.set_cons_succ, i64_w, i32_w]
                  rfl
                refine take_ (i := 2) (N := some 75) (v := ?_) (a' := ?_) #[true, true, true, false, false, true, false, true, false, false, false, false, false, false, false, false, false, false, false] rfl rfl (take_ofW HT_.out HW_.out (by kernel_rfl)) (fun _ _ _ h => h) (Or.inl ⟨by rfl, ?_⟩) hHeld ?_ ?_
                rotate_left
                · rintro w' ⟨s0, s1, s2, s3, s4, s5, s6, s7, s8, s9, s10, s11, s12, s13, s14, s15, s16, s17, s18, s19, s20, s21, s22, s23⟩
                  go_simp
                  with_reducible rfl
                rotate_left
                · simp only [Act.put, List.setIfInBounds_toArray, List.set_cons_zero, List.set_cons_succ, i64_w, i32_w]
                  rfl
                refine take_ (i := 3) (N := some 76) (v := ?_) (a' := ?_) #[true, true, true, true, false, true, false, true, false, false, false, false, false, false, false, false, false, false, false] rfl rfl (take_ofW HT_.out HW_.out (by kernel_rfl)) (fun _ _ _ h => h) (Or.inl ⟨by rfl, ?_⟩) hHeld ?_ ?_
                rotate_left
                · rintro w' ⟨s0, s1, s2, s3, s4, s5, s6, s7, s8, s9, s10, s11, s12, s13, s14, s15, s16, s17, s18, s19, s20, s21, s22, s23⟩
                  go_simp
                  with_reducible rfl
                rotate_left
                · simp only [Act.put, List.setIfInBounds_toArray, List.set_cons_zero, List.set_cons_succ, i64_w, i32_w]
                  rfl
                refine pure_ (i := 4) (N := some 77) (v := ?_) (a' := ?_) #[true, true, true, true, true, true, false, true, false, false, false, false, false, false, false, false, false, false, false] rfl rfl (any_of HT_.out (by kernel_rfl)) (fun _ _ _ h => h) (Or.inl ⟨by rfl, ?_⟩) ?_ ?_
                rotate_left
                · intro w'
                  go_simp
                  with_reducible rfl
                rotate_left
                · simp only [Act.put, List.setIfInBounds_toArray, List.set_cons_zero, List.set_cons_succ, i64_w, i32_w]
                  rfl
                refine take_ (i := 6) (N := some 79) (v := ?_) (a' := ?_) #[true, true, true, true, true, true, true, true, false, false, false, false, false, false, false, false, false, false, false] rfl rfl (take_ofW HT_.out HW_.out (by kernel_rfl)) (fun _ _ _ h => h) (Or.inl ⟨by rfl, ?_⟩) hHeld ?_ ?_
                rotate_left
                · rintro w' ⟨s0, s1, s2, s3, s4, s5, s6, s7, s8, s9, s10, s11, s12, s13, s14, s15, s16, s17, s18, s19, s20, s21, s22, s23⟩
                  go_simp
                  with_reducible rfl
                rotate_left
                · simp only [Act.put, List.setIfInBounds_toArray, List.set_cons_zero, List.set_cons_succ, i64_w, i32_w]
                  rfl
                refine take_ (i := 8) (N := some 81) (v := ?_) (a' := ?_) #[true, true, true, true, true, true, true, true, true, false, false, false, false, false, false, false, false, false, false] rfl rfl (take_ofW HT_.out HW_.out (by kernel_rfl)) (fun _ _ _ h => h) (Or.inl ⟨by rfl, ?_⟩) hHeld ?_ ?_
                rotate_left
                · rintro w' ⟨s0, s1, s2, s3, s4, s5, s6, s7, s8, s9, s10, s11, s12, s13, s14, s15, s16, s17, s18, s19, s20, s21, s22, s23⟩
                  go_simp
                  with_reducible rfl
                rotate_left
                · simp only [Act.put, List.setIfInBounds_toArray, List.set_cons_zero, List.set_cons_succ, i64_w, i32_w]
                  rfl
                refine pure_ (i := 9) (N := some 82) (v := ?_) (a' := ?_) #[true, true, true, true, true, true, true, true, true, true, false, false, false, false, false, false, false, false, false] rfl rfl (any_of HT_.out (by kernel_rfl)) (fun _ _ _ h => h) (Or.inl ⟨by rfl, ?_⟩) ?_ ?_
                rotate_left
                · intro w'
                  go_simp
                  with_reducible rfl
                rotate_left
                · simp only [Act.put, List.setIfInBounds_toArray, List.set_cons_zero, List.set_cons_succ, i64_w, i32_w]
                  rfl
                refine pure_ (i := 10) (N := some 83) (v := ?_) (a' := ?_) #[true, true, true, true, true, true, true, true, true, true, true, false, false, false, false, false, false, false, false] rfl rfl (any_of HT_.out (by kernel_rfl)) (fun _ _ _ h => h) (Or.inl ⟨by rfl, ?_⟩) ?_ ?_
                rotate_left
                · intro w'
                  go_simp
                  with_reducible rfl
                rotate_left
                · simp only [Act.put, List.setIfInBounds_toArray, List.set_cons_zero, List.set_cons_succ, i64_w, i32_w]
                  rfl
                refine pure_ (i := 11) (N := some 84) (v := ?_) (a' := ?_) #[true, true, true, true, true, true, true, true, true, true, true, true, false, false, false, false, false, false, false] rfl rfl (any_of HT_.out (by kernel_rfl)) (fun _ _ _ h => h) (Or.inl ⟨by rfl, ?_⟩) ?_ ?_
                rotate_left
                · intro w'
                  go_simp
                  with_reducible rfl
                rotate_left
                · simp only [Act.put, List.setIfInBounds_toArray, List.set_cons_zero, List.set_cons_succ, i64_w, i32_w]
                  rfl
                refine pure_ (i := 12) (N := some 85) (v := ?_) (a' := ?_) #[true, true, true, true, true, true, true, true, true, true, true, true, true, false, false, false, false, false, false] rfl rfl (any_of HT_.out (by kernel_rfl)) (fun _ _ _ h => h) (Or.inl ⟨by rfl, ?_⟩) ?_ ?_
                rotate_left
                · intro w'
                  go_simp
                  with_reducible rfl
                rotate_left
                · simp only [Act.put, List.setIfInBounds_toArray, List.set_cons_zero, List.set_cons_succ, i64_w, i32_w]
                  rfl
                refine pure_ (i := 13) (N := some 86) (v := undef) (a' := ?_) #[true, true, true, true, true, true, true, true, true, true, true, true, true, true, false, false, false, false, false] rfl rfl (any_of HT_.out (by kernel_rfl)) (fun _ _ _ h => h) (Or.inr ⟨by rfl, rfl⟩) ?_ ?_
                rotate_left
                · simp only [Act.put, List.setIfInBounds_toArray, List.set_cons_zero, List.set_cons_succ, i64_w, i32_w]
                  rfl
                refine pure_ (i := 14) (N := some 87) (v := ?_) (a' := ?_) #[true, true, true, true, true, true, true, true, true, true, true, true, true, true, true, false, false, false, false] rfl rfl (any_of HT_.out (by kernel_rfl)) (fun _ _ _ h => h) (Or.inl ⟨by rfl, ?_⟩) ?_ ?_
                rotate_left
                · intro w'
                  go_simp
                  with_reducible rfl
                rotate_left
                · simp only [Act.put, List.setIfInBounds_toArray, List.set_cons_zero, List.set_cons_succ, i64_w, i32_w]
                  rfl
                refine pure_ (i := 15) (N := some 88) (v := ?_) (a' := ?_) #[true, true, true, true, true, true, true, true, true, true, true, true, true, true, true, true, false, false, false] rfl rfl (any_of HT_.out (by kernel_rfl)) (fun _ _ _ h => h) (Or.inl ⟨by rfl, ?_⟩) ?_ ?_
                rotate_left
                · intro w'
                  go_simp
                  with_reducible rfl
                rotate_left
                · simp only [Act.put, List.setIfInBounds_toArray, List.set_cons_zero, List.set_cons_succ, i64_w, i32_w]
                  rfl
                refine pure_ (i := 16) (N := some 89) (v := ?_) (a' := ?_) #[true, true, true, true, true, true, true, true, true, true, true, true, true, true, true, true, true, false, false] rfl rfl (any_of HT_.out (by kernel_rfl)) (fun _ _ _ h => h) (Or.inl ⟨by rfl, ?_⟩) ?_ ?_
                rotate_left
                · intro w'
                  go_simp
                  with_reducible rfl
                rotate_left
                · simp only [Act.put, List.setIfInBounds_toArray, List.set_cons_zero, List.set_cons_succ, i64_w, i32_w]
                  rfl
                refine pure_ (i := 17) (N := some 90) (v := ?_) (a' := ?_) #[true, true, true, true, true, true, true, true, true, true, true, true, true, true, true, true, true, true, false] rfl rfl (any_of HT_.out (by kernel_rfl)) (fun _ _ _ h => h) (Or.inl ⟨by rfl, ?_⟩) ?_ ?_
                rotate_left
                · intro w'
                  go_simp
                  with_reducible rfl
                rotate_left
                · simp only [Act.put, List.setIfInBounds_toArray, List.set_cons_zero, List.set_cons_succ, i64_w, i32_w]
                  rfl
                refine pure_ (i := 18) (N := some 4) (v := ?_) (a' := ?_) #[true, true, true, true, true, true, true, true, true, true, true, true, true, true, true, true, true, true, true] rfl rfl (any_of HT_.out (by kernel_rfl)) (fun _ _ _ h => h) (Or.inl ⟨by rfl, ?_⟩) ?_ ?_
                rotate_left
                · intro w'
                  go_simp
                  with_reducible rfl
                rotate_left
                · simp only [Act.put, List.setIfInBounds_toArray, List.set_cons_zero, List.set_cons_succ, i64_w, i32_w]
                  rfl
                refine done_ (done_of HT_.out (by kernel_rfl)) ?_
                try go_wp2
                go_ret
                exact ⟨by first | rfl | (simp [errW_none, errW_some] <;> rfl) | (simp [*, errW_none, errW_some] <;> rfl), by repeat first | (with_reducible first | exact HB.out | apply below_alloc | apply pw_below_drewN | apply below_drew1 | refine below_set ?_ GE272.out | refine below_set ?_ GE273.out | refine below_set ?_ GE280.out | refine below_set ?_ GE287.out) | exact HB.out⟩
              · replace c90 := Bool.eq_false_iff.mpr c90
                subst c90
                have H1 : (some (((t274 == t281 && (t275 == t282)) && ((t276 == t283 && (t277 == t284)) && (t278 == t285))) == x10_54)) = some r := by rw [if_neg (show ¬ (false = true) by decide)] at H; exact H
                clear H
                have H := H1
                clear H1
                obtain rfl := Option.some.inj H
                try go_wp2
                have n0_ := Aside0.mk (blk_drew BK272.out)
                have n1_ := Aside0.mk (blk_drew BK273.out)
                have n2_ := Aside0.mk (blk_drew BK280.out)
                have n3_ := Aside0.mk (blk_drew BK287.out)
                have n4_ := Aside0.mk (below_drew1 HB.out)
                clear BK272
                clear BK273
                clear BK280
                clear BK287
                clear HB
                have BK272 := n0_
                have BK273 := n1_
                have BK280 := n2_
                have BK287 := n3_
                have HB := n4_
                clear n0_ n1_ n2_ n3_ n4_
                refine start_ (n := 19) (S := fun w' => w'.cell? ⟨gb280, 0, none⟩ = some (.int .u32 t274) ∧ w'.cell? ⟨gb280, 1, none⟩ = some (.int .u32 t275) ∧ w'.cell? ⟨gb280, 2, none⟩ = some (.int .u16 t276) ∧ w'.cell? ⟨gb280, 3, none⟩ = some (.int .u16 t277) ∧ w'.cell? ⟨gb280, 4, none⟩ = some (.int .u8 t278) ∧ w'.cell? ⟨gb287, 0, none⟩ = some (.int .u32 t281) ∧ w'.cell? ⟨gb287, 1, none⟩ = some (.int .u32 t282) ∧ w'.cell? ⟨gb287, 2, none⟩ = some (.int .u16 t283) ∧ w'.cell? ⟨gb287, 3, none⟩ = some (.int .u16 t284) ∧ w'.cell? ⟨gb287, 4, none⟩ = some (.int .u8 t285) ∧ w'.cell? ⟨gb272, 0, none⟩ = some (.int .u8 a0_0) ∧ w'.cell? ⟨gb272, 1, none⟩ = some (.int .u32 a0_1) ∧ w'.cell? ⟨gb272, 2, none⟩ = some (.int .u32 a0_2) ∧ w'.cell? ⟨gb272, 3, none⟩ = some (.int .u16 a0_3) ∧ w'.cell? ⟨gb272, 4, none⟩ = some (.int .u16 a0_4) ∧ w'.cell? ⟨gb272, 5, none⟩ = some (.int .u8 a0_5) ∧ w'.cell? ⟨gb272, 6, none⟩ = some (.int .u8 a0_6) ∧ w'.cell? ⟨gb273, 0, none⟩ = some (.int .u8 a1_0) ∧ w'.cell? ⟨gb273, 1, none⟩ = some (.int .u32 a1_1) ∧ w'.cell? ⟨gb273, 2, none⟩ = some (.int .u32 a1_2) ∧ w'.cell? ⟨gb273, 3, none⟩ = some (.int .u16 a1_3) ∧ w'.cell? ⟨gb273, 4, none⟩ = some (.int .u16 a1_4) ∧ w'.cell? ⟨gb273, 5, none⟩ = some (.int .u8 a1_5) ∧ w'.cell? ⟨gb273, 6, none⟩ = some (.int .u8 a1_6)) (ds := []) #[false, false, false, false, false, false, false, false, false, false, false, false, false, false, false, false, false, false, false] (by kernel_rfl) rfl rfl ⟨(blk_cell BK280.out 0).trans rfl, (blk_cell BK280.out 1).trans rfl, (blk_cell BK280.out 2).trans rfl, (blk_cell BK280.out 3).trans rfl, (blk_cell BK280.out 4).trans rfl, (blk_cell BK287.out 0).trans rfl, (blk_cell BK287.out 1).trans rfl, (blk_cell BK287.out 2).trans rfl, (blk_cell BK287.out 3).trans rfl, (blk_cell BK287.out 4).trans rfl, (blk_cell BK272.out 0).trans rfl, (blk_cell BK272.out 1).trans rfl, (blk_cell BK272.out 2).trans rfl, (blk_cell BK272.out 3).trans rfl, (blk_cell BK272.out 4).trans rfl, (blk_cell BK272.out 5).trans rfl, (blk_cell BK272.out 6).trans rfl, (blk_cell BK273.out 0).trans rfl, (blk_cell BK273.out 1).trans rfl, (blk_cell BK273.out 2).trans rfl, (blk_cell BK273.out 3).trans rfl, (blk_cell BK273.out 4).trans rfl, (blk_cell BK273.out 5).trans rfl, (blk_cell BK273.out 6).trans rfl⟩ (fun hHeld => ?_); refine with_tabW mantletlaw10_KeySame.tab5 mantletlaw10_KeySame.bits5 (fun HT_ HW_ => ?_)
                generalize wc.drew = w93 at BK272 BK273 BK280 BK287 HB hHeld ⊢
                refine one_ (i := 0) (N := some 73) #[true, false, false, false, false, false, false, false, false, false, false, false, false, false, false, false, false, false, false] rfl rfl (one_of HT_.out (by kernel_rfl)) (by decide) (fun K hK => ?_)
                refine goes_ Try.func10 (by kernel_rfl) rfl #[] (by rfl) rfl rfl (by (try simp only [List.map_toArray, List.map_cons, List.map_nil]); first | done | rfl) ?_
                with_reducible refine (mantletlaw10_awake.calls kj54  true _ A87.out).mono ?_
                rintro e w94 ⟨rfl, hb⟩
                refine ⟨_, rfl, ?_⟩
                have n0_ := Aside0.mk (blk_below (g := gb272) (o := .cells #[.int .u8 a0_0, .int .u32 a0_1, .int .u32 a0_2, .int .u16 a0_3, .int .u16 a0_4, .int .u8 a0_5, .int .u8 a0_6] 25 (0, 0)) (by (with_reducible repeat first | apply blk_drewN | apply blk_drew | apply blk_alloc); exact BK272.out) hb)
                have n1_ := Aside0.mk (blk_below (g := gb273) (o := .cells #[.int .u8 a1_0, .int .u32 a1_1, .int .u32 a1_2, .int .u16 a1_3, .int .u16 a1_4, .int .u8 a1_5, .int .u8 a1_6] 25 (0, 0)) (by (with_reducible repeat first | apply blk_drewN | apply blk_drew | apply blk_alloc); exact BK273.out) hb)
                have n2_ := Aside0.mk (blk_below (g := gb280) (o := .cells #[.int .u32 t274, .int .u32 t275, .int .u16 t276, .int .u16 t277, .int .u8 t278] 29 (0, 0)) (by (with_reducible repeat first | apply blk_drewN | apply blk_drew | apply blk_alloc); exact BK280.out) hb)
                have n3_ := Aside0.mk (blk_below (g := gb287) (o := .cells #[.int .u32 t281, .int .u32 t282, .int .u16 t283, .int .u16 t284, .int .u8 t285] 29 (0, 0)) (by (with_reducible repeat first | apply blk_drewN | apply blk_drew | apply blk_alloc); exact BK287.out) hb)
                have n4_ := Aside0.mk (below_step (by repeat first | (with_reducible first | exact HB.out | apply below_alloc | apply pw_below_drewN | apply below_drew1 | refine below_set ?_ GE272.out | refine below_set ?_ GE273.out | refine below_set ?_ GE280.out | refine below_set ?_ GE287.out) | exact HB.out) hb)
                clear BK272
                clear BK273
                clear BK280
                clear BK287
                clear HB
                have BK272 := n0_
                have BK273 := n1_
                have BK280 := n2_
                have BK287 := n3_
                have HB := n4_
                clear n0_ n1_ n2_ n3_ n4_
                (try clear hb)
                (try clear hb2)
                (try clear hk)
                (try clear hi)
                refine hK.out _ _ ⟨(blk_cell BK280.out 0).trans rfl, (blk_cell BK280.out 1).trans rfl, (blk_cell BK280.out 2).trans rfl, (blk_cell BK280.out 3).trans rfl, (blk_cell BK280.out 4).trans rfl, (blk_cell BK287.out 0).trans rfl, (blk_cell BK287.out 1).trans rfl, (blk_cell BK287.out 2).trans rfl, (blk_cell BK287.out 3).trans rfl, (blk_cell BK287.out 4).trans rfl, (blk_cell BK272.out 0).trans rfl, (blk_cell BK272.out 1).trans rfl, (blk_cell BK272.out 2).trans rfl, (blk_cell BK272.out 3).trans rfl, (blk_cell BK272.out 4).trans rfl, (blk_cell BK272.out 5).trans rfl, (blk_cell BK272.out 6).trans rfl, (blk_cell BK273.out 0).trans rfl, (blk_cell BK273.out 1).trans rfl, (blk_cell BK273.out 2).trans rfl, (blk_cell BK273.out 3).trans rfl, (blk_cell BK273.out 4).trans rfl, (blk_cell BK273.out 5).trans rfl, (blk_cell BK273.out 6).trans rfl⟩ (fun hHeld => ?_)
                clear hK K
                refine norm_ (a' := ?_) ?_ ?_
                rotate_left
                · show Act.put _ (some 73) _ = _
                  simp only [Act.put, List.setIfInBounds_toArray, List.set_cons_zero, List.set_cons_succ, i64_w, i32_w]
                  rfl
                refine pure_ (i := 1) (N := some 74) (v := ?_) (a' := ?_) #[true, true, false, false, false, false, false, false, false, false, false, false, false, false, false, false, false, false, false] rfl rfl (any_of HT_.out (by kernel_rfl)) (fun _ _ _ h => h) (Or.inl ⟨by rfl, ?_⟩) ?_ ?_
                rotate_left
                · intro w'
                  go_simp
                  with_reducible rfl
                rotate_left
                · simp only [Act.put, List.setIfInBounds_toArray, List.set_cons_zero, List.set_cons_succ, i64_w, i32_w]
                  rfl
                refine pure_ (i := 5) (N := some 78) (v := ?_) (a' := ?_) #[true, true, false, false, false, true, false, false, false, false, false, false, false, false, false, false, false, false, false] rfl rfl (any_of HT_.out (by kernel_rfl)) (fun _ _ _ h => h) (Or.inl ⟨by rfl, ?_⟩) ?_ ?_
                rotate_left
                · intro w'
                  go_simp
                  with_reducible rfl
                rotate_left
                · simp only [Act.put, List.setIfInBounds_toArray, List.set_cons_zero, List.set_cons_succ, i64_w, i32_w]
                  rfl
                refine pure_ (i := 7) (N := some 80) (v := ?_) (a' := ?_) #[true, true, false, false, false, true, false, true, false, false, false, false, false, false, false, false, false, false, false] rfl rfl (any_of HT_.out (by kernel_rfl)) (fun _ _ _ h => h) (Or.inl ⟨by rfl, ?_⟩) ?_ ?_
                rotate_left
                · intro w'
                  go_simp
                  with_reducible rfl
                rotate_left
                · simp only [Act.put, List.setIfInBounds_toArray, List.set_cons_zero, List.set_cons_succ, i64_w, i32_w]
                  rfl
                refine take_ (i := 2) (N := some 75) (v := ?_) (a' := ?_) #[true, true, true, false, false, true, false, true, false, false, false, false, false, false, false, false, false, false, false] rfl rfl (take_ofW HT_.out HW_.out (by kernel_rfl)) (fun _ _ _ h => h) (Or.inl ⟨by rfl, ?_⟩) hHeld ?_ ?_
                rotate_left
                · rintro w' ⟨s0, s1, s2, s3, s4, s5, s6, s7, s8, s9, s10, s11, s12, s13, s14, s15, s16, s17, s18, s19, s20, s21, s22, s23⟩
                  go_simp
                  with_reducible rfl
                rotate_left
                · simp only [Act.put, List.setIfInBounds_toArray, List.set_cons_zero, List.set_cons_succ, i64_w, i32_w]
                  rfl
                refine take_ (i := 3) (N := some 76) (v := ?_) (a' := ?_) #[true, true, true, true, false, true, false, true, false, false, false, false, false, false, false, false, false, false, false] rfl rfl (take_ofW HT_.out HW_.out (by kernel_rfl)) (fun _ _ _ h => h) (Or.inl ⟨by rfl, ?_⟩) hHeld ?_ ?_
                rotate_left
                · rintro w' ⟨s0, s1, s2, s3, s4, s5, s6, s7, s8, s9, s10, s11, s12, s13, s14, s15, s16, s17, s18, s19, s20, s21, s22, s23⟩
                  go_simp
                  with_reducible rfl
                rotate_left
                · simp only [Act.put, List.setIfInBounds_toArray, List.set_cons_zero, List.set_cons_succ, i64_w, i32_w]
                  rfl
                refine pure_ (i := 4) (N := some 77) (v := ?_) (a' := ?_) #[true, true, true, true, true, true, false, true, false, false, false, false, false, false, false, false, false, false, false] rfl rfl (any_of HT_.out (by kernel_rfl)) (fun _ _ _ h => h) (Or.inl ⟨by rfl, ?_⟩) ?_ ?_
                rotate_left
                · intro w'
                  go_simp
                  with_reducible rfl
                rotate_left
                · simp only [Act.put, List.setIfInBounds_toArray, List.set_cons_zero, List.set_cons_succ, i64_w, i32_w]
                  rfl
                refine take_ (i := 6) (N := some 79) (v := ?_) (a' := ?_) #[true, true, true, true, true, true, true, true, false, false, false, false, false, false, false, false, false, false, false] rfl rfl (take_ofW HT_.out HW_.out (by kernel_rfl)) (fun _ _ _ h => h) (Or.inl ⟨by rfl, ?_⟩) hHeld ?_ ?_
                rotate_left
                · rintro w' ⟨s0, s1, s2, s3, s4, s5, s6, s7, s8, s9, s10, s11, s12, s13, s14, s15, s16, s17, s18, s19, s20, s21, s22, s23⟩
                  go_simp
                  with_reducible rfl
                rotate_left
                · simp only [Act.put, List.setIfInBounds_toArray, List.set_cons_zero, List.set_cons_succ, i64_w, i32_w]
                  rfl
                refine take_ (i := 8) (N := some 81) (v := ?_) (a' := ?_) #[true, true, true, true, true, true, true, true, true, false, false, false, false, false, false, false, false, false, false] rfl rfl (take_ofW HT_.out HW_.out (by kernel_rfl)) (fun _ _ _ h => h) (Or.inl ⟨by rfl, ?_⟩) hHeld ?_ ?_
                rotate_left
                · rintro w' ⟨s0, s1, s2, s3, s4, s5, s6, s7, s8, s9, s10, s11, s12, s13, s14, s15, s16, s17, s18, s19, s20, s21, s22, s23⟩
                  go_simp
                  with_reducible rfl
                rotate_left
                · simp only [Act.put, List.setIfInBounds_toArray, List.set_cons_zero, List.set_cons_succ, i64_w, i32_w]
                  rfl
                refine pure_ (i := 9) (N := some 82) (v := ?_) (a' := ?_) #[true, true, true, true, true, true, true, true, true, true, false, false, false, false, false, false, false, false, false] rfl rfl (any_of HT_.out (by kernel_rfl)) (fun _ _ _ h => h) (Or.inl ⟨by rfl, ?_⟩) ?_ ?_
                rotate_left
                · intro w'
                  go_simp
                  with_reducible rfl
                rotate_left
                · simp only [Act.put, List.setIfInBounds_toArray, List.set_cons_zero, List.set_cons_succ, i64_w, i32_w]
                  rfl
                refine pure_ (i := 10) (N := some 83) (v := ?_) (a' := ?_) #[true, true, true, true, true, true, true, true, true, true, true, false, false, false, false, false, false, false, false] rfl rfl (any_of HT_.out (by kernel_rfl)) (fun _ _ _ h => h) (Or.inl ⟨by rfl, ?_⟩) ?_ ?_
                rotate_left
                · intro w'
                  go_simp
                  with_reducible rfl
                rotate_left
                · simp only [Act.put, List.setIfInBounds_toArray, List.set_cons_zero, List.set_cons_succ, i64_w, i32_w]
                  rfl
                refine pure_ (i := 11) (N := some 84) (v := ?_) (a' := ?_) #[true, true, true, true, true, true, true, true, true, true, true, true, false, false, false, false, false, false, false] rfl rfl (any_of HT_.out (by kernel_rfl)) (fun _ _ _ h => h) (Or.inl ⟨by rfl, ?_⟩) ?_ ?_
                rotate_left
                · intro w'
                  go_simp
                  with_reducible rfl
                rotate_left
                · simp only [Act.put, List.setIfInBounds_toArray, List.set_cons_zero, List.set_cons_succ, i64_w, i32_w]
                  rfl
                refine pure_ (i := 12) (N := some 85) (v := ?_) (a' := ?_) #[true, true, true, true, true, true, true, true, true, true, true, true, true, false, false, false, false, false, false] rfl rfl (any_of HT_.out (by kernel_rfl)) (fun _ _ _ h => h) (Or.inl ⟨by rfl, ?_⟩) ?_ ?_
                rotate_left
                · intro w'
                  go_simp
                  with_reducible rfl
                rotate_left
                · simp only [Act.put, List.setIfInBounds_toArray, List.set_cons_zero, List.set_cons_succ, i64_w, i32_w]
                  rfl
                refine pure_ (i := 13) (N := some 86) (v := ?_) (a' := ?_) #[true, true, true, true, true, true, true, true, true, true, true, true, true, true, false, false, false, false, false] rfl rfl (any_of HT_.out (by kernel_rfl)) (fun _ _ _ h => h) (Or.inl ⟨by rfl, ?_⟩) ?_ ?_
                rotate_left
                · intro w'
                  go_simp
                  with_reducible rfl
                rotate_left
                · simp only [Act.put, List.setIfInBounds_toArray, List.set_cons_zero, List.set_cons_succ, i64_w, i32_w]
                  rfl
                refine pure_ (i := 14) (N := some 87) (v := ?_) (a' := ?_) #[true, true, true, true, true, true, true, true, true, true, true, true, true, true, true, false, false, false, false] rfl rfl (any_of HT_.out (by kernel_rfl)) (fun _ _ _ h => h) (Or.inl ⟨by rfl, ?_⟩) ?_ ?_
                rotate_left
                · intro w'
                  go_simp
                  with_reducible rfl
                rotate_left
                · simp only [Act.put, List.setIfInBounds_toArray, List.set_cons_zero, List.set_cons_succ, i64_w, i32_w]
                  rfl
                refine pure_ (i := 15) (N := some 88) (v := ?_) (a' := ?_) #[true, true, true, true, true, true, true, true, true, true, true, true, true, true, true, true, false, false, false] rfl rfl (any_of HT_.out (by kernel_rfl)) (fun _ _ _ h => h) (Or.inl ⟨by rfl, ?_⟩) ?_ ?_
                rotate_left
                · intro w'
                  go_simp
                  with_reducible rfl
                rotate_left
                · simp only [Act.put, List.setIfInBounds_toArray, List.set_cons_zero, List.set_cons_succ, i64_w, i32_w]
                  rfl
                refine pure_ (i := 16) (N := some 89) (v := ?_) (a' := ?_) #[true, true, true, true, true, true, true, true, true, true, true, true, true, true, true, true, true, false, false] rfl rfl (any_of HT_.out (by kernel_rfl)) (fun _ _ _ h => h) (Or.inl ⟨by rfl, ?_⟩) ?_ ?_
                rotate_left
                · intro w'
                  go_simp
                  with_reducible rfl
                rotate_left
                · simp only [Act.put, List.setIfInBounds_toArray, List.set_cons_zero, List.set_cons_succ, i64_w, i32_w]
                  rfl
                refine pure_ (i := 17) (N := some 90) (v := ?_) (a' := ?_) #[true, true, true, true, true, true, true, true, true, true, true, true, true, true, true, true, true, true, false] rfl rfl (any_of HT_.out (by kernel_rfl)) (fun _ _ _ h => h) (Or.inl ⟨by rfl, ?_⟩) ?_ ?_
                rotate_left
                · intro w'
                  go_simp
                  with_reducible rfl
                rotate_left
                · simp only [Act.put, List.setIfInBounds_toArray, List.set_cons_zero, List.set_cons_succ, i64_w, i32_w]
                  rfl
                refine pure_ (i := 18) (N := some 4) (v := ?_) (a' := ?_) #[true, true, true, true, true, true, true, true, true, true, true, true, true, true, true, true, true, true, true] rfl rfl (any_of HT_.out (by kernel_rfl)) (fun _ _ _ h => h) (Or.inl ⟨by rfl, ?_⟩) ?_ ?_
                rotate_left
                · intro w'
                  go_simp
                  with_reducible rfl
                rotate_left
                · simp only [Act.put, List.setIfInBounds_toArray, List.set_cons_zero, List.set_cons_succ, i64_w, i32_w]
                  rfl
                refine done_ (done_of HT_.out (by kernel_rfl)) ?_
                try go_wp2
                go_ret
                exact ⟨by first | rfl | (simp [errW_none, errW_some] <;> rfl) | (simp [*, errW_none, errW_some] <;> rfl), by repeat first | (with_reducible first | exact HB.out | apply below_alloc | apply pw_below_drewN | apply below_drew1 | refine below_set ?_ GE272.out | refine below_set ?_ GE273.out | refine below_set ?_ GE280.out | refine below_set ?_ GE287.out) | exact HB.out⟩
            · rw [if_neg c89] at H
              have c89b0 : (a0_0 == a1_0) = false := beq_eq_false_iff_ne.mpr c89
              have c89b1 : (a0_0 != a1_0) = true := bne_iff_ne.mpr c89
              obtain rfl := Option.some.inj H
              try go_wp2
              have n0_ := Aside0.mk (blk_drew BK272.out)
              have n1_ := Aside0.mk (blk_drew BK273.out)
              have n2_ := Aside0.mk (blk_drew BK280.out)
              have n3_ := Aside0.mk (blk_drew BK287.out)
              have n4_ := Aside0.mk (below_drew1 HB.out)
              clear BK272
              clear BK273
              clear BK280
              clear BK287
              clear HB
              have BK272 := n0_
              have BK273 := n1_
              have BK280 := n2_
              have BK287 := n3_
              have HB := n4_
              clear n0_ n1_ n2_ n3_ n4_
              refine start_ (n := 19) (S := fun w' => w'.cell? ⟨gb280, 0, none⟩ = some (.int .u32 t274) ∧ w'.cell? ⟨gb280, 1, none⟩ = some (.int .u32 t275) ∧ w'.cell? ⟨gb280, 2, none⟩ = some (.int .u16 t276) ∧ w'.cell? ⟨gb280, 3, none⟩ = some (.int .u16 t277) ∧ w'.cell? ⟨gb280, 4, none⟩ = some (.int .u8 t278) ∧ w'.cell? ⟨gb287, 0, none⟩ = some (.int .u32 t281) ∧ w'.cell? ⟨gb287, 1, none⟩ = some (.int .u32 t282) ∧ w'.cell? ⟨gb287, 2, none⟩ = some (.int .u16 t283) ∧ w'.cell? ⟨gb287, 3, none⟩ = some (.int .u16 t284) ∧ w'.cell? ⟨gb287, 4, none⟩ = some (.int .u8 t285) ∧ w'.cell? ⟨gb272, 0, none⟩ = some (.int .u8 a0_0) ∧ w'.cell? ⟨gb272, 1, none⟩ = some (.int .u32 a0_1) ∧ w'.cell? ⟨gb272, 2, none⟩ = some (.int .u32 a0_2) ∧ w'.cell? ⟨gb272, 3, none⟩ = some (.int .u16 a0_3) ∧ w'.cell? ⟨gb272, 4, none⟩ = some (.int .u16 a0_4) ∧ w'.cell? ⟨gb272, 5, none⟩ = some (.int .u8 a0_5) ∧ w'.cell? ⟨gb272, 6, none⟩ = some (.int .u8 a0_6) ∧ w'.cell? ⟨gb273, 0, none⟩ = some (.int .u8 a1_0) ∧ w'.cell? ⟨gb273, 1, none⟩ = some (.int .u32 a1_1) ∧ w'.cell? ⟨gb273, 2, none⟩ = some (.int .u32 a1_2) ∧ w'.cell? ⟨gb273, 3, none⟩ = some (.int .u16 a1_3) ∧ w'.cell? ⟨gb273, 4, none⟩ = some (.int .u16 a1_4) ∧ w'.cell? ⟨gb273, 5, none⟩ = some (.int .u8 a1_5) ∧ w'.cell? ⟨gb273, 6, none⟩ = some (.int .u8 a1_6)) (ds := []) #[false, false, false, false, false, false, false, false, false, false, false, false, false, false, false, false, false, false, false] (by kernel_rfl) rfl rfl ⟨(blk_cell BK280.out 0).trans rfl, (blk_cell BK280.out 1).trans rfl, (blk_cell BK280.out 2).trans rfl, (blk_cell BK280.out 3).trans rfl, (blk_cell BK280.out 4).trans rfl, (blk_cell BK287.out 0).trans rfl, (blk_cell BK287.out 1).trans rfl, (blk_cell BK287.out 2).trans rfl, (blk_cell BK287.out 3).trans rfl, (blk_cell BK287.out 4).trans rfl, (blk_cell BK272.out 0).trans rfl, (blk_cell BK272.out 1).trans rfl, (blk_cell BK272.out 2).trans rfl, (blk_cell BK272.out 3).trans rfl, (blk_cell BK272.out 4).trans rfl, (blk_cell BK272.out 5).trans rfl, (blk_cell BK272.out 6).trans rfl, (blk_cell BK273.out 0).trans rfl, (blk_cell BK273.out 1).trans rfl, (blk_cell BK273.out 2).trans rfl, (blk_cell BK273.out 3).trans rfl, (blk_cell BK273.out 4).trans rfl, (blk_cell BK273.out 5).trans rfl, (blk_cell BK273.out 6).trans rfl⟩ (fun hHeld => ?_); refine with_tabW mantletlaw10_KeySame.tab5 mantletlaw10_KeySame.bits5 (fun HT_ HW_ => ?_)
              generalize wc.drew = w95 at BK272 BK273 BK280 BK287 HB hHeld ⊢
              refine one_ (i := 0) (N := some 73) #[true, false, false, false, false, false, false, false, false, false, false, false, false, false, false, false, false, false, false] rfl rfl (one_of HT_.out (by kernel_rfl)) (by decide) (fun K hK => ?_)
              refine goes_ Try.func10 (by kernel_rfl) rfl #[] (by rfl) rfl rfl (by (try simp only [List.map_toArray, List.map_cons, List.map_nil]); first | done | rfl) ?_
              with_reducible refine (mantletlaw10_awake.calls kj54  true _ A87.out).mono ?_
              rintro e w96 ⟨rfl, hb⟩
              refine ⟨_, rfl, ?_⟩
              have n0_ := Aside0.mk (blk_below (g := gb272) (o := .cells #[.int .u8 a0_0, .int .u32 a0_1, .int .u32 a0_2, .int .u16 a0_3, .int .u16 a0_4, .int .u8 a0_5, .int .u8 a0_6] 25 (0, 0)) (by (with_reducible repeat first | apply blk_drewN | apply blk_drew | apply blk_alloc); exact BK272.out) hb)
              have n1_ := Aside0.mk (blk_below (g := gb273) (o := .cells #[.int .u8 a1_0, .int .u32 a1_1, .int .u32 a1_2, .int .u16 a1_3, .int .u16 a1_4, .int .u8 a1_5, .int .u8 a1_6] 25 (0, 0)) (by (with_reducible repeat first | apply blk_drewN | apply blk_drew | apply blk_alloc); exact BK273.out) hb)
              have n2_ := Aside0.mk (blk_below (g := gb280) (o := .cells #[.int .u32 t274, .int .u32 t275, .int .u16 t276, .int .u16 t277, .int .u8 t278] 29 (0, 0)) (by (with_reducible repeat first | apply blk_drewN | apply blk_drew | apply blk_alloc); exact BK280.out) hb)
              have n3_ := Aside0.mk (blk_below (g := gb287) (o := .cells #[.int .u32 t281, .int .u32 t282, .int .u16 t283, .int .u16 t284, .int .u8 t285] 29 (0, 0)) (by (with_reducible repeat first | apply blk_drewN | apply blk_drew | apply blk_alloc); exact BK287.out) hb)
              have n4_ := Aside0.mk (below_step (by repeat first | (with_reducible first | exact HB.out | apply below_alloc | apply pw_below_drewN | apply below_drew1 | refine below_set ?_ GE272.out | refine below_set ?_ GE273.out | refine below_set ?_ GE280.out | refine below_set ?_ GE287.out) | exact HB.out) hb)
              clear BK272
              clear BK273
              clear BK280
              clear BK287
              clear HB
              have BK272 := n0_
              have BK273 := n1_
              have BK280 := n2_
              have BK287 := n3_
              have HB := n4_
              clear n0_ n1_ n2_ n3_ n4_
              (try clear hb)
              (try clear hb2)
              (try clear hk)
              (try clear hi)
              refine hK.out _ _ ⟨(blk_cell BK280.out 0).trans rfl, (blk_cell BK280.out 1).trans rfl, (blk_cell BK280.out 2).trans rfl, (blk_cell BK280.out 3).trans rfl, (blk_cell BK280.out 4).trans rfl, (blk_cell BK287.out 0).trans rfl, (blk_cell BK287.out 1).trans rfl, (blk_cell BK287.out 2).trans rfl, (blk_cell BK287.out 3).trans rfl, (blk_cell BK287.out 4).trans rfl, (blk_cell BK272.out 0).trans rfl, (blk_cell BK272.out 1).trans rfl, (blk_cell BK272.out 2).trans rfl, (blk_cell BK272.out 3).trans rfl, (blk_cell BK272.out 4).trans rfl, (blk_cell BK272.out 5).trans rfl, (blk_cell BK272.out 6).trans rfl, (blk_cell BK273.out 0).trans rfl, (blk_cell BK273.out 1).trans rfl, (blk_cell BK273.out 2).trans rfl, (blk_cell BK273.out 3).trans rfl, (blk_cell BK273.out 4).trans rfl, (blk_cell BK273.out 5).trans rfl, (blk_cell BK273.out 6).trans rfl⟩ (fun hHeld => ?_)
              clear hK K
              refine norm_ (a' := ?_) ?_ ?_
              rotate_left
              · show Act.put _ (some 73) _ = _
                simp only [Act.put, List.setIfInBounds_toArray, List.set_cons_zero, List.set_cons_succ, i64_w, i32_w]
                rfl
              refine pure_ (i := 1) (N := some 74) (v := ?_) (a' := ?_) #[true, true, false, false, false, false, false, false, false, false, false, false, false, false, false, false, false, false, false] rfl rfl (any_of HT_.out (by kernel_rfl)) (fun _ _ _ h => h) (Or.inl ⟨by rfl, ?_⟩) ?_ ?_
              rotate_left
              · intro w'
                go_simp
                with_reducible rfl
              rotate_left
              · simp only [Act.put, List.setIfInBounds_toArray, List.set_cons_zero, List.set_cons_succ, i64_w, i32_w]
                rfl
              refine pure_ (i := 5) (N := some 78) (v := ?_) (a' := ?_) #[true, true, false, false, false, true, false, false, false, false, false, false, false, false, false, false, false, false, false] rfl rfl (any_of HT_.out (by kernel_rfl)) (fun _ _ _ h => h) (Or.inl ⟨by rfl, ?_⟩) ?_ ?_
              rotate_left
              · intro w'
                go_simp
                with_reducible rfl
              rotate_left
              · simp only [Act.put, List.setIfInBounds_toArray, List.set_cons_zero, List.set_cons_succ, i64_w, i32_w]
                rfl
              refine pure_ (i := 7) (N := some 80) (v := ?_) (a' := ?_) #[true, true, false, false, false, true, false, true, false, false, false, false, false, false, false, false, false, false, false] rfl rfl (any_of HT_.out (by kernel_rfl)) (fun _ _ _ h => h) (Or.inl ⟨by rfl, ?_⟩) ?_ ?_
              rotate_left
              · intro w'
                go_simp
                with_reducible rfl
              rotate_left
              · simp only [Act.put, List.setIfInBounds_toArray, List.set_cons_zero, List.set_cons_succ, i64_w, i32_w]
                rfl
              refine take_ (i := 2) (N := some 75) (v := ?_) (a' := ?_) #[true, true, true, false, false, true, false, true, false, false, false, false, false, false, false, false, false, false, false] rfl rfl (take_ofW HT_.out HW_.out (by kernel_rfl)) (fun _ _ _ h => h) (Or.inl ⟨by rfl, ?_⟩) hHeld ?_ ?_
              rotate_left
              · rintro w' ⟨s0, s1, s2, s3, s4, s5, s6, s7, s8, s9, s10, s11, s12, s13, s14, s15, s16, s17, s18, s19, s20, s21, s22, s23⟩
                go_simp
                with_reducible rfl
              rotate_left
              · simp only [Act.put, List.setIfInBounds_toArray, List.set_cons_zero, List.set_cons_succ, i64_w, i32_w]
                rfl
              refine take_ (i := 3) (N := some 76) (v := ?_) (a' := ?_) #[true, true, true, true, false, true, false, true, false, false, false, false, false, false, false, false, false, false, false] rfl rfl (take_ofW HT_.out HW_.out (by kernel_rfl)) (fun _ _ _ h => h) (Or.inl ⟨by rfl, ?_⟩) hHeld ?_ ?_
              rotate_left
              · rintro w' ⟨s0, s1, s2, s3, s4, s5, s6, s7, s8, s9, s10, s11, s12, s13, s14, s15, s16, s17, s18, s19, s20, s21, s22, s23⟩
                go_simp
                with_reducible rfl
              rotate_left
              · simp only [Act.put, List.setIfInBounds_toArray, List.set_cons_zero, List.set_cons_succ, i64_w, i32_w]
                rfl
              refine pure_ (i := 4) (N := some 77) (v := ?_) (a' := ?_) #[true, true, true, true, true, true, false, true, false, false, false, false, false, false, false, false, false, false, false] rfl rfl (any_of HT_.out (by kernel_rfl)) (fun _ _ _ h => h) (Or.inl ⟨by rfl, ?_⟩) ?_ ?_
              rotate_left
              · intro w'
                go_simp
                with_reducible rfl
              rotate_left
              · simp only [Act.put, List.setIfInBounds_toArray, List.set_cons_zero, List.set_cons_succ, i64_w, i32_w]
                rfl
              refine take_ (i := 6) (N := some 79) (v := ?_) (a' := ?_) #[true, true, true, true, true, true, true, true, false, false, false, false, false, false, false, false, false, false, false] rfl rfl (take_ofW HT_.out HW_.out (by kernel_rfl)) (fun _ _ _ h => h) (Or.inl ⟨by rfl, ?_⟩) hHeld ?_ ?_
              rotate_left
              · rintro w' ⟨s0, s1, s2, s3, s4, s5, s6, s7, s8, s9, s10, s11, s12, s13, s14, s15, s16, s17, s18, s19, s20, s21, s22, s23⟩
                go_simp
                with_reducible rfl
              rotate_left
              · simp only [Act.put, List.setIfInBounds_toArray, List.set_cons_zero, List.set_cons_succ, i64_w, i32_w]
                rfl
              refine take_ (i := 8) (N := some 81) (v := ?_) (a' := ?_) #[true, true, true, true, true, true, true, true, true, false, false, false, false, false, false, false, false, false, false] rfl rfl (take_ofW HT_.out HW_.out (by kernel_rfl)) (fun _ _ _ h => h) (Or.inl ⟨by rfl, ?_⟩) hHeld ?_ ?_
              rotate_left
              · rintro w' ⟨s0, s1, s2, s3, s4, s5, s6, s7, s8, s9, s10, s11, s12, s13, s14, s15, s16, s17, s18, s19, s20, s21, s22, s23⟩
                go_simp
                with_reducible rfl
              rotate_left
              · simp only [Act.put, List.setIfInBounds_toArray, List.set_cons_zero, List.set_cons_succ, i64_w, i32_w]
                rfl
              refine pure_ (i := 9) (N := some 82) (v := ?_) (a' := ?_) #[true, true, true, true, true, true, true, true, true, true, false, false, false, false, false, false, false, false, false] rfl rfl (any_of HT_.out (by kernel_rfl)) (fun _ _ _ h => h) (Or.inl ⟨by rfl, ?_⟩) ?_ ?_
              rotate_left
              · intro w'
                go_simp
                with_reducible rfl
              rotate_left
              · simp only [Act.put, List.setIfInBounds_toArray, List.set_cons_zero, List.set_cons_succ, i64_w, i32_w]
                rfl
              refine pure_ (i := 10) (N := some 83) (v := ?_) (a' := ?_) #[true, true, true, true, true, true, true, true, true, true, true, false, false, false, false, false, false, false, false] rfl rfl (any_of HT_.out (by kernel_rfl)) (fun _ _ _ h => h) (Or.inl ⟨by rfl, ?_⟩) ?_ ?_
              rotate_left
              · intro w'
                go_simp
                with_reducible rfl
              rotate_left
              · simp only [Act.put, List.setIfInBounds_toArray, List.set_cons_zero, List.set_cons_succ, i64_w, i32_w]
                rfl
              refine pure_ (i := 11) (N := some 84) (v := undef) (a' := ?_) #[true, true, true, true, true, true, true, true, true, true, true, true, false, false, false, false, false, false, false] rfl rfl (any_of HT_.out (by kernel_rfl)) (fun _ _ _ h => h) (Or.inr ⟨by rfl, rfl⟩) ?_ ?_
              rotate_left
              · simp only [Act.put, List.setIfInBounds_toArray, List.set_cons_zero, List.set_cons_succ, i64_w, i32_w]
                rfl
              refine pure_ (i := 12) (N := some 85) (v := undef) (a' := ?_) #[true, true, true, true, true, true, true, true, true, true, true, true, true, false, false, false, false, false, false] rfl rfl (any_of HT_.out (by kernel_rfl)) (fun _ _ _ h => h) (Or.inr ⟨by rfl, rfl⟩) ?_ ?_
              rotate_left
              · simp only [Act.put, List.setIfInBounds_toArray, List.set_cons_zero, List.set_cons_succ, i64_w, i32_w]
                rfl
              refine pure_ (i := 13) (N := some 86) (v := undef) (a' := ?_) #[true, true, true, true, true, true, true, true, true, true, true, true, true, true, false, false, false, false, false] rfl rfl (any_of HT_.out (by kernel_rfl)) (fun _ _ _ h => h) (Or.inr ⟨by rfl, rfl⟩) ?_ ?_
              rotate_left
              · simp only [Act.put, List.setIfInBounds_toArray, List.set_cons_zero, List.set_cons_succ, i64_w, i32_w]
                rfl
              refine pure_ (i := 14) (N := some 87) (v := undef) (a' := ?_) #[true, true, true, true, true, true, true, true, true, true, true, true, true, true, true, false, false, false, false] rfl rfl (any_of HT_.out (by kernel_rfl)) (fun _ _ _ h => h) (Or.inr ⟨by rfl, rfl⟩) ?_ ?_
              rotate_left
              · simp only [Act.put, List.setIfInBounds_toArray, List.set_cons_zero, List.set_cons_succ, i64_w, i32_w]
                rfl
              refine pure_ (i := 15) (N := some 88) (v := ?_) (a' := ?_) #[true, true, true, true, true, true, true, true, true, true, true, true, true, true, true, true, false, false, false] rfl rfl (any_of HT_.out (by kernel_rfl)) (fun _ _ _ h => h) (Or.inl ⟨by rfl, ?_⟩) ?_ ?_
              rotate_left
              · intro w'
                go_simp
                with_reducible rfl
              rotate_left
              · simp only [Act.put, List.setIfInBounds_toArray, List.set_cons_zero, List.set_cons_succ, i64_w, i32_w]
                rfl
              refine pure_ (i := 16) (N := some 89) (v := ?_) (a' := ?_) #[true, true, true, true, true, true, true, true, true, true, true, true, true, true, true, true, true, false, false] rfl rfl (any_of HT_.out (by kernel_rfl)) (fun _ _ _ h => h) (Or.inl ⟨by rfl, ?_⟩) ?_ ?_
              rotate_left
              · intro w'
                go_simp
                with_reducible rfl
              rotate_left
              · simp only [Act.put, List.setIfInBounds_toArray, List.set_cons_zero, List.set_cons_succ, i64_w, i32_w]
                rfl
              refine pure_ (i := 17) (N := some 90) (v := ?_) (a' := ?_) #[true, true, true, true, true, true, true, true, true, true, true, true, true, true, true, true, true, true, false] rfl rfl (any_of HT_.out (by kernel_rfl)) (fun _ _ _ h => h) (Or.inl ⟨by rfl, ?_⟩) ?_ ?_
              rotate_left
              · intro w'
                go_simp
                with_reducible rfl
              rotate_left
              · simp only [Act.put, List.setIfInBounds_toArray, List.set_cons_zero, List.set_cons_succ, i64_w, i32_w]
                rfl
              refine pure_ (i := 18) (N := some 4) (v := ?_) (a' := ?_) #[true, true, true, true, true, true, true, true, true, true, true, true, true, true, true, true, true, true, true] rfl rfl (any_of HT_.out (by kernel_rfl)) (fun _ _ _ h => h) (Or.inl ⟨by rfl, ?_⟩) ?_ ?_
              rotate_left
              · intro w'
                go_simp
                with_reducible rfl
              rotate_left
              · simp only [Act.put, List.setIfInBounds_toArray, List.set_cons_zero, List.set_cons_succ, i64_w, i32_w]
                rfl
              refine done_ (done_of HT_.out (by kernel_rfl)) ?_
              try go_wp2
              go_ret
              exact ⟨by first | rfl | (simp [errW_none, errW_some] <;> rfl) | (simp [*, errW_none, errW_some] <;> rfl), by repeat first | (with_reducible first | exact HB.out | apply below_alloc | apply pw_below_drewN | apply below_drew1 | refine below_set ?_ GE272.out | refine below_set ?_ GE273.out | refine below_set ?_ GE280.out | refine below_set ?_ GE287.out) | exact HB.out⟩
          · replace c88 := Bool.eq_false_iff.mpr c88
            subst c88
            have H1 : (some false) = some r := by rw [if_neg (show ¬ (false = true) by decide)] at H; exact H
            clear H
            have H := H1
            clear H1
            obtain rfl := Option.some.inj H
            try go_wp2
            have n0_ := Aside0.mk (blk_drew BK272.out)
            have n1_ := Aside0.mk (blk_drew BK273.out)
            have n2_ := Aside0.mk (blk_drew BK280.out)
            have n3_ := Aside0.mk (blk_drew BK287.out)
            have n4_ := Aside0.mk (below_drew1 HB.out)
            clear BK272
            clear BK273
            clear BK280
            clear BK287
            clear HB
            have BK272 := n0_
            have BK273 := n1_
            have BK280 := n2_
            have BK287 := n3_
            have HB := n4_
            clear n0_ n1_ n2_ n3_ n4_
            refine start_ (n := 19) (S := fun w' => True) (ds := []) #[false, false, false, false, false, false, false, false, false, false, false, false, false, false, false, false, false, false, false] (by kernel_rfl) rfl rfl trivial (fun hHeld => ?_); refine with_tabW mantletlaw10_KeySame.tab5 mantletlaw10_KeySame.bits5 (fun HT_ HW_ => ?_)
            generalize wc.drew = w97 at BK272 BK273 BK280 BK287 HB hHeld ⊢
            refine one_ (i := 0) (N := some 73) #[true, false, false, false, false, false, false, false, false, false, false, false, false, false, false, false, false, false, false] rfl rfl (one_of HT_.out (by kernel_rfl)) (by decide) (fun K hK => ?_)
            refine goes_ Try.func10 (by kernel_rfl) rfl #[] (by rfl) rfl rfl (by (try simp only [List.map_toArray, List.map_cons, List.map_nil]); first | done | rfl) ?_
            with_reducible refine (mantletlaw10_awake.calls kj54  false _ A87.out).mono ?_
            rintro e w98 ⟨rfl, hb⟩
            refine ⟨_, rfl, ?_⟩
            have n0_ := Aside0.mk (blk_below (g := gb272) (o := .cells #[.int .u8 a0_0, .int .u32 a0_1, .int .u32 a0_2, .int .u16 a0_3, .int .u16 a0_4, .int .u8 a0_5, .int .u8 a0_6] 25 (0, 0)) (by (with_reducible repeat first | apply blk_drewN | apply blk_drew | apply blk_alloc); exact BK272.out) hb)
            have n1_ := Aside0.mk (blk_below (g := gb273) (o := .cells #[.int .u8 a1_0, .int .u32 a1_1, .int .u32 a1_2, .int .u16 a1_3, .int .u16 a1_4, .int .u8 a1_5, .int .u8 a1_6] 25 (0, 0)) (by (with_reducible repeat first | apply blk_drewN | apply blk_drew | apply blk_alloc); exact BK273.out) hb)
            have n2_ := Aside0.mk (blk_below (g := gb280) (o := .cells #[.int .u32 t274, .int .u32 t275, .int .u16 t276, .int .u16 t277, .int .u8 t278] 29 (0, 0)) (by (with_reducible repeat first | apply blk_drewN | apply blk_drew | apply blk_alloc); exact BK280.out) hb)
            have n3_ := Aside0.mk (blk_below (g := gb287) (o := .cells #[.int .u32 t281, .int .u32 t282, .int .u16 t283, .int .u16 t284, .int .u8 t285] 29 (0, 0)) (by (with_reducible repeat first | apply blk_drewN | apply blk_drew | apply blk_alloc); exact BK287.out) hb)
            have n4_ := Aside0.mk (below_step (by repeat first | (with_reducible first | exact HB.out | apply below_alloc | apply pw_below_drewN | apply below_drew1 | refine below_set ?_ GE272.out | refine below_set ?_ GE273.out | refine below_set ?_ GE280.out | refine below_set ?_ GE287.out) | exact HB.out) hb)
            clear BK272
            clear BK273
            clear BK280
            clear BK287
            clear HB
            have BK272 := n0_
            have BK273 := n1_
            have BK280 := n2_
            have BK287 := n3_
            have HB := n4_
            clear n0_ n1_ n2_ n3_ n4_
            (try clear hb)
            (try clear hb2)
            (try clear hk)
            (try clear hi)
            refine hK.out _ _ trivial (fun hHeld => ?_)
            clear hK K
            refine norm_ (a' := ?_) ?_ ?_
            rotate_left
            · show Act.put _ (some 73) _ = _
              simp only [Act.put, List.setIfInBounds_toArray, List.set_cons_zero, List.set_cons_succ, i64_w, i32_w]
              rfl
            refine pure_ (i := 1) (N := some 74) (v := ?_) (a' := ?_) #[true, true, false, false, false, false, false, false, false, false, false, false, false, false, false, false, false, false, false] rfl rfl (any_of HT_.out (by kernel_rfl)) (fun _ _ _ h => h) (Or.inl ⟨by rfl, ?_⟩) ?_ ?_
            rotate_left
            · intro w'
              go_simp
              with_reducible rfl
            rotate_left
            · simp only [Act.put, List.setIfInBounds_toArray, List.set_cons_zero, List.set_cons_succ, i64_w, i32_w]
              rfl
            refine pure_ (i := 2) (N := some 75) (v := undef) (a' := ?_) #[true, true, true, false, false, false, false, false, false, false, false, false, false, false, false, false, false, false, false] rfl rfl (any_of HT_.out (by kernel_rfl)) (fun _ _ _ h => h) (Or.inr ⟨by rfl, rfl⟩) ?_ ?_
            rotate_left
            · simp only [Act.put, List.setIfInBounds_toArray, List.set_cons_zero, List.set_cons_succ, i64_w, i32_w]
              rfl
            refine pure_ (i := 3) (N := some 76) (v := undef) (a' := ?_) #[true, true, true, true, false, false, false, false, false, false, false, false, false, false, false, false, false, false, false] rfl rfl (any_of HT_.out (by kernel_rfl)) (fun _ _ _ h => h) (Or.inr ⟨by rfl, rfl⟩) ?_ ?_
            rotate_left
            · simp only [Act.put, List.setIfInBounds_toArray, List.set_cons_zero, List.set_cons_succ, i64_w, i32_w]
              rfl
            refine pure_ (i := 4) (N := some 77) (v := undef) (a' := ?_) #[true, true, true, true, true, false, false, false, false, false, false, false, false, false, false, false, false, false, false] rfl rfl (any_of HT_.out (by kernel_rfl)) (fun _ _ _ h => h) (Or.inr ⟨by rfl, rfl⟩) ?_ ?_
            rotate_left
            · simp only [Act.put, List.setIfInBounds_toArray, List.set_cons_zero, List.set_cons_succ, i64_w, i32_w]
              rfl
            refine pure_ (i := 5) (N := some 78) (v := undef) (a' := ?_) #[true, true, true, true, true, true, false, false, false, false, false, false, false, false, false, false, false, false, false] rfl rfl (any_of HT_.out (by kernel_rfl)) (fun _ _ _ h => h) (Or.inr ⟨by rfl, rfl⟩) ?_ ?_
            rotate_left
            · simp only [Act.put, List.setIfInBounds_toArray, List.set_cons_zero, List.set_cons_succ, i64_w, i32_w]
              rfl
            refine pure_ (i := 6) (N := some 79) (v := undef) (a' := ?_) #[true, true, true, true, true, true, true, false, false, false, false, false, false, false, false, false, false, false, false] rfl rfl (any_of HT_.out (by kernel_rfl)) (fun _ _ _ h => h) (Or.inr ⟨by rfl, rfl⟩) ?_ ?_
            rotate_left
            · simp only [Act.put, List.setIfInBounds_toArray, List.set_cons_zero, List.set_cons_succ, i64_w, i32_w]
              rfl
            refine pure_ (i := 7) (N := some 80) (v := undef) (a' := ?_) #[true, true, true, true, true, true, true, true, false, false, false, false, false, false, false, false, false, false, false] rfl rfl (any_of HT_.out (by kernel_rfl)) (fun _ _ _ h => h) (Or.inr ⟨by rfl, rfl⟩) ?_ ?_
            rotate_left
            · simp only [Act.put, List.setIfInBounds_toArray, List.set_cons_zero, List.set_cons_succ, i64_w, i32_w]
              rfl
            refine pure_ (i := 8) (N := some 81) (v := undef) (a' := ?_) #[true, true, true, true, true, true, true, true, true, false, false, false, false, false, false, false, false, false, false] rfl rfl (any_of HT_.out (by kernel_rfl)) (fun _ _ _ h => h) (Or.inr ⟨by rfl, rfl⟩) ?_ ?_
            rotate_left
            · simp only [Act.put, List.setIfInBounds_toArray, List.set_cons_zero, List.set_cons_succ, i64_w, i32_w]
              rfl
            refine pure_ (i := 9) (N := some 82) (v := undef) (a' := ?_) #[true, true, true, true, true, true, true, true, true, true, false, false, false, false, false, false, false, false, false] rfl rfl (any_of HT_.out (by kernel_rfl)) (fun _ _ _ h => h) (Or.inr ⟨by rfl, rfl⟩) ?_ ?_
            rotate_left
            · simp only [Act.put, List.setIfInBounds_toArray, List.set_cons_zero, List.set_cons_succ, i64_w, i32_w]
              rfl
            refine pure_ (i := 10) (N := some 83) (v := undef) (a' := ?_) #[true, true, true, true, true, true, true, true, true, true, true, false, false, false, false, false, false, false, false] rfl rfl (any_of HT_.out (by kernel_rfl)) (fun _ _ _ h => h) (Or.inr ⟨by rfl, rfl⟩) ?_ ?_
            rotate_left
            · simp only [Act.put, List.setIfInBounds_toArray, List.set_cons_zero, List.set_cons_succ, i64_w, i32_w]
              rfl
            refine pure_ (i := 11) (N := some 84) (v := undef) (a' := ?_) #[true, true, true, true, true, true, true, true, true, true, true, true, false, false, false, false, false, false, false] rfl rfl (any_of HT_.out (by kernel_rfl)) (fun _ _ _ h => h) (Or.inr ⟨by rfl, rfl⟩) ?_ ?_
            rotate_left
            · simp only [Act.put, List.setIfInBounds_toArray, List.set_cons_zero, List.set_cons_succ, i64_w, i32_w]
              rfl
            refine pure_ (i := 12) (N := some 85) (v := undef) (a' := ?_) #[true, true, true, true, true, true, true, true, true, true, true, true, true, false, false, false, false, false, false] rfl rfl (any_of HT_.out (by kernel_rfl)) (fun _ _ _ h => h) (Or.inr ⟨by rfl, rfl⟩) ?_ ?_
            rotate_left
            · simp only [Act.put, List.setIfInBounds_toArray, List.set_cons_zero, List.set_cons_succ, i64_w, i32_w]
              rfl
            refine pure_ (i := 13) (N := some 86) (v := undef) (a' := ?_) #[true, true, true, true, true, true, true, true, true, true, true, true, true, true, false, false, false, false, false] rfl rfl (any_of HT_.out (by kernel_rfl)) (fun _ _ _ h => h) (Or.inr ⟨by rfl, rfl⟩) ?_ ?_
            rotate_left
            · simp only [Act.put, List.setIfInBounds_toArray, List.set_cons_zero, List.set_cons_succ, i64_w, i32_w]
              rfl
            refine pure_ (i := 14) (N := some 87) (v := undef) (a' := ?_) #[true, true, true, true, true, true, true, true, true, true, true, true, true, true, true, false, false, false, false] rfl rfl (any_of HT_.out (by kernel_rfl)) (fun _ _ _ h => h) (Or.inr ⟨by rfl, rfl⟩) ?_ ?_
            rotate_left
            · simp only [Act.put, List.setIfInBounds_toArray, List.set_cons_zero, List.set_cons_succ, i64_w, i32_w]
              rfl
            refine pure_ (i := 15) (N := some 88) (v := undef) (a' := ?_) #[true, true, true, true, true, true, true, true, true, true, true, true, true, true, true, true, false, false, false] rfl rfl (any_of HT_.out (by kernel_rfl)) (fun _ _ _ h => h) (Or.inr ⟨by rfl, rfl⟩) ?_ ?_
            rotate_left
            · simp only [Act.put, List.setIfInBounds_toArray, List.set_cons_zero, List.set_cons_succ, i64_w, i32_w]
              rfl
            refine pure_ (i := 16) (N := some 89) (v := undef) (a' := ?_) #[true, true, true, true, true, true, true, true, true, true, true, true, true, true, true, true, true, false, false] rfl rfl (any_of HT_.out (by kernel_rfl)) (fun _ _ _ h => h) (Or.inr ⟨by rfl, rfl⟩) ?_ ?_
            rotate_left
            · simp only [Act.put, List.setIfInBounds_toArray, List.set_cons_zero, List.set_cons_succ, i64_w, i32_w]
              rfl
            refine pure_ (i := 17) (N := some 90) (v := ?_) (a' := ?_) #[true, true, true, true, true, true, true, true, true, true, true, true, true, true, true, true, true, true, false] rfl rfl (any_of HT_.out (by kernel_rfl)) (fun _ _ _ h => h) (Or.inl ⟨by rfl, ?_⟩) ?_ ?_
            rotate_left
            · intro w'
              go_simp
              with_reducible rfl
            rotate_left
            · simp only [Act.put, List.setIfInBounds_toArray, List.set_cons_zero, List.set_cons_succ, i64_w, i32_w]
              rfl
            refine pure_ (i := 18) (N := some 4) (v := ?_) (a' := ?_) #[true, true, true, true, true, true, true, true, true, true, true, true, true, true, true, true, true, true, true] rfl rfl (any_of HT_.out (by kernel_rfl)) (fun _ _ _ h => h) (Or.inl ⟨by rfl, ?_⟩) ?_ ?_
            rotate_left
            · intro w'
              go_simp
              with_reducible rfl
            rotate_left
            · simp only [Act.put, List.setIfInBounds_toArray, List.set_cons_zero, List.set_cons_succ, i64_w, i32_w]
              rfl
            refine done_ (done_of HT_.out (by kernel_rfl)) ?_
            try go_wp2
            go_ret
            exact ⟨by first | rfl | (simp [errW_none, errW_some] <;> rfl) | (simp [*, errW_none, errW_some] <;> rfl), by repeat first | (with_reducible first | exact HB.out | apply below_alloc | apply pw_below_drewN | apply below_drew1 | refine below_set ?_ GE272.out | refine below_set ?_ GE273.out | refine below_set ?_ GE280.out | refine below_set ?_ GE287.out) | exact HB.out⟩

/-- THE ONE PURE STATEMENT of mantletlaw10_KeySame: yours. -/
def mantletlaw10_KeySame.Pure : Prop := ∀ (a0_0 : Int) (a0_1 : Int) (a0_2 : Int) (a0_3 : Int) (a0_4 : Int) (a0_5 : Int) (a0_6 : Int) (a1_0 : Int) (a1_1 : Int) (a1_2 : Int) (a1_3 : Int) (a1_4 : Int) (a1_5 : Int) (a1_6 : Int), (Lit.int .u8 a0_0).wf = true → (Lit.int .u32 a0_1).wf = true → (Lit.int .u32 a0_2).wf = true → (Lit.int .u16 a0_3).wf = true → (Lit.int .u16 a0_4).wf = true → (Lit.int .u8 a0_5).wf = true → (Lit.int .u8 a0_6).wf = true → (Lit.int .u8 a1_0).wf = true → (Lit.int .u32 a1_1).wf = true → (Lit.int .u32 a1_2).wf = true → (Lit.int .u16 a1_3).wf = true → (Lit.int .u16 a1_4).wf = true → (Lit.int .u8 a1_5).wf = true → (Lit.int .u8 a1_6).wf = true → ∃ k, mantletlaw10_KeySame.f k a0_0 a0_1 a0_2 a0_3 a0_4 a0_5 a0_6 a1_0 a1_1 a1_2 a1_3 a1_4 a1_5 a1_6 = some true
theorem mantletlaw10_KeySame.walk (P : mantletlaw10_KeySame.Pure) (a0_0 : Int) (a0_1 : Int) (a0_2 : Int) (a0_3 : Int) (a0_4 : Int) (a0_5 : Int) (a0_6 : Int) (a1_0 : Int) (a1_1 : Int) (a1_2 : Int) (a1_3 : Int) (a1_4 : Int) (a1_5 : Int) (a1_6 : Int) (w : World) (w0_0 : (Lit.int .u8 a0_0).wf = true) (w0_1 : (Lit.int .u32 a0_1).wf = true) (w0_2 : (Lit.int .u32 a0_2).wf = true) (w0_3 : (Lit.int .u16 a0_3).wf = true) (w0_4 : (Lit.int .u16 a0_4).wf = true) (w0_5 : (Lit.int .u8 a0_5).wf = true) (w0_6 : (Lit.int .u8 a0_6).wf = true) (w1_0 : (Lit.int .u8 a1_0).wf = true) (w1_1 : (Lit.int .u32 a1_1).wf = true) (w1_2 : (Lit.int .u32 a1_2).wf = true) (w1_3 : (Lit.int .u16 a1_3).wf = true) (w1_4 : (Lit.int .u16 a1_4).wf = true) (w1_5 : (Lit.int .u8 a1_5).wf = true) (w1_6 : (Lit.int .u8 a1_6).wf = true) :
    Calls Try.prog 6 #[.agg #[.int .u8 a0_0, .int .u32 a0_1, .int .u32 a0_2, .int .u16 a0_3, .int .u16 a0_4, .int .u8 a0_5, .int .u8 a0_6], .agg #[.int .u8 a1_0, .int .u32 a1_1, .int .u32 a1_2, .int .u16 a1_3, .int .u16 a1_4, .int .u8 a1_5, .int .u8 a1_6]] w fun e w' => e = .returned (.bool true) ∧ Below w.heap.size w w' := by
  obtain ⟨k, h⟩ := P a0_0 a0_1 a0_2 a0_3 a0_4 a0_5 a0_6 a1_0 a1_1 a1_2 a1_3 a1_4 a1_5 a1_6 w0_0 w0_1 w0_2 w0_3 w0_4 w0_5 w0_6 w1_0 w1_1 w1_2 w1_3 w1_4 w1_5 w1_6
  refine (mantletlaw10_KeySame.calls k a0_0 a0_1 a0_2 a0_3 a0_4 a0_5 a0_6 a1_0 a1_1 a1_2 a1_3 a1_4 a1_5 a1_6 true w h).mono ?_
  rintro e w' ⟨rfl, hd⟩
  exact ⟨rfl, hd⟩

end Go.Proofs.Ytplioggeccoleaa.Key
