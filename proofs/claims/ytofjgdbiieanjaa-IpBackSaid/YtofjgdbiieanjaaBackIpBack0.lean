-- Made by a program of this workplace (wip/pr.sh) out of Lean's print of the translation; Lean checks it.
import Derived.Test.YtofjgdbiieanjaaAllx0
import Derived.Test.YtofjgdbiieanjaaAllx1
import Derived.Test.YtofjgdbiieanjaaAllx51
import Derived.Test.YtofjgdbiieanjaaAllx55
import Derived.Test.YtofjgdbiieanjaaAllx56
import Derived.Test.YtofjgdbiieanjaaOwn
namespace Go.Proofs.Ytofjgdbiieanjaa.All
open Go.Proofs.Ytofjgdbiieanjaa.Ext
open Go.RowKit Go.Proofs.YtofjgdbiieanjaaW.PrintWords Go.Proofs.YtofjgdbiieanjaaW.PrintLast Go.Proofs.YtofjgdbiieanjaaW.PrintMore
attribute [local go_sem] max2_int min2_int max_two min_two max_three min_three max_four min_four   -- for this text's walks alone
set_option linter.unusedVariables false
set_option linter.unusedSimpArgs false

attribute [local go_sem high] eqA61
/-! ### mantletlaw04_IpBack: function 16 -/
mutual
def mantletlaw04_IpBack.j0 : Nat → List Int → Int → List Int → List Int → Bool → Int → Int → Int → Int → Int → Int → Int → Option (Bool)
  | 0, _, _, _, _, _, _, _, _, _, _, _, _ => none
  | k + 1, x2, x3, x9, x10, x44, x228000, x228001, x228002, x228003, x228004, x228005, x228006 => if x44 = true then (some false) else ((some (([] : List Int) : List Int)).bind fun y234 => (if y234.length + x10.length < 140737488355328 then ((some (y234 ++ x10 : List Int)).bind fun y237 => (if y237.length + x2.length < 140737488355328 then ((ip_Parse.f k (y237 ++ x2)).bind fun bt243 => (if 0 ≤ (wrap64 (Int.tdiv (Int.tmod (wrap64 (x3)) 160) 8)) then (if (wrap64 (Int.tdiv (Int.tmod (wrap64 (x3)) 160) 8)) < (x10.length : Int) then (if 0 ≤ (Int.tmod x3 8) then ((ip_Parse.f k (x10.set ((wrap64 (Int.tdiv (Int.tmod (wrap64 (x3)) 160) 8)) : Int).toNat (Go.bits .xor .u8 (rd x10 (wrap64 (Int.tdiv (Int.tmod (wrap64 (x3)) 160) 8))) (shl .u8 1 (Int.tmod x3 8))))).bind fun bt257 => ((mantletlaw04_awake.f k).bind fun t269 => (if t269 = true then (if bt243.2.2.2.2.2.2.2.2 = 0 then (if (bt243.1 == x228000 && (bt243.2.1 == x228001 && (bt243.2.2.1 == x228002 && (bt243.2.2.2.1 == 20 && (bt243.2.2.2.2.1 == (x10.length : Int) && (bt243.2.2.2.2.2.1 == x228005 && (bt243.2.2.2.2.2.2.1 == x228006))))))) = true then (if (strOfNums bt243.2.2.2.2.2.2.2.1).toList = (strOfNums x9).toList then (if bt257.2.2.2.2.2.2.2.2 = 0 then (some (decide ((Int.tmod (wrap64 (x3)) 160) < 4))) else (some true)) else (some false)) else (some false)) else (some false)) else (some false)))) else (none)) else (none)) else (none))) else (none))) else (none)))
def mantletlaw04_IpBack.j1 : Nat → List Int → Int → List Int → List Int → Bool → Int → Int → Int → Int → Int → Int → Int → Option (Bool)
  | 0, _, _, _, _, _, _, _, _, _, _, _, _ => none
  | k + 1, x2, x3, x9, x10, x44, x228000, x228001, x228002, x228003, x228004, x228005, x228006 => if x44 = true then (some false) else ((some (([] : List Int) : List Int)).bind fun y274 => (if y274.length + x10.length < 140737488355328 then ((some (y274 ++ x10 : List Int)).bind fun y277 => (if y277.length + x2.length < 140737488355328 then ((ip_Parse.f k (y277 ++ x2)).bind fun bt283 => (if 0 ≤ (wrap64 (Int.tdiv (Int.tmod (wrap64 (x3)) 160) 8)) then (if (wrap64 (Int.tdiv (Int.tmod (wrap64 (x3)) 160) 8)) < (x10.length : Int) then (if 0 ≤ (Int.tmod x3 8) then ((ip_Parse.f k (x10.set ((wrap64 (Int.tdiv (Int.tmod (wrap64 (x3)) 160) 8)) : Int).toNat (Go.bits .xor .u8 (rd x10 (wrap64 (Int.tdiv (Int.tmod (wrap64 (x3)) 160) 8))) (shl .u8 1 (Int.tmod x3 8))))).bind fun bt297 => ((mantletlaw04_awake.f k).bind fun t309 => (if t309 = true then (if bt283.2.2.2.2.2.2.2.2 = 0 then (if (bt283.1 == x228000 && (bt283.2.1 == x228001 && (bt283.2.2.1 == x228002 && (bt283.2.2.2.1 == 20 && (bt283.2.2.2.2.1 == (x10.length : Int) && (bt283.2.2.2.2.2.1 == x228005 && (bt283.2.2.2.2.2.2.1 == x228006))))))) = true then (if (strOfNums bt283.2.2.2.2.2.2.2.1).toList = (strOfNums x9).toList then (if bt297.2.2.2.2.2.2.2.2 = 0 then (some (decide ((Int.tmod (wrap64 (x3)) 160) < 4))) else (some true)) else (some false)) else (some false)) else (some false)) else (some false)))) else (none)) else (none)) else (none))) else (none))) else (none)))
def mantletlaw04_IpBack.j2 : Nat → List Int → Int → List Int → List Int → Bool → Int → Int → Int → Int → Int → Int → Int → Option (Bool)
  | 0, _, _, _, _, _, _, _, _, _, _, _, _ => none
  | k + 1, x2, x3, x9, x10, x44, x228000, x228001, x228002, x228003, x228004, x228005, x228006 => if x44 = true then (some false) else ((some (([] : List Int) : List Int)).bind fun y315 => (if y315.length + x10.length < 140737488355328 then ((some (y315 ++ x10 : List Int)).bind fun y318 => (if y318.length + x2.length < 140737488355328 then ((ip_Parse.f k (y318 ++ x2)).bind fun bt324 => (if 0 ≤ (wrap64 (Int.tdiv (Int.tmod (wrap64 (x3)) 160) 8)) then (if (wrap64 (Int.tdiv (Int.tmod (wrap64 (x3)) 160) 8)) < (x10.length : Int) then (if 0 ≤ (Int.tmod x3 8) then ((ip_Parse.f k (x10.set ((wrap64 (Int.tdiv (Int.tmod (wrap64 (x3)) 160) 8)) : Int).toNat (Go.bits .xor .u8 (rd x10 (wrap64 (Int.tdiv (Int.tmod (wrap64 (x3)) 160) 8))) (shl .u8 1 (Int.tmod x3 8))))).bind fun bt338 => ((mantletlaw04_awake.f k).bind fun t350 => (if t350 = true then (if bt324.2.2.2.2.2.2.2.2 = 0 then (if (bt324.1 == x228000 && (bt324.2.1 == x228001 && (bt324.2.2.1 == x228002 && (bt324.2.2.2.1 == 20 && (bt324.2.2.2.2.1 == (x10.length : Int) && (bt324.2.2.2.2.2.1 == x228005 && (bt324.2.2.2.2.2.2.1 == x228006))))))) = true then (if (strOfNums bt324.2.2.2.2.2.2.2.1).toList = (strOfNums x9).toList then (if bt338.2.2.2.2.2.2.2.2 = 0 then (some (decide ((Int.tmod (wrap64 (x3)) 160) < 4))) else (some true)) else (some false)) else (some false)) else (some false)) else (some false)))) else (none)) else (none)) else (none))) else (none))) else (none)))
def mantletlaw04_IpBack.j3 : Nat → List Int → Int → List Int → List Int → Bool → Int → Int → Int → Int → Int → Int → Int → Option (Bool)
  | 0, _, _, _, _, _, _, _, _, _, _, _, _ => none
  | k + 1, x2, x3, x9, x10, x44, x228000, x228001, x228002, x228003, x228004, x228005, x228006 => if x44 = true then (some false) else ((some (([] : List Int) : List Int)).bind fun y355 => (if y355.length + x10.length < 140737488355328 then ((some (y355 ++ x10 : List Int)).bind fun y358 => (if y358.length + x2.length < 140737488355328 then ((ip_Parse.f k (y358 ++ x2)).bind fun bt364 => (if 0 ≤ (wrap64 (Int.tdiv (Int.tmod (wrap64 (x3)) 160) 8)) then (if (wrap64 (Int.tdiv (Int.tmod (wrap64 (x3)) 160) 8)) < (x10.length : Int) then (if 0 ≤ (Int.tmod x3 8) then ((ip_Parse.f k (x10.set ((wrap64 (Int.tdiv (Int.tmod (wrap64 (x3)) 160) 8)) : Int).toNat (Go.bits .xor .u8 (rd x10 (wrap64 (Int.tdiv (Int.tmod (wrap64 (x3)) 160) 8))) (shl .u8 1 (Int.tmod x3 8))))).bind fun bt378 => ((mantletlaw04_awake.f k).bind fun t390 => (if t390 = true then (if bt364.2.2.2.2.2.2.2.2 = 0 then (if (bt364.1 == x228000 && (bt364.2.1 == x228001 && (bt364.2.2.1 == x228002 && (bt364.2.2.2.1 == 20 && (bt364.2.2.2.2.1 == (x10.length : Int) && (bt364.2.2.2.2.2.1 == x228005 && (bt364.2.2.2.2.2.2.1 == x228006))))))) = true then (if (strOfNums bt364.2.2.2.2.2.2.2.1).toList = (strOfNums x9).toList then (if bt378.2.2.2.2.2.2.2.2 = 0 then (some (decide ((Int.tmod (wrap64 (x3)) 160) < 4))) else (some true)) else (some false)) else (some false)) else (some false)) else (some false)))) else (none)) else (none)) else (none))) else (none))) else (none)))
end
def mantletlaw04_IpBack.f (k : Nat) (a0_0 : Int) (a0_1 : Int) (a0_2 : Int) (a0_3 : Int) (a0_4 : Int) (a0_5 : Int) (a0_6 : Int) (l1 : List Int) (l2 : List Int) (a3 : Int) : Option (Bool) := if (l1.length : Int) > 1000 then (if 1000 ≤ (l1.length : Int) then (if (l2.length : Int) > 400 then (if 400 ≤ (l2.length : Int) then ((ip_Build.f k a0_0 a0_1 a0_2 a0_3 a0_4 a0_5 a0_6 (l1.take 1000)).bind fun bt230 => (if bt230.2 = 0 then (mantletlaw04_IpBack.j0 k (l2.take 400) a3 (l1.take 1000) bt230.1 ((bt230.1.length : Int) != (wrap64 (20 + ((l1.take 1000).length : Int)))) a0_0 a0_1 a0_2 a0_3 a0_4 a0_5 a0_6) else (mantletlaw04_IpBack.j0 k (l2.take 400) a3 (l1.take 1000) bt230.1 true a0_0 a0_1 a0_2 a0_3 a0_4 a0_5 a0_6))) else (none)) else ((ip_Build.f k a0_0 a0_1 a0_2 a0_3 a0_4 a0_5 a0_6 (l1.take 1000)).bind fun bt270 => (if bt270.2 = 0 then (mantletlaw04_IpBack.j1 k l2 a3 (l1.take 1000) bt270.1 ((bt270.1.length : Int) != (wrap64 (20 + ((l1.take 1000).length : Int)))) a0_0 a0_1 a0_2 a0_3 a0_4 a0_5 a0_6) else (mantletlaw04_IpBack.j1 k l2 a3 (l1.take 1000) bt270.1 true a0_0 a0_1 a0_2 a0_3 a0_4 a0_5 a0_6)))) else (none)) else (if (l2.length : Int) > 400 then (if 400 ≤ (l2.length : Int) then ((ip_Build.f k a0_0 a0_1 a0_2 a0_3 a0_4 a0_5 a0_6 l1).bind fun bt311 => (if bt311.2 = 0 then (mantletlaw04_IpBack.j2 k (l2.take 400) a3 l1 bt311.1 ((bt311.1.length : Int) != (wrap64 (20 + (l1.length : Int)))) a0_0 a0_1 a0_2 a0_3 a0_4 a0_5 a0_6) else (mantletlaw04_IpBack.j2 k (l2.take 400) a3 l1 bt311.1 true a0_0 a0_1 a0_2 a0_3 a0_4 a0_5 a0_6))) else (none)) else ((ip_Build.f k a0_0 a0_1 a0_2 a0_3 a0_4 a0_5 a0_6 l1).bind fun bt351 => (if bt351.2 = 0 then (mantletlaw04_IpBack.j3 k l2 a3 l1 bt351.1 ((bt351.1.length : Int) != (wrap64 (20 + (l1.length : Int)))) a0_0 a0_1 a0_2 a0_3 a0_4 a0_5 a0_6) else (mantletlaw04_IpBack.j3 k l2 a3 l1 bt351.1 true a0_0 a0_1 a0_2 a0_3 a0_4 a0_5 a0_6))))
theorem mantletlaw04_IpBack.mono_l : ∀ k, (∀ y0 y1 y2 y3 y4 y5 y6 y7 y8 y9 y10 y11, LeO (mantletlaw04_IpBack.j0 k y0 y1 y2 y3 y4 y5 y6 y7 y8 y9 y10 y11) (mantletlaw04_IpBack.j0 (k + 1) y0 y1 y2 y3 y4 y5 y6 y7 y8 y9 y10 y11)) ∧ (∀ y0 y1 y2 y3 y4 y5 y6 y7 y8 y9 y10 y11, LeO (mantletlaw04_IpBack.j1 k y0 y1 y2 y3 y4 y5 y6 y7 y8 y9 y10 y11) (mantletlaw04_IpBack.j1 (k + 1) y0 y1 y2 y3 y4 y5 y6 y7 y8 y9 y10 y11)) ∧ (∀ y0 y1 y2 y3 y4 y5 y6 y7 y8 y9 y10 y11, LeO (mantletlaw04_IpBack.j2 k y0 y1 y2 y3 y4 y5 y6 y7 y8 y9 y10 y11) (mantletlaw04_IpBack.j2 (k + 1) y0 y1 y2 y3 y4 y5 y6 y7 y8 y9 y10 y11)) ∧ (∀ y0 y1 y2 y3 y4 y5 y6 y7 y8 y9 y10 y11, LeO (mantletlaw04_IpBack.j3 k y0 y1 y2 y3 y4 y5 y6 y7 y8 y9 y10 y11) (mantletlaw04_IpBack.j3 (k + 1) y0 y1 y2 y3 y4 y5 y6 y7 y8 y9 y10 y11))
  | 0 => ⟨fun _ _ _ _ _ _ _ _ _ _ _ _ r h => by simp [mantletlaw04_IpBack.j0] at h, fun _ _ _ _ _ _ _ _ _ _ _ _ r h => by simp [mantletlaw04_IpBack.j1] at h, fun _ _ _ _ _ _ _ _ _ _ _ _ r h => by simp [mantletlaw04_IpBack.j2] at h, fun _ _ _ _ _ _ _ _ _ _ _ _ r h => by simp [mantletlaw04_IpBack.j3] at h⟩
  | k + 1 => by
    obtain ⟨ih0, ih1, ih2, ih3⟩ := mantletlaw04_IpBack.mono_l k
    refine ⟨?_, ?_, ?_, ?_⟩
    · intro y0 y1 y2 y3 y4 y5 y6 y7 y8 y9 y10 y11
      unfold mantletlaw04_IpBack.j0
      repeat' first
      | (with_reducible exact ih0 _ _ _ _ _ _ _ _ _ _ _ _)
      | (with_reducible exact ih1 _ _ _ _ _ _ _ _ _ _ _ _)
      | (with_reducible exact ih2 _ _ _ _ _ _ _ _ _ _ _ _)
      | (with_reducible exact ih3 _ _ _ _ _ _ _ _ _ _ _ _)
      | (with_reducible exact ip_Build.mono _ _ _ _ _ _ _ _ _)
      | (with_reducible exact ip_Parse.mono _ _)
      | (with_reducible exact mantletlaw04_awake.mono _)
      | (with_reducible exact LeO.refl _)
      | (with_reducible exact LeO.none _)
      | (with_reducible refine LeO.ite ?_ ?_)
      | (with_reducible refine LeO.bind ?_ (fun _ => ?_))
      | exact ih0 _ _ _ _ _ _ _ _ _ _ _ _
      | exact ih1 _ _ _ _ _ _ _ _ _ _ _ _
      | exact ih2 _ _ _ _ _ _ _ _ _ _ _ _
      | exact ih3 _ _ _ _ _ _ _ _ _ _ _ _
      | exact ip_Build.mono _ _ _ _ _ _ _ _ _
      | exact ip_Parse.mono _ _
      | exact mantletlaw04_awake.mono _
      | exact LeO.none _
      | refine LeO.ite ?_ ?_
      | refine LeO.bind ?_ (fun _ => ?_)
    · intro y0 y1 y2 y3 y4 y5 y6 y7 y8 y9 y10 y11
      unfold mantletlaw04_IpBack.j1
      repeat' first
      | (with_reducible exact ih0 _ _ _ _ _ _ _ _ _ _ _ _)
      | (with_reducible exact ih1 _ _ _ _ _ _ _ _ _ _ _ _)
      | (with_reducible exact ih2 _ _ _ _ _ _ _ _ _ _ _ _)
      | (with_reducible exact ih3 _ _ _ _ _ _ _ _ _ _ _ _)
      | (with_reducible exact ip_Build.mono _ _ _ _ _ _ _ _ _)
      | (with_reducible exact ip_Parse.mono _ _)
      | (with_reducible exact mantletlaw04_awake.mono _)
      | (with_reducible exact LeO.refl _)
      | (with_reducible exact LeO.none _)
      | (with_reducible refine LeO.ite ?_ ?_)
      | (with_reducible refine LeO.bind ?_ (fun _ => ?_))
      | exact ih0 _ _ _ _ _ _ _ _ _ _ _ _
      | exact ih1 _ _ _ _ _ _ _ _ _ _ _ _
      | exact ih2 _ _ _ _ _ _ _ _ _ _ _ _
      | exact ih3 _ _ _ _ _ _ _ _ _ _ _ _
      | exact ip_Build.mono _ _ _ _ _ _ _ _ _
      | exact ip_Parse.mono _ _
      | exact mantletlaw04_awake.mono _
      | exact LeO.none _
      | refine LeO.ite ?_ ?_
      | refine LeO.bind ?_ (fun _ => ?_)
    · intro y0 y1 y2 y3 y4 y5 y6 y7 y8 y9 y10 y11
      unfold mantletlaw04_IpBack.j2
      repeat' first
      | (with_reducible exact ih0 _ _ _ _ _ _ _ _ _ _ _ _)
      | (with_reducible exact ih1 _ _ _ _ _ _ _ _ _ _ _ _)
      | (with_reducible exact ih2 _ _ _ _ _ _ _ _ _ _ _ _)
      | (with_reducible exact ih3 _ _ _ _ _ _ _ _ _ _ _ _)
      | (with_reducible exact ip_Build.mono _ _ _ _ _ _ _ _ _)
      | (with_reducible exact ip_Parse.mono _ _)
      | (with_reducible exact mantletlaw04_awake.mono _)
      | (with_reducible exact LeO.refl _)
      | (with_reducible exact LeO.none _)
      | (with_reducible refine LeO.ite ?_ ?_)
      | (with_reducible refine LeO.bind ?_ (fun _ => ?_))
      | exact ih0 _ _ _ _ _ _ _ _ _ _ _ _
      | exact ih1 _ _ _ _ _ _ _ _ _ _ _ _
      | exact ih2 _ _ _ _ _ _ _ _ _ _ _ _
      | exact ih3 _ _ _ _ _ _ _ _ _ _ _ _
      | exact ip_Build.mono _ _ _ _ _ _ _ _ _
      | exact ip_Parse.mono _ _
      | exact mantletlaw04_awake.mono _
      | exact LeO.none _
      | refine LeO.ite ?_ ?_
      | refine LeO.bind ?_ (fun _ => ?_)
    · intro y0 y1 y2 y3 y4 y5 y6 y7 y8 y9 y10 y11
      unfold mantletlaw04_IpBack.j3
      repeat' first
      | (with_reducible exact ih0 _ _ _ _ _ _ _ _ _ _ _ _)
      | (with_reducible exact ih1 _ _ _ _ _ _ _ _ _ _ _ _)
      | (with_reducible exact ih2 _ _ _ _ _ _ _ _ _ _ _ _)
      | (with_reducible exact ih3 _ _ _ _ _ _ _ _ _ _ _ _)
      | (with_reducible exact ip_Build.mono _ _ _ _ _ _ _ _ _)
      | (with_reducible exact ip_Parse.mono _ _)
      | (with_reducible exact mantletlaw04_awake.mono _)
      | (with_reducible exact LeO.refl _)
      | (with_reducible exact LeO.none _)
      | (with_reducible refine LeO.ite ?_ ?_)
      | (with_reducible refine LeO.bind ?_ (fun _ => ?_))
      | exact ih0 _ _ _ _ _ _ _ _ _ _ _ _
      | exact ih1 _ _ _ _ _ _ _ _ _ _ _ _
      | exact ih2 _ _ _ _ _ _ _ _ _ _ _ _
      | exact ih3 _ _ _ _ _ _ _ _ _ _ _ _
      | exact ip_Build.mono _ _ _ _ _ _ _ _ _
      | exact ip_Parse.mono _ _
      | exact mantletlaw04_awake.mono _
      | exact LeO.none _
      | refine LeO.ite ?_ ?_
      | refine LeO.bind ?_ (fun _ => ?_)
theorem mantletlaw04_IpBack.mono : ∀ a0 a1 a2 a3 a4 a5 a6 a7 a8 a9 k, LeO (mantletlaw04_IpBack.f k a0 a1 a2 a3 a4 a5 a6 a7 a8 a9) (mantletlaw04_IpBack.f (k + 1) a0 a1 a2 a3 a4 a5 a6 a7 a8 a9) := by
  intro a0 a1 a2 a3 a4 a5 a6 a7 a8 a9 k
  obtain ⟨ih0, ih1, ih2, ih3⟩ := mantletlaw04_IpBack.mono_l k
  unfold mantletlaw04_IpBack.f
  repeat' first
      | (with_reducible exact ih0 _ _ _ _ _ _ _ _ _ _ _ _)
      | (with_reducible exact ih1 _ _ _ _ _ _ _ _ _ _ _ _)
      | (with_reducible exact ih2 _ _ _ _ _ _ _ _ _ _ _ _)
      | (with_reducible exact ih3 _ _ _ _ _ _ _ _ _ _ _ _)
      | (with_reducible exact ip_Build.mono _ _ _ _ _ _ _ _ _)
      | (with_reducible exact ip_Parse.mono _ _)
      | (with_reducible exact mantletlaw04_awake.mono _)
      | (with_reducible exact LeO.refl _)
      | (with_reducible exact LeO.none _)
      | (with_reducible refine LeO.ite ?_ ?_)
      | (with_reducible refine LeO.bind ?_ (fun _ => ?_))
      | exact ih0 _ _ _ _ _ _ _ _ _ _ _ _
      | exact ih1 _ _ _ _ _ _ _ _ _ _ _ _
      | exact ih2 _ _ _ _ _ _ _ _ _ _ _ _
      | exact ih3 _ _ _ _ _ _ _ _ _ _ _ _
      | exact ip_Build.mono _ _ _ _ _ _ _ _ _
      | exact ip_Parse.mono _ _
      | exact mantletlaw04_awake.mono _
      | exact LeO.none _
      | refine LeO.ite ?_ ?_
      | refine LeO.bind ?_ (fun _ => ?_)
end Go.Proofs.Ytofjgdbiieanjaa.All
