-- Made by a program of this workplace (wip/pr.sh) out of Lean's print of the translation; Lean checks it.
import Derived.Test.YtofjgdbiieanjaaAllx0
import Derived.Test.YtofjgdbiieanjaaAllx38
import Derived.Test.YtofjgdbiieanjaaAllx39
import Derived.Test.YtofjgdbiieanjaaAllx42
import Derived.Test.YtofjgdbiieanjaaFixAwake6
import Derived.Test.YtofjgdbiieanjaaOwn
namespace Go.Proofs.Ytofjgdbiieanjaa.All
open Go.Proofs.Ytofjgdbiieanjaa.Ext
open Go.RowKit Go.Proofs.YtofjgdbiieanjaaW.PrintWords Go.Proofs.YtofjgdbiieanjaaW.PrintLast Go.Proofs.YtofjgdbiieanjaaW.PrintMore
attribute [local go_sem] max2_int min2_int max_two min_two max_three min_three max_four min_four   -- for this text's walks alone
set_option linter.unusedVariables false
set_option linter.unusedSimpArgs false

/-! ### mantletlaw06_UdpBack: function 12 -/
mutual
def mantletlaw06_UdpBack.j0 : Nat → Int → Int → Int → Int → Int → List Int → Bool → Option (Bool)
  | 0, _, _, _, _, _, _, _ => none
  | k + 1, x0, x1, x2, x3, x6, x16, x93 => if x93 = true then (some false) else (if (x16.length : Int) = 0 then (none) else (if 0 ≤ (Int.tmod (wrap64 (Int.tdiv (wrap64 (x6)) 8)) (x16.length : Int)) then (if (Int.tmod (wrap64 (Int.tdiv (wrap64 (x6)) 8)) (x16.length : Int)) < (x16.length : Int) then (if 0 ≤ (Int.tmod x6 8) then ((udp_Parse.f k x0 x1 (x16.set ((Int.tmod (wrap64 (Int.tdiv (wrap64 (x6)) 8)) (x16.length : Int)) : Int).toNat (Go.bits .xor .u8 (rd x16 (Int.tmod (wrap64 (Int.tdiv (wrap64 (x6)) 8)) (x16.length : Int))) (shl .u8 1 (Int.tmod x6 8))))).bind fun bt357 => (if (Int.tmod (wrap64 (Int.tdiv (wrap64 (x6)) 8)) (x16.length : Int)) ≥ 4 then (mantletlaw06_UdpBack.j1 k x2 x3 bt357.1 bt357.2.1 bt357.2.2 (decide ((Int.tmod (wrap64 (Int.tdiv (wrap64 (x6)) 8)) (x16.length : Int)) < 8))) else (mantletlaw06_UdpBack.j1 k x2 x3 bt357.1 bt357.2.1 bt357.2.2 false))) else (none)) else (none)) else (none)))
def mantletlaw06_UdpBack.j1 : Nat → Int → Int → Int → Int → Int → Bool → Option (Bool)
  | 0, _, _, _, _, _, _ => none
  | k + 1, x2, x3, x22, x23, x24, x122 => if x122 = true then ((mantletlaw06_awake.f k).bind fun t360 => (if t360 = true then (if x24 = 0 then (if x22 = x2 then (some (x23 == x3)) else (some false)) else (some true)) else (some false))) else ((mantletlaw06_awake.f k).bind fun t361 => (if t361 = true then (some (x24 == 7)) else (some false)))
end
def mantletlaw06_UdpBack.f (k : Nat) (a0 : Int) (a1 : Int) (a2 : Int) (a3 : Int) (l4 : List Int) (l5 : List Int) (a6 : Int) : Option (Bool) := (mantletlaw06_short.f l4).bind fun t330 => ((udp_Build.f k a0 a1 a2 a3 t330).bind fun bt333 => (if bt333.2 = 0 then ((some (([] : List Int) : List Int)).bind fun y338 => (if y338.length + bt333.1.length < 140737488355328 then ((some (y338 ++ bt333.1 : List Int)).bind fun y341 => ((mantletlaw06_short.f l5).bind fun t344 => (if y341.length + t344.length < 140737488355328 then ((udp_Parse.f k a0 a1 (y341 ++ t344)).bind fun bt350 => (if bt350.2.2 = 0 then (if bt350.1 = a2 then (if bt350.2.1 = a3 then (if (bt333.1.length : Int) = (wrap64 (8 + (t330.length : Int))) then (if 6 < (bt333.1.length : Int) then (if (rd bt333.1 6) = 0 then (if 7 < (bt333.1.length : Int) then (mantletlaw06_UdpBack.j0 k a0 a1 a2 a3 a6 bt333.1 ((rd bt333.1 7) == 0)) else (none)) else (mantletlaw06_UdpBack.j0 k a0 a1 a2 a3 a6 bt333.1 false)) else (none)) else (mantletlaw06_UdpBack.j0 k a0 a1 a2 a3 a6 bt333.1 true)) else (mantletlaw06_UdpBack.j0 k a0 a1 a2 a3 a6 bt333.1 true)) else (mantletlaw06_UdpBack.j0 k a0 a1 a2 a3 a6 bt333.1 true)) else (mantletlaw06_UdpBack.j0 k a0 a1 a2 a3 a6 bt333.1 true))) else (none)))) else (none))) else ((mantletlaw06_awake.f k).bind fun t337 => (if t337 = true then (if (t330.length : Int) > 1472 then (some ((bt333.1.length : Int) == 0)) else (some false)) else (some false)))))
theorem mantletlaw06_UdpBack.mono_l : ∀ k, (∀ y0 y1 y2 y3 y4 y5 y6, LeO (mantletlaw06_UdpBack.j0 k y0 y1 y2 y3 y4 y5 y6) (mantletlaw06_UdpBack.j0 (k + 1) y0 y1 y2 y3 y4 y5 y6)) ∧ (∀ y0 y1 y2 y3 y4 y5, LeO (mantletlaw06_UdpBack.j1 k y0 y1 y2 y3 y4 y5) (mantletlaw06_UdpBack.j1 (k + 1) y0 y1 y2 y3 y4 y5))
  | 0 => ⟨fun _ _ _ _ _ _ _ r h => by simp [mantletlaw06_UdpBack.j0] at h, fun _ _ _ _ _ _ r h => by simp [mantletlaw06_UdpBack.j1] at h⟩
  | k + 1 => by
    obtain ⟨ih0, ih1⟩ := mantletlaw06_UdpBack.mono_l k
    refine ⟨?_, ?_⟩
    · intro y0 y1 y2 y3 y4 y5 y6
      unfold mantletlaw06_UdpBack.j0
      repeat' first
      | (with_reducible exact ih0 _ _ _ _ _ _ _)
      | (with_reducible exact ih1 _ _ _ _ _ _)
      | (with_reducible exact mantletlaw06_awake.mono _)
      | (with_reducible exact udp_Build.mono _ _ _ _ _ _)
      | (with_reducible exact udp_Parse.mono _ _ _ _)
      | (with_reducible exact LeO.refl _)
      | (with_reducible exact LeO.none _)
      | (with_reducible refine LeO.ite ?_ ?_)
      | (with_reducible refine LeO.bind ?_ (fun _ => ?_))
      | exact ih0 _ _ _ _ _ _ _
      | exact ih1 _ _ _ _ _ _
      | exact mantletlaw06_awake.mono _
      | exact udp_Build.mono _ _ _ _ _ _
      | exact udp_Parse.mono _ _ _ _
      | exact LeO.none _
      | refine LeO.ite ?_ ?_
      | refine LeO.bind ?_ (fun _ => ?_)
    · intro y0 y1 y2 y3 y4 y5
      unfold mantletlaw06_UdpBack.j1
      repeat' first
      | (with_reducible exact ih0 _ _ _ _ _ _ _)
      | (with_reducible exact ih1 _ _ _ _ _ _)
      | (with_reducible exact mantletlaw06_awake.mono _)
      | (with_reducible exact udp_Build.mono _ _ _ _ _ _)
      | (with_reducible exact udp_Parse.mono _ _ _ _)
      | (with_reducible exact LeO.refl _)
      | (with_reducible exact LeO.none _)
      | (with_reducible refine LeO.ite ?_ ?_)
      | (with_reducible refine LeO.bind ?_ (fun _ => ?_))
      | exact ih0 _ _ _ _ _ _ _
      | exact ih1 _ _ _ _ _ _
      | exact mantletlaw06_awake.mono _
      | exact udp_Build.mono _ _ _ _ _ _
      | exact udp_Parse.mono _ _ _ _
      | exact LeO.none _
      | refine LeO.ite ?_ ?_
      | refine LeO.bind ?_ (fun _ => ?_)
theorem mantletlaw06_UdpBack.mono : ∀ a0 a1 a2 a3 a4 a5 a6 k, LeO (mantletlaw06_UdpBack.f k a0 a1 a2 a3 a4 a5 a6) (mantletlaw06_UdpBack.f (k + 1) a0 a1 a2 a3 a4 a5 a6) := by
  intro a0 a1 a2 a3 a4 a5 a6 k
  obtain ⟨ih0, ih1⟩ := mantletlaw06_UdpBack.mono_l k
  unfold mantletlaw06_UdpBack.f
  repeat' first
      | (with_reducible exact ih0 _ _ _ _ _ _ _)
      | (with_reducible exact ih1 _ _ _ _ _ _)
      | (with_reducible exact mantletlaw06_awake.mono _)
      | (with_reducible exact udp_Build.mono _ _ _ _ _ _)
      | (with_reducible exact udp_Parse.mono _ _ _ _)
      | (with_reducible exact LeO.refl _)
      | (with_reducible exact LeO.none _)
      | (with_reducible refine LeO.ite ?_ ?_)
      | (with_reducible refine LeO.bind ?_ (fun _ => ?_))
      | exact ih0 _ _ _ _ _ _ _
      | exact ih1 _ _ _ _ _ _
      | exact mantletlaw06_awake.mono _
      | exact udp_Build.mono _ _ _ _ _ _
      | exact udp_Parse.mono _ _ _ _
      | exact LeO.none _
      | refine LeO.ite ?_ ?_
      | refine LeO.bind ?_ (fun _ => ?_)
set_option maxHeartbeats 8000000 in
set_option maxRecDepth 100000 in
theorem mantletlaw06_UdpBack.calls (k : Nat) (a0 : Int) (a1 : Int) (a2 : Int) (a3 : Int) (A4 : Option Addr) (c4 : Nat) (l4 : List Int) (A5 : Option Addr) (c5 : Nat) (l5 : List Int) (a6 : Int) (r : Bool) (w : World) (hr4 : Kd.C (Kd.int .u8) w A4 l4.length l4) (hc4 : l4.length ≤ c4) (hr5 : Kd.C (Kd.int .u8) w A5 l5.length l5) (hc5 : l5.length ≤ c5) (h : mantletlaw06_UdpBack.f k a0 a1 a2 a3 l4 l5 a6 = some r) :
    Calls Try.prog 12 #[.int .u32 a0, .int .u32 a1, .int .u16 a2, .int .u16 a3, .slice A4 l4.length c4, .slice A5 l5.length c5, .int .u16 a6] w fun e w' => e = .returned (.bool r) ∧ Below w.heap.size w w' := by
  have HR4 := Aside0.mk hr4
  have HC4 := Aside0.mk hc4
  clear hr4 hc4
  have HR5 := Aside0.mk hr5
  have HC5 := Aside0.mk hc5
  clear hr5 hc5
  have HB := Aside0.mk (Below.refl w.heap.size w)
  have H : ((mantletlaw06_short.f l4).bind fun t330 => ((udp_Build.f k a0 a1 a2 a3 t330).bind fun bt333 => (if bt333.2 = 0 then ((some (([] : List Int) : List Int)).bind fun y338 => (if y338.length + bt333.1.length < 140737488355328 then ((some (y338 ++ bt333.1 : List Int)).bind fun y341 => ((mantletlaw06_short.f l5).bind fun t344 => (if y341.length + t344.length < 140737488355328 then ((udp_Parse.f k a0 a1 (y341 ++ t344)).bind fun bt350 => (if bt350.2.2 = 0 then (if bt350.1 = a2 then (if bt350.2.1 = a3 then (if (bt333.1.length : Int) = (wrap64 (8 + (t330.length : Int))) then (if 6 < (bt333.1.length : Int) then (if (rd bt333.1 6) = 0 then (if 7 < (bt333.1.length : Int) then (mantletlaw06_UdpBack.j0 k a0 a1 a2 a3 a6 bt333.1 ((rd bt333.1 7) == 0)) else (none)) else (mantletlaw06_UdpBack.j0 k a0 a1 a2 a3 a6 bt333.1 false)) else (none)) else (mantletlaw06_UdpBack.j0 k a0 a1 a2 a3 a6 bt333.1 true)) else (mantletlaw06_UdpBack.j0 k a0 a1 a2 a3 a6 bt333.1 true)) else (mantletlaw06_UdpBack.j0 k a0 a1 a2 a3 a6 bt333.1 true)) else (mantletlaw06_UdpBack.j0 k a0 a1 a2 a3 a6 bt333.1 true))) else (none)))) else (none))) else ((mantletlaw06_awake.f k).bind fun t337 => (if t337 = true then (if (t330.length : Int) > 1472 then (some ((bt333.1.length : Int) == 0)) else (some false)) else (some false)))))) = some r := h
  clear h
  replace H := Option.bind_eq_some_iff.mp H
  obtain ⟨t330, A80, H⟩ := H
  replace H : ((udp_Build.f k a0 a1 a2 a3 t330).bind fun bt333 => (if bt333.2 = 0 then ((some (([] : List Int) : List Int)).bind fun y338 => (if y338.length + bt333.1.length < 140737488355328 then ((some (y338 ++ bt333.1 : List Int)).bind fun y341 => ((mantletlaw06_short.f l5).bind fun t344 => (if y341.length + t344.length < 140737488355328 then ((udp_Parse.f k a0 a1 (y341 ++ t344)).bind fun bt350 => (if bt350.2.2 = 0 then (if bt350.1 = a2 then (if bt350.2.1 = a3 then (if (bt333.1.length : Int) = (wrap64 (8 + (t330.length : Int))) then (if 6 < (bt333.1.length : Int) then (if (rd bt333.1 6) = 0 then (if 7 < (bt333.1.length : Int) then (mantletlaw06_UdpBack.j0 k a0 a1 a2 a3 a6 bt333.1 ((rd bt333.1 7) == 0)) else (none)) else (mantletlaw06_UdpBack.j0 k a0 a1 a2 a3 a6 bt333.1 false)) else (none)) else (mantletlaw06_UdpBack.j0 k a0 a1 a2 a3 a6 bt333.1 true)) else (mantletlaw06_UdpBack.j0 k a0 a1 a2 a3 a6 bt333.1 true)) else (mantletlaw06_UdpBack.j0 k a0 a1 a2 a3 a6 bt333.1 true)) else (mantletlaw06_UdpBack.j0 k a0 a1 a2 a3 a6 bt333.1 true))) else (none)))) else (none))) else ((mantletlaw06_awake.f k).bind fun t337 => (if t337 = true then (if (t330.length : Int) > 1472 then (some ((bt333.1.length : Int) == 0)) else (some false)) else (some false))))) = some r := H
  have A8 := Aside0.mk A80
  clear A80
  replace H := Option.bind_eq_some_iff.mp H
  obtain ⟨⟨t333, t336⟩, A90, H⟩ := H
  replace H : (if t336 = 0 then ((some (([] : List Int) : List Int)).bind fun y338 => (if y338.length + t333.length < 140737488355328 then ((some (y338 ++ t333 : List Int)).bind fun y341 => ((mantletlaw06_short.f l5).bind fun t344 => (if y341.length + t344.length < 140737488355328 then ((udp_Parse.f k a0 a1 (y341 ++ t344)).bind fun bt350 => (if bt350.2.2 = 0 then (if bt350.1 = a2 then (if bt350.2.1 = a3 then (if (t333.length : Int) = (wrap64 (8 + (t330.length : Int))) then (if 6 < (t333.length : Int) then (if (rd t333 6) = 0 then (if 7 < (t333.length : Int) then (mantletlaw06_UdpBack.j0 k a0 a1 a2 a3 a6 t333 ((rd t333 7) == 0)) else (none)) else (mantletlaw06_UdpBack.j0 k a0 a1 a2 a3 a6 t333 false)) else (none)) else (mantletlaw06_UdpBack.j0 k a0 a1 a2 a3 a6 t333 true)) else (mantletlaw06_UdpBack.j0 k a0 a1 a2 a3 a6 t333 true)) else (mantletlaw06_UdpBack.j0 k a0 a1 a2 a3 a6 t333 true)) else (mantletlaw06_UdpBack.j0 k a0 a1 a2 a3 a6 t333 true))) else (none)))) else (none))) else ((mantletlaw06_awake.f k).bind fun t337 => (if t337 = true then (if (t330.length : Int) > 1472 then (some ((t333.length : Int) == 0)) else (some false)) else (some false)))) = some r := H
  have A9 := Aside0.mk A90
  clear A90
  by_cases c10 : t336 = 0
  · rw [if_pos c10] at H
    have c10b0 : (t336 == 0) = true := beq_iff_eq.mpr c10
    have c10b1 : (t336 != 0) = false := bne_eq_false_iff_eq.mpr c10
    clear c10
    obtain ⟨y338, hy338⟩ : ∃ y_ : List Int, y_ = (([] : List Int)) := ⟨_, rfl⟩
    replace H : (if y338.length + t333.length < 140737488355328 then ((some (y338 ++ t333 : List Int)).bind fun y341 => ((mantletlaw06_short.f l5).bind fun t344 => (if y341.length + t344.length < 140737488355328 then ((udp_Parse.f k a0 a1 (y341 ++ t344)).bind fun bt350 => (if bt350.2.2 = 0 then (if bt350.1 = a2 then (if bt350.2.1 = a3 then (if (t333.length : Int) = (wrap64 (8 + (t330.length : Int))) then (if 6 < (t333.length : Int) then (if (rd t333 6) = 0 then (if 7 < (t333.length : Int) then (mantletlaw06_UdpBack.j0 k a0 a1 a2 a3 a6 t333 ((rd t333 7) == 0)) else (none)) else (mantletlaw06_UdpBack.j0 k a0 a1 a2 a3 a6 t333 false)) else (none)) else (mantletlaw06_UdpBack.j0 k a0 a1 a2 a3 a6 t333 true)) else (mantletlaw06_UdpBack.j0 k a0 a1 a2 a3 a6 t333 true)) else (mantletlaw06_UdpBack.j0 k a0 a1 a2 a3 a6 t333 true)) else (mantletlaw06_UdpBack.j0 k a0 a1 a2 a3 a6 t333 true))) else (none)))) else (none)) = some r := by first | (rw [hy338]; with_reducible exact H) | (have H2_ := (Option.bind_some _ _).symm.trans H; rw [hy338]; with_reducible exact H2_) | (have H2_ := (Option.bind_some _ _).symm.trans H; with_reducible exact H2_) | with_reducible exact H | (rw [hy338]; exact H) | exact H
    have Ny338 := Aside0.mk hy338
    clear hy338
    by_cases c11 : y338.length + t333.length < 140737488355328
    · rw [if_pos c11] at H
      have LMc11 := Aside0.mk c11
      clear c11
      obtain ⟨y341, hy341⟩ : ∃ y_ : List Int, y_ = (y338 ++ t333) := ⟨_, rfl⟩
      replace H : ((mantletlaw06_short.f l5).bind fun t344 => (if y341.length + t344.length < 140737488355328 then ((udp_Parse.f k a0 a1 (y341 ++ t344)).bind fun bt350 => (if bt350.2.2 = 0 then (if bt350.1 = a2 then (if bt350.2.1 = a3 then (if (t333.length : Int) = (wrap64 (8 + (t330.length : Int))) then (if 6 < (t333.length : Int) then (if (rd t333 6) = 0 then (if 7 < (t333.length : Int) then (mantletlaw06_UdpBack.j0 k a0 a1 a2 a3 a6 t333 ((rd t333 7) == 0)) else (none)) else (mantletlaw06_UdpBack.j0 k a0 a1 a2 a3 a6 t333 false)) else (none)) else (mantletlaw06_UdpBack.j0 k a0 a1 a2 a3 a6 t333 true)) else (mantletlaw06_UdpBack.j0 k a0 a1 a2 a3 a6 t333 true)) else (mantletlaw06_UdpBack.j0 k a0 a1 a2 a3 a6 t333 true)) else (mantletlaw06_UdpBack.j0 k a0 a1 a2 a3 a6 t333 true))) else (none))) = some r := by first | (rw [hy341]; with_reducible exact H) | (have H2_ := (Option.bind_some _ _).symm.trans H; rw [hy341]; with_reducible exact H2_) | (have H2_ := (Option.bind_some _ _).symm.trans H; with_reducible exact H2_) | with_reducible exact H | (rw [hy341]; exact H) | exact H
      have Ny341 := Aside0.mk hy341
      clear hy341
      replace H := Option.bind_eq_some_iff.mp H
      obtain ⟨t344, A120, H⟩ := H
      replace H : (if y341.length + t344.length < 140737488355328 then ((udp_Parse.f k a0 a1 (y341 ++ t344)).bind fun bt350 => (if bt350.2.2 = 0 then (if bt350.1 = a2 then (if bt350.2.1 = a3 then (if (t333.length : Int) = (wrap64 (8 + (t330.length : Int))) then (if 6 < (t333.length : Int) then (if (rd t333 6) = 0 then (if 7 < (t333.length : Int) then (mantletlaw06_UdpBack.j0 k a0 a1 a2 a3 a6 t333 ((rd t333 7) == 0)) else (none)) else (mantletlaw06_UdpBack.j0 k a0 a1 a2 a3 a6 t333 false)) else (none)) else (mantletlaw06_UdpBack.j0 k a0 a1 a2 a3 a6 t333 true)) else (mantletlaw06_UdpBack.j0 k a0 a1 a2 a3 a6 t333 true)) else (mantletlaw06_UdpBack.j0 k a0 a1 a2 a3 a6 t333 true)) else (mantletlaw06_UdpBack.j0 k a0 a1 a2 a3 a6 t333 true))) else (none)) = some r := H
      have A12 := Aside0.mk A120
      clear A120
      by_cases c13 : y341.length + t344.length < 140737488355328
      · rw [if_pos c13] at H
        have LMc13 := Aside0.mk c13
        clear c13
        obtain ⟨y347, hy347⟩ : ∃ y_ : List Int, y_ = (y341 ++ t344) := ⟨_, rfl⟩
        replace H : ((udp_Parse.f k a0 a1 y347).bind fun bt350 => (if bt350.2.2 = 0 then (if bt350.1 = a2 then (if bt350.2.1 = a3 then (if (t333.length : Int) = (wrap64 (8 + (t330.length : Int))) then (if 6 < (t333.length : Int) then (if (rd t333 6) = 0 then (if 7 < (t333.length : Int) then (mantletlaw06_UdpBack.j0 k a0 a1 a2 a3 a6 t333 ((rd t333 7) == 0)) else (none)) else (mantletlaw06_UdpBack.j0 k a0 a1 a2 a3 a6 t333 false)) else (none)) else (mantletlaw06_UdpBack.j0 k a0 a1 a2 a3 a6 t333 true)) else (mantletlaw06_UdpBack.j0 k a0 a1 a2 a3 a6 t333 true)) else (mantletlaw06_UdpBack.j0 k a0 a1 a2 a3 a6 t333 true)) else (mantletlaw06_UdpBack.j0 k a0 a1 a2 a3 a6 t333 true))) = some r := by first | (rw [hy347]; with_reducible exact H) | (have H2_ := (Option.bind_some _ _).symm.trans H; rw [hy347]; with_reducible exact H2_) | (have H2_ := (Option.bind_some _ _).symm.trans H; with_reducible exact H2_) | with_reducible exact H | (rw [hy347]; exact H) | exact H
        have Ny347 := Aside0.mk hy347
        clear hy347
        replace H := Option.bind_eq_some_iff.mp H
        obtain ⟨⟨t350, t351, t352⟩, A140, H⟩ := H
        replace H : (if t352 = 0 then (if t350 = a2 then (if t351 = a3 then (if (t333.length : Int) = (wrap64 (8 + (t330.length : Int))) then (if 6 < (t333.length : Int) then (if (rd t333 6) = 0 then (if 7 < (t333.length : Int) then (mantletlaw06_UdpBack.j0 k a0 a1 a2 a3 a6 t333 ((rd t333 7) == 0)) else (none)) else (mantletlaw06_UdpBack.j0 k a0 a1 a2 a3 a6 t333 false)) else (none)) else (mantletlaw06_UdpBack.j0 k a0 a1 a2 a3 a6 t333 true)) else (mantletlaw06_UdpBack.j0 k a0 a1 a2 a3 a6 t333 true)) else (mantletlaw06_UdpBack.j0 k a0 a1 a2 a3 a6 t333 true)) else (mantletlaw06_UdpBack.j0 k a0 a1 a2 a3 a6 t333 true)) = some r := H
        have A14 := Aside0.mk A140
        clear A140
        have HC15 := Aside0.mk H
        clear H
        go_enter Try.func12, Try.ntmps12
        go_upto_region 6 with (first | ((with_reducible refine gate_callee (f := 41) rfl ?_); refine goesL_ (some 26) rfl rfl Try.func41 (by kernel_rfl) rfl #[.slice A4 l4.length c4] rfl (by (try simp only [List.map_toArray, List.map_cons, List.map_nil]); first | done | rfl) ?_; (with_reducible refine (mantletlaw06_short.calls (fun k_ => k_ < w.heap.size) _ _ l4 t330 _ ?side1 A8.out).mono ?_); (case side1 => exact Kd.V_mk HC4.out (Kd.F_below (Kd.C_F (Kd.heap_int .u8) HR4.out) (by repeat first | (with_reducible first | exact HB.out | apply below_alloc | apply pw_below_drewN | apply below_drew1) | exact HB.out))); rintro e w16 ⟨v331, rfl, ho0, hb⟩; refine ⟨_, rfl, ?_⟩; have n0_ := Aside0.mk (Kd.V_lower (Kd.V_mono (ok' := fun k_ => True) ho0 (fun k_ hk_ => trivial)) (below_size (by repeat first | (with_reducible first | exact HB.out | apply below_alloc | apply pw_below_drewN | apply below_drew1) | exact HB.out))); have n1_ := Aside0.mk (below_step (by repeat first | (with_reducible first | exact HB.out | apply below_alloc | apply pw_below_drewN | apply below_drew1) | exact HB.out) hb); clear HB; have HO332 := n0_; have HB := n1_; clear n0_ n1_; (try clear hb); (try clear hb2); (try clear hk); (try clear hi); (try clear ho0); obtain ⟨Ao17, co17, eo17⟩ := Kd.V_slice HO332.out; subst eo17) | ((with_reducible refine gate_callee (f := 44) rfl ?_); refine goesL_ (some 33) rfl rfl Try.func44 (by kernel_rfl) rfl #[.int .u32 a0, .int .u32 a1, .int .u16 a2, .int .u16 a3, .slice Ao17 t330.length co17] rfl (by (try simp only [List.map_toArray, List.map_cons, List.map_nil]); first | done | rfl) ?_; (with_reducible refine (udp_Build.strong k a0 a1 a2 a3 (fun k_ => True) _ _ t330 t333 t336 _ ?side1 A9.out).mono ?_); (case side1 => exact HO332.out); rintro e w18 ⟨v334, rfl, ho0, hb⟩; refine ⟨_, rfl, ?_⟩; have n0_ := Aside0.mk (Kd.V_elder' (by (with_reducible repeat (first | apply Kd.V_alloc | apply Kd.V_drewN | apply Kd.V_drew)); exact HO332.out) (Kd.K_base ho0) hb); have n1_ := Aside0.mk (Kd.K_lower (Kd.K_mono (ok' := fun k_ => True) ho0 (fun _ hk_ => trivial)) (below_size (by repeat first | (with_reducible first | exact HB.out | apply below_alloc | apply pw_below_drewN | apply below_drew1) | exact HB.out))); have n2_ := Aside0.mk (below_step (by repeat first | (with_reducible first | exact HB.out | apply below_alloc | apply pw_below_drewN | apply below_drew1) | exact HB.out) hb); clear HO332; clear HB; have HO332 := n0_; have HO335 := n1_; have HB := n2_; clear n0_ n1_ n2_; (try clear hb); (try clear hb2); (try clear hk); (try clear hi); (try clear ho0)) | ((with_reducible refine gate_dst (N := 52) rfl ?_); (try (refine gate_guard (by rfl) ?_; dsimp only)); refine Kd.R_lit (Kd.int .u8) _ 5 ?hg (N := 52) ?hd (xs := ([] : List Int)) (inner := []) (ok := fun _ => True) (okp := fun _ => True) ?hr ?hp (fun _ hk => hk) trivial (Below.refl _ _) (Nat.le_refl _) (by simp) ?_; (case hd => rfl); (case hg => rfl); (case hr => first | (go_simp; done) | (go_simp; rfl)); (case hp => exact (Reps.none _ _)); intro v339 w19 ho20 hb hg_ hnew_; clear hg_ hnew_; (first | rw [← Ny338.out] at ho20 | (simp only [Int.reduceToNat] at ho20; rw [← Ny338.out] at ho20)); have n0_ := Aside0.mk (Kd.V_elder' (by (with_reducible repeat (first | apply Kd.V_alloc | apply Kd.V_drewN | apply Kd.V_drew)); exact HO332.out) (Kd.R_base ho20) hb); have n1_ := Aside0.mk (Kd.K_elder' (by (with_reducible repeat (first | apply Kd.K_alloc | apply Kd.K_drewN | apply Kd.K_drew)); exact HO335.out) (Kd.R_base ho20) hb); have n2_ := Aside0.mk (Kd.R_lower (Kd.R_new' ho20 (Kd.K_lt (by (with_reducible repeat (first | apply Kd.K_alloc | apply Kd.K_drewN | apply Kd.K_drew)); exact HO335.out))) (below_size (by repeat first | (with_reducible first | exact HB.out | apply below_alloc | apply pw_below_drewN | apply below_drew1) | exact HB.out))); have n3_ := Aside0.mk (below_step (by repeat first | (with_reducible first | exact HB.out | apply below_alloc | apply pw_below_drewN | apply below_drew1) | exact HB.out) hb); clear HO332; clear HO335; clear HB; have HO332 := n0_; have HO335 := n1_; have HO340 := n2_; have HB := n3_; clear n0_ n1_ n2_ n3_; clear hb ho20; obtain ⟨Ao22, co22, eo22⟩ := Kd.K_slice HO335.out; subst eo22) | ((with_reducible refine gate_builtin (b := .append) (xs := #[.tmp 52, .tmp 53]) rfl ?_); (try (refine gate_guard (by rfl) ?_; dsimp only)); at_builtin; refine Kd.R_append_rows (Kd.int .u8) (w0 := w) w.heap.size rfl (.tmp 52) (.tmp 53) 22 5 (.int .u8 0) 1 rfl Try.underlying22 info5 rfl (by decide) (by omega) v339 y338 t333 _ _ _ (fun k_ => some k_ ≠ (.slice Ao22 t333.length co22 : Value).ownBlock) (fun _ => False) rfl rfl ?aO ?aR (fun _ _ h => h) (fun _ h => h.elim) ?aF ?aB ?aS ?aL ?_; (case aR => repeat (first | exact (Kd.K_reads' HO335.out).2.2 | (with_reducible refine Kd.C_alloc ?_ _) | (with_reducible refine Kd.C_drewN ?_ _) | (with_reducible refine Kd.C_drew ?_))); (case aB => exact (by repeat first | (with_reducible first | exact HB.out | apply below_alloc | apply pw_below_drewN | apply below_drew1) | exact HB.out)); (case aF => exact (fun k_ hk => Kd.fresh' (Kd.K_lt (by (with_reducible repeat (first | apply Kd.K_alloc | apply Kd.K_drewN | apply Kd.K_drew)); exact HO335.out)) k_ hk)); (case aO => exact (by (with_reducible repeat (first | apply Kd.R_alloc | apply Kd.R_drewN | apply Kd.R_drew)); exact Kd.R_mono HO340.out (fun _ hk => hk.2))); (case aS => exact (below_size (by repeat first | (with_reducible first | exact HB.out | apply below_alloc | apply pw_below_drewN | apply below_drew1) | exact HB.out))); (case aL => have := LMc11.out; omega); intro v342 w21 ho hb hg hat; rw [← Ny341.out] at ho; have n0_ := Aside0.mk (Kd.V_afterv (ok := (fun k_ => some k_ ≠ (.slice Ao22 t333.length co22 : Value).ownBlock)) (by (with_reducible repeat (first | apply Kd.V_alloc | apply Kd.V_drewN | apply Kd.V_drew)); exact Kd.V_mono HO332.out (fun _ hk => ⟨hk.1.2, hk.2⟩)) hg hat); have n1_ := Aside0.mk (Kd.K_after (ok := (fun _ => True)) (by (with_reducible repeat (first | apply Kd.K_alloc | apply Kd.K_drewN | apply Kd.K_drew)); exact HO335.out) hg hat); have n2_ := Aside0.mk (hb); have n3_ := Aside0.mk (ho); clear HO332; clear HO335; clear HB; clear HO340; have HO332 := n0_; have HO335 := n1_; have HB := n2_; have HO343 := n3_; clear n0_ n1_ n2_ n3_; clear ho hb hg hat) | ((with_reducible refine gate_callee (f := 41) rfl ?_); refine goesL_ (some 56) rfl rfl Try.func41 (by kernel_rfl) rfl #[.slice A5 l5.length c5] rfl (by (try simp only [List.map_toArray, List.map_cons, List.map_nil]); first | done | rfl) ?_; (with_reducible refine (mantletlaw06_short.calls (fun k_ => k_ < w.heap.size) _ _ l5 t344 _ ?side1 A12.out).mono ?_); (case side1 => exact Kd.V_mk HC5.out (Kd.F_below (Kd.C_F (Kd.heap_int .u8) HR5.out) (by repeat first | (with_reducible first | exact HB.out | apply below_alloc | apply pw_below_drewN | apply below_drew1) | exact HB.out))); rintro e w23 ⟨v345, rfl, ho0, hb⟩; refine ⟨_, rfl, ?_⟩; have n0_ := Aside0.mk (Kd.V_below (by (with_reducible repeat (first | apply Kd.V_alloc | apply Kd.V_drewN | apply Kd.V_drew)); exact HO332.out) hb); have n1_ := Aside0.mk (Kd.K_below (by (with_reducible repeat (first | apply Kd.K_alloc | apply Kd.K_drewN | apply Kd.K_drew)); exact HO335.out) hb); have n2_ := Aside0.mk (Kd.R_below (by (with_reducible repeat (first | apply Kd.R_alloc | apply Kd.R_drewN | apply Kd.R_drew)); exact HO343.out) hb); have n3_ := Aside0.mk (Kd.V_lower (Kd.V_mono (ok' := fun k_ => some k_ ≠ (.slice Ao22 t333.length co22 : Value).ownBlock ∧ some k_ ≠ (v342 : Value).ownBlock) ho0 (fun k_ hk_ => ⟨Or.elim hk_ (fun hs_ => fun e_ => Nat.not_le.2 hs_ (Kd.K_base HO335.out k_ e_.symm)) (fun hn_ => (Kd.fresh' (Kd.K_lt (by (with_reducible repeat (first | apply Kd.K_alloc | apply Kd.K_drewN | apply Kd.K_drew)); exact HO335.out)) k_ hn_)), Or.elim hk_ (fun hs_ => fun e_ => Nat.not_le.2 hs_ (Kd.R_base HO343.out k_ e_.symm)) (fun hn_ => (Kd.fresh' (Kd.R_lt (by (with_reducible repeat (first | apply Kd.R_alloc | apply Kd.R_drewN | apply Kd.R_drew)); exact HO343.out)) k_ hn_))⟩)) (below_size (by repeat first | (with_reducible first | exact HB.out | apply below_alloc | apply pw_below_drewN | apply below_drew1) | exact HB.out))); have n4_ := Aside0.mk (below_step (by repeat first | (with_reducible first | exact HB.out | apply below_alloc | apply pw_below_drewN | apply below_drew1) | exact HB.out) hb); clear HO332; clear HO335; clear HO343; clear HB; have HO332 := n0_; have HO335 := n1_; have HO343 := n2_; have HO346 := n3_; have HB := n4_; clear n0_ n1_ n2_ n3_ n4_; (try clear hb); (try clear hb2); (try clear hk); (try clear hi); (try clear ho0); obtain ⟨Ao25, co25, eo25⟩ := Kd.V_slice HO346.out; subst eo25) | ((with_reducible refine gate_builtin (b := .append) (xs := #[.tmp 54, .tmp 56]) rfl ?_); (try (refine gate_guard (by rfl) ?_; dsimp only)); at_builtin; refine Kd.R_append_rows (Kd.int .u8) (w0 := w) w.heap.size rfl (.tmp 54) (.tmp 56) 22 5 (.int .u8 0) 1 rfl Try.underlying22 info5 rfl (by decide) (by omega) v342 y341 t344 _ _ _ (fun k_ => some k_ ≠ (.slice Ao22 t333.length co22 : Value).ownBlock) (fun _ => False) rfl rfl ?aO ?aR (fun _ _ h => h) (fun _ h => h.elim) ?aF ?aB ?aS ?aL ?_; (case aR => repeat (first | exact (Kd.V_reads' HO346.out).2.2 | (with_reducible refine Kd.C_alloc ?_ _) | (with_reducible refine Kd.C_drewN ?_ _) | (with_reducible refine Kd.C_drew ?_))); (case aB => exact (by repeat first | (with_reducible first | exact HB.out | apply below_alloc | apply pw_below_drewN | apply below_drew1) | exact HB.out)); (case aF => exact (fun k_ hk => Kd.fresh' (Kd.K_lt (by (with_reducible repeat (first | apply Kd.K_alloc | apply Kd.K_drewN | apply Kd.K_drew)); exact HO335.out)) k_ hk)); (case aO => exact (by (with_reducible repeat (first | apply Kd.R_alloc | apply Kd.R_drewN | apply Kd.R_drew)); exact HO343.out)); (case aS => exact (below_size (by repeat first | (with_reducible first | exact HB.out | apply below_alloc | apply pw_below_drewN | apply below_drew1) | exact HB.out))); (case aL => have := LMc13.out; omega); intro v348 w24 ho hb hg hat; rw [← Ny347.out] at ho; have n0_ := Aside0.mk (Kd.V_afterv (ok := (fun k_ => some k_ ≠ (.slice Ao22 t333.length co22 : Value).ownBlock)) (by (with_reducible repeat (first | apply Kd.V_alloc | apply Kd.V_drewN | apply Kd.V_drew)); (first | exact HO332.out | exact Kd.V_mono HO332.out (fun _ hk_ => ⟨trivial, hk_⟩))) hg hat); have n1_ := Aside0.mk (Kd.K_after (ok := (fun _ => True)) (by (with_reducible repeat (first | apply Kd.K_alloc | apply Kd.K_drewN | apply Kd.K_drew)); exact HO335.out) hg hat); have n2_ := Aside0.mk (Kd.V_afterv (ok := (fun k_ => some k_ ≠ (.slice Ao22 t333.length co22 : Value).ownBlock)) (by (with_reducible repeat (first | apply Kd.V_alloc | apply Kd.V_drewN | apply Kd.V_drew)); (first | exact HO346.out | exact Kd.V_mono HO346.out (fun _ hk_ => ⟨trivial, hk_⟩))) hg hat); have n3_ := Aside0.mk (hb); have n4_ := Aside0.mk (ho); clear HO332; clear HO335; clear HO346; clear HB; clear HO343; have HO332 := n0_; have HO335 := n1_; have HO346 := n2_; have HB := n3_; have HO349 := n4_; clear n0_ n1_ n2_ n3_ n4_; clear ho hb hg hat; obtain ⟨Ao26, co26, eo26⟩ := Kd.R_slice HO349.out; subst eo26) | ((with_reducible refine gate_callee (f := 40) rfl ?_); refine goesL_ (some 58) rfl rfl Try.func40 (by kernel_rfl) rfl #[.int .u32 a0, .int .u32 a1, .slice Ao26 y347.length co26] rfl (by (try simp only [List.map_toArray, List.map_cons, List.map_nil]); first | done | rfl) ?_; (with_reducible refine (udp_Parse.calls k a0 a1 _ _ y347 t350 t351 t352 _ ?side1 ?side2 A14.out).mono ?_); (case side1 => repeat (first | exact (Kd.R_reads' HO349.out).2.2 | (with_reducible refine Kd.C_alloc ?_ _) | (with_reducible refine Kd.C_drewN ?_ _) | (with_reducible refine Kd.C_drew ?_))); (case side2 => exact (Kd.R_reads' HO349.out).2.1); rintro e w27 ⟨rfl, hb⟩; refine ⟨_, rfl, ?_⟩; have n0_ := Aside0.mk (Kd.V_below (by (with_reducible repeat (first | apply Kd.V_alloc | apply Kd.V_drewN | apply Kd.V_drew)); exact HO332.out) hb); have n1_ := Aside0.mk (Kd.K_below (by (with_reducible repeat (first | apply Kd.K_alloc | apply Kd.K_drewN | apply Kd.K_drew)); exact HO335.out) hb); have n2_ := Aside0.mk (Kd.V_below (by (with_reducible repeat (first | apply Kd.V_alloc | apply Kd.V_drewN | apply Kd.V_drew)); exact HO346.out) hb); have n3_ := Aside0.mk (Kd.R_below (by (with_reducible repeat (first | apply Kd.R_alloc | apply Kd.R_drewN | apply Kd.R_drew)); exact HO349.out) hb); have n4_ := Aside0.mk (below_step (by repeat first | (with_reducible first | exact HB.out | apply below_alloc | apply pw_below_drewN | apply below_drew1) | exact HB.out) hb); clear HO332; clear HO335; clear HO346; clear HO349; clear HB; have HO332 := n0_; have HO335 := n1_; have HO346 := n2_; have HO349 := n3_; have HB := n4_; clear n0_ n1_ n2_ n3_ n4_; (try clear hb); (try clear hb2); (try clear hk); (try clear hi)))
        (try simp only [Act.put, List.setIfInBounds_toArray, List.set_cons_zero, List.set_cons_succ])
        go_cut [93] (fun v93 wc => ∃ (kq : Nat) (x93_14 : Bool), v93 = .bool x93_14 ∧ Aside0 (mantletlaw06_UdpBack.j0 kq a0 a1 a2 a3 a6 t333 x93_14 = some r) ∧ Aside0 (kq ≤ k) ∧ Aside0 (Kd.K (Kd.int .u8) 5 wc w.heap.size (fun _ => True) (.slice Ao22 t333.length co22) t333) ∧ Aside0 (Below w.heap.size w wc))
        case first =>
          have H := HC15.out
          clear HC15
          by_cases c28 : t352 = 0
          · rw [if_pos c28] at H
            have c28b0 : (t352 == 0) = true := beq_iff_eq.mpr c28
            have c28b1 : (t352 != 0) = false := bne_eq_false_iff_eq.mpr c28
            clear c28
            (first | rw [c28b0] | (simp only [i64_w, i32_w]; rw [c28b0]) | skip)
            by_cases c29 : t350 = a2
            · rw [if_pos c29] at H
              have c29b0 : (t350 == a2) = true := beq_iff_eq.mpr c29
              have c29b1 : (t350 != a2) = false := bne_eq_false_iff_eq.mpr c29
              clear c29
              by_cases c30 : t351 = a3
              · rw [if_pos c30] at H
                have c30b0 : (t351 == a3) = true := beq_iff_eq.mpr c30
                have c30b1 : (t351 != a3) = false := bne_eq_false_iff_eq.mpr c30
                clear c30
                by_cases c31 : (t333.length : Int) = (wrap64 (8 + (t330.length : Int)))
                · rw [if_pos c31] at H
                  have c31b0 : ((t333.length : Int) == (wrap64 (8 + (t330.length : Int)))) = true := beq_iff_eq.mpr c31
                  have c31b1 : ((t333.length : Int) != (wrap64 (8 + (t330.length : Int)))) = false := bne_eq_false_iff_eq.mpr c31
                  clear c31
                  by_cases c32 : 6 < (t333.length : Int)
                  · rw [if_pos c32] at H
                    have c32b0 : decide (6 < (t333.length : Int)) = true := decide_eq_true c32
                    have c32b1 : decide (6 < t333.length) = true := decide_eq_true (by omega)
                    clear c32
                    by_cases c33 : (rd t333 6) = 0
                    · rw [if_pos c33] at H
                      have c33b0 : ((rd t333 6) == 0) = true := beq_iff_eq.mpr c33
                      have c33b1 : ((rd t333 6) != 0) = false := bne_eq_false_iff_eq.mpr c33
                      clear c33
                      by_cases c34 : 7 < (t333.length : Int)
                      · rw [if_pos c34] at H
                        have c34b0 : decide (7 < (t333.length : Int)) = true := decide_eq_true c34
                        have c34b1 : decide (7 < t333.length) = true := decide_eq_true (by omega)
                        clear c34
                        have H' := Aside0.mk H
                        clear H
                        have p353 : 0 ≤ (6 : Int) := (by omega)
                        have q353 : 6 < (t333.length : Int) := of_decide_eq_true (by first | (with_reducible assumption) | assumption)
                        obtain ⟨ad353, e353, hx353_0⟩ := Kd.at_int (Kd.K_reads' HO335.out).2.2 6 p353 q353
                        cases e353
                        (try simp only [show (6 : Int).toNat = 6 from rfl, Nat.reduceMul, Nat.reduceEqDiff, Go.Addr.add, ↓reduceIte] at hx353_0)
                        have qi353 : (6 < t333.length) = True := eq_true (by omega)
                        (try rw [show ((6 : Int)).toNat = 6 from rfl] at hx353_0)
                        replace p353 := eq_true p353
                        replace q353 := eq_true q353
                        have p354 : 0 ≤ (7 : Int) := (by omega)
                        have q354 : 7 < (t333.length : Int) := of_decide_eq_true (by first | (with_reducible assumption) | assumption)
                        obtain ⟨ad354, e354, hx354_0⟩ := Kd.at_int (Kd.K_reads' HO335.out).2.2 7 p354 q354
                        obtain rfl : ad353 = ad354 := (by injection e354)
                        (try simp only [show (7 : Int).toNat = 7 from rfl, Nat.reduceMul, Nat.reduceEqDiff, Go.Addr.add, ↓reduceIte] at hx354_0)
                        have qi354 : (7 < t333.length) = True := eq_true (by omega)
                        (try rw [show ((7 : Int)).toNat = 7 from rfl] at hx354_0)
                        replace p354 := eq_true p354
                        replace q354 := eq_true q354
                        go_wp2
                        go_meet
                        case rel => exact ⟨_, (((rd t333 7) == 0)), (by first | rfl | (simp; done) | (simp [*]; done)), H', ⟨by first | omega | exact Nat.le_refl _⟩, ⟨by (with_reducible repeat (first | apply Kd.R_alloc | apply Kd.R_drewN | apply Kd.R_drew)); exact Kd.K_mono HO335.out (fun _ hk => trivial)⟩, ⟨by repeat first | (with_reducible first | exact HB.out | apply below_alloc | apply pw_below_drewN | apply below_drew1) | exact HB.out⟩⟩
                      · rw [if_neg c34] at H
                        exact absurd H (by simp)
                    · rw [if_neg c33] at H
                      have c33b0 : ((rd t333 6) == 0) = false := beq_eq_false_iff_ne.mpr c33
                      have c33b1 : ((rd t333 6) != 0) = true := bne_iff_ne.mpr c33
                      have H' := Aside0.mk H
                      clear H
                      have p353 : 0 ≤ (6 : Int) := (by omega)
                      have q353 : 6 < (t333.length : Int) := of_decide_eq_true (by first | (with_reducible assumption) | assumption)
                      obtain ⟨ad353, e353, hx353_0⟩ := Kd.at_int (Kd.K_reads' HO335.out).2.2 6 p353 q353
                      cases e353
                      (try simp only [show (6 : Int).toNat = 6 from rfl, Nat.reduceMul, Nat.reduceEqDiff, Go.Addr.add, ↓reduceIte] at hx353_0)
                      have qi353 : (6 < t333.length) = True := eq_true (by omega)
                      (try rw [show ((6 : Int)).toNat = 6 from rfl] at hx353_0)
                      replace p353 := eq_true p353
                      replace q353 := eq_true q353
                      go_wp2
                      go_meet
                      case rel => exact ⟨_, (false), (by first | rfl | (simp; done) | (simp [*]; done)), H', ⟨by first | omega | exact Nat.le_refl _⟩, ⟨by (with_reducible repeat (first | apply Kd.R_alloc | apply Kd.R_drewN | apply Kd.R_drew)); exact Kd.K_mono HO335.out (fun _ hk => trivial)⟩, ⟨by repeat first | (with_reducible first | exact HB.out | apply below_alloc | apply pw_below_drewN | apply below_drew1) | exact HB.out⟩⟩
                  · rw [if_neg c32] at H
                    exact absurd H (by simp)
                · rw [if_neg c31] at H
                  have c31b0 : ((t333.length : Int) == (wrap64 (8 + (t330.length : Int)))) = false := beq_eq_false_iff_ne.mpr c31
                  have c31b1 : ((t333.length : Int) != (wrap64 (8 + (t330.length : Int)))) = true := bne_iff_ne.mpr c31
                  have H' := Aside0.mk H
                  clear H
                  go_wp2
                  go_meet
                  case rel => exact ⟨_, (true), (by first | rfl | (simp; done) | (simp [*]; done)), H', ⟨by first | omega | exact Nat.le_refl _⟩, ⟨by (with_reducible repeat (first | apply Kd.R_alloc | apply Kd.R_drewN | apply Kd.R_drew)); exact Kd.K_mono HO335.out (fun _ hk => trivial)⟩, ⟨by repeat first | (with_reducible first | exact HB.out | apply below_alloc | apply pw_below_drewN | apply below_drew1) | exact HB.out⟩⟩
              · rw [if_neg c30] at H
                have c30b0 : (t351 == a3) = false := beq_eq_false_iff_ne.mpr c30
                have c30b1 : (t351 != a3) = true := bne_iff_ne.mpr c30
                have H' := Aside0.mk H
                clear H
                go_wp2
                go_meet
                case rel => exact ⟨_, (true), (by first | rfl | (simp; done) | (simp [*]; done)), H', ⟨by first | omega | exact Nat.le_refl _⟩, ⟨by (with_reducible repeat (first | apply Kd.R_alloc | apply Kd.R_drewN | apply Kd.R_drew)); exact Kd.K_mono HO335.out (fun _ hk => trivial)⟩, ⟨by repeat first | (with_reducible first | exact HB.out | apply below_alloc | apply pw_below_drewN | apply below_drew1) | exact HB.out⟩⟩
            · rw [if_neg c29] at H
              have c29b0 : (t350 == a2) = false := beq_eq_false_iff_ne.mpr c29
              have c29b1 : (t350 != a2) = true := bne_iff_ne.mpr c29
              have H' := Aside0.mk H
              clear H
              go_wp2
              go_meet
              case rel => exact ⟨_, (true), (by first | rfl | (simp; done) | (simp [*]; done)), H', ⟨by first | omega | exact Nat.le_refl _⟩, ⟨by (with_reducible repeat (first | apply Kd.R_alloc | apply Kd.R_drewN | apply Kd.R_drew)); exact Kd.K_mono HO335.out (fun _ hk => trivial)⟩, ⟨by repeat first | (with_reducible first | exact HB.out | apply below_alloc | apply pw_below_drewN | apply below_drew1) | exact HB.out⟩⟩
          · rw [if_neg c28] at H
            have c28b0 : (t352 == 0) = false := beq_eq_false_iff_ne.mpr c28
            have c28b1 : (t352 != 0) = true := bne_iff_ne.mpr c28
            (first | rw [c28b0] | (simp only [i64_w, i32_w]; rw [c28b0]) | skip)
            have H' := Aside0.mk H
            clear H
            go_wp2
            go_meet
            case rel => exact ⟨_, (true), (by first | rfl | (simp; done) | (simp [*]; done)), H', ⟨by first | omega | exact Nat.le_refl _⟩, ⟨by (with_reducible repeat (first | apply Kd.R_alloc | apply Kd.R_drewN | apply Kd.R_drew)); exact Kd.K_mono HO335.out (fun _ hk => trivial)⟩, ⟨by repeat first | (with_reducible first | exact HB.out | apply below_alloc | apply pw_below_drewN | apply below_drew1) | exact HB.out⟩⟩
        case rest =>
          clear HC15
          try clear c1
          try clear c2
          try clear p2
          try clear c3
          try clear p3
          try clear q3
          try clear hx3
          try clear qi3
          try clear c4
          try clear c5
          try clear p6
          try clear c10
          try clear c10b0
          try clear c10b1
          try clear c11
          try clear c12
          try clear c13
          try clear c28
          try clear c28b0
          try clear c28b1
          try clear c29
          try clear c29b0
          try clear c29b1
          try clear c30
          try clear c30b0
          try clear c30b1
          try clear c31
          try clear c31b0
          try clear c31b1
          try clear c32
          try clear c32b0
          try clear c32b1
          try clear c33
          try clear c33b0
          try clear c33b1
          try clear c34
          try clear c34b0
          try clear c34b1
          try clear hx353_0
          try clear hx354_0
          try clear p353
          try clear p354
          try clear q353
          try clear q354
          obtain ⟨kq, x93_14, rfl, HA, HJ14, HO_16, HB⟩ := hcut
          cases kq with
          | zero => exact absurd HA.out (by simp [mantletlaw06_UdpBack.j0])
          | succ kj14 =>
            have H := HA.out
            clear HA
            simp only [mantletlaw06_UdpBack.j0] at H
            by_cases c35 : x93_14 = true
            · subst c35
              have H1 : (some false) = some r := by rw [if_pos rfl] at H; exact H
              clear H
              have H := H1
              clear H1
              obtain rfl := Option.some.inj H
              go_wp2
              go_ret
              exact ⟨by first | rfl | (simp [errW_none, errW_some] <;> rfl) | (simp [*, errW_none, errW_some] <;> rfl), by repeat first | (with_reducible first | exact HB.out | apply below_alloc | apply pw_below_drewN | apply below_drew1) | exact HB.out⟩
            · replace c35 := Bool.eq_false_iff.mpr c35
              subst c35
              have H1 : (if (t333.length : Int) = 0 then (none) else (if 0 ≤ (Int.tmod (wrap64 (Int.tdiv (wrap64 (a6)) 8)) (t333.length : Int)) then (if (Int.tmod (wrap64 (Int.tdiv (wrap64 (a6)) 8)) (t333.length : Int)) < (t333.length : Int) then (if 0 ≤ (Int.tmod a6 8) then ((udp_Parse.f kj14 a0 a1 (t333.set ((Int.tmod (wrap64 (Int.tdiv (wrap64 (a6)) 8)) (t333.length : Int)) : Int).toNat (Go.bits .xor .u8 (rd t333 (Int.tmod (wrap64 (Int.tdiv (wrap64 (a6)) 8)) (t333.length : Int))) (shl .u8 1 (Int.tmod a6 8))))).bind fun bt357 => (if (Int.tmod (wrap64 (Int.tdiv (wrap64 (a6)) 8)) (t333.length : Int)) ≥ 4 then (mantletlaw06_UdpBack.j1 kj14 a2 a3 bt357.1 bt357.2.1 bt357.2.2 (decide ((Int.tmod (wrap64 (Int.tdiv (wrap64 (a6)) 8)) (t333.length : Int)) < 8))) else (mantletlaw06_UdpBack.j1 kj14 a2 a3 bt357.1 bt357.2.1 bt357.2.2 false))) else (none)) else (none)) else (none))) = some r := by rw [if_neg (show ¬ (false = true) by decide)] at H; exact H
              clear H
              have H := H1
              clear H1
              by_cases c36 : (t333.length : Int) = 0
              · rw [if_pos c36] at H
                exact absurd H (by simp)
              · rw [if_neg c36] at H
                have c36b0 : ((t333.length : Int) == 0) = false := beq_eq_false_iff_ne.mpr c36
                have c36b1 : ((t333.length : Int) != 0) = true := bne_iff_ne.mpr c36
                have c36b2 : ¬ (t333 = []) := fun h_ => c36 (by rw [h_]; rfl)
                obtain ⟨ji37, hji37⟩ : ∃ j_ : Int, (Int.tmod (wrap64 (Int.tdiv (wrap64 (a6)) 8)) (t333.length : Int)) = j_ := ⟨_, rfl⟩
                replace H : (if 0 ≤ (ji37) then (if (ji37) < (t333.length : Int) then (if 0 ≤ (Int.tmod a6 8) then ((udp_Parse.f kj14 a0 a1 (t333.set ((ji37) : Int).toNat (Go.bits .xor .u8 (rd t333 (ji37)) (shl .u8 1 (Int.tmod a6 8))))).bind fun bt357 => (if (ji37) ≥ 4 then (mantletlaw06_UdpBack.j1 kj14 a2 a3 bt357.1 bt357.2.1 bt357.2.2 (decide ((ji37) < 8))) else (mantletlaw06_UdpBack.j1 kj14 a2 a3 bt357.1 bt357.2.1 bt357.2.2 false))) else (none)) else (none)) else (none)) = some r := by first | (rw [hji37] at H; exact H) | (simp only [hji37] at H ⊢; exact H)
                by_cases c38 : 0 ≤ (ji37)
                · rw [if_pos c38] at H
                  have c38b0 : decide (0 ≤ (ji37)) = true := decide_eq_true c38
                  clear c38
                  by_cases c39 : (ji37) < (t333.length : Int)
                  · rw [if_pos c39] at H
                    have c39b0 : decide ((ji37) < (t333.length : Int)) = true := decide_eq_true c39
                    clear c39
                    obtain ⟨ji40, hji40⟩ : ∃ j_ : Int, (Int.tmod a6 8) = j_ := ⟨_, rfl⟩
                    replace H : (if 0 ≤ (ji40) then ((udp_Parse.f kj14 a0 a1 (t333.set ((ji37) : Int).toNat (Go.bits .xor .u8 (rd t333 (ji37)) (shl .u8 1 (ji40))))).bind fun bt357 => (if (ji37) ≥ 4 then (mantletlaw06_UdpBack.j1 kj14 a2 a3 bt357.1 bt357.2.1 bt357.2.2 (decide ((ji37) < 8))) else (mantletlaw06_UdpBack.j1 kj14 a2 a3 bt357.1 bt357.2.1 bt357.2.2 false))) else (none)) = some r := by first | (rw [hji40] at H; exact H) | (simp only [hji40] at H ⊢; exact H)
                    by_cases c41 : 0 ≤ (ji40)
                    · rw [if_pos c41] at H
                      have c41b0 := eq_true c41
                      have c41b1 : decide (0 ≤ (ji40)) = true := decide_eq_true c41
                      clear c41
                      obtain ⟨ji42, hji42⟩ : ∃ j_ : Int, (shl .u8 1 (ji40)) = j_ := ⟨_, rfl⟩
                      replace H : ((udp_Parse.f kj14 a0 a1 (t333.set ((ji37) : Int).toNat (Go.bits .xor .u8 (rd t333 (ji37)) (ji42)))).bind fun bt357 => (if (ji37) ≥ 4 then (mantletlaw06_UdpBack.j1 kj14 a2 a3 bt357.1 bt357.2.1 bt357.2.2 (decide ((ji37) < 8))) else (mantletlaw06_UdpBack.j1 kj14 a2 a3 bt357.1 bt357.2.1 bt357.2.2 false))) = some r := by first | (rw [hji42] at H; exact H) | (simp only [hji42] at H ⊢; exact H)
                      have hji42_ : (IntKind.u8.wrap (1 * 2 ^ min (ji40).toNat 8)) = ji42 := hji42
                      have hji42z : (ji40) ≤ 8 → (IntKind.u8.wrap (1 * 2 ^ (ji40).toNat)) = ji42 := shl_small hji42
                      have hji42u : (IntKind.u8.wrap (2 ^ min (ji40).toNat 8)) = ji42 := by have h_ := hji42_; rw [Int.one_mul] at h_; exact h_
                      have hji42v : (ji40) ≤ 8 → (IntKind.u8.wrap (2 ^ (ji40).toNat)) = ji42 := fun hle_ => by have h_ := hji42z hle_; rw [Int.one_mul] at h_; exact h_
                      obtain ⟨y356, hy356⟩ : ∃ y_ : List Int, y_ = (t333.set ((ji37) : Int).toNat (Go.bits .xor .u8 (rd t333 (ji37)) (ji42))) := ⟨_, rfl⟩
                      replace H : ((udp_Parse.f kj14 a0 a1 y356).bind fun bt357 => (if (ji37) ≥ 4 then (mantletlaw06_UdpBack.j1 kj14 a2 a3 bt357.1 bt357.2.1 bt357.2.2 (decide ((ji37) < 8))) else (mantletlaw06_UdpBack.j1 kj14 a2 a3 bt357.1 bt357.2.1 bt357.2.2 false))) = some r := by first | (rw [hy356]; with_reducible exact H) | (have H2_ := (Option.bind_some _ _).symm.trans H; rw [hy356]; with_reducible exact H2_) | (have H2_ := (Option.bind_some _ _).symm.trans H; with_reducible exact H2_) | with_reducible exact H | (rw [hy356]; exact H) | exact H
                      have Ny356 := Aside0.mk hy356
                      clear hy356
                      replace H := Option.bind_eq_some_iff.mp H
                      obtain ⟨⟨t357, t358, t359⟩, A440, H⟩ := H
                      replace H : (if (ji37) ≥ 4 then (mantletlaw06_UdpBack.j1 kj14 a2 a3 t357 t358 t359 (decide ((ji37) < 8))) else (mantletlaw06_UdpBack.j1 kj14 a2 a3 t357 t358 t359 false)) = some r := H
                      have A44 := Aside0.mk A440
                      clear A440
                      have HC45 := Aside0.mk H
                      clear H
                      have p355 : 0 ≤ ((ji37) : Int) := of_decide_eq_true (by first | (with_reducible assumption) | assumption)
                      have q355 : (ji37) < (t333.length : Int) := of_decide_eq_true (by first | (with_reducible assumption) | assumption)
                      obtain ⟨ad355, e355, hx355_0⟩ := Kd.at_int (Kd.K_reads' HO_16.out).2.2 (ji37) p355 q355
                      cases e355
                      replace p355 := eq_true p355
                      replace q355 := eq_true q355
                      have p43 : 0 ≤ ((ji37) : Int) := of_decide_eq_true (by first | (with_reducible assumption) | assumption)
                      have q43 : ((ji37) : Int) < ((t333.length : Int) : Int) := of_decide_eq_true (by first | (with_reducible assumption) | assumption)
                      obtain ⟨go43, co43, eo43, gb43, gl43, cl43, HG43⟩ := Kd.K_form HO_16.out (by omega)
                      (first | cases eo43 | (injection eo43 with ea_ en_ ec_; (first | subst ea_ | (injection ea_ with ea_; subst ea_)); subst ec_; clear en_))
                      have GB43 := Aside0.mk gb43
                      have GG43 := Aside0.mk HG43
                      clear gb43 gl43 HG43
                      (first | simp only [add_plain] at hx355_0 | skip)
                      obtain ⟨hx43_0, hf43_0⟩ := Kd.K_celln 0 HO_16.out ((ji37) : Int) p43 q43
                      replace p43 := eq_true p43
                      replace q43 := eq_true q43
                      have HP46 := Kd.K_putg HO_16.out ((ji37) : Int) (Go.bits .xor .u8 (rd t333 (ji37)) (ji42))
                      go_upto_region 11 with (first | ((with_reducible refine gate_store (t := 5) (p := 108) rfl ?_); refine store_event (t := 5) (p := 108) (v := ?vo_w47) (w1 := (wc.setCell ⟨go43, ((ji37) : Int).toNat, none⟩ (.int .u8 (Go.bits .xor .u8 (rd t333 (ji37)) (ji42))))) ?hg ?ho ?hn ?hr ?_; (case ho => rfl); (case hg => rfl); (case hn => rfl); (case hr => first | (go_simp; done) | (go_simp; rfl)); intro w47 hw; have hg : wc.grownBy w47 (some go43) := (by rw [hw]; exact HP46.2); have hp_ : Kd.K (Kd.int .u8) 5 w47 w.heap.size (fun _ => True) (.slice (some ⟨go43, 0, none⟩) t333.length co22) y356 := (by rw [hw, Ny356.out]; exact HP46.1); clear HP46; have n0_ := Aside0.mk (hp_); have n1_ := Aside0.mk ((by rw [hw]; exact below_set (HB.out) GB43.out : Below w.heap.size w w47)); clear HO_16; clear HB; have HO_16 := n0_; have HB := n1_; clear n0_ n1_; clear hg hw hp_) | ((with_reducible refine gate_callee (f := 40) rfl ?_); refine goesL_ (some 113) rfl rfl Try.func40 (by kernel_rfl) rfl #[.int .u32 a0, .int .u32 a1, .slice (some ⟨go43, 0, none⟩) y356.length co22] rfl (by (try simp only [List.map_toArray, List.map_cons, List.map_nil]); first | done | (rw [show y356.length = t333.length from (Kd.K_reads' HO_16.out).1.symm] <;> rfl) | rfl | (simp only [List.length_drop, List.length_take]; rfl)) ?_; (with_reducible refine (udp_Parse.calls kj14 a0 a1 _ _ y356 t357 t358 t359 _ ?side1 ?side2 A44.out).mono ?_); (case side1 => repeat (first | exact (Kd.K_reads' HO_16.out).2.2 | (with_reducible refine Kd.C_alloc ?_ _) | (with_reducible refine Kd.C_drewN ?_ _) | (with_reducible refine Kd.C_drew ?_))); (case side2 => rw [show y356.length = t333.length from (Kd.K_reads' HO_16.out).1.symm]; exact (Kd.K_reads' HO_16.out).2.1); rintro e w48 ⟨rfl, hb⟩; refine ⟨_, rfl, ?_⟩; have n0_ := Aside0.mk (Kd.K_below (by (with_reducible repeat (first | apply Kd.K_alloc | apply Kd.K_drewN | apply Kd.K_drew)); exact HO_16.out) hb); have n1_ := Aside0.mk (below_step (by repeat first | (with_reducible first | exact HB.out | apply below_alloc | apply pw_below_drewN | apply below_drew1) | exact HB.out) hb); clear HO_16; clear HB; have HO_16 := n0_; have HB := n1_; clear n0_ n1_; (try clear hb); (try clear hb2); (try clear hk); (try clear hi)))
                      (try simp only [Act.put, List.setIfInBounds_toArray, List.set_cons_zero, List.set_cons_succ])
                      go_cut [122] (fun v122 wc => ∃ (kq : Nat) (x122_44 : Bool), v122 = .bool x122_44 ∧ Aside0 (mantletlaw06_UdpBack.j1 kq a2 a3 t357 t358 t359 x122_44 = some r) ∧ Aside0 (kq ≤ kj14) ∧ Aside0 (Below w.heap.size w wc))
                      case first =>
                        have H := HC45.out
                        clear HC45
                        by_cases c49 : (ji37) ≥ 4
                        · rw [if_pos c49] at H
                          have c49b0 : decide (4 ≤ (ji37)) = true := decide_eq_true c49
                          clear c49
                          (first | rw [c49b0] | (simp only [i64_w, i32_w]; rw [c49b0]) | skip)
                          have H' := Aside0.mk H
                          clear H
                          go_wp2
                          go_meet
                          case rel => exact ⟨_, (decide ((ji37) < 8)), (by first | rfl | (simp; done) | (simp only [← hji37] <;> (first | rfl | simp)) | (simp [*]; done)), H', ⟨by have := HJ14.out; first | omega | exact Nat.le_refl _⟩, ⟨by repeat first | (with_reducible first | exact HB.out | apply below_alloc | apply pw_below_drewN | apply below_drew1) | exact HB.out⟩⟩
                        · rw [if_neg c49] at H
                          have c49b0 : decide (4 ≤ (ji37)) = false := decide_eq_false c49
                          clear c49
                          (first | rw [c49b0] | (simp only [i64_w, i32_w]; rw [c49b0]) | skip)
                          have H' := Aside0.mk H
                          clear H
                          go_wp2
                          go_meet
                          case rel => exact ⟨_, (false), (by first | rfl | (simp; done) | (simp [*]; done)), H', ⟨by have := HJ14.out; first | omega | exact Nat.le_refl _⟩, ⟨by repeat first | (with_reducible first | exact HB.out | apply below_alloc | apply pw_below_drewN | apply below_drew1) | exact HB.out⟩⟩
                      case rest =>
                        clear HC45
                        try clear c1
                        try clear c2
                        try clear p2
                        try clear c3
                        try clear p3
                        try clear q3
                        try clear hx3
                        try clear qi3
                        try clear c4
                        try clear p4
                        try clear q4
                        try clear hx4
                        try clear c5
                        try clear p6
                        try clear c10
                        try clear c10b0
                        try clear c10b1
                        try clear c11
                        try clear c12
                        try clear c13
                        try clear c28
                        try clear c28b0
                        try clear c28b1
                        try clear c29
                        try clear c29b0
                        try clear c29b1
                        try clear c30
                        try clear c30b0
                        try clear c30b1
                        try clear c31
                        try clear c31b0
                        try clear c31b1
                        try clear c32
                        try clear c32b0
                        try clear c32b1
                        try clear c33
                        try clear c33b0
                        try clear c33b1
                        try clear c34
                        try clear c34b0
                        try clear c34b1
                        try clear c35
                        try clear p35
                        try clear q35
                        try clear hx35
                        try clear qi35
                        try clear c36
                        try clear c36b0
                        try clear c36b1
                        try clear c36b2
                        try clear c38
                        try clear c38b0
                        try clear c39
                        try clear c39b0
                        try clear c40
                        try clear c41
                        try clear c41b0
                        try clear c41b1
                        try clear p43
                        try clear q43
                        try clear hx43
                        try clear hf43
                        try clear c44
                        try clear c49
                        try clear c49b0
                        try clear hx353_0
                        try clear hx354_0
                        try clear hx355_0
                        try clear hx43_0
                        try clear p2
                        try clear p3
                        try clear p353
                        try clear p354
                        try clear p355
                        try clear p43
                        try clear p6
                        try clear q3
                        try clear q353
                        try clear q354
                        try clear q355
                        try clear q43
                        obtain ⟨kq, x122_44, rfl, HA, HJ44, HB⟩ := hcut
                        cases kq with
                        | zero => exact absurd HA.out (by simp [mantletlaw06_UdpBack.j1])
                        | succ kj44 =>
                          have H := HA.out
                          clear HA
                          simp only [mantletlaw06_UdpBack.j1] at H
                          by_cases c50 : x122_44 = true
                          · subst c50
                            have H1 : ((mantletlaw06_awake.f kj44).bind fun t360 => (if t360 = true then (if t359 = 0 then (if t357 = a2 then (some (t358 == a3)) else (some false)) else (some true)) else (some false))) = some r := by rw [if_pos rfl] at H; exact H
                            clear H
                            have H := H1
                            clear H1
                            replace H := Option.bind_eq_some_iff.mp H
                            obtain ⟨t360, A510, H⟩ := H
                            replace H : (if t360 = true then (if t359 = 0 then (if t357 = a2 then (some (t358 == a3)) else (some false)) else (some true)) else (some false)) = some r := H
                            have A51 := Aside0.mk A510
                            clear A510
                            by_cases c52 : t360 = true
                            · subst c52
                              have H1 : (if t359 = 0 then (if t357 = a2 then (some (t358 == a3)) else (some false)) else (some true)) = some r := by rw [if_pos rfl] at H; exact H
                              clear H
                              have H := H1
                              clear H1
                              by_cases c53 : t359 = 0
                              · rw [if_pos c53] at H
                                have c53b0 : (t359 == 0) = true := beq_iff_eq.mpr c53
                                have c53b1 : (t359 != 0) = false := bne_eq_false_iff_eq.mpr c53
                                clear c53
                                by_cases c54 : t357 = a2
                                · rw [if_pos c54] at H
                                  have c54b0 : (t357 == a2) = true := beq_iff_eq.mpr c54
                                  have c54b1 : (t357 != a2) = false := bne_eq_false_iff_eq.mpr c54
                                  clear c54
                                  obtain rfl := Option.some.inj H
                                  go_wp2_with (first | ((with_reducible refine gate_callee (f := 43) rfl ?_); refine goesL_ (some 123) rfl rfl Try.func43 (by kernel_rfl) rfl #[] rfl (by (try simp only [List.map_toArray, List.map_cons, List.map_nil]); first | done | rfl) ?_; (with_reducible refine (mantletlaw06_awake.calls kj44  true _ A51.out).mono ?_); rintro e w55 ⟨rfl, hb⟩; refine ⟨_, rfl, ?_⟩; have n0_ := Aside0.mk (below_step (by repeat first | (with_reducible first | exact HB.out | apply below_alloc | apply pw_below_drewN | apply below_drew1) | exact HB.out) hb); clear HB; have HB := n0_; clear n0_; (try clear hb); (try clear hb2); (try clear hk); (try clear hi)))
                                  go_ret
                                  exact ⟨by first | rfl | (simp [errW_none, errW_some] <;> rfl) | (simp only [← hji37, ← hji40, ← hji42]; first | rfl | (simp [errW_none, errW_some] <;> rfl)) | (simp [*, errW_none, errW_some] <;> rfl), by repeat first | (with_reducible first | exact HB.out | apply below_alloc | apply pw_below_drewN | apply below_drew1) | exact HB.out⟩
                                · rw [if_neg c54] at H
                                  have c54b0 : (t357 == a2) = false := beq_eq_false_iff_ne.mpr c54
                                  have c54b1 : (t357 != a2) = true := bne_iff_ne.mpr c54
                                  obtain rfl := Option.some.inj H
                                  go_wp2_with (first | ((with_reducible refine gate_callee (f := 43) rfl ?_); refine goesL_ (some 123) rfl rfl Try.func43 (by kernel_rfl) rfl #[] rfl (by (try simp only [List.map_toArray, List.map_cons, List.map_nil]); first | done | rfl) ?_; (with_reducible refine (mantletlaw06_awake.calls kj44  true _ A51.out).mono ?_); rintro e w56 ⟨rfl, hb⟩; refine ⟨_, rfl, ?_⟩; have n0_ := Aside0.mk (below_step (by repeat first | (with_reducible first | exact HB.out | apply below_alloc | apply pw_below_drewN | apply below_drew1) | exact HB.out) hb); clear HB; have HB := n0_; clear n0_; (try clear hb); (try clear hb2); (try clear hk); (try clear hi)))
                                  go_ret
                                  exact ⟨by first | rfl | (simp [errW_none, errW_some] <;> rfl) | (simp only [← hji37, ← hji40, ← hji42]; first | rfl | (simp [errW_none, errW_some] <;> rfl)) | (simp [*, errW_none, errW_some] <;> rfl), by repeat first | (with_reducible first | exact HB.out | apply below_alloc | apply pw_below_drewN | apply below_drew1) | exact HB.out⟩
                              · rw [if_neg c53] at H
                                have c53b0 : (t359 == 0) = false := beq_eq_false_iff_ne.mpr c53
                                have c53b1 : (t359 != 0) = true := bne_iff_ne.mpr c53
                                obtain rfl := Option.some.inj H
                                go_wp2_with (first | ((with_reducible refine gate_callee (f := 43) rfl ?_); refine goesL_ (some 123) rfl rfl Try.func43 (by kernel_rfl) rfl #[] rfl (by (try simp only [List.map_toArray, List.map_cons, List.map_nil]); first | done | rfl) ?_; (with_reducible refine (mantletlaw06_awake.calls kj44  true _ A51.out).mono ?_); rintro e w57 ⟨rfl, hb⟩; refine ⟨_, rfl, ?_⟩; have n0_ := Aside0.mk (below_step (by repeat first | (with_reducible first | exact HB.out | apply below_alloc | apply pw_below_drewN | apply below_drew1) | exact HB.out) hb); clear HB; have HB := n0_; clear n0_; (try clear hb); (try clear hb2); (try clear hk); (try clear hi)))
                                go_ret
                                exact ⟨by first | rfl | (simp [errW_none, errW_some] <;> rfl) | (simp only [← hji37, ← hji40, ← hji42]; first | rfl | (simp [errW_none, errW_some] <;> rfl)) | (simp [*, errW_none, errW_some] <;> rfl), by repeat first | (with_reducible first | exact HB.out | apply below_alloc | apply pw_below_drewN | apply below_drew1) | exact HB.out⟩
                            · replace c52 := Bool.eq_false_iff.mpr c52
                              subst c52
                              have H1 : (some false) = some r := by rw [if_neg (show ¬ (false = true) by decide)] at H; exact H
                              clear H
                              have H := H1
                              clear H1
                              obtain rfl := Option.some.inj H
                              go_wp2_with (first | ((with_reducible refine gate_callee (f := 43) rfl ?_); refine goesL_ (some 123) rfl rfl Try.func43 (by kernel_rfl) rfl #[] rfl (by (try simp only [List.map_toArray, List.map_cons, List.map_nil]); first | done | rfl) ?_; (with_reducible refine (mantletlaw06_awake.calls kj44  false _ A51.out).mono ?_); rintro e w58 ⟨rfl, hb⟩; refine ⟨_, rfl, ?_⟩; have n0_ := Aside0.mk (below_step (by repeat first | (with_reducible first | exact HB.out | apply below_alloc | apply pw_below_drewN | apply below_drew1) | exact HB.out) hb); clear HB; have HB := n0_; clear n0_; (try clear hb); (try clear hb2); (try clear hk); (try clear hi)))
                              go_ret
                              exact ⟨by first | rfl | (simp [errW_none, errW_some] <;> rfl) | (simp only [← hji37, ← hji40, ← hji42]; first | rfl | (simp [errW_none, errW_some] <;> rfl)) | (simp [*, errW_none, errW_some] <;> rfl), by repeat first | (with_reducible first | exact HB.out | apply below_alloc | apply pw_below_drewN | apply below_drew1) | exact HB.out⟩
                          · replace c50 := Bool.eq_false_iff.mpr c50
                            subst c50
                            have H1 : ((mantletlaw06_awake.f kj44).bind fun t361 => (if t361 = true then (some (t359 == 7)) else (some false))) = some r := by rw [if_neg (show ¬ (false = true) by decide)] at H; exact H
                            clear H
                            have H := H1
                            clear H1
                            replace H := Option.bind_eq_some_iff.mp H
                            obtain ⟨t361, A590, H⟩ := H
                            replace H : (if t361 = true then (some (t359 == 7)) else (some false)) = some r := H
                            have A59 := Aside0.mk A590
                            clear A590
                            by_cases c60 : t361 = true
                            · subst c60
                              have H1 : (some (t359 == 7)) = some r := by rw [if_pos rfl] at H; exact H
                              clear H
                              have H := H1
                              clear H1
                              obtain rfl := Option.some.inj H
                              go_wp2_with (first | ((with_reducible refine gate_callee (f := 43) rfl ?_); refine goesL_ (some 138) rfl rfl Try.func43 (by kernel_rfl) rfl #[] rfl (by (try simp only [List.map_toArray, List.map_cons, List.map_nil]); first | done | rfl) ?_; (with_reducible refine (mantletlaw06_awake.calls kj44  true _ A59.out).mono ?_); rintro e w61 ⟨rfl, hb⟩; refine ⟨_, rfl, ?_⟩; have n0_ := Aside0.mk (below_step (by repeat first | (with_reducible first | exact HB.out | apply below_alloc | apply pw_below_drewN | apply below_drew1) | exact HB.out) hb); clear HB; have HB := n0_; clear n0_; (try clear hb); (try clear hb2); (try clear hk); (try clear hi)))
                              go_ret
                              exact ⟨by first | rfl | (simp [errW_none, errW_some] <;> rfl) | (simp only [← hji37, ← hji40, ← hji42]; first | rfl | (simp [errW_none, errW_some] <;> rfl)) | (simp [*, errW_none, errW_some] <;> rfl), by repeat first | (with_reducible first | exact HB.out | apply below_alloc | apply pw_below_drewN | apply below_drew1) | exact HB.out⟩
                            · replace c60 := Bool.eq_false_iff.mpr c60
                              subst c60
                              have H1 : (some false) = some r := by rw [if_neg (show ¬ (false = true) by decide)] at H; exact H
                              clear H
                              have H := H1
                              clear H1
                              obtain rfl := Option.some.inj H
                              go_wp2_with (first | ((with_reducible refine gate_callee (f := 43) rfl ?_); refine goesL_ (some 138) rfl rfl Try.func43 (by kernel_rfl) rfl #[] rfl (by (try simp only [List.map_toArray, List.map_cons, List.map_nil]); first | done | rfl) ?_; (with_reducible refine (mantletlaw06_awake.calls kj44  false _ A59.out).mono ?_); rintro e w62 ⟨rfl, hb⟩; refine ⟨_, rfl, ?_⟩; have n0_ := Aside0.mk (below_step (by repeat first | (with_reducible first | exact HB.out | apply below_alloc | apply pw_below_drewN | apply below_drew1) | exact HB.out) hb); clear HB; have HB := n0_; clear n0_; (try clear hb); (try clear hb2); (try clear hk); (try clear hi)))
                              go_ret
                              exact ⟨by first | rfl | (simp [errW_none, errW_some] <;> rfl) | (simp only [← hji37, ← hji40, ← hji42]; first | rfl | (simp [errW_none, errW_some] <;> rfl)) | (simp [*, errW_none, errW_some] <;> rfl), by repeat first | (with_reducible first | exact HB.out | apply below_alloc | apply pw_below_drewN | apply below_drew1) | exact HB.out⟩
                    · rw [if_neg c41] at H
                      exact absurd H (by simp)
                  · rw [if_neg c39] at H
                    exact absurd H (by simp)
                · rw [if_neg c38] at H
                  exact absurd H (by simp)
      · rw [if_neg c13] at H
        exact absurd H (by simp)
    · rw [if_neg c11] at H
      exact absurd H (by simp)
  · rw [if_neg c10] at H
    have c10b0 : (t336 == 0) = false := beq_eq_false_iff_ne.mpr c10
    have c10b1 : (t336 != 0) = true := bne_iff_ne.mpr c10
    replace H := Option.bind_eq_some_iff.mp H
    obtain ⟨t337, A630, H⟩ := H
    replace H : (if t337 = true then (if (t330.length : Int) > 1472 then (some ((t333.length : Int) == 0)) else (some false)) else (some false)) = some r := H
    have A63 := Aside0.mk A630
    clear A630
    by_cases c64 : t337 = true
    · subst c64
      have H1 : (if (t330.length : Int) > 1472 then (some ((t333.length : Int) == 0)) else (some false)) = some r := by rw [if_pos rfl] at H; exact H
      clear H
      have H := H1
      clear H1
      by_cases c65 : (t330.length : Int) > 1472
      · rw [if_pos c65] at H
        have c65b0 : decide (1472 < (t330.length : Int)) = true := decide_eq_true c65
        have c65b1 : decide (1472 < t330.length) = true := decide_eq_true (by omega)
        clear c65
        obtain rfl := Option.some.inj H
        go_enter Try.func12, Try.ntmps12
        go_wp2_with (first | ((with_reducible refine gate_callee (f := 41) rfl ?_); refine goesL_ (some 26) rfl rfl Try.func41 (by kernel_rfl) rfl #[.slice A4 l4.length c4] rfl (by (try simp only [List.map_toArray, List.map_cons, List.map_nil]); first | done | rfl) ?_; (with_reducible refine (mantletlaw06_short.calls (fun k_ => k_ < w.heap.size) _ _ l4 t330 _ ?side1 A8.out).mono ?_); (case side1 => exact Kd.V_mk HC4.out (Kd.F_below (Kd.C_F (Kd.heap_int .u8) HR4.out) (by repeat first | (with_reducible first | exact HB.out | apply below_alloc | apply pw_below_drewN | apply below_drew1) | exact HB.out))); rintro e w66 ⟨v331, rfl, ho0, hb⟩; refine ⟨_, rfl, ?_⟩; have n0_ := Aside0.mk (Kd.V_lower (Kd.V_mono (ok' := fun k_ => True) ho0 (fun k_ hk_ => trivial)) (below_size (by repeat first | (with_reducible first | exact HB.out | apply below_alloc | apply pw_below_drewN | apply below_drew1) | exact HB.out))); have n1_ := Aside0.mk (below_step (by repeat first | (with_reducible first | exact HB.out | apply below_alloc | apply pw_below_drewN | apply below_drew1) | exact HB.out) hb); clear HB; have HO332 := n0_; have HB := n1_; clear n0_ n1_; (try clear hb); (try clear hb2); (try clear hk); (try clear hi); (try clear ho0); obtain ⟨Ao67, co67, eo67⟩ := Kd.V_slice HO332.out; subst eo67) | ((with_reducible refine gate_callee (f := 44) rfl ?_); refine goesL_ (some 33) rfl rfl Try.func44 (by kernel_rfl) rfl #[.int .u32 a0, .int .u32 a1, .int .u16 a2, .int .u16 a3, .slice Ao67 t330.length co67] rfl (by (try simp only [List.map_toArray, List.map_cons, List.map_nil]); first | done | rfl) ?_; (with_reducible refine (udp_Build.strong k a0 a1 a2 a3 (fun k_ => True) _ _ t330 t333 t336 _ ?side1 A9.out).mono ?_); (case side1 => exact HO332.out); rintro e w68 ⟨v334, rfl, ho0, hb⟩; refine ⟨_, rfl, ?_⟩; have n0_ := Aside0.mk (Kd.V_elder' (by (with_reducible repeat (first | apply Kd.V_alloc | apply Kd.V_drewN | apply Kd.V_drew)); exact HO332.out) (Kd.K_base ho0) hb); have n1_ := Aside0.mk (Kd.K_lower (Kd.K_mono (ok' := fun k_ => True) ho0 (fun _ hk_ => trivial)) (below_size (by repeat first | (with_reducible first | exact HB.out | apply below_alloc | apply pw_below_drewN | apply below_drew1) | exact HB.out))); have n2_ := Aside0.mk (below_step (by repeat first | (with_reducible first | exact HB.out | apply below_alloc | apply pw_below_drewN | apply below_drew1) | exact HB.out) hb); clear HO332; clear HB; have HO332 := n0_; have HO335 := n1_; have HB := n2_; clear n0_ n1_ n2_; (try clear hb); (try clear hb2); (try clear hk); (try clear hi); (try clear ho0)) | ((with_reducible refine gate_callee (f := 43) rfl ?_); refine goesL_ (some 38) rfl rfl Try.func43 (by kernel_rfl) rfl #[] rfl (by (try simp only [List.map_toArray, List.map_cons, List.map_nil]); first | done | rfl) ?_; (with_reducible refine (mantletlaw06_awake.calls k  true _ A63.out).mono ?_); rintro e w69 ⟨rfl, hb⟩; refine ⟨_, rfl, ?_⟩; have n0_ := Aside0.mk (Kd.V_below (by (with_reducible repeat (first | apply Kd.V_alloc | apply Kd.V_drewN | apply Kd.V_drew)); exact HO332.out) hb); have n1_ := Aside0.mk (Kd.K_below (by (with_reducible repeat (first | apply Kd.K_alloc | apply Kd.K_drewN | apply Kd.K_drew)); exact HO335.out) hb); have n2_ := Aside0.mk (below_step (by repeat first | (with_reducible first | exact HB.out | apply below_alloc | apply pw_below_drewN | apply below_drew1) | exact HB.out) hb); clear HO332; clear HO335; clear HB; have HO332 := n0_; have HO335 := n1_; have HB := n2_; clear n0_ n1_ n2_; (try clear hb); (try clear hb2); (try clear hk); (try clear hi); obtain ⟨Ao70, co70, eo70⟩ := Kd.K_slice HO335.out; subst eo70))
        go_ret
        exact ⟨by first | rfl | (simp [errW_none, errW_some] <;> rfl) | (simp [*, errW_none, errW_some] <;> rfl), by repeat first | (with_reducible first | exact HB.out | apply below_alloc | apply pw_below_drewN | apply below_drew1) | exact HB.out⟩
      · rw [if_neg c65] at H
        have c65b0 : decide (1472 < (t330.length : Int)) = false := decide_eq_false c65
        have c65b1 : decide (1472 < t330.length) = false := decide_eq_false (by omega)
        clear c65
        obtain rfl := Option.some.inj H
        go_enter Try.func12, Try.ntmps12
        go_wp2_with (first | ((with_reducible refine gate_callee (f := 41) rfl ?_); refine goesL_ (some 26) rfl rfl Try.func41 (by kernel_rfl) rfl #[.slice A4 l4.length c4] rfl (by (try simp only [List.map_toArray, List.map_cons, List.map_nil]); first | done | rfl) ?_; (with_reducible refine (mantletlaw06_short.calls (fun k_ => k_ < w.heap.size) _ _ l4 t330 _ ?side1 A8.out).mono ?_); (case side1 => exact Kd.V_mk HC4.out (Kd.F_below (Kd.C_F (Kd.heap_int .u8) HR4.out) (by repeat first | (with_reducible first | exact HB.out | apply below_alloc | apply pw_below_drewN | apply below_drew1) | exact HB.out))); rintro e w71 ⟨v331, rfl, ho0, hb⟩; refine ⟨_, rfl, ?_⟩; have n0_ := Aside0.mk (Kd.V_lower (Kd.V_mono (ok' := fun k_ => True) ho0 (fun k_ hk_ => trivial)) (below_size (by repeat first | (with_reducible first | exact HB.out | apply below_alloc | apply pw_below_drewN | apply below_drew1) | exact HB.out))); have n1_ := Aside0.mk (below_step (by repeat first | (with_reducible first | exact HB.out | apply below_alloc | apply pw_below_drewN | apply below_drew1) | exact HB.out) hb); clear HB; have HO332 := n0_; have HB := n1_; clear n0_ n1_; (try clear hb); (try clear hb2); (try clear hk); (try clear hi); (try clear ho0); obtain ⟨Ao72, co72, eo72⟩ := Kd.V_slice HO332.out; subst eo72) | ((with_reducible refine gate_callee (f := 44) rfl ?_); refine goesL_ (some 33) rfl rfl Try.func44 (by kernel_rfl) rfl #[.int .u32 a0, .int .u32 a1, .int .u16 a2, .int .u16 a3, .slice Ao72 t330.length co72] rfl (by (try simp only [List.map_toArray, List.map_cons, List.map_nil]); first | done | rfl) ?_; (with_reducible refine (udp_Build.strong k a0 a1 a2 a3 (fun k_ => True) _ _ t330 t333 t336 _ ?side1 A9.out).mono ?_); (case side1 => exact HO332.out); rintro e w73 ⟨v334, rfl, ho0, hb⟩; refine ⟨_, rfl, ?_⟩; have n0_ := Aside0.mk (Kd.V_elder' (by (with_reducible repeat (first | apply Kd.V_alloc | apply Kd.V_drewN | apply Kd.V_drew)); exact HO332.out) (Kd.K_base ho0) hb); have n1_ := Aside0.mk (Kd.K_lower (Kd.K_mono (ok' := fun k_ => True) ho0 (fun _ hk_ => trivial)) (below_size (by repeat first | (with_reducible first | exact HB.out | apply below_alloc | apply pw_below_drewN | apply below_drew1) | exact HB.out))); have n2_ := Aside0.mk (below_step (by repeat first | (with_reducible first | exact HB.out | apply below_alloc | apply pw_below_drewN | apply below_drew1) | exact HB.out) hb); clear HO332; clear HB; have HO332 := n0_; have HO335 := n1_; have HB := n2_; clear n0_ n1_ n2_; (try clear hb); (try clear hb2); (try clear hk); (try clear hi); (try clear ho0)) | ((with_reducible refine gate_callee (f := 43) rfl ?_); refine goesL_ (some 38) rfl rfl Try.func43 (by kernel_rfl) rfl #[] rfl (by (try simp only [List.map_toArray, List.map_cons, List.map_nil]); first | done | rfl) ?_; (with_reducible refine (mantletlaw06_awake.calls k  true _ A63.out).mono ?_); rintro e w74 ⟨rfl, hb⟩; refine ⟨_, rfl, ?_⟩; have n0_ := Aside0.mk (Kd.V_below (by (with_reducible repeat (first | apply Kd.V_alloc | apply Kd.V_drewN | apply Kd.V_drew)); exact HO332.out) hb); have n1_ := Aside0.mk (Kd.K_below (by (with_reducible repeat (first | apply Kd.K_alloc | apply Kd.K_drewN | apply Kd.K_drew)); exact HO335.out) hb); have n2_ := Aside0.mk (below_step (by repeat first | (with_reducible first | exact HB.out | apply below_alloc | apply pw_below_drewN | apply below_drew1) | exact HB.out) hb); clear HO332; clear HO335; clear HB; have HO332 := n0_; have HO335 := n1_; have HB := n2_; clear n0_ n1_ n2_; (try clear hb); (try clear hb2); (try clear hk); (try clear hi)))
        go_ret
        exact ⟨by first | rfl | (simp [errW_none, errW_some] <;> rfl) | (simp [*, errW_none, errW_some] <;> rfl), by repeat first | (with_reducible first | exact HB.out | apply below_alloc | apply pw_below_drewN | apply below_drew1) | exact HB.out⟩
    · replace c64 := Bool.eq_false_iff.mpr c64
      subst c64
      have H1 : (some false) = some r := by rw [if_neg (show ¬ (false = true) by decide)] at H; exact H
      clear H
      have H := H1
      clear H1
      obtain rfl := Option.some.inj H
      go_enter Try.func12, Try.ntmps12
      go_wp2_with (first | ((with_reducible refine gate_callee (f := 41) rfl ?_); refine goesL_ (some 26) rfl rfl Try.func41 (by kernel_rfl) rfl #[.slice A4 l4.length c4] rfl (by (try simp only [List.map_toArray, List.map_cons, List.map_nil]); first | done | rfl) ?_; (with_reducible refine (mantletlaw06_short.calls (fun k_ => k_ < w.heap.size) _ _ l4 t330 _ ?side1 A8.out).mono ?_); (case side1 => exact Kd.V_mk HC4.out (Kd.F_below (Kd.C_F (Kd.heap_int .u8) HR4.out) (by repeat first | (with_reducible first | exact HB.out | apply below_alloc | apply pw_below_drewN | apply below_drew1) | exact HB.out))); rintro e w75 ⟨v331, rfl, ho0, hb⟩; refine ⟨_, rfl, ?_⟩; have n0_ := Aside0.mk (Kd.V_lower (Kd.V_mono (ok' := fun k_ => True) ho0 (fun k_ hk_ => trivial)) (below_size (by repeat first | (with_reducible first | exact HB.out | apply below_alloc | apply pw_below_drewN | apply below_drew1) | exact HB.out))); have n1_ := Aside0.mk (below_step (by repeat first | (with_reducible first | exact HB.out | apply below_alloc | apply pw_below_drewN | apply below_drew1) | exact HB.out) hb); clear HB; have HO332 := n0_; have HB := n1_; clear n0_ n1_; (try clear hb); (try clear hb2); (try clear hk); (try clear hi); (try clear ho0); obtain ⟨Ao76, co76, eo76⟩ := Kd.V_slice HO332.out; subst eo76) | ((with_reducible refine gate_callee (f := 44) rfl ?_); refine goesL_ (some 33) rfl rfl Try.func44 (by kernel_rfl) rfl #[.int .u32 a0, .int .u32 a1, .int .u16 a2, .int .u16 a3, .slice Ao76 t330.length co76] rfl (by (try simp only [List.map_toArray, List.map_cons, List.map_nil]); first | done | rfl) ?_; (with_reducible refine (udp_Build.strong k a0 a1 a2 a3 (fun k_ => True) _ _ t330 t333 t336 _ ?side1 A9.out).mono ?_); (case side1 => exact HO332.out); rintro e w77 ⟨v334, rfl, ho0, hb⟩; refine ⟨_, rfl, ?_⟩; have n0_ := Aside0.mk (Kd.V_elder' (by (with_reducible repeat (first | apply Kd.V_alloc | apply Kd.V_drewN | apply Kd.V_drew)); exact HO332.out) (Kd.K_base ho0) hb); have n1_ := Aside0.mk (Kd.K_lower (Kd.K_mono (ok' := fun k_ => True) ho0 (fun _ hk_ => trivial)) (below_size (by repeat first | (with_reducible first | exact HB.out | apply below_alloc | apply pw_below_drewN | apply below_drew1) | exact HB.out))); have n2_ := Aside0.mk (below_step (by repeat first | (with_reducible first | exact HB.out | apply below_alloc | apply pw_below_drewN | apply below_drew1) | exact HB.out) hb); clear HO332; clear HB; have HO332 := n0_; have HO335 := n1_; have HB := n2_; clear n0_ n1_ n2_; (try clear hb); (try clear hb2); (try clear hk); (try clear hi); (try clear ho0)) | ((with_reducible refine gate_callee (f := 43) rfl ?_); refine goesL_ (some 38) rfl rfl Try.func43 (by kernel_rfl) rfl #[] rfl (by (try simp only [List.map_toArray, List.map_cons, List.map_nil]); first | done | rfl) ?_; (with_reducible refine (mantletlaw06_awake.calls k  false _ A63.out).mono ?_); rintro e w78 ⟨rfl, hb⟩; refine ⟨_, rfl, ?_⟩; have n0_ := Aside0.mk (Kd.V_below (by (with_reducible repeat (first | apply Kd.V_alloc | apply Kd.V_drewN | apply Kd.V_drew)); exact HO332.out) hb); have n1_ := Aside0.mk (Kd.K_below (by (with_reducible repeat (first | apply Kd.K_alloc | apply Kd.K_drewN | apply Kd.K_drew)); exact HO335.out) hb); have n2_ := Aside0.mk (below_step (by repeat first | (with_reducible first | exact HB.out | apply below_alloc | apply pw_below_drewN | apply below_drew1) | exact HB.out) hb); clear HO332; clear HO335; clear HB; have HO332 := n0_; have HO335 := n1_; have HB := n2_; clear n0_ n1_ n2_; (try clear hb); (try clear hb2); (try clear hk); (try clear hi)))
      go_ret
      exact ⟨by first | rfl | (simp [errW_none, errW_some] <;> rfl) | (simp [*, errW_none, errW_some] <;> rfl), by repeat first | (with_reducible first | exact HB.out | apply below_alloc | apply pw_below_drewN | apply below_drew1) | exact HB.out⟩

/-- THE ONE PURE STATEMENT of mantletlaw06_UdpBack: yours. -/
def mantletlaw06_UdpBack.Pure : Prop := ∀ (a0 : Int) (a1 : Int) (a2 : Int) (a3 : Int) (l4 : List Int) (l5 : List Int) (a6 : Int), (Lit.int .u32 a0).wf = true → (Lit.int .u32 a1).wf = true → (Lit.int .u16 a2).wf = true → (Lit.int .u16 a3).wf = true → l4.length ≤ maxLen → l4.length * 1 ≤ 140737488351232 → (∀ x ∈ l4, (Lit.int .u8 x).wf = true) → l5.length ≤ maxLen → l5.length * 1 ≤ 140737488351232 → (∀ x ∈ l5, (Lit.int .u8 x).wf = true) → (Lit.int .u16 a6).wf = true → ∃ k, mantletlaw06_UdpBack.f k a0 a1 a2 a3 l4 l5 a6 = some true
theorem mantletlaw06_UdpBack.walk (P : mantletlaw06_UdpBack.Pure) (a0 : Int) (a1 : Int) (a2 : Int) (a3 : Int) (a4 : Option Addr) (len4 cap4 : Nat) (z4 : List Int) (a5 : Option Addr) (len5 cap5 : Nat) (z5 : List Int) (a6 : Int) (w : World) (w0 : (Lit.int .u32 a0).wf = true) (w1 : (Lit.int .u32 a1).wf = true) (w2 : (Lit.int .u16 a2).wf = true) (w3 : (Lit.int .u16 a3).wf = true) (w4 : (a4 = none ∧ len4 = 0 ∧ cap4 = 0 ∧ z4 = []) ∨ ∃ x, a4 = some x ∧ len4 ≤ cap4 ∧ cap4 ≤ maxLen ∧ z4.length = cap4 ∧ (∀ i, i < z4.length → w.cell? (x.add i) = some (.int .u8 (z4.getD i 0))) ∧ ∀ n ∈ z4, (Lit.int .u8 n).wf = true) (y4 : len4 * 1 ≤ 140737488351232) (w5 : (a5 = none ∧ len5 = 0 ∧ cap5 = 0 ∧ z5 = []) ∨ ∃ x, a5 = some x ∧ len5 ≤ cap5 ∧ cap5 ≤ maxLen ∧ z5.length = cap5 ∧ (∀ i, i < z5.length → w.cell? (x.add i) = some (.int .u8 (z5.getD i 0))) ∧ ∀ n ∈ z5, (Lit.int .u8 n).wf = true) (y5 : len5 * 1 ≤ 140737488351232) (w6 : (Lit.int .u16 a6).wf = true) :
    Calls Try.prog 12 #[.int .u32 a0, .int .u32 a1, .int .u16 a2, .int .u16 a3, .slice a4 len4 cap4, .slice a5 len5 cap5, .int .u16 a6] w fun e w' => e = .returned (.bool true) ∧ Below w.heap.size w w' := by
  obtain ⟨l4, rfl, hr4, hm4, hw4, hc4⟩ := ReadsInt.ofRowC w4
  obtain ⟨l5, rfl, hr5, hm5, hw5, hc5⟩ := ReadsInt.ofRowC w5
  obtain ⟨k, h⟩ := P a0 a1 a2 a3 l4 l5 a6 w0 w1 w2 w3 hm4 y4 hw4 hm5 y5 hw5 w6
  refine (mantletlaw06_UdpBack.calls k a0 a1 a2 a3 _ _ l4 _ _ l5 a6 true w (Kd.C_of_reads (d := (0 : Int)) (h1 := fun _ => rfl) hr4) hc4 (Kd.C_of_reads (d := (0 : Int)) (h1 := fun _ => rfl) hr5) hc5 h).mono ?_
  rintro e w' ⟨rfl, hd⟩
  exact ⟨rfl, hd⟩

end Go.Proofs.Ytofjgdbiieanjaa.All
