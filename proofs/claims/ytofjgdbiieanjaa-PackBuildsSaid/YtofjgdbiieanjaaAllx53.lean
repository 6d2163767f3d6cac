-- Made by a program of this workplace (wip/pr.sh) out of Lean's print of the translation; Lean checks it.
import Derived.Test.YtofjgdbiieanjaaAllx0
namespace Go.Proofs.Ytofjgdbiieanjaa.All
open Go.Proofs.Ytofjgdbiieanjaa.Ext
open Go.RowKit Go.Proofs.YtofjgdbiieanjaaW.PrintWords Go.Proofs.YtofjgdbiieanjaaW.PrintLast Go.Proofs.YtofjgdbiieanjaaW.PrintMore
attribute [local go_sem] max2_int min2_int max_two min_two max_three min_three max_four min_four   -- for this text's walks alone
set_option linter.unusedVariables false
set_option linter.unusedSimpArgs false

/-! ### sum_fold: function 81 -/
def sum_fold.l0 : Nat → Int → Option (Int)
  | 0, _ => none
  | k + 1, x0 => if x0 > 65535 then (sum_fold.l0 k (((x0 / 65536) + (Go.bits .and .u32 x0 65535)) % 4294967296)) else (some (IntKind.u16.wrap (x0)))
def sum_fold.f (k : Nat) (a0 : Int) : Option (Int) := sum_fold.l0 k a0
theorem sum_fold.mono_l : ∀ k, (∀ y0, LeO (sum_fold.l0 k y0) (sum_fold.l0 (k + 1) y0))
  | 0 => fun _ r h => by simp [sum_fold.l0] at h
  | k + 1 => by
    have ih0 := sum_fold.mono_l k
    · intro y0
      unfold sum_fold.l0
      repeat' first
      | (with_reducible exact ih0 _)
      | (with_reducible exact LeO.refl _)
      | (with_reducible exact LeO.none _)
      | (with_reducible refine LeO.ite ?_ ?_)
      | (with_reducible refine LeO.bind ?_ (fun _ => ?_))
      | exact ih0 _
      | exact LeO.none _
      | refine LeO.ite ?_ ?_
      | refine LeO.bind ?_ (fun _ => ?_)
theorem sum_fold.mono : ∀ a0 k, LeO (sum_fold.f k a0) (sum_fold.f (k + 1) a0) := by
  intro a0 k
  have ih0 := sum_fold.mono_l k
  unfold sum_fold.f
  repeat' first
      | (with_reducible exact ih0 _)
      | (with_reducible exact LeO.refl _)
      | (with_reducible exact LeO.none _)
      | (with_reducible refine LeO.ite ?_ ?_)
      | (with_reducible refine LeO.bind ?_ (fun _ => ?_))
      | exact ih0 _
      | exact LeO.none _
      | refine LeO.ite ?_ ?_
      | refine LeO.bind ?_ (fun _ => ?_)
set_option maxHeartbeats 8000000 in
set_option maxRecDepth 100000 in
theorem sum_fold.calls (k : Nat) (a0 : Int) (r : Int) (w : World) (h : sum_fold.f k a0 = some r) :
    Calls Try.prog 81 #[.int .u32 a0] w fun e w' => e = .returned (.int .u16 r) ∧ Drawn0 w w' := by
 have H := h
 unfold sum_fold.f at H
 clear h
 have H' := aS H
 clear H
 go_enter Try.func81, Try.ntmps81
 go_wp2
 go_loopg [0] k (fun kq v0 w' => ∃ (x0_1 : Int), v0 = .int .u32 x0_1 ∧ Aside0 (sum_fold.l0 kq x0_1 = some r) ∧ Aside0 (kq ≤ k) ∧ Drawn0 w w')
 case atStart => exact ⟨(a0), (by first | rfl | (simp; done) | (simp [*]; done)), H', ⟨Nat.le_refl _⟩, by repeat (first | exact Drawn0.refl _ | apply Drawn0.step)⟩
 case round =>
  clear H'
  obtain ⟨x0_1, rfl, HA, HK1, ⟨m1, rfl⟩⟩ := hrel
  cases gk with
  | zero => exact absurd HA.out (by simp [sum_fold.l0])
  | succ k1 =>
   have H := HA.out
   clear HA
   simp only [sum_fold.l0] at H
   by_cases c2 : x0_1 > 65535
   ·rw [if_pos c2] at H
    have c2b0 : decide (65535 < x0_1) = true := decide_eq_true c2
    clear c2
    have H' := aS H
    clear H
    go_wp2
    go_roundg k1
    case measure => have := HK1.out; omega
    case rel => exact ⟨(((x0_1 / 65536) + (Go.bits .and .u32 x0_1 65535)) % 4294967296), (by first | rfl | (simp; done) | (simp [*]; done)), H', ⟨by have := HK1.out; omega⟩, by repeat (first | exact Drawn0.refl _ | apply Drawn0.step)⟩
   ·rw [if_neg c2] at H
    have c2b0 : decide (65535 < x0_1) = false := decide_eq_false c2
    clear c2
    obtain rfl := Option.some.inj H
    go_wp2
    go_ret
    exact ⟨by first | rfl | (simp; done) | (simp [*]; done), by repeat (first | exact Drawn0.refl _ | apply Drawn0.step)⟩

end Go.Proofs.Ytofjgdbiieanjaa.All

namespace Go.Proofs.Ytofjgdbiieanjaa.All
open Go.Proofs.Ytofjgdbiieanjaa.Ext
open Go.RowKit Go.Proofs.YtofjgdbiieanjaaW.PrintWords Go.Proofs.YtofjgdbiieanjaaW.PrintLast Go.Proofs.YtofjgdbiieanjaaW.PrintMore
attribute [local go_sem] max2_int min2_int max_two min_two max_three min_three max_four min_four   -- for this text's walks alone
set_option linter.unusedVariables false
set_option linter.unusedSimpArgs false

/-! ### sum_Add: function 62 -/
def sum_Add.l0 : Nat → Int → List Int → Int → Int → Option (Int)
  | 0, _, _, _, _ => none
  | k + 1, x0, x7, x8, x9 => if x9 < x8 then (if 0 ≤ x9 then (if x9 < (x7.length : Int) then (if 0 ≤ (wrap64 (8 * (wrap64 (1 - (Go.bits .and .i64 x9 1))))) then ((sum_fold.f k ((((x0) % 4294967296) + (shl .u32 ((rd x7 x9) % 4294967296) (wrap64 (8 * (wrap64 (1 - (Go.bits .and .i64 x9 1))))))) % 4294967296)).bind fun t102 => (sum_Add.l0 k t102 x7 x8 (wrap64 (x9 + 1)))) else (none)) else (none)) else (none)) else (some x0)
def sum_Add.f (k : Nat) (a0 : Int) (l1 : List Int) : Option (Int) := sum_Add.l0 k a0 l1 (l1.length : Int) 0
theorem sum_Add.mono_l : ∀ k, (∀ y0 y1 y2 y3, LeO (sum_Add.l0 k y0 y1 y2 y3) (sum_Add.l0 (k + 1) y0 y1 y2 y3))
  | 0 => fun _ _ _ _ r h => by simp [sum_Add.l0] at h
  | k + 1 => by
    have ih0 := sum_Add.mono_l k
    · intro y0 y1 y2 y3
      unfold sum_Add.l0
      repeat' first
      | (with_reducible exact ih0 _ _ _ _)
      | (with_reducible exact sum_fold.mono _ _)
      | (with_reducible exact LeO.refl _)
      | (with_reducible exact LeO.none _)
      | (with_reducible refine LeO.ite ?_ ?_)
      | (with_reducible refine LeO.bind ?_ (fun _ => ?_))
      | exact ih0 _ _ _ _
      | exact sum_fold.mono _ _
      | exact LeO.none _
      | refine LeO.ite ?_ ?_
      | refine LeO.bind ?_ (fun _ => ?_)
theorem sum_Add.mono : ∀ a0 a1 k, LeO (sum_Add.f k a0 a1) (sum_Add.f (k + 1) a0 a1) := by
 intro a0 a1 k
 have ih0 := sum_Add.mono_l k
 unfold sum_Add.f
 repeat' first
   | (with_reducible exact ih0 _ _ _ _)
   | (with_reducible exact sum_fold.mono _ _)
   | (with_reducible exact LeO.refl _)
   | (with_reducible exact LeO.none _)
   | (with_reducible refine LeO.ite ?_ ?_)
   | (with_reducible refine LeO.bind ?_ (fun _ => ?_))
   | exact ih0 _ _ _ _
   | exact sum_fold.mono _ _
   | exact LeO.none _
   | refine LeO.ite ?_ ?_
   | refine LeO.bind ?_ (fun _ => ?_)
set_option maxHeartbeats 8000000 in
set_option maxRecDepth 100000 in
theorem sum_Add.calls (k : Nat) (a0 : Int) (A1 : Option Addr) (c1 : Nat) (l1 : List Int) (r : Int) (w : World) (hr1 : Kd.C (Kd.int .u8) w A1 l1.length l1) (hc1 : l1.length ≤ c1) (h : sum_Add.f k a0 l1 = some r) :
    Calls Try.prog 62 #[.int .u16 a0, .slice A1 l1.length c1] w fun e w' => e = .returned (.int .u16 r) ∧ Drawn0 w w' := by
 have HR1 := aS hr1
 have HC1 := aS hc1
 clear hr1 hc1; have H := h
 unfold sum_Add.f at H
 clear h
 have H' := aS H
 clear H
 go_enter Try.func62, Try.ntmps62
 go_wp2
 go_loopg [0, 9] k (fun kq v0 v9 w' => ∃ (x0_1 : Int) (x9_1 : Int), v0 = .int .u16 x0_1 ∧ v9 = .int .i64 x9_1 ∧ Aside0 (sum_Add.l0 kq x0_1 l1 (l1.length : Int) x9_1 = some r) ∧ Aside0 (kq ≤ k) ∧ Drawn0 w w')
 case atStart => exact ⟨(a0), (0), (by first | rfl | (simp; done) | (simp [*]; done)), (by first | rfl | (simp; done) | (simp [*]; done)), H', ⟨Nat.le_refl _⟩, by repeat (first | exact Drawn0.refl _ | apply Drawn0.step)⟩
 case round =>
  clear H'
  (try clear c1)
  obtain ⟨x0_1, x9_1, rfl, rfl, HA, HK1, ⟨m1, rfl⟩⟩ := hrel
  cases gk with
  | zero => exact absurd HA.out (by simp [sum_Add.l0])
  | succ k1 =>
   have H := HA.out
   clear HA
   simp only [sum_Add.l0] at H
   by_cases c3 : x9_1 < (l1.length : Int)
   ·rw [if_pos c3] at H
    have c3b0 : decide (x9_1 < (l1.length : Int)) = true := decide_eq_true c3
    clear c3
    by_cases c4 : 0 ≤ x9_1
    ·rw [if_pos c4] at H
     have c4b0 : decide (0 ≤ x9_1) = true := decide_eq_true c4
     clear c4
     by_cases c5 : x9_1 < (l1.length : Int)
     ·rw [if_pos c5] at H
      have c5b0 : decide (x9_1 < (l1.length : Int)) = true := decide_eq_true c5
      clear c5
      obtain ⟨ji6, hji6⟩ : ∃ j_ : Int, (wrap64 (8 * (wrap64 (1 - (Go.bits .and .i64 x9_1 1))))) = j_ := ⟨_, rfl⟩
      replace H : (if 0 ≤ (ji6) then ((sum_fold.f k1 ((((x0_1) % 4294967296) + (shl .u32 ((rd l1 x9_1) % 4294967296) (ji6))) % 4294967296)).bind fun t102 => (sum_Add.l0 k1 t102 l1 (l1.length : Int) (wrap64 (x9_1 + 1)))) else (none)) = some r := by first | (rw [hji6] at H; exact H) | (simp only [hji6] at H ⊢; exact H)
      have hji6w : (IntKind.i64.wrap (8 * (wrap64 (1 - (Go.bits .and .i64 x9_1 1))))) = ji6 := (i64_w _).trans hji6
      by_cases c7 : 0 ≤ (ji6)
      ·rw [if_pos c7] at H
       have c7b0 := eq_true c7
       have c7b1 : decide (0 ≤ (ji6)) = true := decide_eq_true c7
       clear c7
       obtain ⟨ji8, hji8⟩ : ∃ j_ : Int, (shl .u32 ((rd l1 x9_1) % 4294967296) (ji6)) = j_ := ⟨_, rfl⟩
       replace H : ((sum_fold.f k1 ((((x0_1) % 4294967296) + (ji8)) % 4294967296)).bind fun t102 => (sum_Add.l0 k1 t102 l1 (l1.length : Int) (wrap64 (x9_1 + 1)))) = some r := by first | (rw [hji8] at H; exact H) | (simp only [hji8] at H ⊢; exact H)
       have hji8_ : (IntKind.u32.wrap (((rd l1 x9_1) % 4294967296) * 2 ^ min (ji6).toNat 32)) = ji8 := hji8
       have hji8z : (ji6) ≤ 32 → (IntKind.u32.wrap (((rd l1 x9_1) % 4294967296) * 2 ^ (ji6).toNat)) = ji8 := shl_small hji8
       replace H := Option.bind_eq_some_iff.mp H
       obtain ⟨t102, A90, H⟩ := H
       try dsimp -simprocs only at H
       have A9 := aS A90
       clear A90
       have H' := aS H
       clear H
       have p101 : 0 ≤ (x9_1 : Int) := of_decide_eq_true (by first | (with_reducible assumption) | assumption)
       have q101 : x9_1 < (l1.length : Int) := of_decide_eq_true (by first | (with_reducible assumption) | assumption)
       obtain ⟨ad101, e101, hx101_0⟩ := Kd.at_int HR1.out x9_1 p101 q101
       cases e101
       replace p101 := eq_true p101
       replace q101 := eq_true q101
       go_wp2_with (first | ((with_reducible refine gate_callee (f := 81) rfl ?_); refine goesL_ (some 24) rfl rfl Try.func81 (by kernel_rfl) rfl #[.int .u32 ((((x0_1) % 4294967296) + (ji8)) % 4294967296)] rfl (by (try simp only [List.map_toArray, List.map_cons, List.map_nil]); first | done | (simp only [hji8]; rfl) | rfl | (simp only [List.length_drop, List.length_take]; rfl)) ?_; (with_reducible refine (sum_fold.calls k1 ((((x0_1) % 4294967296) + (ji8)) % 4294967296) t102 _ A9.out).mono ?_); rintro e w' ⟨rfl, ⟨nd, rfl⟩⟩; refine ⟨_, rfl, ?_⟩))
       go_roundg k1
       case measure => have := HK1.out; omega
       case rel => exact ⟨(t102), (wrap64 (x9_1 + 1)), (by first | rfl | (simp; done) | (simp [*]; done)), (by first | rfl | (simp; done) | (simp [*]; done)), H', ⟨by have := HK1.out; omega⟩, by repeat (first | exact Drawn0.refl _ | apply Drawn0.step)⟩
      ·rw [if_neg c7] at H
       exact absurd H (by simp)
     ·rw [if_neg c5] at H
      exact absurd H (by simp)
    ·rw [if_neg c4] at H
     exact absurd H (by simp)
   ·rw [if_neg c3] at H
    have c3b0 : decide (x9_1 < (l1.length : Int)) = false := decide_eq_false c3
    clear c3
    obtain rfl := Option.some.inj H
    go_wp2
    go_ret
    exact ⟨by first | rfl | (simp; done) | (simp [*]; done), by repeat (first | exact Drawn0.refl _ | apply Drawn0.step)⟩

end Go.Proofs.Ytofjgdbiieanjaa.All

namespace Go.Proofs.Ytofjgdbiieanjaa.All
open Go.Proofs.Ytofjgdbiieanjaa.Ext
open Go.RowKit Go.Proofs.YtofjgdbiieanjaaW.PrintWords Go.Proofs.YtofjgdbiieanjaaW.PrintLast Go.Proofs.YtofjgdbiieanjaaW.PrintMore
attribute [local go_sem] max2_int min2_int max_two min_two max_three min_three max_four min_four   -- for this text's walks alone
set_option linter.unusedVariables false
set_option linter.unusedSimpArgs false

/-! ### field_Num: function 64 -/
mutual
def field_Num.j0 : Nat → List Int → Int → Int → Bool → Option (Int × Bool)
  | 0, _, _, _, _ => none
  | k + 1, x0, x1, x2, x28 => if x28 = true then (some (0, false)) else (if 0 ≤ x1 then (if x1 ≤ (wrap64 (x1 + x2)) then (if (wrap64 (x1 + x2)) ≤ (x0.length : Int) then ((some ((x0.take ((wrap64 (x1 + x2)) : Int).toNat).drop (x1 : Int).toNat : List Int)).bind fun y103 => (field_Num.l0 k 0 y103 (y103.length : Int) 0)) else (none)) else (none)) else (none))
def field_Num.l0 : Nat → Int → List Int → Int → Int → Option (Int × Bool)
  | 0, _, _, _, _ => none
  | k + 1, x8, x34, x35, x36 => if x36 < x35 then (if 0 ≤ x36 then (if x36 < (x34.length : Int) then (field_Num.l0 k (Go.bits .or .u64 (IntKind.u64.wrap (x8 * 256)) (IntKind.u64.wrap (rd x34 x36))) x34 x35 (wrap64 (x36 + 1))) else (none)) else (none)) else (some (x8, true))
end
def field_Num.f (k : Nat) (l0 : List Int) (a1 : Int) (a2 : Int) : Option (Int × Bool) := if a1 < 0 then (field_Num.j0 k l0 a1 a2 true) else (if a2 < 1 then (field_Num.j0 k l0 a1 a2 true) else (if a2 > 8 then (field_Num.j0 k l0 a1 a2 true) else (field_Num.j0 k l0 a1 a2 (decide (a1 > (wrap64 ((l0.length : Int) - a2)))))))
theorem field_Num.mono_l : ∀ k, (∀ y0 y1 y2 y3, LeO (field_Num.j0 k y0 y1 y2 y3) (field_Num.j0 (k + 1) y0 y1 y2 y3)) ∧ (∀ y0 y1 y2 y3, LeO (field_Num.l0 k y0 y1 y2 y3) (field_Num.l0 (k + 1) y0 y1 y2 y3))
  | 0 => ⟨fun _ _ _ _ r h => by simp [field_Num.j0] at h, fun _ _ _ _ r h => by simp [field_Num.l0] at h⟩
  | k + 1 => by
    obtain ⟨ih0, ih1⟩ := field_Num.mono_l k
    refine ⟨?_, ?_⟩
    · intro y0 y1 y2 y3
      unfold field_Num.j0
      repeat' first
      | (with_reducible exact ih0 _ _ _ _)
      | (with_reducible exact ih1 _ _ _ _)
      | (with_reducible exact LeO.refl _)
      | (with_reducible exact LeO.none _)
      | (with_reducible refine LeO.ite ?_ ?_)
      | (with_reducible refine LeO.bind ?_ (fun _ => ?_))
      | exact ih0 _ _ _ _
      | exact ih1 _ _ _ _
      | exact LeO.none _
      | refine LeO.ite ?_ ?_
      | refine LeO.bind ?_ (fun _ => ?_)
    · intro y0 y1 y2 y3
      unfold field_Num.l0
      repeat' first
      | (with_reducible exact ih0 _ _ _ _)
      | (with_reducible exact ih1 _ _ _ _)
      | (with_reducible exact LeO.refl _)
      | (with_reducible exact LeO.none _)
      | (with_reducible refine LeO.ite ?_ ?_)
      | (with_reducible refine LeO.bind ?_ (fun _ => ?_))
      | exact ih0 _ _ _ _
      | exact ih1 _ _ _ _
      | exact LeO.none _
      | refine LeO.ite ?_ ?_
      | refine LeO.bind ?_ (fun _ => ?_)
theorem field_Num.mono : ∀ a0 a1 a2 k, LeO (field_Num.f k a0 a1 a2) (field_Num.f (k + 1) a0 a1 a2) := by
 intro a0 a1 a2 k
 obtain ⟨ih0, ih1⟩ := field_Num.mono_l k
 unfold field_Num.f
 repeat' first
   | (with_reducible exact ih0 _ _ _ _)
   | (with_reducible exact ih1 _ _ _ _)
   | (with_reducible exact LeO.refl _)
   | (with_reducible exact LeO.none _)
   | (with_reducible refine LeO.ite ?_ ?_)
   | (with_reducible refine LeO.bind ?_ (fun _ => ?_))
   | exact ih0 _ _ _ _
   | exact ih1 _ _ _ _
   | exact LeO.none _
   | refine LeO.ite ?_ ?_
   | refine LeO.bind ?_ (fun _ => ?_)
set_option maxHeartbeats 8000000 in
set_option maxRecDepth 100000 in
theorem field_Num.calls (k : Nat) (A0 : Option Addr) (c0 : Nat) (l0 : List Int) (a1 : Int) (a2 : Int) (r1 : Int) (r2 : Bool) (w : World) (hr0 : Kd.C (Kd.int .u8) w A0 l0.length l0) (hc0 : l0.length ≤ c0) (h : field_Num.f k l0 a1 a2 = some (r1, r2)) :
    Calls Try.prog 64 #[.slice A0 l0.length c0, .int .i64 a1, .int .i64 a2] w fun e w' => e = .returned (.tuple #[.int .u64 r1, .bool r2]) ∧ Drawn0 w w' := by
 have HR0 := aS hr0
 have HC0 := aS hc0
 clear hr0 hc0; have H := h
 unfold field_Num.f at H
 clear h
 have HC4 := aS H
 clear H
 go_enter Try.func64, Try.ntmps64
 go_upto_region 1 with (fail)
 go_cut [28] (fun v28 wc => ∃ (kq : Nat) (x28_3 : Bool), v28 = .bool x28_3 ∧ Aside0 (field_Num.j0 kq l0 a1 a2 x28_3 = some (r1, r2)) ∧ Aside0 (kq ≤ k) ∧ Drawn0 w wc)
 case first =>
  have H := HC4.out
  clear HC4
  by_cases c5 : a1 < 0
  ·rw [if_pos c5] at H
   have c5b0 : decide (a1 < 0) = true := decide_eq_true c5
   clear c5
   (first | rw [c5b0] | (simp only [i64_w, i32_w]; rw [c5b0]) | skip)
   have H' := aS H
   clear H
   go_wp2
   go_meet
   case rel => exact ⟨_, (true), (by first | rfl | (simp; done) | (simp [*]; done)), H', ⟨by first | omega | exact Nat.le_refl _⟩, by repeat (first | exact Drawn0.refl _ | apply Drawn0.step)⟩
  ·rw [if_neg c5] at H
   have c5b0 : decide (a1 < 0) = false := decide_eq_false c5
   clear c5
   (first | rw [c5b0] | (simp only [i64_w, i32_w]; rw [c5b0]) | skip)
   by_cases c6 : a2 < 1
   ·rw [if_pos c6] at H
    have c6b0 : decide (a2 < 1) = true := decide_eq_true c6
    clear c6
    have H' := aS H
    clear H
    go_wp2
    go_meet
    case rel => exact ⟨_, (true), (by first | rfl | (simp; done) | (simp [*]; done)), H', ⟨by first | omega | exact Nat.le_refl _⟩, by repeat (first | exact Drawn0.refl _ | apply Drawn0.step)⟩
   ·rw [if_neg c6] at H
    have c6b0 : decide (a2 < 1) = false := decide_eq_false c6
    clear c6
    by_cases c7 : a2 > 8
    ·rw [if_pos c7] at H
     have c7b0 : decide (8 < a2) = true := decide_eq_true c7
     clear c7
     have H' := aS H
     clear H
     go_wp2
     go_meet
     case rel => exact ⟨_, (true), (by first | rfl | (simp; done) | (simp [*]; done)), H', ⟨by first | omega | exact Nat.le_refl _⟩, by repeat (first | exact Drawn0.refl _ | apply Drawn0.step)⟩
    ·rw [if_neg c7] at H
     have c7b0 : decide (8 < a2) = false := decide_eq_false c7
     clear c7
     have H' := aS H
     clear H
     go_wp2
     go_meet
     case rel => exact ⟨_, (decide (a1 > (wrap64 ((l0.length : Int) - a2)))), (by first | rfl | (simp; done) | (simp [*]; done)), H', ⟨by first | omega | exact Nat.le_refl _⟩, by repeat (first | exact Drawn0.refl _ | apply Drawn0.step)⟩
 case rest =>
  clear HC4
  obtain ⟨kq, x28_3, rfl, HA, HJ3, ⟨mc3, rfl⟩⟩ := hcut
  cases kq with
  | zero => exact absurd HA.out (by simp [field_Num.j0])
  | succ kj3 =>
   have H := HA.out
   clear HA
   simp only [field_Num.j0] at H
   by_cases c8 : x28_3 = true
   ·subst c8
    rw [if_pos rfl] at H
    have H1 := H; clear H; have H := H1; clear H1
    simp only [Option.some.injEq, Prod.mk.injEq] at H
    obtain ⟨rfl, rfl⟩ := H
    go_wp2
    go_ret2
    exact ⟨by first | rfl | (simp; done) | (simp [*]; done), by repeat (first | exact Drawn0.refl _ | apply Drawn0.step)⟩
   ·replace c8 := Bool.eq_false_iff.mpr c8
    subst c8
    rw [if_neg (show ¬ (false = true) by decide)] at H
    have H1 := H; clear H; have H := H1; clear H1
    by_cases c9 : 0 ≤ a1
    ·rw [if_pos c9] at H
     have c9b0 := eq_true c9
     have c9b1 : decide (0 ≤ a1) = true := decide_eq_true c9
     clear c9
     by_cases c10 : a1 ≤ (wrap64 (a1 + a2))
     ·rw [if_pos c10] at H
      have c10b0 := eq_true c10
      have c10b1 : decide (a1 ≤ (wrap64 (a1 + a2))) = true := decide_eq_true c10
      by_cases c11 : (wrap64 (a1 + a2)) ≤ (l0.length : Int)
      ·rw [if_pos c11] at H
       have c11b0 := eq_true c11
       have c11b1 : decide ((wrap64 (a1 + a2)) ≤ (l0.length : Int)) = true := decide_eq_true c11
       (try have c11b4 : ((wrap64 (a1 + a2)) ≤ (c0 : Int)) = True := eq_true (by have h_ := HC0.out; have h2_ := c11; omega))
       obtain ⟨y103, hy103⟩ : ∃ y_ : List Int, y_ = ((l0.take ((wrap64 (a1 + a2)) : Int).toNat).drop (a1 : Int).toNat) := ⟨_, rfl⟩
       first | with_reducible replace H := bindY hy103 H | rw [← hy103] at H | skip
       try dsimp -simprocs only at H
       have Ny103 := aS hy103
       clear hy103
       have H' := aS H
       clear H
       have q12 : ((wrap64 (a1 + a2)) : Int) ≤ ((l0.length : Int) : Int) := of_decide_eq_true (by first | (with_reducible assumption) | assumption)
       obtain ⟨i012, hi012, _, hsz12, _⟩ := info_parts info5
       have hroom12 : l0.length ≤ c0 := HC0.out
       have hC12 : Kd.C (Kd.int .u8) _ A0 l0.length l0 := HR0.out
       have ql12 : (a1 : Int) ≤ ((wrap64 (a1 + a2)) : Int) := of_decide_eq_true (by first | (with_reducible assumption) | assumption)
       have q012 : (0 : Int) ≤ (a1 : Int) := of_decide_eq_true (by first | (with_reducible assumption) | assumption)
       have hcut12 := cut_mid (P := Try.prog) 22 5 .i64 .i64 Try.underlying22 hi012 1 hsz12 A0 l0.length c0 a1 (wrap64 (a1 + a2)) q012 ql12 q12 hroom12
       have hr12 := Kd.C_mid (lo := (a1 : Int).toNat) (hi := ((wrap64 (a1 + a2)) : Int).toNat) (c := c0) hC12 (by omega) (by omega) hroom12
       obtain ⟨A12, hA12⟩ : ∃ A1, A1 = (if c0 = (a1 : Int).toNat then A0 else (A0 : Option Addr).map (·.add ((a1 : Int).toNat * 1))) := ⟨_, rfl⟩
       obtain ⟨c12, hc12⟩ : ∃ c1, c1 = c0 - (a1 : Int).toNat := ⟨_, rfl⟩
       have hy12 : y103.length = ((wrap64 (a1 + a2)) : Int).toNat - (a1 : Int).toNat := (by rw [Ny103.out, List.length_drop, List.length_take] <;> omega)
       rw [show ((l0).take ((wrap64 (a1 + a2)) : Int).toNat).drop (a1 : Int).toNat = y103 from Ny103.out.symm] at hr12
       replace hr12 : Kd.C (Kd.int .u8) _ A12 y103.length y103 := (by rw [hA12]; exact hr12)
       rw [← hy12, ← hA12, ← hc12] at hcut12
       have HR106 := aS hr12
       have HC106 := aS (show y103.length ≤ c12 from by rw [hy12, hc12]; exact Nat.sub_le_sub_right (Nat.le_trans (by omega) hroom12) _)
       clear hr12 hC12 hroom12 hi012 hsz12 hc12
       have KY12 := aS hy12
       have KA12 := aS hA12
       clear hy12 hA12
       replace q12 := eq_true q12
       go_wp2
       go_loopg [8, 36] kj3 (fun kq v8 v36 w' => ∃ (x8_2 : Int) (x36_2 : Int), v8 = .int .u64 x8_2 ∧ v36 = .int .i64 x36_2 ∧ Aside0 (field_Num.l0 kq x8_2 y103 (y103.length : Int) x36_2 = some (r1, r2)) ∧ Aside0 (kq ≤ kj3) ∧ Drawn0 w w')
       case atStart => exact ⟨(0), (0), (by first | rfl | (simp; done) | (simp [*]; done)), (by first | rfl | (simp; done) | (simp [*]; done)), H', ⟨Nat.le_refl _⟩, by repeat (first | exact Drawn0.refl _ | apply Drawn0.step)⟩
       case round =>
        clear H'
        (try clear c1); (try clear c8); (try clear c9); (try clear c9b0); (try clear c9b1); (try clear c10); (try clear c10b0); (try clear c10b1); (try clear c11); (try clear c11b0); (try clear c11b1); (try clear c12); (try clear q12); (try clear q012); (try clear q12)
        obtain ⟨x8_2, x36_2, rfl, rfl, HA, HK2, ⟨m2, rfl⟩⟩ := hrel
        cases gk with
        | zero => exact absurd HA.out (by simp [field_Num.l0])
        | succ k2 =>
         have H := HA.out
         clear HA
         simp only [field_Num.l0] at H
         by_cases c13 : x36_2 < (y103.length : Int)
         ·rw [if_pos c13] at H
          have c13b0 : decide (x36_2 < (y103.length : Int)) = true := decide_eq_true c13
          clear c13
          by_cases c14 : 0 ≤ x36_2
          ·rw [if_pos c14] at H
           have c14b0 : decide (0 ≤ x36_2) = true := decide_eq_true c14
           clear c14
           by_cases c15 : x36_2 < (y103.length : Int)
           ·rw [if_pos c15] at H
            have c15b0 : decide (x36_2 < (y103.length : Int)) = true := decide_eq_true c15
            clear c15
            have H' := aS H
            clear H
            have p107 : 0 ≤ (x36_2 : Int) := of_decide_eq_true (by first | (with_reducible assumption) | assumption)
            have q107 : x36_2 < (y103.length : Int) := of_decide_eq_true (by first | (with_reducible assumption) | assumption)
            obtain ⟨ad107, e107, hx107_0⟩ := Kd.at_int HR106.out x36_2 p107 q107
            cases e107
            replace p107 := eq_true p107
            replace q107 := eq_true q107
            go_wp2
            go_roundg k2
            case measure => have := HJ3.out; have := HK2.out; omega
            case rel => exact ⟨(Go.bits .or .u64 (IntKind.u64.wrap (x8_2 * 256)) (IntKind.u64.wrap (rd y103 x36_2))), (wrap64 (x36_2 + 1)), (by first | rfl | (simp; done) | (simp [*]; done)), (by first | rfl | (simp; done) | (simp [*]; done)), H', ⟨by have := HJ3.out; have := HK2.out; omega⟩, by repeat (first | exact Drawn0.refl _ | apply Drawn0.step)⟩
           ·rw [if_neg c15] at H
            exact absurd H (by simp)
          ·rw [if_neg c14] at H
           exact absurd H (by simp)
         ·rw [if_neg c13] at H
          have c13b0 : decide (x36_2 < (y103.length : Int)) = false := decide_eq_false c13
          clear c13
          simp only [Option.some.injEq, Prod.mk.injEq] at H
          obtain ⟨rfl, rfl⟩ := H
          go_wp2
          go_ret2
          exact ⟨by first | rfl | (simp; done) | (simp [*]; done), by repeat (first | exact Drawn0.refl _ | apply Drawn0.step)⟩
      ·rw [if_neg c11] at H
       exact absurd H (by simp)
     ·rw [if_neg c10] at H
      exact absurd H (by simp)
    ·rw [if_neg c9] at H
     exact absurd H (by simp)

end Go.Proofs.Ytofjgdbiieanjaa.All

namespace Go.Proofs.Ytofjgdbiieanjaa.All
open Go.Proofs.Ytofjgdbiieanjaa.Ext
open Go.RowKit Go.Proofs.YtofjgdbiieanjaaW.PrintWords Go.Proofs.YtofjgdbiieanjaaW.PrintLast Go.Proofs.YtofjgdbiieanjaaW.PrintMore
attribute [local go_sem] max2_int min2_int max_two min_two max_three min_three max_four min_four   -- for this text's walks alone
set_option linter.unusedVariables false
set_option linter.unusedSimpArgs false

/-! ### mantletref02_Two: function 82 -/
def mantletref02_Two.f (a0 : Int) (a1 : Int) : Option (Int) := if (wrap64 (a0 + a1)) > 65535 then (some (wrap64 ((wrap64 (a0 + a1)) - 65535))) else (some (wrap64 (a0 + a1)))
set_option maxHeartbeats 8000000 in
set_option maxRecDepth 100000 in
theorem mantletref02_Two.calls (a0 : Int) (a1 : Int) (r : Int) (w : World) (h : mantletref02_Two.f a0 a1 = some r) :
    Calls Try.prog 82 #[.int .i64 a0, .int .i64 a1] w fun e w' => e = .returned (.int .i64 r) ∧ Drawn0 w w' := by
 have H := h
 unfold mantletref02_Two.f at H
 clear h
 by_cases c3 : (wrap64 (a0 + a1)) > 65535
 ·rw [if_pos c3] at H
  have c3b0 : decide (65535 < (wrap64 (a0 + a1))) = true := decide_eq_true c3
  clear c3
  obtain rfl := Option.some.inj H
  go_enter Try.func82, Try.ntmps82
  go_wp2
  go_ret
  exact ⟨by first | rfl | (simp; done) | (simp [*]; done), by repeat (first | exact Drawn0.refl _ | apply Drawn0.step)⟩
 ·rw [if_neg c3] at H
  have c3b0 : decide (65535 < (wrap64 (a0 + a1))) = false := decide_eq_false c3
  clear c3
  obtain rfl := Option.some.inj H
  go_enter Try.func82, Try.ntmps82
  go_wp2
  go_ret
  exact ⟨by first | rfl | (simp; done) | (simp [*]; done), by repeat (first | exact Drawn0.refl _ | apply Drawn0.step)⟩

end Go.Proofs.Ytofjgdbiieanjaa.All

namespace Go.Proofs.Ytofjgdbiieanjaa.All
open Go.Proofs.Ytofjgdbiieanjaa.Ext
open Go.RowKit Go.Proofs.YtofjgdbiieanjaaW.PrintWords Go.Proofs.YtofjgdbiieanjaaW.PrintLast Go.Proofs.YtofjgdbiieanjaaW.PrintMore
attribute [local go_sem] max2_int min2_int max_two min_two max_three min_three max_four min_four   -- for this text's walks alone
set_option linter.unusedVariables false
set_option linter.unusedSimpArgs false

/-! ### mantletref02_Add: function 65 -/
def mantletref02_Add.l0 : Nat → Int → List Int → Int → Option (Int)
  | 0, _, _, _ => none
  | k + 1, x0, x1, x5 => if x5 < (x1.length : Int) then (if 0 ≤ x5 then (if (wrap64 (x5 + 1)) < (x1.length : Int) then (if 0 ≤ (wrap64 (x5 + 1)) then ((mantletref02_Two.f x0 (wrap64 ((wrap64 (256 * (wrap64 (rd x1 x5)))) + (wrap64 (rd x1 (wrap64 (x5 + 1))))))).bind fun t122 => (mantletref02_Add.l0 k t122 x1 (wrap64 (x5 + 2)))) else (none)) else ((mantletref02_Two.f x0 (wrap64 (256 * (wrap64 (rd x1 x5))))).bind fun t123 => (mantletref02_Add.l0 k t123 x1 (wrap64 (x5 + 2))))) else (none)) else (some x0)
def mantletref02_Add.f (k : Nat) (a0 : Int) (l1 : List Int) : Option (Int) := mantletref02_Add.l0 k a0 l1 0
theorem mantletref02_Add.mono_l : ∀ k, (∀ y0 y1 y2, LeO (mantletref02_Add.l0 k y0 y1 y2) (mantletref02_Add.l0 (k + 1) y0 y1 y2))
  | 0 => fun _ _ _ r h => by simp [mantletref02_Add.l0] at h
  | k + 1 => by
    have ih0 := mantletref02_Add.mono_l k
    · intro y0 y1 y2
      unfold mantletref02_Add.l0
      repeat' first
      | (with_reducible exact ih0 _ _ _)
      | (with_reducible exact LeO.refl _)
      | (with_reducible exact LeO.none _)
      | (with_reducible refine LeO.ite ?_ ?_)
      | (with_reducible refine LeO.bind ?_ (fun _ => ?_))
      | exact ih0 _ _ _
      | exact LeO.none _
      | refine LeO.ite ?_ ?_
      | refine LeO.bind ?_ (fun _ => ?_)
theorem mantletref02_Add.mono : ∀ a0 a1 k, LeO (mantletref02_Add.f k a0 a1) (mantletref02_Add.f (k + 1) a0 a1) := by
 intro a0 a1 k
 have ih0 := mantletref02_Add.mono_l k
 unfold mantletref02_Add.f
 repeat' first
   | (with_reducible exact ih0 _ _ _)
   | (with_reducible exact LeO.refl _)
   | (with_reducible exact LeO.none _)
   | (with_reducible refine LeO.ite ?_ ?_)
   | (with_reducible refine LeO.bind ?_ (fun _ => ?_))
   | exact ih0 _ _ _
   | exact LeO.none _
   | refine LeO.ite ?_ ?_
   | refine LeO.bind ?_ (fun _ => ?_)
set_option maxHeartbeats 8000000 in
set_option maxRecDepth 100000 in
theorem mantletref02_Add.calls (k : Nat) (a0 : Int) (A1 : Option Addr) (c1 : Nat) (l1 : List Int) (r : Int) (w : World) (hr1 : Kd.C (Kd.int .u8) w A1 l1.length l1) (hc1 : l1.length ≤ c1) (h : mantletref02_Add.f k a0 l1 = some r) :
    Calls Try.prog 65 #[.int .i64 a0, .slice A1 l1.length c1] w fun e w' => e = .returned (.int .i64 r) ∧ Drawn0 w w' := by
 have HR1 := aS hr1
 have HC1 := aS hc1
 clear hr1 hc1; have H := h
 unfold mantletref02_Add.f at H
 clear h
 have H' := aS H
 clear H
 go_enter Try.func65, Try.ntmps65
 go_wp2
 go_loopg [0, 5] k (fun kq v0 v5 w' => ∃ (x0_1 : Int) (x5_1 : Int), v0 = .int .i64 x0_1 ∧ v5 = .int .i64 x5_1 ∧ Aside0 (mantletref02_Add.l0 kq x0_1 l1 x5_1 = some r) ∧ Aside0 (kq ≤ k) ∧ Drawn0 w w')
 case atStart => exact ⟨(a0), (0), (by first | rfl | (simp; done) | (simp [*]; done)), (by first | rfl | (simp; done) | (simp [*]; done)), H', ⟨Nat.le_refl _⟩, by repeat (first | exact Drawn0.refl _ | apply Drawn0.step)⟩
 case round =>
  clear H'
  (try clear c1)
  obtain ⟨x0_1, x5_1, rfl, rfl, HA, HK1, ⟨m1, rfl⟩⟩ := hrel
  cases gk with
  | zero => exact absurd HA.out (by simp [mantletref02_Add.l0])
  | succ k1 =>
   have H := HA.out
   clear HA
   simp only [mantletref02_Add.l0] at H
   by_cases c3 : x5_1 < (l1.length : Int)
   ·rw [if_pos c3] at H
    have c3b0 : decide (x5_1 < (l1.length : Int)) = true := decide_eq_true c3
    clear c3
    by_cases c4 : 0 ≤ x5_1
    ·rw [if_pos c4] at H
     have c4b0 : decide (0 ≤ x5_1) = true := decide_eq_true c4
     clear c4
     by_cases c5 : (wrap64 (x5_1 + 1)) < (l1.length : Int)
     ·rw [if_pos c5] at H
      have c5b0 : decide ((wrap64 (x5_1 + 1)) < (l1.length : Int)) = true := decide_eq_true c5
      clear c5
      obtain ⟨ji6, hji6⟩ : ∃ j_ : Int, (wrap64 (x5_1 + 1)) = j_ := ⟨_, rfl⟩
      replace H : (if 0 ≤ (ji6) then ((mantletref02_Two.f x0_1 (wrap64 ((wrap64 (256 * (wrap64 (rd l1 x5_1)))) + (wrap64 (rd l1 (ji6)))))).bind fun t122 => (mantletref02_Add.l0 k1 t122 l1 (wrap64 (x5_1 + 2)))) else (none)) = some r := by first | (rw [hji6] at H; exact H) | (simp only [hji6] at H ⊢; exact H)
      (try rw [hji6] at c5b0)
      have hji6w : (IntKind.i64.wrap (x5_1 + 1)) = ji6 := (i64_w _).trans hji6
      by_cases c7 : 0 ≤ (ji6)
      ·rw [if_pos c7] at H
       have c7b0 : decide (0 ≤ (ji6)) = true := decide_eq_true c7
       clear c7
       replace H := Option.bind_eq_some_iff.mp H
       obtain ⟨t122, A80, H⟩ := H
       try dsimp -simprocs only at H
       have A8 := aS A80
       clear A80
       have H' := aS H
       clear H
       have p120 : 0 ≤ (x5_1 : Int) := of_decide_eq_true (by first | (with_reducible assumption) | assumption)
       have q120 : x5_1 < (l1.length : Int) := of_decide_eq_true (by first | (with_reducible assumption) | assumption)
       obtain ⟨ad120, e120, hx120_0⟩ := Kd.at_int HR1.out x5_1 p120 q120
       cases e120
       replace p120 := eq_true p120
       replace q120 := eq_true q120
       have p121 : 0 ≤ ((ji6) : Int) := of_decide_eq_true (by first | (with_reducible assumption) | assumption)
       have q121 : (ji6) < (l1.length : Int) := of_decide_eq_true (by first | (with_reducible assumption) | assumption)
       obtain ⟨ad121, e121, hx121_0⟩ := Kd.at_int HR1.out (ji6) p121 q121
       obtain rfl : ad120 = ad121 := (by injection e121)
       replace p121 := eq_true p121
       replace q121 := eq_true q121
       go_wp2_with (first | ((with_reducible refine gate_callee (f := 82) rfl ?_); refine goesL_ (some 34) rfl rfl Try.func82 (by kernel_rfl) rfl #[.int .i64 x0_1, .int .i64 (wrap64 ((wrap64 (256 * (wrap64 (rd l1 x5_1)))) + (wrap64 (rd l1 (ji6)))))] rfl (by (try simp only [List.map_toArray, List.map_cons, List.map_nil]); first | done | (simp only [hji6]; rfl) | rfl | (simp only [List.length_drop, List.length_take]; rfl)) ?_; (with_reducible refine (mantletref02_Two.calls x0_1 (wrap64 ((wrap64 (256 * (wrap64 (rd l1 x5_1)))) + (wrap64 (rd l1 (ji6))))) t122 _ A8.out).mono ?_); rintro e w' ⟨rfl, ⟨nd, rfl⟩⟩; refine ⟨_, rfl, ?_⟩))
       go_roundg k1
       case measure => have := HK1.out; omega
       case rel => exact ⟨(t122), (wrap64 (x5_1 + 2)), (by first | rfl | (simp; done) | (simp [*]; done)), (by first | rfl | (simp; done) | (simp [*]; done)), H', ⟨by have := HK1.out; omega⟩, by repeat (first | exact Drawn0.refl _ | apply Drawn0.step)⟩
      ·rw [if_neg c7] at H
       exact absurd H (by simp)
     ·rw [if_neg c5] at H
      have c5b0 : decide ((wrap64 (x5_1 + 1)) < (l1.length : Int)) = false := decide_eq_false c5
      clear c5
      replace H := Option.bind_eq_some_iff.mp H
      obtain ⟨t123, A90, H⟩ := H
      try dsimp -simprocs only at H
      have A9 := aS A90
      clear A90
      have H' := aS H
      clear H
      have p120 : 0 ≤ (x5_1 : Int) := of_decide_eq_true (by first | (with_reducible assumption) | assumption)
      have q120 : x5_1 < (l1.length : Int) := of_decide_eq_true (by first | (with_reducible assumption) | assumption)
      obtain ⟨ad120, e120, hx120_0⟩ := Kd.at_int HR1.out x5_1 p120 q120
      cases e120
      replace p120 := eq_true p120
      replace q120 := eq_true q120
      go_wp2_with (first | ((with_reducible refine gate_callee (f := 82) rfl ?_); refine goesL_ (some 34) rfl rfl Try.func82 (by kernel_rfl) rfl #[.int .i64 x0_1, .int .i64 (wrap64 (256 * (wrap64 (rd l1 x5_1))))] rfl (by (try simp only [List.map_toArray, List.map_cons, List.map_nil]); first | done | rfl) ?_; (with_reducible refine (mantletref02_Two.calls x0_1 (wrap64 (256 * (wrap64 (rd l1 x5_1)))) t123 _ A9.out).mono ?_); rintro e w' ⟨rfl, ⟨nd, rfl⟩⟩; refine ⟨_, rfl, ?_⟩))
      go_roundg k1
      case measure => have := HK1.out; omega
      case rel => exact ⟨(t123), (wrap64 (x5_1 + 2)), (by first | rfl | (simp; done) | (simp [*]; done)), (by first | rfl | (simp; done) | (simp [*]; done)), H', ⟨by have := HK1.out; omega⟩, by repeat (first | exact Drawn0.refl _ | apply Drawn0.step)⟩
    ·rw [if_neg c4] at H
     exact absurd H (by simp)
   ·rw [if_neg c3] at H
    have c3b0 : decide (x5_1 < (l1.length : Int)) = false := decide_eq_false c3
    clear c3
    obtain rfl := Option.some.inj H
    go_wp2
    go_ret
    exact ⟨by first | rfl | (simp; done) | (simp [*]; done), by repeat (first | exact Drawn0.refl _ | apply Drawn0.step)⟩

end Go.Proofs.Ytofjgdbiieanjaa.All

namespace Go.Proofs.Ytofjgdbiieanjaa.All
open Go.Proofs.Ytofjgdbiieanjaa.Ext
open Go.RowKit Go.Proofs.YtofjgdbiieanjaaW.PrintWords Go.Proofs.YtofjgdbiieanjaaW.PrintLast Go.Proofs.YtofjgdbiieanjaaW.PrintMore
attribute [local go_sem] max2_int min2_int max_two min_two max_three min_three max_four min_four   -- for this text's walks alone
set_option linter.unusedVariables false
set_option linter.unusedSimpArgs false

/-! ### mantletref04_Two: function 66 -/
def mantletref04_Two.f (l0 : List Int) (a1 : Int) : Option (Int) := if 0 ≤ a1 then (if a1 < (l0.length : Int) then (if 0 ≤ (wrap64 (a1 + 1)) then (if (wrap64 (a1 + 1)) < (l0.length : Int) then (some (wrap64 ((wrap64 (256 * (wrap64 (rd l0 a1)))) + (wrap64 (rd l0 (wrap64 (a1 + 1))))))) else (none)) else (none)) else (none)) else (none)
set_option maxHeartbeats 8000000 in
set_option maxRecDepth 100000 in
theorem mantletref04_Two.calls (A0 : Option Addr) (c0 : Nat) (l0 : List Int) (a1 : Int) (r : Int) (w : World) (hr0 : Kd.C (Kd.int .u8) w A0 l0.length l0) (hc0 : l0.length ≤ c0) (h : mantletref04_Two.f l0 a1 = some r) :
    Calls Try.prog 66 #[.slice A0 l0.length c0, .int .i64 a1] w fun e w' => e = .returned (.int .i64 r) ∧ Drawn0 w w' := by
 have HR0 := aS hr0
 have HC0 := aS hc0
 clear hr0 hc0; have H := h
 unfold mantletref04_Two.f at H
 clear h
 by_cases c3 : 0 ≤ a1
 ·rw [if_pos c3] at H
  have c3b0 : decide (0 ≤ a1) = true := decide_eq_true c3
  clear c3
  by_cases c4 : a1 < (l0.length : Int)
  ·rw [if_pos c4] at H
   have c4b0 : decide (a1 < (l0.length : Int)) = true := decide_eq_true c4
   clear c4
   obtain ⟨ji5, hji5⟩ : ∃ j_ : Int, (wrap64 (a1 + 1)) = j_ := ⟨_, rfl⟩
   replace H : (if 0 ≤ (ji5) then (if (ji5) < (l0.length : Int) then (some (wrap64 ((wrap64 (256 * (wrap64 (rd l0 a1)))) + (wrap64 (rd l0 (ji5)))))) else (none)) else (none)) = some r := by first | (rw [hji5] at H; exact H) | (simp only [hji5] at H ⊢; exact H)
   have hji5w : (IntKind.i64.wrap (a1 + 1)) = ji5 := (i64_w _).trans hji5
   by_cases c6 : 0 ≤ (ji5)
   ·rw [if_pos c6] at H
    have c6b0 : decide (0 ≤ (ji5)) = true := decide_eq_true c6
    clear c6
    by_cases c7 : (ji5) < (l0.length : Int)
    ·rw [if_pos c7] at H
     have c7b0 : decide ((ji5) < (l0.length : Int)) = true := decide_eq_true c7
     clear c7
     obtain rfl := Option.some.inj H
     have p124 : 0 ≤ (a1 : Int) := of_decide_eq_true (by first | (with_reducible assumption) | assumption)
     have q124 : a1 < (l0.length : Int) := of_decide_eq_true (by first | (with_reducible assumption) | assumption)
     obtain ⟨ad124, e124, hx124_0⟩ := Kd.at_int HR0.out a1 p124 q124
     cases e124
     replace p124 := eq_true p124
     replace q124 := eq_true q124
     have p125 : 0 ≤ ((ji5) : Int) := of_decide_eq_true (by first | (with_reducible assumption) | assumption)
     have q125 : (ji5) < (l0.length : Int) := of_decide_eq_true (by first | (with_reducible assumption) | assumption)
     obtain ⟨ad125, e125, hx125_0⟩ := Kd.at_int HR0.out (ji5) p125 q125
     obtain rfl : ad124 = ad125 := (by injection e125)
     replace p125 := eq_true p125
     replace q125 := eq_true q125
     go_enter Try.func66, Try.ntmps66
     go_wp2
     repeat (go_quiet (fail); try go_wp2)
     go_ret
     exact ⟨by first | rfl | (simp; done) | (simp only [← hji5] <;> (first | rfl | simp)) | (simp [*]; done), by repeat (first | exact Drawn0.refl _ | apply Drawn0.step)⟩
    ·rw [if_neg c7] at H
     exact absurd H (by simp)
   ·rw [if_neg c6] at H
    exact absurd H (by simp)
  ·rw [if_neg c4] at H
   exact absurd H (by simp)
 ·rw [if_neg c3] at H
  exact absurd H (by simp)

end Go.Proofs.Ytofjgdbiieanjaa.All

namespace Go.Proofs.Ytofjgdbiieanjaa.All
open Go.Proofs.Ytofjgdbiieanjaa.Ext
open Go.RowKit Go.Proofs.YtofjgdbiieanjaaW.PrintWords Go.Proofs.YtofjgdbiieanjaaW.PrintLast Go.Proofs.YtofjgdbiieanjaaW.PrintMore
attribute [local go_sem] max2_int min2_int max_two min_two max_three min_three max_four min_four   -- for this text's walks alone
set_option linter.unusedVariables false
set_option linter.unusedSimpArgs false

/-! ### slices_Concat_byte_byte: function 67 -/
mutual
def slices_Concat_byte_byte.l0 : Nat → List (List Int) → Int → List (List Int) → Int → Int → Option (List Int)
  | 0, _, _, _, _, _ => none
  | k + 1, x0, x3, x9, x10, x11 => if x11 < x10 then (if 0 ≤ x11 then (if x11 < (x9.length : Int) then (if (wrap64 (x3 + ((rd_L1 x9 x11).length : Int))) < 0 then (none) else (slices_Concat_byte_byte.l0 k x0 (wrap64 (x3 + ((rd_L1 x9 x11).length : Int))) x9 x10 (wrap64 (x11 + 1)))) else (none)) else (none)) else ((slices_Grow.f x3).bind fun t136 => (slices_Concat_byte_byte.l1 k t136 x0 (x0.length : Int) 0))
def slices_Concat_byte_byte.l1 : Nat → List Int → List (List Int) → Int → Int → Option (List Int)
  | 0, _, _, _, _ => none
  | k + 1, x6, x25, x26, x27 => if x27 < x26 then (if 0 ≤ x27 then (if x27 < (x25.length : Int) then (if x6.length + (rd_L1 x25 x27).length < 140737488355328 then (slices_Concat_byte_byte.l1 k (x6 ++ (rd_L1 x25 x27)) x25 x26 (wrap64 (x27 + 1))) else (none)) else (none)) else (none)) else (some x6)
end
def slices_Concat_byte_byte.f (k : Nat) (l0 : List (List Int)) : Option (List Int) := slices_Concat_byte_byte.l0 k l0 0 l0 (l0.length : Int) 0
theorem slices_Concat_byte_byte.mono_l : ∀ k, (∀ y0 y1 y2 y3 y4, LeO (slices_Concat_byte_byte.l0 k y0 y1 y2 y3 y4) (slices_Concat_byte_byte.l0 (k + 1) y0 y1 y2 y3 y4)) ∧ (∀ y0 y1 y2 y3, LeO (slices_Concat_byte_byte.l1 k y0 y1 y2 y3) (slices_Concat_byte_byte.l1 (k + 1) y0 y1 y2 y3))
  | 0 => ⟨fun _ _ _ _ _ r h => by simp [slices_Concat_byte_byte.l0] at h, fun _ _ _ _ r h => by simp [slices_Concat_byte_byte.l1] at h⟩
  | k + 1 => by
    obtain ⟨ih0, ih1⟩ := slices_Concat_byte_byte.mono_l k
    refine ⟨?_, ?_⟩
    · intro y0 y1 y2 y3 y4
      unfold slices_Concat_byte_byte.l0
      repeat' first
      | (with_reducible exact ih0 _ _ _ _ _)
      | (with_reducible exact ih1 _ _ _ _)
      | (with_reducible exact LeO.refl _)
      | (with_reducible exact LeO.none _)
      | (with_reducible refine LeO.ite ?_ ?_)
      | (with_reducible refine LeO.bind ?_ (fun _ => ?_))
      | exact ih0 _ _ _ _ _
      | exact ih1 _ _ _ _
      | exact LeO.none _
      | refine LeO.ite ?_ ?_
      | refine LeO.bind ?_ (fun _ => ?_)
    · intro y0 y1 y2 y3
      unfold slices_Concat_byte_byte.l1
      repeat' first
      | (with_reducible exact ih0 _ _ _ _ _)
      | (with_reducible exact ih1 _ _ _ _)
      | (with_reducible exact LeO.refl _)
      | (with_reducible exact LeO.none _)
      | (with_reducible refine LeO.ite ?_ ?_)
      | (with_reducible refine LeO.bind ?_ (fun _ => ?_))
      | exact ih0 _ _ _ _ _
      | exact ih1 _ _ _ _
      | exact LeO.none _
      | refine LeO.ite ?_ ?_
      | refine LeO.bind ?_ (fun _ => ?_)
theorem slices_Concat_byte_byte.mono : ∀ a0 k, LeO (slices_Concat_byte_byte.f k a0) (slices_Concat_byte_byte.f (k + 1) a0) := by
 intro a0 k
 obtain ⟨ih0, ih1⟩ := slices_Concat_byte_byte.mono_l k
 unfold slices_Concat_byte_byte.f
 repeat' first
   | (with_reducible exact ih0 _ _ _ _ _)
   | (with_reducible exact ih1 _ _ _ _)
   | (with_reducible exact LeO.refl _)
   | (with_reducible exact LeO.none _)
   | (with_reducible refine LeO.ite ?_ ?_)
   | (with_reducible refine LeO.bind ?_ (fun _ => ?_))
   | exact ih0 _ _ _ _ _
   | exact ih1 _ _ _ _
   | exact LeO.none _
   | refine LeO.ite ?_ ?_
   | refine LeO.bind ?_ (fun _ => ?_)
set_option maxHeartbeats 8000000 in
set_option maxRecDepth 100000 in
theorem slices_Concat_byte_byte.calls (k : Nat) (A0 : Option Addr) (c0 : Nat) (l0 : List (List Int)) (r : List Int) (w : World) (hr0 : Kd.C (Kd.slice 5 (Kd.int .u8)) w A0 l0.length l0) (hc0 : l0.length ≤ c0) (h : slices_Concat_byte_byte.f k l0 = some r) :
    Calls Try.prog 67 #[.slice A0 l0.length c0] w fun e w' => ∃ v0_ : Value, e = .returned (v0_) ∧ Kd.R (Kd.int .u8) 5 w' w.heap.size (fun _ => True) v0_ r ∧ Below w.heap.size w w' := by
 have HR0 := aS hr0
 have HC0 := aS hc0
 clear hr0 hc0
 have HB := aS (Below.refl w.heap.size w)
 have H := h
 unfold slices_Concat_byte_byte.f at H
 clear h
 have H' := aS H
 clear H
 go_enter Try.func67, Try.ntmps67
 go_wp2
 go_loopg [3, 11] k (fun kq v3 v11 w' => ∃ (x3_1 : Int) (x11_1 : Int), v3 = .int .i64 x3_1 ∧ v11 = .int .i64 x11_1 ∧ Aside0 (slices_Concat_byte_byte.l0 kq l0 x3_1 l0 (l0.length : Int) x11_1 = some r) ∧ Aside0 (kq ≤ k) ∧ Aside0 (Below w.heap.size w w'))
 case atStart => exact ⟨(0), (0), (by first | rfl | (simp; done) | (simp [*]; done)), (by first | rfl | (simp; done) | (simp [*]; done)), H', ⟨Nat.le_refl _⟩, ⟨tB HB.out⟩⟩
 case round =>
  clear H'
  obtain ⟨x3_1, x11_1, rfl, rfl, HA, HK1, HB⟩ := hrel
  cases gk with
  | zero => exact absurd HA.out (by simp [slices_Concat_byte_byte.l0])
  | succ k1 =>
   have H := HA.out
   clear HA
   simp only [slices_Concat_byte_byte.l0] at H
   by_cases c2 : x11_1 < (l0.length : Int)
   ·rw [if_pos c2] at H
    have c2b0 : decide (x11_1 < (l0.length : Int)) = true := decide_eq_true c2
    clear c2
    by_cases c3 : 0 ≤ x11_1
    ·rw [if_pos c3] at H
     have c3b0 : decide (0 ≤ x11_1) = true := decide_eq_true c3
     clear c3
     by_cases c4 : x11_1 < (l0.length : Int)
     ·rw [if_pos c4] at H
      have c4b0 : decide (x11_1 < (l0.length : Int)) = true := decide_eq_true c4
      clear c4
      by_cases c5 : (wrap64 (x3_1 + ((rd_L1 l0 x11_1).length : Int))) < 0
      ·rw [if_pos c5] at H
       exact absurd H (by simp)
      ·rw [if_neg c5] at H
       have c5b0 : decide ((wrap64 (x3_1 + ((rd_L1 l0 x11_1).length : Int))) < 0) = false := decide_eq_false c5
       clear c5
       have H' := aS H
       clear H
       have p135 : 0 ≤ (x11_1 : Int) := of_decide_eq_true (by first | (with_reducible assumption) | assumption)
       have q135 : x11_1 < (l0.length : Int) := of_decide_eq_true (by first | (with_reducible assumption) | assumption)
       obtain ⟨ad135, A135_0, c135_0, e135, hx135_0, hl135_0, hi135_0⟩ := at_L1 HR0.out x11_1 p135 q135
       cases e135
       replace hx135_0 := (HB.out.cell (World.block_lt_of_cell? w _ hx135_0)).trans hx135_0
       have HR135_0 := aS hi135_0
       have HC135_0 := aS hl135_0
       clear hi135_0 hl135_0
       replace p135 := eq_true p135
       replace q135 := eq_true q135
       go_wp2
       go_roundg k1
       case measure => have := HK1.out; omega
       case rel => exact ⟨(wrap64 (x3_1 + ((rd_L1 l0 x11_1).length : Int))), (wrap64 (x11_1 + 1)), (by first | rfl | (simp; done) | (simp [*]; done)), (by first | rfl | (simp; done) | (simp [*]; done)), H', ⟨by have := HK1.out; omega⟩, ⟨tB HB.out⟩⟩
     ·rw [if_neg c4] at H
      exact absurd H (by simp)
    ·rw [if_neg c3] at H
     exact absurd H (by simp)
   ·rw [if_neg c2] at H
    have c2b0 : decide (x11_1 < (l0.length : Int)) = false := decide_eq_false c2
    clear c2
    replace H := Option.bind_eq_some_iff.mp H
    obtain ⟨t136, A60, H⟩ := H
    try dsimp -simprocs only at H
    have A6 := aS A60
    clear A60
    have H' := aS H
    clear H
    go_wp2_with (first | ((with_reducible refine gate_callee (f := 83) rfl ?_); refine goesL_ (some 24) rfl rfl Try.func83 (by kernel_rfl) rfl #[.slice none 0 0, .int .i64 x3_1] rfl (by (try simp only [List.map_toArray, List.map_cons, List.map_nil]); first | done | rfl) ?_; (with_reducible refine (slices_Grow.calls x3_1 t136 _ A6.out).mono ?_); rintro e w7 ⟨v137, rfl, ho0, hb⟩; refine ⟨_, rfl, ?_⟩; have HO138 := aS (Kd.R_lower ho0 (below_size (tB HB.out))); replace HB := aS (below_step (tB HB.out) hb); (try clear hb); (try clear hb2); (try clear hk); (try clear hi); (try clear ho0)))
    go_loopg [6, 27] k1 (fun kq v6 v27 w' => ∃ (x6_2 : List Int) (x27_2 : Int), v27 = .int .i64 x27_2 ∧ Aside0 (slices_Concat_byte_byte.l1 kq x6_2 l0 (l0.length : Int) x27_2 = some r) ∧ Aside0 (kq ≤ k1) ∧ Aside0 (Kd.R (Kd.int .u8) 5 w' w.heap.size (fun _ => True) v6 x6_2) ∧ Aside0 (Below w.heap.size w w'))
    case atStart => exact ⟨(t136), (0), (by first | rfl | (simp; done) | (simp [*]; done)), H', ⟨Nat.le_refl _⟩, ⟨tR HO138.out⟩, ⟨tB HB.out⟩⟩
    case round =>
     clear H'
     (try clear c1); (try clear c2); (try clear c2b0); obtain ⟨x6_2, x27_2, rfl, HA, HK2, HO_6, HB⟩ := hrel
     cases gk with
     | zero => exact absurd HA.out (by simp [slices_Concat_byte_byte.l1])
     | succ k2 =>
      have H := HA.out
      clear HA
      simp only [slices_Concat_byte_byte.l1] at H
      by_cases c8 : x27_2 < (l0.length : Int)
      ·rw [if_pos c8] at H
       have c8b0 : decide (x27_2 < (l0.length : Int)) = true := decide_eq_true c8
       clear c8
       by_cases c9 : 0 ≤ x27_2
       ·rw [if_pos c9] at H
        have c9b0 : decide (0 ≤ x27_2) = true := decide_eq_true c9
        clear c9
        by_cases c10 : x27_2 < (l0.length : Int)
        ·rw [if_pos c10] at H
         have c10b0 : decide (x27_2 < (l0.length : Int)) = true := decide_eq_true c10
         clear c10
         by_cases c11 : x6_2.length + (rd_L1 l0 x27_2).length < 140737488355328
         ·rw [if_pos c11] at H
          have LMc11 := aS c11
          clear c11
          obtain ⟨y140, hy140⟩ : ∃ y_ : List Int, y_ = (x6_2 ++ (rd_L1 l0 x27_2)) := ⟨_, rfl⟩
          first | with_reducible replace H := bindY hy140 H | rw [← hy140] at H | skip
          try dsimp -simprocs only at H
          have Ny140 := aS hy140
          clear hy140
          have H' := aS H
          clear H
          have p139 : 0 ≤ (x27_2 : Int) := of_decide_eq_true (by first | (with_reducible assumption) | assumption)
          have q139 : x27_2 < (l0.length : Int) := of_decide_eq_true (by first | (with_reducible assumption) | assumption)
          obtain ⟨ad139, A139_0, c139_0, e139, hx139_0, hl139_0, hi139_0⟩ := at_L1 HR0.out x27_2 p139 q139
          cases e139
          replace hx139_0 := (HB.out.cell (World.block_lt_of_cell? w _ hx139_0)).trans hx139_0
          have HR139_0 := aS hi139_0
          have HC139_0 := aS hl139_0
          clear hi139_0 hl139_0
          replace p139 := eq_true p139
          replace q139 := eq_true q139
          go_wp2_with (first | ((with_reducible refine gate_builtin (b := .append) (xs := #[.tmp 31, .tmp 32]) rfl ?_); at_builtin; refine Kd.R_append_rows (Kd.int .u8) (w0 := w) w.heap.size rfl (.tmp 31) (.tmp 32) 22 5 (.int .u8 0) 1 rfl Try.underlying22 info5 rfl (by decide) (by omega) u6 x6_2 (rd_L1 l0 x27_2) _ _ _ (fun _ => True) (fun _ => False) rfl rfl ?aO ?aR (fun _ _ h => h) (fun _ h => h.elim) ?aF ?aB ?aS ?aL ?_; (case aR => repeat (first | exact (Kd.C_below HR139_0.out HB.out) | (with_reducible refine Kd.C_alloc ?_ _) | (with_reducible refine Kd.C_drewN ?_ _) | (with_reducible refine Kd.C_drew ?_))); (case aB => exact (tB HB.out)); (case aF => exact (fun _ _ => trivial)); (case aO => exact (tR HO_6.out)); (case aS => exact (below_size (tB HB.out))); (case aL => have := LMc11.out; omega); intro v141 w12 ho hb hg hat; rw [← Ny140.out] at ho; replace HB := aS (hb); have HO142 := aS (ho); clear HO_6; clear ho hb hg hat))
          go_roundg k2
          case measure => have := HK1.out; have := HK2.out; omega
          case rel => exact ⟨(y140), (wrap64 (x27_2 + 1)), (by first | rfl | (simp; done) | (simp [*]; done)), H', ⟨by have := HK1.out; have := HK2.out; omega⟩, ⟨tR HO142.out⟩, ⟨tB HB.out⟩⟩
         ·rw [if_neg c11] at H
          exact absurd H (by simp)
        ·rw [if_neg c10] at H
         exact absurd H (by simp)
       ·rw [if_neg c9] at H
        exact absurd H (by simp)
      ·rw [if_neg c8] at H
       have c8b0 : decide (x27_2 < (l0.length : Int)) = false := decide_eq_false c8
       clear c8
       obtain rfl := Option.some.inj H
       go_wp2
       go_ret
       exact ⟨_, by first | rfl | (simp [errW_none, errW_some] <;> rfl) | (simp [*, errW_none, errW_some] <;> rfl), by (with_reducible repeat apply mR); exact HO_6.out, tB HB.out⟩

end Go.Proofs.Ytofjgdbiieanjaa.All

namespace Go.Proofs.Ytofjgdbiieanjaa.All
open Go.Proofs.Ytofjgdbiieanjaa.Ext
open Go.RowKit Go.Proofs.YtofjgdbiieanjaaW.PrintWords Go.Proofs.YtofjgdbiieanjaaW.PrintLast Go.Proofs.YtofjgdbiieanjaaW.PrintMore
attribute [local go_sem] max2_int min2_int max_two min_two max_three min_three max_four min_four   -- for this text's walks alone
set_option linter.unusedVariables false
set_option linter.unusedSimpArgs false

/-! ### field_Cut: function 68 -/
mutual
def field_Cut.j0 : Nat → Int → Int → Bool → Option (List Int)
  | 0, _, _, _ => none
  | k + 1, x0, x1, x12 => if x12 = true then (some ([] : List Int)) else (if 0 ≤ x1 then (if (x1 : Int).toNat ≤ 281474976710656 then ((some (List.replicate (x1 : Int).toNat 0 : List Int)).bind fun y143 => (field_Cut.l0 k x0 x1 y143 (y143.length : Int) 0)) else (none)) else (none))
def field_Cut.l0 : Nat → Int → Int → List Int → Int → Int → Option (List Int)
  | 0, _, _, _, _, _ => none
  | k + 1, x0, x1, x5, x16, x17 => if x17 < x16 then (if 0 ≤ (wrap64 (8 * (wrap64 ((wrap64 (x1 - 1)) - x17)))) then (if 0 ≤ x17 then (if x17 < (x5.length : Int) then (field_Cut.l0 k x0 x1 (x5.set (x17 : Int).toNat ((shr .u64 x0 (wrap64 (8 * (wrap64 ((wrap64 (x1 - 1)) - x17))))) % 256)) x16 (wrap64 (x17 + 1))) else (none)) else (none)) else (none)) else (some x5)
end
def field_Cut.f (k : Nat) (a0 : Int) (a1 : Int) : Option (List Int) := if a1 < 1 then (field_Cut.j0 k a0 a1 true) else (field_Cut.j0 k a0 a1 (decide (a1 > 8)))
theorem field_Cut.mono_l : ∀ k, (∀ y0 y1 y2, LeO (field_Cut.j0 k y0 y1 y2) (field_Cut.j0 (k + 1) y0 y1 y2)) ∧ (∀ y0 y1 y2 y3 y4, LeO (field_Cut.l0 k y0 y1 y2 y3 y4) (field_Cut.l0 (k + 1) y0 y1 y2 y3 y4))
  | 0 => ⟨fun _ _ _ r h => by simp [field_Cut.j0] at h, fun _ _ _ _ _ r h => by simp [field_Cut.l0] at h⟩
  | k + 1 => by
    obtain ⟨ih0, ih1⟩ := field_Cut.mono_l k
    refine ⟨?_, ?_⟩
    · intro y0 y1 y2
      unfold field_Cut.j0
      repeat' first
      | (with_reducible exact ih0 _ _ _)
      | (with_reducible exact ih1 _ _ _ _ _)
      | (with_reducible exact LeO.refl _)
      | (with_reducible exact LeO.none _)
      | (with_reducible refine LeO.ite ?_ ?_)
      | (with_reducible refine LeO.bind ?_ (fun _ => ?_))
      | exact ih0 _ _ _
      | exact ih1 _ _ _ _ _
      | exact LeO.none _
      | refine LeO.ite ?_ ?_
      | refine LeO.bind ?_ (fun _ => ?_)
    · intro y0 y1 y2 y3 y4
      unfold field_Cut.l0
      repeat' first
      | (with_reducible exact ih0 _ _ _)
      | (with_reducible exact ih1 _ _ _ _ _)
      | (with_reducible exact LeO.refl _)
      | (with_reducible exact LeO.none _)
      | (with_reducible refine LeO.ite ?_ ?_)
      | (with_reducible refine LeO.bind ?_ (fun _ => ?_))
      | exact ih0 _ _ _
      | exact ih1 _ _ _ _ _
      | exact LeO.none _
      | refine LeO.ite ?_ ?_
      | refine LeO.bind ?_ (fun _ => ?_)
theorem field_Cut.mono : ∀ a0 a1 k, LeO (field_Cut.f k a0 a1) (field_Cut.f (k + 1) a0 a1) := by
 intro a0 a1 k
 obtain ⟨ih0, ih1⟩ := field_Cut.mono_l k
 unfold field_Cut.f
 repeat' first
   | (with_reducible exact ih0 _ _ _)
   | (with_reducible exact ih1 _ _ _ _ _)
   | (with_reducible exact LeO.refl _)
   | (with_reducible exact LeO.none _)
   | (with_reducible refine LeO.ite ?_ ?_)
   | (with_reducible refine LeO.bind ?_ (fun _ => ?_))
   | exact ih0 _ _ _
   | exact ih1 _ _ _ _ _
   | exact LeO.none _
   | refine LeO.ite ?_ ?_
   | refine LeO.bind ?_ (fun _ => ?_)
set_option maxHeartbeats 8000000 in
set_option maxRecDepth 100000 in
theorem field_Cut.calls (k : Nat) (a0 : Int) (a1 : Int) (r : List Int) (w : World) (h : field_Cut.f k a0 a1 = some r) :
    Calls Try.prog 68 #[.int .u64 a0, .int .i64 a1] w fun e w' => ∃ v0_ : Value, e = .returned (v0_) ∧ Kd.R (Kd.int .u8) 5 w' w.heap.size (fun _ => True) v0_ r ∧ Below w.heap.size w w' := by
 have HB := aS (Below.refl w.heap.size w)
 have H := h
 unfold field_Cut.f at H
 clear h
 have HC3 := aS H
 clear H
 go_enter Try.func68, Try.ntmps68
 go_upto_region 1 with (fail)
 go_cut [12] (fun v12 wc => ∃ (kq : Nat) (x12_2 : Bool), v12 = .bool x12_2 ∧ Aside0 (field_Cut.j0 kq a0 a1 x12_2 = some r) ∧ Aside0 (kq ≤ k) ∧ Aside0 (Below w.heap.size w wc))
 case first =>
  have H := HC3.out
  clear HC3
  by_cases c4 : a1 < 1
  ·rw [if_pos c4] at H
   have c4b0 : decide (a1 < 1) = true := decide_eq_true c4
   clear c4
   (first | rw [c4b0] | (simp only [i64_w, i32_w]; rw [c4b0]) | skip)
   have H' := aS H
   clear H
   go_wp2
   go_meet
   case rel => exact ⟨_, (true), (by first | rfl | (simp; done) | (simp [*]; done)), H', ⟨by first | omega | exact Nat.le_refl _⟩, ⟨tB HB.out⟩⟩
  ·rw [if_neg c4] at H
   have c4b0 : decide (a1 < 1) = false := decide_eq_false c4
   clear c4
   (first | rw [c4b0] | (simp only [i64_w, i32_w]; rw [c4b0]) | skip)
   have H' := aS H
   clear H
   go_wp2
   go_meet
   case rel => exact ⟨_, (decide (a1 > 8)), (by first | rfl | (simp; done) | (simp [*]; done)), H', ⟨by first | omega | exact Nat.le_refl _⟩, ⟨tB HB.out⟩⟩
 case rest =>
  clear HC3; obtain ⟨kq, x12_2, rfl, HA, HJ2, HB⟩ := hcut
  cases kq with
  | zero => exact absurd HA.out (by simp [field_Cut.j0])
  | succ kj2 =>
   have H := HA.out
   clear HA
   simp only [field_Cut.j0] at H
   by_cases c5 : x12_2 = true
   ·subst c5
    rw [if_pos rfl] at H
    have H1 := H; clear H; have H := H1; clear H1
    obtain rfl := Option.some.inj H
    go_wp2
    go_ret
    exact ⟨_, by first | rfl | (simp [errW_none, errW_some] <;> rfl) | (simp [*, errW_none, errW_some] <;> rfl), by first | exact Kd.R_nil _ _ _ _ _ | exact Kd.N_nil _ _ _ _ _ | exact Kd.V_nil _ _ _ _ _ | exact Kd.Q_nil _ _ _ _ _ | exact Kd.S_nil _ _ _ _ _, tB HB.out⟩
   ·replace c5 := Bool.eq_false_iff.mpr c5
    subst c5
    rw [if_neg (show ¬ (false = true) by decide)] at H
    have H1 := H; clear H; have H := H1; clear H1
    by_cases c6 : 0 ≤ a1
    ·rw [if_pos c6] at H
     have c6b0 := eq_true c6
     have c6b1 : decide (0 ≤ a1) = true := decide_eq_true c6
     clear c6
     by_cases c7 : (a1 : Int).toNat ≤ 281474976710656
     ·rw [if_pos c7] at H
      have c7b0 := eq_true c7
      have c7b1 : decide ((a1 : Int).toNat ≤ 281474976710656) = true := decide_eq_true c7
      clear c7
      obtain ⟨y143, hy143⟩ : ∃ y_ : List Int, y_ = (List.replicate (a1 : Int).toNat 0) := ⟨_, rfl⟩
      first | with_reducible replace H := bindY hy143 H | rw [← hy143] at H | skip
      try dsimp -simprocs only at H
      have Ny143 := aS hy143
      clear hy143
      have H' := aS H
      clear H
      go_wp2_with (first | ((with_reducible refine gate_dst (N := 14) rfl ?_); refine Kd.R_make (Kd.int .u8) _ 5 rfl (N := 14) rfl 22 _ _ rfl a1 rfl rfl Try.underlying22 (.int .u8 0) 1 info5 rfl (by decide) (by omega) 0 (ok := fun _ => True) (okp := fun _ => True) rfl (fun _ hk => hk) trivial (of_decide_eq_true (by first | (with_reducible assumption) | assumption)) (Nat.le_trans (Nat.mul_le_mul_right _ (of_decide_eq_true (by first | (with_reducible assumption) | assumption) : a1.toNat ≤ 281474976710656)) (by omega)) (Below.refl _ _) (Nat.le_refl _) ?_; intro v144 w8 ho9 hb hg_ hnew_; clear hg_ hnew_; (first | rw [← Ny143.out] at ho9 | (simp only [Int.reduceToNat] at ho9; rw [← Ny143.out] at ho9)); have HO145 := aS (Kd.R_lower ho9 (below_size (tB HB.out))); replace HB := aS (below_step (tB HB.out) hb); clear hb ho9; obtain ⟨Ao10, co10, eo10⟩ := Kd.R_slice HO145.out; subst eo10))
      go_loopg [17] kj2 (fun kq v17 w' => ∃ (x5_2 : List Int) (x17_2 : Int), v17 = .int .i64 x17_2 ∧ Aside0 (field_Cut.l0 kq a0 a1 x5_2 (y143.length : Int) x17_2 = some r) ∧ Aside0 (kq ≤ kj2) ∧ Aside0 (Kd.R (Kd.int .u8) 5 w' w.heap.size (fun _ => True) (.slice Ao10 y143.length co10) x5_2) ∧ Aside0 (Below w.heap.size w w'))
      case atStart => exact ⟨(y143), (0), (by first | rfl | (simp; done) | (simp [*]; done)), H', ⟨Nat.le_refl _⟩, ⟨tR HO145.out⟩, ⟨tB HB.out⟩⟩
      case round =>
       clear H'
       (try clear c5); (try clear c6); (try clear c6b0); (try clear c6b1); (try clear c7); (try clear c7b0); (try clear c7b1); obtain ⟨x5_2, x17_2, rfl, HA, HK2, HO_5, HB⟩ := hrel
       have hl5_2 := (Kd.R_reads' HO_5.out).1
       rw [hl5_2] at HO_5
       (try simp only [hl5_2])
       cases gk with
       | zero => exact absurd HA.out (by simp [field_Cut.l0])
       | succ k2 =>
        have H := HA.out
        clear HA
        simp only [field_Cut.l0] at H
        by_cases c11 : x17_2 < (y143.length : Int)
        ·rw [if_pos c11] at H
         have c11b0 : decide (x17_2 < (y143.length : Int)) = true := decide_eq_true c11
         (try (have c11b0h := c11b0; simp only [hl5_2] at c11b0h))
         clear c11
         obtain ⟨ji12, hji12⟩ : ∃ j_ : Int, (wrap64 (8 * (wrap64 ((wrap64 (a1 - 1)) - x17_2)))) = j_ := ⟨_, rfl⟩
         replace H : (if 0 ≤ (ji12) then (if 0 ≤ x17_2 then (if x17_2 < (x5_2.length : Int) then (field_Cut.l0 k2 a0 a1 (x5_2.set (x17_2 : Int).toNat ((shr .u64 a0 (ji12)) % 256)) (y143.length : Int) (wrap64 (x17_2 + 1))) else (none)) else (none)) else (none)) = some r := by first | (rw [hji12] at H; exact H) | (simp only [hji12] at H ⊢; exact H)
         have hji12w : (IntKind.i64.wrap (8 * (wrap64 ((wrap64 (a1 - 1)) - x17_2)))) = ji12 := (i64_w _).trans hji12
         by_cases c13 : 0 ≤ (ji12)
         ·rw [if_pos c13] at H
          have c13b0 := eq_true c13
          have c13b1 : decide (0 ≤ (ji12)) = true := decide_eq_true c13
          clear c13
          obtain ⟨ji14, hji14⟩ : ∃ j_ : Int, (shr .u64 a0 (ji12)) = j_ := ⟨_, rfl⟩
          replace H : (if 0 ≤ x17_2 then (if x17_2 < (x5_2.length : Int) then (field_Cut.l0 k2 a0 a1 (x5_2.set (x17_2 : Int).toNat ((ji14) % 256)) (y143.length : Int) (wrap64 (x17_2 + 1))) else (none)) else (none)) = some r := by first | (rw [hji14] at H; exact H) | (simp only [hji14] at H ⊢; exact H)
          have hji14_ : (a0 / 2 ^ min (ji12).toNat 64) = ji14 := hji14
          have hji14z : (ji12) ≤ 64 → (a0 / 2 ^ (ji12).toNat) = ji14 := shr_small hji14
          by_cases c15 : 0 ≤ x17_2
          ·rw [if_pos c15] at H
           have c15b0 : decide (0 ≤ x17_2) = true := decide_eq_true c15
           clear c15
           by_cases c16 : x17_2 < (x5_2.length : Int)
           ·rw [if_pos c16] at H
            have c16b0 : decide (x17_2 < (x5_2.length : Int)) = true := decide_eq_true c16
            (try (have c16b0h := c16b0; simp only [hl5_2] at c16b0h))
            clear c16
            obtain ⟨y146, hy146⟩ : ∃ y_ : List Int, y_ = (x5_2.set (x17_2 : Int).toNat ((ji14) % 256)) := ⟨_, rfl⟩
            first | with_reducible replace H := bindY hy146 H | rw [← hy146] at H | skip
            try dsimp -simprocs only at H
            have Ny146 := aS hy146
            clear hy146
            have H' := aS H
            clear H
            have p17 : 0 ≤ (x17_2 : Int) := of_decide_eq_true (by first | (with_reducible assumption) | assumption)
            have q17 : (x17_2 : Int) < ((x5_2.length : Int) : Int) := of_decide_eq_true (by first | (with_reducible assumption) | assumption)
            obtain ⟨go17, co17, eo17, gb17, gl17, cl17, HG17⟩ := Kd.R_form HO_5.out (by omega)
            (first | cases eo17 | (injection eo17 with ea_ en_ ec_; (first | subst ea_ | (injection ea_ with ea_; subst ea_)); subst ec_; clear en_))
            have GB17 := aS gb17
            have GG17 := aS HG17
            clear gb17 gl17 HG17
            obtain ⟨hx17_0, hf17_0⟩ := Kd.R_celln 0 HO_5.out (x17_2 : Int) p17 q17
            replace p17 := eq_true p17
            replace q17 := eq_true q17
            have HP18 := Kd.R_putg HO_5.out (x17_2 : Int) ((ji14) % 256)
            go_wp2_with (first | ((with_reducible refine gate_store (t := 5) (p := 30) rfl ?_); refine store_event (t := 5) (p := 30) (v := ?vo_w19) (w1 := (wr.setCell ⟨go17, (x17_2 : Int).toNat, none⟩ (.int .u8 ((ji14) % 256)))) ?hg ?ho ?hn ?hr ?_; (case ho => rfl); (case hg => rfl); (case hn => rfl); (case hr => first | (go_simp; done) | (go_simp; rfl)); intro w19 hw; have hg : wr.grownBy w19 (some go17) := (by rw [hw]; exact HP18.2); have hp_ : Kd.R (Kd.int .u8) 5 w19 w.heap.size (fun _ => True) (.slice (some ⟨go17, 0, none⟩) x5_2.length co10) y146 := (by rw [hw, Ny146.out]; exact HP18.1); clear HP18; replace HO_5 := aS (hp_); replace HB := aS ((by rw [hw]; exact below_set (HB.out) GB17.out : Below w.heap.size w w19)); clear hg hw hp_))
            (try simp only [← hl5_2])
            go_roundg k2
            case measure => have := HJ2.out; have := HK2.out; omega
            case rel => exact ⟨(y146), (wrap64 (x17_2 + 1)), (by first | rfl | (simp; done) | (simp [*]; done)), H', ⟨by have := HJ2.out; have := HK2.out; omega⟩, ⟨by (try simp only [hl5_2]); (with_reducible repeat apply mR); exact HO_5.out⟩, ⟨tB HB.out⟩⟩
           ·rw [if_neg c16] at H
            exact absurd H (by simp)
          ·rw [if_neg c15] at H
           exact absurd H (by simp)
         ·rw [if_neg c13] at H
          exact absurd H (by simp)
        ·rw [if_neg c11] at H
         have c11b0 : decide (x17_2 < (y143.length : Int)) = false := decide_eq_false c11
         (try (have c11b0h := c11b0; simp only [hl5_2] at c11b0h))
         clear c11
         obtain rfl := Option.some.inj H
         go_wp2
         go_ret
         exact ⟨_, by first | rfl | (simp [errW_none, errW_some] <;> rfl) | (simp [*, errW_none, errW_some] <;> rfl), by (with_reducible repeat apply mR); exact HO_5.out, tB HB.out⟩
     ·rw [if_neg c7] at H
      exact absurd H (by simp)
    ·rw [if_neg c6] at H
     exact absurd H (by simp)

end Go.Proofs.Ytofjgdbiieanjaa.All

namespace Go.Proofs.Ytofjgdbiieanjaa.All
open Go.Proofs.Ytofjgdbiieanjaa.Ext
open Go.RowKit Go.Proofs.YtofjgdbiieanjaaW.PrintWords Go.Proofs.YtofjgdbiieanjaaW.PrintLast Go.Proofs.YtofjgdbiieanjaaW.PrintMore
attribute [local go_sem] max2_int min2_int max_two min_two max_three min_three max_four min_four   -- for this text's walks alone
set_option linter.unusedVariables false
set_option linter.unusedSimpArgs false

/-! ### sum_Of: function 69 -/
def sum_Of.f (k : Nat) (l0 : List Int) : Option (Int) := (sum_Add.f k 0 l0).bind fun t147 => (some (Go.bits .xor .u16 65535 t147))
theorem sum_Of.mono : ∀ a0 k, LeO (sum_Of.f k a0) (sum_Of.f (k + 1) a0) := by
 intro a0 k
 unfold sum_Of.f
 repeat' first
   | (with_reducible exact sum_Add.mono _ _ _)
   | (with_reducible exact LeO.refl _)
   | (with_reducible exact LeO.none _)
   | (with_reducible refine LeO.ite ?_ ?_)
   | (with_reducible refine LeO.bind ?_ (fun _ => ?_))
   | exact sum_Add.mono _ _ _
   | exact LeO.none _
   | refine LeO.ite ?_ ?_
   | refine LeO.bind ?_ (fun _ => ?_)
set_option maxHeartbeats 8000000 in
set_option maxRecDepth 100000 in
theorem sum_Of.calls (k : Nat) (A0 : Option Addr) (c0 : Nat) (l0 : List Int) (r : Int) (w : World) (hr0 : Kd.C (Kd.int .u8) w A0 l0.length l0) (hc0 : l0.length ≤ c0) (h : sum_Of.f k l0 = some r) :
    Calls Try.prog 69 #[.slice A0 l0.length c0] w fun e w' => e = .returned (.int .u16 r) ∧ Drawn0 w w' := by
 have HR0 := aS hr0
 have HC0 := aS hc0
 clear hr0 hc0; have H := h
 unfold sum_Of.f at H
 clear h
 replace H := Option.bind_eq_some_iff.mp H
 obtain ⟨t147, A20, H⟩ := H
 try dsimp -simprocs only at H
 have A2 := aS A20
 clear A20
 obtain rfl := Option.some.inj H
 go_enter Try.func69, Try.ntmps69
 go_wp2_with (first | ((with_reducible refine gate_callee (f := 62) rfl ?_); refine goesL_ (some 4) rfl rfl Try.func62 (by kernel_rfl) rfl #[.int .u16 0, .slice A0 l0.length c0] rfl (by (try simp only [List.map_toArray, List.map_cons, List.map_nil]); first | done | rfl) ?_; (with_reducible refine (sum_Add.calls k 0 _ _ l0 t147 _ ?side1 ?side2 A2.out).mono ?_); (case side1 => repeat (first | exact HR0.out | (with_reducible refine Kd.C_alloc ?_ _) | (with_reducible refine Kd.C_drewN ?_ _) | (with_reducible refine Kd.C_drew ?_))); (case side2 => exact HC0.out); rintro e w' ⟨rfl, ⟨nd, rfl⟩⟩; refine ⟨_, rfl, ?_⟩))
 go_ret
 exact ⟨by first | rfl | (simp; done) | (simp [*]; done), by repeat (first | exact Drawn0.refl _ | apply Drawn0.step)⟩

end Go.Proofs.Ytofjgdbiieanjaa.All

namespace Go.Proofs.Ytofjgdbiieanjaa.All
open Go.Proofs.Ytofjgdbiieanjaa.Ext
open Go.RowKit Go.Proofs.YtofjgdbiieanjaaW.PrintWords Go.Proofs.YtofjgdbiieanjaaW.PrintLast Go.Proofs.YtofjgdbiieanjaaW.PrintMore
attribute [local go_sem] max2_int min2_int max_two min_two max_three min_three max_four min_four   -- for this text's walks alone
set_option linter.unusedVariables false
set_option linter.unusedSimpArgs false

/-! ### mantletref04_Put: function 71 -/
def mantletref04_Put.f (a0 : Int) : Option (List Int) := some (([(Int.tmod (wrap64 (Int.tdiv a0 256)) 256) % 256, (Int.tmod a0 256) % 256] : List Int))
set_option maxHeartbeats 8000000 in
set_option maxRecDepth 100000 in
theorem mantletref04_Put.calls (a0 : Int) (r : List Int) (w : World) (h : mantletref04_Put.f a0 = some r) :
    Calls Try.prog 71 #[.int .i64 a0] w fun e w' => ∃ v0_ : Value, e = .returned (v0_) ∧ Kd.R (Kd.int .u8) 5 w' w.heap.size (fun _ => True) v0_ r ∧ Below w.heap.size w w' := by
 have HB := aS (Below.refl w.heap.size w)
 have H := h
 unfold mantletref04_Put.f at H
 clear h
 obtain ⟨y202, hy202⟩ : ∃ y_ : List Int, y_ = (([(Int.tmod (wrap64 (Int.tdiv a0 256)) 256) % 256, (Int.tmod a0 256) % 256] : List Int)) := ⟨_, rfl⟩
 first | with_reducible replace H := bindY hy202 H | rw [← hy202] at H | skip
 try dsimp -simprocs only at H
 have Ny202 := aS hy202
 clear hy202
 obtain rfl := Option.some.inj H
 go_enter Try.func71, Try.ntmps71
 go_wp2_with (first | ((with_reducible refine gate_dst (N := 10) rfl ?_); refine Kd.R_lit (Kd.int .u8) _ 5 ?hg (N := 10) ?hd (xs := ([(Int.tmod (wrap64 (Int.tdiv a0 256)) 256) % 256, (Int.tmod a0 256) % 256] : List Int)) (inner := [.int .u8 ((Int.tmod (wrap64 (Int.tdiv a0 256)) 256) % 256), .int .u8 ((Int.tmod a0 256) % 256)]) (ok := fun _ => True) (okp := fun _ => True) ?hr ?hp (fun _ hk => hk) trivial (Below.refl _ _) (Nat.le_refl _) (by simp) ?_; (case hd => rfl); (case hg => rfl); (case hr => first | (go_simp; done) | (go_simp; rfl)); (case hp => exact (Reps.one (show Kd.M (Kd.int .u8) _ _ _ ((Int.tmod (wrap64 (Int.tdiv a0 256)) 256) % 256) [.int .u8 ((Int.tmod (wrap64 (Int.tdiv a0 256)) 256) % 256)] from rfl) (Reps.one (show Kd.M (Kd.int .u8) _ _ _ ((Int.tmod a0 256) % 256) [.int .u8 ((Int.tmod a0 256) % 256)] from rfl) (Reps.none _ _)))); intro v203 w2 ho3 hb hg_ hnew_; clear hg_ hnew_; (first | rw [← Ny202.out] at ho3 | (simp only [Int.reduceToNat] at ho3; rw [← Ny202.out] at ho3)); have HO204 := aS (Kd.R_lower ho3 (below_size (tB HB.out))); replace HB := aS (below_step (tB HB.out) hb); clear hb ho3))
 go_ret
 exact ⟨_, by first | rfl | (simp [errW_none, errW_some] <;> rfl) | (simp [*, errW_none, errW_some] <;> rfl), by (with_reducible repeat apply mR); exact HO204.out, tB HB.out⟩

end Go.Proofs.Ytofjgdbiieanjaa.All

namespace Go.Proofs.Ytofjgdbiieanjaa.All
open Go.Proofs.Ytofjgdbiieanjaa.Ext
open Go.RowKit Go.Proofs.YtofjgdbiieanjaaW.PrintWords Go.Proofs.YtofjgdbiieanjaaW.PrintLast Go.Proofs.YtofjgdbiieanjaaW.PrintMore
attribute [local go_sem] max2_int min2_int max_two min_two max_three min_three max_four min_four   -- for this text's walks alone
set_option linter.unusedVariables false
set_option linter.unusedSimpArgs false

/-! ### mantletref04_Wide: function 73 -/
def mantletref04_Wide.f (a0 : Int) : Option (List Int) := (mantletref04_Put.f ((Int.tdiv a0 65536) % 4294967296)).bind fun t297 => ((mantletref04_Put.f (wrap64 (Int.tmod a0 65536))).bind fun t300 => (if t297.length + t300.length < 140737488355328 then (some (t297 ++ t300)) else (none)))
set_option maxHeartbeats 8000000 in
set_option maxRecDepth 100000 in
theorem mantletref04_Wide.calls (a0 : Int) (r : List Int) (w : World) (h : mantletref04_Wide.f a0 = some r) :
    Calls Try.prog 73 #[.int .u32 a0] w fun e w' => ∃ v0_ : Value, e = .returned (v0_) ∧ Kd.R (Kd.int .u8) 5 w' w.heap.size (fun _ => True) v0_ r ∧ Below w.heap.size w w' := by
 have HB := aS (Below.refl w.heap.size w)
 have H := h
 unfold mantletref04_Wide.f at H
 clear h
 replace H := Option.bind_eq_some_iff.mp H
 obtain ⟨t297, A20, H⟩ := H
 try dsimp -simprocs only at H
 have A2 := aS A20
 clear A20
 replace H := Option.bind_eq_some_iff.mp H
 obtain ⟨t300, A30, H⟩ := H
 try dsimp -simprocs only at H
 have A3 := aS A30
 clear A30
 by_cases c4 : t297.length + t300.length < 140737488355328
 ·rw [if_pos c4] at H
  have LMc4 := aS c4
  clear c4
  obtain ⟨y303, hy303⟩ : ∃ y_ : List Int, y_ = (t297 ++ t300) := ⟨_, rfl⟩
  first | with_reducible replace H := bindY hy303 H | rw [← hy303] at H | skip
  try dsimp -simprocs only at H
  have Ny303 := aS hy303
  clear hy303
  obtain rfl := Option.some.inj H
  go_enter Try.func73, Try.ntmps73
  go_wp2_with (first | ((with_reducible refine gate_callee (f := 71) rfl ?_); refine goesL_ (some 6) rfl rfl Try.func71 (by kernel_rfl) rfl #[.int .i64 ((Int.tdiv a0 65536) % 4294967296)] rfl (by (try simp only [List.map_toArray, List.map_cons, List.map_nil]); first | done | rfl) ?_; (with_reducible refine (mantletref04_Put.calls ((Int.tdiv a0 65536) % 4294967296) t297 _ A2.out).mono ?_); rintro e w5 ⟨v298, rfl, ho0, hb⟩; refine ⟨_, rfl, ?_⟩; have HO299 := aS (Kd.R_lower ho0 (below_size (tB HB.out))); replace HB := aS (below_step (tB HB.out) hb); (try clear hb); (try clear hb2); (try clear hk); (try clear hi); (try clear ho0)) | ((with_reducible refine gate_callee (f := 71) rfl ?_); refine goesL_ (some 10) rfl rfl Try.func71 (by kernel_rfl) rfl #[.int .i64 (wrap64 (Int.tmod a0 65536))] rfl (by (try simp only [List.map_toArray, List.map_cons, List.map_nil]); first | done | rfl) ?_; (with_reducible refine (mantletref04_Put.calls (wrap64 (Int.tmod a0 65536)) t300 _ A3.out).mono ?_); rintro e w6 ⟨v301, rfl, ho0, hb⟩; refine ⟨_, rfl, ?_⟩; have HO302 := aS (Kd.R_lower (Kd.R_new' ho0 (Kd.R_lt (tR HO299.out))) (below_size (tB HB.out))); replace HO299 := aS (Kd.R_elder' (tR HO299.out) (Kd.R_base ho0) hb); replace HB := aS (below_step (tB HB.out) hb); (try clear hb); (try clear hb2); (try clear hk); (try clear hi); (try clear ho0); obtain ⟨Ao8, co8, eo8⟩ := Kd.R_slice HO302.out; subst eo8) | ((with_reducible refine gate_builtin (b := .append) (xs := #[.tmp 6, .tmp 10]) rfl ?_); at_builtin; refine Kd.R_append_rows (Kd.int .u8) (w0 := w) w.heap.size rfl (.tmp 6) (.tmp 10) 22 5 (.int .u8 0) 1 rfl Try.underlying22 info5 rfl (by decide) (by omega) v298 t297 t300 _ _ _ (fun k_ => some k_ ≠ (.slice Ao8 t300.length co8 : Value).ownBlock) (fun _ => False) rfl rfl ?aO ?aR (fun _ _ h => h) (fun _ h => h.elim) ?aF ?aB ?aS ?aL ?_; (case aR => repeat (first | exact (Kd.R_reads' HO302.out).2.2 | (with_reducible refine Kd.C_alloc ?_ _) | (with_reducible refine Kd.C_drewN ?_ _) | (with_reducible refine Kd.C_drew ?_))); (case aB => exact (tB HB.out)); (case aF => exact (fun k_ hk => Kd.fresh' (Kd.R_lt (tR HO302.out)) k_ hk)); (case aO => exact (tR (Kd.R_mono HO299.out (fun _ hk => hk.2)))); (case aS => exact (below_size (tB HB.out))); (case aL => have := LMc4.out; omega); intro v304 w7 ho hb hg hat; rw [← Ny303.out] at ho; replace HO302 := aS (Kd.R_after (ok := (fun _ => True)) (tR HO302.out) hg hat); replace HB := aS (hb); have HO305 := aS (ho); clear HO299; clear ho hb hg hat))
  go_ret
  exact ⟨_, by first | rfl | (simp [errW_none, errW_some] <;> rfl) | (simp [*, errW_none, errW_some] <;> rfl), by (with_reducible repeat apply mR); exact Kd.R_mono HO305.out (fun _ hk => trivial), tB HB.out⟩
 ·rw [if_neg c4] at H
  exact absurd H (by simp)

end Go.Proofs.Ytofjgdbiieanjaa.All

namespace Go.Proofs.Ytofjgdbiieanjaa.All
open Go.Proofs.Ytofjgdbiieanjaa.Ext
open Go.RowKit Go.Proofs.YtofjgdbiieanjaaW.PrintWords Go.Proofs.YtofjgdbiieanjaaW.PrintLast Go.Proofs.YtofjgdbiieanjaaW.PrintMore
attribute [local go_sem] max2_int min2_int max_two min_two max_three min_three max_four min_four   -- for this text's walks alone
set_option linter.unusedVariables false
set_option linter.unusedSimpArgs false

/-! ### mantletref04_Four: function 79 -/
def mantletref04_Four.f (l0 : List Int) (a1 : Int) : Option (Int) := (mantletref04_Two.f l0 a1).bind fun t687 => ((mantletref04_Two.f l0 (wrap64 (a1 + 2))).bind fun t688 => (some ((wrap64 ((wrap64 (65536 * t687)) + t688)) % 4294967296)))
set_option maxHeartbeats 8000000 in
set_option maxRecDepth 100000 in
theorem mantletref04_Four.calls (A0 : Option Addr) (c0 : Nat) (l0 : List Int) (a1 : Int) (r : Int) (w : World) (hr0 : Kd.C (Kd.int .u8) w A0 l0.length l0) (hc0 : l0.length ≤ c0) (h : mantletref04_Four.f l0 a1 = some r) :
    Calls Try.prog 79 #[.slice A0 l0.length c0, .int .i64 a1] w fun e w' => e = .returned (.int .u32 r) ∧ Drawn0 w w' := by
 have HR0 := aS hr0
 have HC0 := aS hc0
 clear hr0 hc0; have H := h
 unfold mantletref04_Four.f at H
 clear h
 replace H := Option.bind_eq_some_iff.mp H
 obtain ⟨t687, A30, H⟩ := H
 try dsimp -simprocs only at H
 have A3 := aS A30
 clear A30
 replace H := Option.bind_eq_some_iff.mp H
 obtain ⟨t688, A40, H⟩ := H
 try dsimp -simprocs only at H
 have A4 := aS A40
 clear A40
 obtain rfl := Option.some.inj H
 go_enter Try.func79, Try.ntmps79
 go_wp2_with (first | ((with_reducible refine gate_callee (f := 66) rfl ?_); refine goesL_ (some 7) rfl rfl Try.func66 (by kernel_rfl) rfl #[.slice A0 l0.length c0, .int .i64 a1] rfl (by (try simp only [List.map_toArray, List.map_cons, List.map_nil]); first | done | rfl) ?_; (with_reducible refine (mantletref04_Two.calls _ _ l0 a1 t687 _ ?side1 ?side2 A3.out).mono ?_); (case side1 => repeat (first | exact HR0.out | (with_reducible refine Kd.C_alloc ?_ _) | (with_reducible refine Kd.C_drewN ?_ _) | (with_reducible refine Kd.C_drew ?_))); (case side2 => exact HC0.out); rintro e w' ⟨rfl, ⟨nd, rfl⟩⟩; refine ⟨_, rfl, ?_⟩) | ((with_reducible refine gate_callee (f := 66) rfl ?_); refine goesL_ (some 12) rfl rfl Try.func66 (by kernel_rfl) rfl #[.slice A0 l0.length c0, .int .i64 (wrap64 (a1 + 2))] rfl (by (try simp only [List.map_toArray, List.map_cons, List.map_nil]); first | done | rfl) ?_; (with_reducible refine (mantletref04_Two.calls _ _ l0 (wrap64 (a1 + 2)) t688 _ ?side1 ?side2 A4.out).mono ?_); (case side1 => repeat (first | exact HR0.out | (with_reducible refine Kd.C_alloc ?_ _) | (with_reducible refine Kd.C_drewN ?_ _) | (with_reducible refine Kd.C_drew ?_))); (case side2 => exact HC0.out); rintro e w' ⟨rfl, ⟨nd, rfl⟩⟩; refine ⟨_, rfl, ?_⟩))
 go_ret
 exact ⟨by first | rfl | (simp; done) | (simp [*]; done), by repeat (first | exact Drawn0.refl _ | apply Drawn0.step)⟩

end Go.Proofs.Ytofjgdbiieanjaa.All
