-- Made by a program of this workplace (wip/pr.sh) out of Lean's print of the translation; Lean checks it.
import Derived.Test.YtofjgdbiieanjaaAllx0
namespace Go.Proofs.Ytofjgdbiieanjaa.All
open Go.Proofs.Ytofjgdbiieanjaa.Ext
open Go.RowKit Go.Proofs.YtofjgdbiieanjaaW.PrintWords Go.Proofs.YtofjgdbiieanjaaW.PrintLast Go.Proofs.YtofjgdbiieanjaaW.PrintMore
attribute [local go_sem] max2_int min2_int max_two min_two max_three min_three max_four min_four   -- for this text's walks alone
set_option linter.unusedVariables false
set_option linter.unusedSimpArgs false

/-! ### mantletlaw09_short: function 57 -/
def mantletlaw09_short.f (l0 : List Int) : Option (List Int) := if (l0.length : Int) > 1600 then (if 1600 ≤ (l0.length : Int) then (some (l0.take 1600)) else (none)) else (some l0)
set_option maxHeartbeats 8000000 in
set_option maxRecDepth 100000 in
theorem mantletlaw09_short.calls (P0_ : Nat → Prop) (A0 : Option Addr) (c0 : Nat) (l0 : List Int) (r : List Int) (w : World) (hs0 : Kd.V (Kd.int .u8) 5 w w.heap.size (fun k_ => P0_ k_) (.slice A0 l0.length c0) l0) (h : mantletlaw09_short.f l0 = some r) :
    Calls Try.prog 57 #[.slice A0 l0.length c0] w fun e w' => ∃ v0_ : Value, e = .returned (v0_) ∧ Kd.V (Kd.int .u8) 5 w' w.heap.size (fun k_ => (P0_ k_ ∨ w.heap.size ≤ k_)) v0_ r ∧ Below w.heap.size w w' := by
 have HO0 := aS (show Kd.V (Kd.int .u8) 5 w w.heap.size (fun k_ => (P0_ k_ ∨ w.heap.size ≤ k_)) (.slice A0 l0.length c0) l0 from Kd.V_mono hs0 (fun k_ hk => .inl hk))
 have HB := aS (Below.refl w.heap.size w)
 have H := h
 unfold mantletlaw09_short.f at H
 clear h
 by_cases c2 : (l0.length : Int) > 1600
 ·rw [if_pos c2] at H
  have c2b0 : decide (1600 < (l0.length : Int)) = true := decide_eq_true c2
  have c2b1 : decide (1600 < l0.length) = true := decide_eq_true (by omega)
  clear c2
  by_cases c3 : 1600 ≤ (l0.length : Int)
  ·rw [if_pos c3] at H
   have c3b0 := eq_true c3
   have c3b1 : decide (1600 ≤ (l0.length : Int)) = true := decide_eq_true c3
   (try have c3b4 : (1600 ≤ (c0 : Int)) = True := eq_true (by have h_ := HC0.out; have h2_ := c3; omega))
   clear c3
   obtain ⟨y1104, hy1104⟩ : ∃ y_ : List Int, y_ = (l0.take 1600) := ⟨_, rfl⟩
   first | with_reducible replace H := bindY hy1104 H | rw [← hy1104] at H | skip
   try dsimp -simprocs only at H
   have Ny1104 := aS hy1104
   clear hy1104
   obtain rfl := Option.some.inj H
   have q4 : (1600 : Int) ≤ ((l0.length : Int) : Int) := of_decide_eq_true (by first | (with_reducible assumption) | assumption)
   obtain ⟨i04, hi04, _, hsz4, _⟩ := info_parts info5
   have hroom4 : l0.length ≤ c0 := (Kd.V_reads' HO0.out).2.1
   have hC4 : Kd.F (Kd.int .u8) _ _ A0 l0.length l0 := (Kd.V_at (base := w.heap.size) HO0.out).2.2
   have hcut4 := cut_to (P := Try.prog) 22 5 .i64 Try.underlying22 hi04 A0 l0.length c0 1600 (by omega) q4 hroom4
   have hr4 := Kd.F_take (m := 1600) hC4 (by omega)
   have hy4 : y1104.length = (1600 : Int).toNat := (by rw [Ny1104.out, List.length_take]; omega)
   rw [← Ny1104.out] at hr4
   rw [← hy4] at hcut4
   have HO1108 := aS (show Kd.V (Kd.int .u8) 5 _ w.heap.size _ (.slice A0 y1104.length c0) y1104 from Kd.V_mk (by omega) hr4)
   have HC1108 := aS (show y1104.length ≤ c0 from by omega)
   clear hr4 hC4 hroom4 hi04 hsz4
   have KY4 := aS hy4
   clear hy4
   replace q4 := eq_true q4
   go_enter Try.func57, Try.ntmps57
   go_wp2
   go_ret
   exact ⟨_, by first | rfl | (simp [errW_none, errW_some] <;> rfl) | (simp [*, errW_none, errW_some] <;> rfl), by (with_reducible repeat apply mV); exact HO1108.out, tB HB.out⟩
  ·rw [if_neg c3] at H
   exact absurd H (by simp)
 ·rw [if_neg c2] at H
  have c2b0 : decide (1600 < (l0.length : Int)) = false := decide_eq_false c2
  have c2b1 : decide (1600 < l0.length) = false := decide_eq_false (by omega)
  clear c2
  obtain rfl := Option.some.inj H
  go_enter Try.func57, Try.ntmps57
  go_wp2
  go_ret
  exact ⟨_, by first | rfl | (simp [errW_none, errW_some] <;> rfl) | (simp [*, errW_none, errW_some] <;> rfl), by (with_reducible repeat apply mV); exact HO0.out, tB HB.out⟩

end Go.Proofs.Ytofjgdbiieanjaa.All
