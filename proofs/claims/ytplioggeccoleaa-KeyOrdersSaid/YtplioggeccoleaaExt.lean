-- The contract by hand of slices.Grow of nil, which the printer does not walk (turned from tpl/Ext.lean.tpl, for r4's seat).
import Derived.Test.YtplioggeccoleaaProg
import Derived.Lib.SliceRun
import Derived.Laws.CopyOwn
import Derived.Deep.RegionHeld3
import Derived.LoopN
import Derived.ChangeKeysEq
import Derived.Test.YtplioggeccoleaaWEqStruct
import Derived.Test.YtplioggeccoleaaWWords
import Derived.Test.YtplioggeccoleaaWZeros
import Derived.Test.YtplioggeccoleaaWLast
import Derived.Test.YtplioggeccoleaaWShare
import Derived.Test.YtplioggeccoleaaWMore
namespace Go.Proofs.Ytplioggeccoleaa.Ext
open Go.RowKit Go.Proofs.YtplioggeccoleaaW.PrintWords Go.Proofs.YtplioggeccoleaaW.PrintLast Go.Proofs.YtplioggeccoleaaW.PrintMore
set_option linter.unusedVariables false

/-- A world that is another one but for new blocks and orders drawn, told by its form. -/
class Mv (w : outParam World) (w' : World) : Prop where
  out : Below w.heap.size w w'
instance (w : World) (o : Obj) : Mv w (w.alloc o) := ⟨below_alloc (Below.refl _ _) o⟩
instance (w : World) : Mv w w.drew := ⟨below_drew (Below.refl _ _)⟩
instance (w : World) (m : Nat) : Mv w (w.drewN m) := ⟨pw_below_drewN (Below.refl _ _) m⟩
section
variable {α : Type} {d : Kd α} {e base g : Nat} {ok : Nat → Prop} {w W w' : World} {v : Value} {xs : List α} {o : Obj}
theorem mR [i : Mv w w'] (h : Kd.R d e w base ok v xs) : Kd.R d e w' base ok v xs := Kd.R_below h i.out
theorem mV [i : Mv w w'] (h : Kd.V d e w base ok v xs) : Kd.V d e w' base ok v xs := Kd.V_below h i.out
theorem mB [i : Mv W w'] (h : Below w.heap.size w W) : Below w.heap.size w w' := below_step h i.out
theorem mk_ [i : Mv w w'] (h : w.heap[g]? = some o) : w'.heap[g]? = some o := blk_below h i.out
end

section
variable {P : Program} {w : World} {d c i : Nat} {e t : TypeId} {xs ys : Array Value} {is : List Nat} {a b : Value} {r s : Bool}
theorem eqi_cons (ha : (part e xs (i * c)).run P w = .ok a w) (hb : (part e ys (i * c)).run P w = .ok b w) (he : (Op.equalIn d e a b).run P w = .ok r w) (hr : (Op.eqItems d e c xs ys is).run P w = .ok s w) : (Op.eqItems d e c xs ys (i :: is)).run P w = .ok (r && s) w := by
  simp only [Op.eqItems, Sem.run_bind, ha, hb, he, Result.andThen_ok]
  cases r
  · simp
  · simpa using hr
theorem eqi_last (ha : (part e xs (i * c)).run P w = .ok a w) (hb : (part e ys (i * c)).run P w = .ok b w) (he : (Op.equalIn d e a b).run P w = .ok r w) : (Op.eqItems d e c xs ys [i]).run P w = .ok r w := by
  have h := eqi_cons (is := []) (s := true) ha hb he (by simp [Op.eqItems])
  rwa [Bool.and_true] at h
theorem eqArr_of {n : Nat} {i : TypeInfo} (hu : P.underlying t = some (.array n e)) (hi : P.info? e = some i) (h : (Op.eqItems d e (P.cellsOf e) xs ys (List.range n)).run P w = .ok r w) : (Op.equalIn (d + 1) t (.agg xs) (.agg ys)).run P w = .ok r w := by
  rw [run_equalIn_array (w := w) d xs ys hu hi]
  exact h
end

theorem ext_info5 : (Try.prog.info? 5).map (fun i => (i.zero, i.size, i.bytes)) = some (some (.int .u8 0), 1, 1) := by kernel_rfl

def slices_Grow.f (a1 : Int) : Option (List Int) := if 0 ≤ a1 ∧ a1 < 140737488355328 then some [] else none
theorem slices_Grow.calls (a1 : Int) (r : List Int) (w : World) (h : slices_Grow.f a1 = some r) :
    Calls Try.prog 28 #[.slice none 0 0, .int .i64 a1] w fun e w' => ∃ v0_ : Value, e = .returned (v0_) ∧ Kd.R (Kd.int .u8) 5 w' w.heap.size (fun _ => True) v0_ r ∧ Below w.heap.size w w' := by
  unfold slices_Grow.f at h
  split at h
  case isFalse => cases h
  case isTrue hc =>
  obtain ⟨h0, h1⟩ := hc
  obtain rfl : [] = r := Option.some.inj h
  clear h
  have e1 : wrap64 (a1 - 0) = a1 := by unfold wrap64; omega
  have e2 : wrap64 ((0 : Int) - 0) = 0 := by unfold wrap64; omega
  have g0 : ¬ a1 < 0 := by omega
  by_cases hp : a1 > 0
  · go_enter Try.func28, Try.ntmps28
    go_wp2_with (at_builtin; refine Kd.R_append_zeros (Kd.int .u8) (w0 := w) w.heap.size rfl (.tmp 20) (.tmp 21) 46 3 5 (.int .u8 0) 1 rfl Try.underlying46 Try.underlying3 ext_info5 rfl (by decide) (by omega) (.slice none 0 0) [] 0 a1 (fun _ => True) rfl rfl rfl (fun _ _ => trivial) (Kd.R_nil _ _ _ _ _) h0 (Below.refl _ _) (Nat.le_refl _) (by simp; omega) ?_)
    intro v1 w1 hR hB hg hat
    obtain ⟨A1, c1, rfl⟩ := Kd.R_slice hR
    obtain ⟨i05, hi05, _, hsz5, _⟩ := info_parts ext_info5
    have hl : (List.replicate a1.toNat (0 : Int)).length = a1.toNat := List.length_replicate
    rw [hl]
    have hroom : (List.replicate a1.toNat (0 : Int)).length ≤ c1 := (Kd.R_reads' hR).2.1
    have hcut := cut_to (P := Try.prog) 46 5 .i64 Try.underlying46 hi05 A1 a1.toNat c1 0 (by omega) (by omega) (by rw [← hl]; exact hroom)
    have hR2 := Aside0.mk (Kd.R_take (m := 0) hR (by omega))
    have hB2 := Aside0.mk hB
    clear hR hB hg hat hroom
    go_wp2
    go_ret
    exact ⟨_, rfl, by simpa using hR2.out, hB2.out⟩
  · obtain rfl : a1 = 0 := by omega
    go_enter Try.func28, Try.ntmps28
    go_wp2
    go_ret
    exact ⟨_, rfl, Kd.R_nil _ _ _ _ _, Below.refl _ _⟩

end Go.Proofs.Ytplioggeccoleaa.Ext
