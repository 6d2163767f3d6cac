-- Made by a program of this workplace (wip/pr.sh) out of Lean's print of the translation; Lean checks it.
import Derived.Test.YtofjgdbiieanjaaRows
import Derived.Test.YtofjgdbiieanjaaAllx76
import Derived.Test.YtofjgdbiieanjaaPurePackBuilds
import Derived.Test.YtofjgdbiieanjaaRowAid
import Derived.WalkKit
import Derived.ProofKit
import Derived.OpenShut
import Derived.ShutString
import Derived.ChangeOld
import Derived.Below
import Derived.SizedLaws
import Derived.Test.YtofjgdbiieanjaaV
namespace Go.Proofs.Ytofjgdbiieanjaa.packBuilds
open Go.ChangeShapes Go.WideShapes Go.ChangeAt Go.RowKit
open Go.ChangeMaps (open_string shut_string)
set_option linter.unusedVariables false
theorem own : ownKnob Try.prog.godebug = none := by kernel_rfl
theorem laidOut : laidOutB Try.prog = true := by kernel_rfl
def IsRow (k : IntKind) (w : World) (a : Option Addr) (len cap : Nat) (zs : List Int) : Prop :=
  (a = none ∧ len = 0 ∧ cap = 0 ∧ zs = []) ∨
  ∃ x, a = some x ∧ len ≤ cap ∧ cap ≤ maxLen ∧ zs.length = cap ∧ (∀ i, i < zs.length → w.cell? (x.add i) = some (.int k (zs.getD i 0))) ∧ ∀ n ∈ zs, (Lit.int k n).wf = true
set_option maxRecDepth 100000 in
theorem lifted (os : Os) (started : os.Started) (H : Type) (enc : TypeId × Value → H) :
    ReturnsInHanded {} Try.checked os 21 .any (Rows.packBuildsSpec.pre6 enc Try.prog Try.f21 Rows.packBuildsRow.domain false) (Rows.packBuildsSpec.post enc Try.prog Try.f21 false true false false) := by
  refine returnsInHanded_of_change_sized (C := Try.checked) own started (by kernel_rfl) Try.func21
    (ChangeSpec.witness6 (enc := enc) (C := Try.checked) false ⟨#[], #[.agg #[.int .u8 0, .int .u32 0, .int .u32 0, .int .u16 0, .int .u16 0, .int .u8 0, .int .u8 0], .slice none 0 0], []⟩ 8 (by kernel_rfl) (by kernel_rfl) (by kernel_rfl) (by kernel_rfl)) ?_
  intro W base args ds gs before hval0 hW hcnd hsz0 _
  have hsz : (DataW.weightsEach Try.prog (Try.f21.params.toList ++ Rows.packBuildsSpec.plain.varTypes Try.prog) (ds ++ gs)).all (· ≤ reachBytes) = true := hsz0
  have hval : ∀ (j : Nat) t v, Try.f21.params[j]? = some t → args[j]? = some v → Value.okWide Try.prog W .any base t v := hval0
  have hW' := hW
  obtain ⟨p, q, hA0, hV, rfl, hfz, hnd⟩ := hW
  have hA : DataW.TrodAll enc Try.prog W 0 (fun _ => true) true Try.f21.params.toList args.toList ds p := hA0
  rw [Try.params21] at hA hval hsz
  obtain ⟨v0, vs0, d0, ds0, p0, q0, hargs, rfl, rfl, h0, r0⟩ := trodAll_cons hA
  obtain ⟨v1, vs1, d1, ds1, p1, q1, rfl, rfl, rfl, h1, r1⟩ := trodAll_cons r0
  obtain ⟨rfl, rfl, rfl⟩ := trodAll_nil r1
  obtain rfl : args = #[v0, v1] := by cases args; simp_all
  obtain ⟨rfl, rfl⟩ := trodVars_none hV
  have k0 := h0
  have lt0 : ∀ x ∈ p0, x.block < W.heap.size := by obtain ⟨m, hm⟩ := k0; exact DataW.trod_lt m _ _ _ hm
  obtain ⟨l0_, rfl, hl0_, hf0_⟩ := RowAid.open_any Try.underlying72 (by kernel_rfl) (by kernel_rfl) (hval 0 72 v0 rfl rfl) h0
  obtain ⟨c0_0, c0_1, c0_2, c0_3, c0_4, c0_5, c0_6, rfl⟩ := RowAid.list7 hl0_
  obtain ⟨u_, y_, n_, hu_, ht_⟩ := hf0_ 0 _ rfl
  obtain rfl : c0_0 = u_ := by simpa using hu_
  obtain ⟨a0_0, e_, _, w0_0⟩ := DataW.trod_int Try.underlying5 ht_
  obtain rfl : c0_0 = _ := by simpa using e_
  clear hu_ ht_ e_
  obtain ⟨u_, y_, n_, hu_, ht_⟩ := hf0_ 1 _ rfl
  obtain rfl : c0_1 = u_ := by simpa using hu_
  obtain ⟨a0_1, e_, _, w0_1⟩ := DataW.trod_int Try.underlying38 ht_
  obtain rfl : c0_1 = _ := by simpa using e_
  clear hu_ ht_ e_
  obtain ⟨u_, y_, n_, hu_, ht_⟩ := hf0_ 2 _ rfl
  obtain rfl : c0_2 = u_ := by simpa using hu_
  obtain ⟨a0_2, e_, _, w0_2⟩ := DataW.trod_int Try.underlying38 ht_
  obtain rfl : c0_2 = _ := by simpa using e_
  clear hu_ ht_ e_
  obtain ⟨u_, y_, n_, hu_, ht_⟩ := hf0_ 3 _ rfl
  obtain rfl : c0_3 = u_ := by simpa using hu_
  obtain ⟨a0_3, e_, _, w0_3⟩ := DataW.trod_int Try.underlying23 ht_
  obtain rfl : c0_3 = _ := by simpa using e_
  clear hu_ ht_ e_
  obtain ⟨u_, y_, n_, hu_, ht_⟩ := hf0_ 4 _ rfl
  obtain rfl : c0_4 = u_ := by simpa using hu_
  obtain ⟨a0_4, e_, _, w0_4⟩ := DataW.trod_int Try.underlying23 ht_
  obtain rfl : c0_4 = _ := by simpa using e_
  clear hu_ ht_ e_
  obtain ⟨u_, y_, n_, hu_, ht_⟩ := hf0_ 5 _ rfl
  obtain rfl : c0_5 = u_ := by simpa using hu_
  obtain ⟨a0_5, e_, _, w0_5⟩ := DataW.trod_int Try.underlying5 ht_
  obtain rfl : c0_5 = _ := by simpa using e_
  clear hu_ ht_ e_
  obtain ⟨u_, y_, n_, hu_, ht_⟩ := hf0_ 6 _ rfl
  obtain rfl : c0_6 = u_ := by simpa using hu_
  obtain ⟨a0_6, e_, _, w0_6⟩ := DataW.trod_int Try.underlying5 ht_
  obtain rfl : c0_6 = _ := by simpa using e_
  clear hu_ ht_ e_
  clear hl0_ hf0_
  obtain ⟨a1, len1, cap1, rfl⟩ := okWide_slice Try.underlying22 (hval 1 22 v1 rfl rfl)
  have k1 := h1
  have lt1 : ∀ x ∈ p1, x.block < W.heap.size := by obtain ⟨m, hm⟩ := k1; exact DataW.trod_lt m _ _ _ hm
  obtain ⟨z1, w1⟩ : ∃ zs, IsRow .u8 W a1 len1 cap1 zs := by
    obtain ⟨fuel, hf⟩ := h1
    rcases open_ints Try.underlying22 Try.underlying5 (by kernel_rfl) hf with ⟨hcs, _⟩ | ⟨x, l, c, zs, hcs, _, hl, hm, hz, _, hcell, hwz⟩
    · simp [Value.cells] at hcs
      obtain ⟨rfl, rfl, rfl⟩ := hcs
      exact ⟨[], .inl ⟨rfl, rfl, rfl, rfl⟩⟩
    · simp [Value.cells] at hcs
      obtain ⟨rfl, rfl, rfl⟩ := hcs
      exact ⟨zs, .inr ⟨_, rfl, hl, hm, by simpa using hz, hcell, hwz⟩⟩
  have y1 : len1 * 1 ≤ 140737488351232 := Go.Proofs.YtofjgdbiieanjaaW.PrintWords.sized_ints hsz (j := 1) (t := 22) rfl rfl Try.underlying22 Try.underlying5 (by kernel_rfl) (by kernel_rfl) h1
  clear hA0 hval0 hsz0 hsz
  refine (All.mantletlaw09_PackBuilds.walk Pure.PackBuilds a0_0 a0_1 a0_2 a0_3 a0_4 a0_5 a0_6 a1 len1 cap1 z1 W w0_0 w0_1 w0_2 w0_3 w0_4 w0_5 w0_6 w1 y1).mono fun e W' ⟨he, bel⟩ => ?_
  subst he
  exact ⟨_, rfl, _, _, _, [], _, [], hW', trodAll_mk1 (shut_bool Try.underlying4 _), (trodAll_cons_mk (Below.trod laidOut (by kernel_rfl) (of_decide_eq_true (by kernel_rfl)) k0 bel lt0) (trodAll_cons_mk (Below.trod laidOut (by kernel_rfl) (of_decide_eq_true (by kernel_rfl)) k1 bel lt1) trodAll_mk0)), rfl, bel.frame _, fun h => by cases h⟩
set_option maxHeartbeats 8000000 in
theorem closed_ : joinedFacts Try.prog 21 Try.f21 Rows.packBuildsSpec Rows.packBuildsRow = true := by
  unfold joinedFacts
  simp only [Bool.and_eq_true]
  repeat' apply And.intro
  all_goals (as_aux_lemma => kernel_rfl)
theorem over : Rows.packBuildsRow.holds Try.pinned (OpenSpec.ofChange Rows.packBuildsSpec) :=
  OpenClaim.holds_of_wide 21 Try.f21 rfl rfl rfl rfl rfl rfl rfl ⟨rfl, rfl, rfl, rfl, rfl⟩ rfl rfl rfl rfl rfl (by kernel_rfl) Try.func21 closed_
    (of_decide_eq_true (by kernel_rfl)) (by unfold Func.isWrapper; first | (rw [if_pos (by decide +kernel)]; kernel_rfl) | (rw [if_neg (by decide +kernel)]; exact ⟨rfl, rfl⟩))
    (fun os started H enc _ => lifted os started H enc)
theorem proved : Rows.PackBuildsSaid := over
#print axioms proved
end Go.Proofs.Ytofjgdbiieanjaa.packBuilds
namespace Go.Proofs.Ytofjgdbiieanjaa
/-- The row, under a short name, for the claim. -/
theorem packBuilds_holds : Rows.PackBuildsSaid := packBuilds.proved
end Go.Proofs.Ytofjgdbiieanjaa
