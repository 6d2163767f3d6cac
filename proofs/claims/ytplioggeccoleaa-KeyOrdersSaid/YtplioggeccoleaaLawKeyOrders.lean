-- Made by a program of this workplace (wip/pr.sh) out of Lean's print of the translation; Lean checks it.
import Derived.Test.YtplioggeccoleaaRows
import Derived.Test.YtplioggeccoleaaKeyx30
import Derived.Test.YtplioggeccoleaaPureKeyOrders
import Derived.Test.YtplioggeccoleaaRowAid
import Derived.WalkKit
import Derived.ProofKit
import Derived.OpenShut
import Derived.ShutString
import Derived.ChangeOld
import Derived.Below
import Derived.SizedLaws
import Derived.Test.YtplioggeccoleaaWSized
namespace Go.Proofs.Ytplioggeccoleaa.keyOrders
open Go.ChangeShapes Go.WideShapes Go.ChangeAt Go.RowKit
open Go.ChangeMaps (open_string shut_string)
set_option linter.unusedVariables false
theorem own : ownKnob Try.prog.godebug = none := by kernel_rfl
theorem laidOut : laidOutB Try.prog = true := by kernel_rfl
def IsRow (k : IntKind) (w : World) (a : Option Addr) (len cap : Nat) (zs : List Int) : Prop :=
  (a = none ∧ len = 0 ∧ cap = 0 ∧ zs = []) ∨
  ∃ x, a = some x ∧ len ≤ cap ∧ cap ≤ maxLen ∧ zs.length = cap ∧ (∀ i, i < zs.length → w.cell? (x.add i) = some (.int k (zs.getD i 0))) ∧ ∀ n ∈ zs, (Lit.int k n).wf = true
set_option maxRecDepth 100000 in
theorem lifted (os : Os) (started : os.Started) (H : Type) (enc : TypeId × Value → H) :
    ReturnsInHanded {} Try.checked os 7 .any (Rows.keyOrdersSpec.pre6 enc Try.prog Try.f7 Rows.keyOrdersRow.domain false) (Rows.keyOrdersSpec.post enc Try.prog Try.f7 false true false false) := by
  refine returnsInHanded_of_change_sized (C := Try.checked) own started (by kernel_rfl) Try.func7
    (ChangeSpec.witness6 (enc := enc) (C := Try.checked) false ⟨#[], #[.agg #[.int .u32 0, .int .u32 0, .int .u16 0, .int .u16 0, .int .u8 0], .agg #[.int .u32 0, .int .u32 0, .int .u16 0, .int .u16 0, .int .u8 0], .agg #[.int .u32 0, .int .u32 0, .int .u16 0, .int .u16 0, .int .u8 0], .int .u8 0], []⟩ 8 (by kernel_rfl) (by kernel_rfl) (by kernel_rfl) (by kernel_rfl)) ?_
  intro W base args ds gs before hval0 hW hcnd hsz0 _
  have hsz : (DataW.weightsEach Try.prog (Try.f7.params.toList ++ Rows.keyOrdersSpec.plain.varTypes Try.prog) (ds ++ gs)).all (· ≤ reachBytes) = true := hsz0
  have hval : ∀ (j : Nat) t v, Try.f7.params[j]? = some t → args[j]? = some v → Value.okWide Try.prog W .any base t v := hval0
  have hW' := hW
  obtain ⟨p, q, hA0, hV, rfl, hfz, hnd⟩ := hW
  have hA : DataW.TrodAll enc Try.prog W 0 (fun _ => true) true Try.f7.params.toList args.toList ds p := hA0
  rw [Try.params7] at hA hval hsz
  obtain ⟨v0, vs0, d0, ds0, p0, q0, hargs, rfl, rfl, h0, r0⟩ := trodAll_cons hA
  obtain ⟨v1, vs1, d1, ds1, p1, q1, rfl, rfl, rfl, h1, r1⟩ := trodAll_cons r0
  obtain ⟨v2, vs2, d2, ds2, p2, q2, rfl, rfl, rfl, h2, r2⟩ := trodAll_cons r1
  obtain ⟨v3, vs3, d3, ds3, p3, q3, rfl, rfl, rfl, h3, r3⟩ := trodAll_cons r2
  obtain ⟨rfl, rfl, rfl⟩ := trodAll_nil r3
  obtain rfl : args = #[v0, v1, v2, v3] := by cases args; simp_all
  obtain ⟨rfl, rfl⟩ := trodVars_none hV
  have k0 := h0
  have lt0 : ∀ x ∈ p0, x.block < W.heap.size := by obtain ⟨m, hm⟩ := k0; exact DataW.trod_lt m _ _ _ hm
  obtain ⟨l0_, rfl, hl0_, n_, ht0_⟩ := RowAid.open_flat Try.underlying29 (hval 0 29 v0 rfl rfl) h0
  obtain ⟨c0_0, c0_1, c0_2, c0_3, c0_4, rfl⟩ := RowAid.list5 (hl0_.trans (by kernel_rfl))
  have hs1_ := RowAid.sub [(0, 2, 26), (2, 2, 27), (4, 1, 5)] Try.underlying29 (by kernel_rfl) ht0_
  obtain ⟨y_, m_, ht1_⟩ := hs1_ 0 _ _ _ rfl
  obtain ⟨y_, m_, ht2_⟩ := RowAid.subA Try.underlying26 (by kernel_rfl) ht1_ 0 (by decide)
  obtain ⟨a0_0, e_, _, w0_0⟩ := DataW.trod_int Try.underlying22 ht2_
  obtain rfl : c0_0 = _ := by simpa using e_
  clear e_
  clear ht2_
  obtain ⟨y_, m_, ht2_⟩ := RowAid.subA Try.underlying26 (by kernel_rfl) ht1_ 1 (by decide)
  obtain ⟨a0_1, e_, _, w0_1⟩ := DataW.trod_int Try.underlying22 ht2_
  obtain rfl : c0_1 = _ := by simpa using e_
  clear e_
  clear ht2_
  clear ht1_
  obtain ⟨y_, m_, ht1_⟩ := hs1_ 1 _ _ _ rfl
  obtain ⟨y_, m_, ht2_⟩ := RowAid.subA Try.underlying27 (by kernel_rfl) ht1_ 0 (by decide)
  obtain ⟨a0_2, e_, _, w0_2⟩ := DataW.trod_int Try.underlying23 ht2_
  obtain rfl : c0_2 = _ := by simpa using e_
  clear e_
  clear ht2_
  obtain ⟨y_, m_, ht2_⟩ := RowAid.subA Try.underlying27 (by kernel_rfl) ht1_ 1 (by decide)
  obtain ⟨a0_3, e_, _, w0_3⟩ := DataW.trod_int Try.underlying23 ht2_
  obtain rfl : c0_3 = _ := by simpa using e_
  clear e_
  clear ht2_
  clear ht1_
  obtain ⟨y_, m_, ht1_⟩ := hs1_ 2 _ _ _ rfl
  obtain ⟨a0_4, e_, _, w0_4⟩ := DataW.trod_int Try.underlying5 ht1_
  obtain rfl : c0_4 = _ := by simpa using e_
  clear e_
  clear ht1_
  clear hs1_
  clear hl0_ ht0_
  have k1 := h1
  have lt1 : ∀ x ∈ p1, x.block < W.heap.size := by obtain ⟨m, hm⟩ := k1; exact DataW.trod_lt m _ _ _ hm
  obtain ⟨l1_, rfl, hl1_, n_, ht0_⟩ := RowAid.open_flat Try.underlying29 (hval 1 29 v1 rfl rfl) h1
  obtain ⟨c1_0, c1_1, c1_2, c1_3, c1_4, rfl⟩ := RowAid.list5 (hl1_.trans (by kernel_rfl))
  have hs1_ := RowAid.sub [(0, 2, 26), (2, 2, 27), (4, 1, 5)] Try.underlying29 (by kernel_rfl) ht0_
  obtain ⟨y_, m_, ht1_⟩ := hs1_ 0 _ _ _ rfl
  obtain ⟨y_, m_, ht2_⟩ := RowAid.subA Try.underlying26 (by kernel_rfl) ht1_ 0 (by decide)
  obtain ⟨a1_0, e_, _, w1_0⟩ := DataW.trod_int Try.underlying22 ht2_
  obtain rfl : c1_0 = _ := by simpa using e_
  clear e_
  clear ht2_
  obtain ⟨y_, m_, ht2_⟩ := RowAid.subA Try.underlying26 (by kernel_rfl) ht1_ 1 (by decide)
  obtain ⟨a1_1, e_, _, w1_1⟩ := DataW.trod_int Try.underlying22 ht2_
  obtain rfl : c1_1 = _ := by simpa using e_
  clear e_
  clear ht2_
  clear ht1_
  obtain ⟨y_, m_, ht1_⟩ := hs1_ 1 _ _ _ rfl
  obtain ⟨y_, m_, ht2_⟩ := RowAid.subA Try.underlying27 (by kernel_rfl) ht1_ 0 (by decide)
  obtain ⟨a1_2, e_, _, w1_2⟩ := DataW.trod_int Try.underlying23 ht2_
  obtain rfl : c1_2 = _ := by simpa using e_
  clear e_
  clear ht2_
  obtain ⟨y_, m_, ht2_⟩ := RowAid.subA Try.underlying27 (by kernel_rfl) ht1_ 1 (by decide)
  obtain ⟨a1_3, e_, _, w1_3⟩ := DataW.trod_int Try.underlying23 ht2_
  obtain rfl : c1_3 = _ := by simpa using e_
  clear e_
  clear ht2_
  clear ht1_
  obtain ⟨y_, m_, ht1_⟩ := hs1_ 2 _ _ _ rfl
  obtain ⟨a1_4, e_, _, w1_4⟩ := DataW.trod_int Try.underlying5 ht1_
  obtain rfl : c1_4 = _ := by simpa using e_
  clear e_
  clear ht1_
  clear hs1_
  clear hl1_ ht0_
  have k2 := h2
  have lt2 : ∀ x ∈ p2, x.block < W.heap.size := by obtain ⟨m, hm⟩ := k2; exact DataW.trod_lt m _ _ _ hm
  obtain ⟨l2_, rfl, hl2_, n_, ht0_⟩ := RowAid.open_flat Try.underlying29 (hval 2 29 v2 rfl rfl) h2
  obtain ⟨c2_0, c2_1, c2_2, c2_3, c2_4, rfl⟩ := RowAid.list5 (hl2_.trans (by kernel_rfl))
  have hs1_ := RowAid.sub [(0, 2, 26), (2, 2, 27), (4, 1, 5)] Try.underlying29 (by kernel_rfl) ht0_
  obtain ⟨y_, m_, ht1_⟩ := hs1_ 0 _ _ _ rfl
  obtain ⟨y_, m_, ht2_⟩ := RowAid.subA Try.underlying26 (by kernel_rfl) ht1_ 0 (by decide)
  obtain ⟨a2_0, e_, _, w2_0⟩ := DataW.trod_int Try.underlying22 ht2_
  obtain rfl : c2_0 = _ := by simpa using e_
  clear e_
  clear ht2_
  obtain ⟨y_, m_, ht2_⟩ := RowAid.subA Try.underlying26 (by kernel_rfl) ht1_ 1 (by decide)
  obtain ⟨a2_1, e_, _, w2_1⟩ := DataW.trod_int Try.underlying22 ht2_
  obtain rfl : c2_1 = _ := by simpa using e_
  clear e_
  clear ht2_
  clear ht1_
  obtain ⟨y_, m_, ht1_⟩ := hs1_ 1 _ _ _ rfl
  obtain ⟨y_, m_, ht2_⟩ := RowAid.subA Try.underlying27 (by kernel_rfl) ht1_ 0 (by decide)
  obtain ⟨a2_2, e_, _, w2_2⟩ := DataW.trod_int Try.underlying23 ht2_
  obtain rfl : c2_2 = _ := by simpa using e_
  clear e_
  clear ht2_
  obtain ⟨y_, m_, ht2_⟩ := RowAid.subA Try.underlying27 (by kernel_rfl) ht1_ 1 (by decide)
  obtain ⟨a2_3, e_, _, w2_3⟩ := DataW.trod_int Try.underlying23 ht2_
  obtain rfl : c2_3 = _ := by simpa using e_
  clear e_
  clear ht2_
  clear ht1_
  obtain ⟨y_, m_, ht1_⟩ := hs1_ 2 _ _ _ rfl
  obtain ⟨a2_4, e_, _, w2_4⟩ := DataW.trod_int Try.underlying5 ht1_
  obtain rfl : c2_4 = _ := by simpa using e_
  clear e_
  clear ht1_
  clear hs1_
  clear hl2_ ht0_
  obtain ⟨a3, rfl, rfl, rfl, w3⟩ := open_int Try.underlying5 (hval 3 5 v3 rfl rfl) h3
  clear hA0 hval0 hsz0 hsz
  refine (Key.mantletlaw10_KeyOrders.walk Pure.KeyOrders a0_0 a0_1 a0_2 a0_3 a0_4 a1_0 a1_1 a1_2 a1_3 a1_4 a2_0 a2_1 a2_2 a2_3 a2_4 a3 W w0_0 w0_1 w0_2 w0_3 w0_4 w1_0 w1_1 w1_2 w1_3 w1_4 w2_0 w2_1 w2_2 w2_3 w2_4 w3).mono fun e W' ⟨he, bel⟩ => ?_
  subst he
  exact ⟨_, rfl, _, _, _, [], _, [], hW', trodAll_mk1 (shut_bool Try.underlying4 _), (trodAll_cons_mk (Below.trod laidOut (by kernel_rfl) (of_decide_eq_true (by kernel_rfl)) k0 bel lt0) (trodAll_cons_mk (Below.trod laidOut (by kernel_rfl) (of_decide_eq_true (by kernel_rfl)) k1 bel lt1) (trodAll_cons_mk (Below.trod laidOut (by kernel_rfl) (of_decide_eq_true (by kernel_rfl)) k2 bel lt2) (trodAll_cons_mk (shut_int Try.underlying5 w3) trodAll_mk0)))), rfl, bel.frame _, fun h => by cases h⟩
theorem over : Rows.keyOrdersRow.holds Try.pinned (OpenSpec.ofChange Rows.keyOrdersSpec) :=
  OpenClaim.holds_of_wide 7 Try.f7 rfl rfl rfl rfl rfl rfl rfl ⟨rfl, rfl, rfl, rfl, rfl⟩ rfl rfl rfl rfl rfl (by kernel_rfl) Try.func7 (by kernel_rfl)
    (of_decide_eq_true (by kernel_rfl)) (by unfold Func.isWrapper; first | (rw [if_pos (by decide +kernel)]; kernel_rfl) | (rw [if_neg (by decide +kernel)]; exact ⟨rfl, rfl⟩))
    (fun os started H enc _ => lifted os started H enc)
theorem proved : Rows.KeyOrdersSaid := over
#print axioms proved
end Go.Proofs.Ytplioggeccoleaa.keyOrders
namespace Go.Proofs.Ytplioggeccoleaa
/-- The row, under a short name, for the claim. -/
theorem keyOrders_holds : Rows.KeyOrdersSaid := keyOrders.proved
end Go.Proofs.Ytplioggeccoleaa
