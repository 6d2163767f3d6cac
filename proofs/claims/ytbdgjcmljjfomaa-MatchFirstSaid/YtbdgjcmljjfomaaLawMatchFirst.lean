-- Made by a program of this workplace (wip/pr.sh) out of Lean's print of the translation; Lean checks it.
import Derived.Test.YtbdgjcmljjfomaaRows
import Derived.Test.YtbdgjcmljjfomaaMatx14
import Derived.Test.YtbdgjcmljjfomaaPureMatchFirst
import Derived.Test.YtbdgjcmljjfomaaRowAid
import Derived.Test.YtbdgjcmljjfomaaRowSl
import Derived.WalkKit
import Derived.ProofKit
import Derived.OpenShut
import Derived.ShutString
import Derived.ChangeOld
import Derived.Below
import Derived.SizedLaws
import Derived.Test.YtbdgjcmljjfomaaWSized
namespace Go.Proofs.Ytbdgjcmljjfomaa.matchFirst
open Go.ChangeShapes Go.WideShapes Go.ChangeAt Go.RowKit
open Go.ChangeMaps (open_string shut_string)
set_option linter.unusedVariables false
theorem own : ownKnob Try.prog.godebug = none := by kernel_rfl
theorem laidOut : laidOutB Try.prog = true := by kernel_rfl
def IsRow (k : IntKind) (w : World) (a : Option Addr) (len cap : Nat) (zs : List Int) : Prop :=
  (a = none ∧ len = 0 ∧ cap = 0 ∧ zs = []) ∨
  ∃ x, a = some x ∧ len ≤ cap ∧ cap ≤ maxLen ∧ zs.length = cap ∧ (∀ i, i < zs.length → w.cell? (x.add i) = some (.int k (zs.getD i 0))) ∧ ∀ n ∈ zs, (Lit.int k n).wf = true
set_option maxRecDepth 100000 in
theorem lifted (os : Os) (started : os.Started) (H : Type) (enc : TypeId × Value → H) :
    ReturnsInHanded {} Try.checked os 3 .any (Rows.matchFirstSpec.pre6 enc Try.prog Try.f3 Rows.matchFirstRow.domain false) (Rows.matchFirstSpec.post enc Try.prog Try.f3 false true false false) := by
  refine returnsInHanded_of_change_sized (C := Try.checked) own started (by kernel_rfl) Try.func3
    (ChangeSpec.witness6 (enc := enc) (C := Try.checked) false ⟨#[], #[.slice none 0 0, .agg #[.int .u8 0, .int .u32 0, .int .u32 0, .int .u16 0, .int .u16 0, .int .u8 0, .int .u8 0], .agg #[.bool false, .int .u8 0, .int .u32 0, .int .i64 0, .int .u32 0, .int .i64 0, .int .u16 0, .int .u16 0, .int .u16 0, .int .u16 0]], []⟩ 8 (by kernel_rfl) (by kernel_rfl) (by kernel_rfl) (by kernel_rfl)) ?_
  intro W base args ds gs before hval0 hW hcnd hsz0 _
  have hsz : (DataW.weightsEach Try.prog (Try.f3.params.toList ++ Rows.matchFirstSpec.plain.varTypes Try.prog) (ds ++ gs)).all (· ≤ reachBytes) = true := hsz0
  have hval : ∀ (j : Nat) t v, Try.f3.params[j]? = some t → args[j]? = some v → Value.okWide Try.prog W .any base t v := hval0
  have hW' := hW
  obtain ⟨p, q, hA0, hV, rfl, hfz, hnd⟩ := hW
  have hA : DataW.TrodAll enc Try.prog W 0 (fun _ => true) true Try.f3.params.toList args.toList ds p := hA0
  rw [Try.params3] at hA hval hsz
  obtain ⟨v0, vs0, d0, ds0, p0, q0, hargs, rfl, rfl, h0, r0⟩ := trodAll_cons hA
  obtain ⟨v1, vs1, d1, ds1, p1, q1, rfl, rfl, rfl, h1, r1⟩ := trodAll_cons r0
  obtain ⟨v2, vs2, d2, ds2, p2, q2, rfl, rfl, rfl, h2, r2⟩ := trodAll_cons r1
  obtain ⟨rfl, rfl, rfl⟩ := trodAll_nil r2
  obtain rfl : args = #[v0, v1, v2] := by cases args; simp_all
  obtain ⟨rfl, rfl⟩ := trodVars_none hV
  obtain ⟨a0, len0, cap0, rfl⟩ := okWide_slice Try.underlying22 (hval 0 22 v0 rfl rfl)
  have k0 := h0
  have lt0 : ∀ x ∈ p0, x.block < W.heap.size := by obtain ⟨m, hm⟩ := k0; exact DataW.trod_lt m _ _ _ hm
  have y0 : len0 * 48 ≤ 140737488351232 := RowSl.sized_structs hsz (j := 0) (t := 22) rfl rfl Try.underlying22 (by kernel_rfl) h0
  obtain ⟨l0, rfl, hr0, hc0, m0, v0⟩ := RowSl.open_structs Mat.k32 Try.underlying22 (by kernel_rfl) (fun x => (Lit.int .u8 x.f1).wf = true ∧ (Lit.int .u32 x.f2.f0).wf = true ∧ (Lit.int .i64 x.f2.f1).wf = true ∧ (Lit.int .u32 x.f3.f0).wf = true ∧ (Lit.int .i64 x.f3.f1).wf = true ∧ (Lit.int .u16 x.f4.f0).wf = true ∧ (Lit.int .u16 x.f4.f1).wf = true ∧ (Lit.int .u16 x.f5.f0).wf = true ∧ (Lit.int .u16 x.f5.f1).wf = true) (by
    intro n_ cs_ y_ hlen_ ht0_
    obtain ⟨c0_0, c0_1, c0_2, c0_3, c0_4, c0_5, c0_6, c0_7, c0_8, c0_9, rfl⟩ := RowAid.list10 hlen_
    have hs1_ := RowAid.sub [(0, 1, 4), (1, 1, 5), (2, 2, 28), (4, 2, 28), (6, 2, 30), (8, 2, 30)] Try.underlying32 (by kernel_rfl) ht0_
    obtain ⟨y_, m_, ht1_⟩ := hs1_ 0 _ _ _ rfl
    obtain ⟨a0_0, e_, _⟩ := DataW.trod_bool Try.underlying4 ht1_
    obtain rfl : c0_0 = _ := by simpa using e_
    clear e_
    clear ht1_
    obtain ⟨y_, m_, ht1_⟩ := hs1_ 1 _ _ _ rfl
    obtain ⟨a0_1, e_, _, w0_1⟩ := DataW.trod_int Try.underlying5 ht1_
    obtain rfl : c0_1 = _ := by simpa using e_
    clear e_
    clear ht1_
    obtain ⟨y_, m_, ht1_⟩ := hs1_ 2 _ _ _ rfl
    have hs2_ := RowAid.sub [(0, 1, 23), (1, 1, 3)] Try.underlying28 (by kernel_rfl) ht1_
    obtain ⟨y_, m_, ht2_⟩ := hs2_ 0 _ _ _ rfl
    obtain ⟨a0_2, e_, _, w0_2⟩ := DataW.trod_int Try.underlying23 ht2_
    obtain rfl : c0_2 = _ := by simpa using e_
    clear e_
    clear ht2_
    obtain ⟨y_, m_, ht2_⟩ := hs2_ 1 _ _ _ rfl
    obtain ⟨a0_3, e_, _, w0_3⟩ := DataW.trod_int Try.underlying3 ht2_
    obtain rfl : c0_3 = _ := by simpa using e_
    clear e_
    clear ht2_
    clear hs2_
    clear ht1_
    obtain ⟨y_, m_, ht1_⟩ := hs1_ 3 _ _ _ rfl
    have hs2_ := RowAid.sub [(0, 1, 23), (1, 1, 3)] Try.underlying28 (by kernel_rfl) ht1_
    obtain ⟨y_, m_, ht2_⟩ := hs2_ 0 _ _ _ rfl
    obtain ⟨a0_4, e_, _, w0_4⟩ := DataW.trod_int Try.underlying23 ht2_
    obtain rfl : c0_4 = _ := by simpa using e_
    clear e_
    clear ht2_
    obtain ⟨y_, m_, ht2_⟩ := hs2_ 1 _ _ _ rfl
    obtain ⟨a0_5, e_, _, w0_5⟩ := DataW.trod_int Try.underlying3 ht2_
    obtain rfl : c0_5 = _ := by simpa using e_
    clear e_
    clear ht2_
    clear hs2_
    clear ht1_
    obtain ⟨y_, m_, ht1_⟩ := hs1_ 4 _ _ _ rfl
    have hs2_ := RowAid.sub [(0, 1, 24), (1, 1, 24)] Try.underlying30 (by kernel_rfl) ht1_
    obtain ⟨y_, m_, ht2_⟩ := hs2_ 0 _ _ _ rfl
    obtain ⟨a0_6, e_, _, w0_6⟩ := DataW.trod_int Try.underlying24 ht2_
    obtain rfl : c0_6 = _ := by simpa using e_
    clear e_
    clear ht2_
    obtain ⟨y_, m_, ht2_⟩ := hs2_ 1 _ _ _ rfl
    obtain ⟨a0_7, e_, _, w0_7⟩ := DataW.trod_int Try.underlying24 ht2_
    obtain rfl : c0_7 = _ := by simpa using e_
    clear e_
    clear ht2_
    clear hs2_
    clear ht1_
    obtain ⟨y_, m_, ht1_⟩ := hs1_ 5 _ _ _ rfl
    have hs2_ := RowAid.sub [(0, 1, 24), (1, 1, 24)] Try.underlying30 (by kernel_rfl) ht1_
    obtain ⟨y_, m_, ht2_⟩ := hs2_ 0 _ _ _ rfl
    obtain ⟨a0_8, e_, _, w0_8⟩ := DataW.trod_int Try.underlying24 ht2_
    obtain rfl : c0_8 = _ := by simpa using e_
    clear e_
    clear ht2_
    obtain ⟨y_, m_, ht2_⟩ := hs2_ 1 _ _ _ rfl
    obtain ⟨a0_9, e_, _, w0_9⟩ := DataW.trod_int Try.underlying24 ht2_
    obtain rfl : c0_9 = _ := by simpa using e_
    clear e_
    clear ht2_
    clear hs2_
    clear ht1_
    clear hs1_
    exact ⟨⟨a0_0, a0_1, ⟨a0_2, a0_3⟩, ⟨a0_4, a0_5⟩, ⟨a0_6, a0_7⟩, ⟨a0_8, a0_9⟩⟩, Mat.k32_mk _ _, w0_1, w0_2, w0_3, w0_4, w0_5, w0_6, w0_7, w0_8, w0_9⟩) h0
  have k1 := h1
  have lt1 : ∀ x ∈ p1, x.block < W.heap.size := by obtain ⟨m, hm⟩ := k1; exact DataW.trod_lt m _ _ _ hm
  obtain ⟨l1_, rfl, hl1_, hf1_⟩ := RowAid.open_any Try.underlying26 (by kernel_rfl) (by kernel_rfl) (hval 1 26 v1 rfl rfl) h1
  obtain ⟨c1_0, c1_1, c1_2, c1_3, c1_4, c1_5, c1_6, rfl⟩ := RowAid.list7 hl1_
  obtain ⟨u_, y_, n_, hu_, ht_⟩ := hf1_ 0 _ rfl
  obtain rfl : c1_0 = u_ := by simpa using hu_
  obtain ⟨a1_0, e_, _, w1_0⟩ := DataW.trod_int Try.underlying5 ht_
  obtain rfl : c1_0 = _ := by simpa using e_
  clear hu_ ht_ e_
  obtain ⟨u_, y_, n_, hu_, ht_⟩ := hf1_ 1 _ rfl
  obtain rfl : c1_1 = u_ := by simpa using hu_
  obtain ⟨a1_1, e_, _, w1_1⟩ := DataW.trod_int Try.underlying23 ht_
  obtain rfl : c1_1 = _ := by simpa using e_
  clear hu_ ht_ e_
  obtain ⟨u_, y_, n_, hu_, ht_⟩ := hf1_ 2 _ rfl
  obtain rfl : c1_2 = u_ := by simpa using hu_
  obtain ⟨a1_2, e_, _, w1_2⟩ := DataW.trod_int Try.underlying23 ht_
  obtain rfl : c1_2 = _ := by simpa using e_
  clear hu_ ht_ e_
  obtain ⟨u_, y_, n_, hu_, ht_⟩ := hf1_ 3 _ rfl
  obtain rfl : c1_3 = u_ := by simpa using hu_
  obtain ⟨a1_3, e_, _, w1_3⟩ := DataW.trod_int Try.underlying24 ht_
  obtain rfl : c1_3 = _ := by simpa using e_
  clear hu_ ht_ e_
  obtain ⟨u_, y_, n_, hu_, ht_⟩ := hf1_ 4 _ rfl
  obtain rfl : c1_4 = u_ := by simpa using hu_
  obtain ⟨a1_4, e_, _, w1_4⟩ := DataW.trod_int Try.underlying24 ht_
  obtain rfl : c1_4 = _ := by simpa using e_
  clear hu_ ht_ e_
  obtain ⟨u_, y_, n_, hu_, ht_⟩ := hf1_ 5 _ rfl
  obtain rfl : c1_5 = u_ := by simpa using hu_
  obtain ⟨a1_5, e_, _, w1_5⟩ := DataW.trod_int Try.underlying5 ht_
  obtain rfl : c1_5 = _ := by simpa using e_
  clear hu_ ht_ e_
  obtain ⟨u_, y_, n_, hu_, ht_⟩ := hf1_ 6 _ rfl
  obtain rfl : c1_6 = u_ := by simpa using hu_
  obtain ⟨a1_6, e_, _, w1_6⟩ := DataW.trod_int Try.underlying5 ht_
  obtain rfl : c1_6 = _ := by simpa using e_
  clear hu_ ht_ e_
  clear hl1_ hf1_
  have k2 := h2
  have lt2 : ∀ x ∈ p2, x.block < W.heap.size := by obtain ⟨m, hm⟩ := k2; exact DataW.trod_lt m _ _ _ hm
  obtain ⟨l2_, rfl, hl2_, n_, ht0_⟩ := RowAid.open_flat Try.underlying32 (hval 2 32 v2 rfl rfl) h2
  obtain ⟨c2_0, c2_1, c2_2, c2_3, c2_4, c2_5, c2_6, c2_7, c2_8, c2_9, rfl⟩ := RowAid.list10 (hl2_.trans (by kernel_rfl))
  have hs1_ := RowAid.sub [(0, 1, 4), (1, 1, 5), (2, 2, 28), (4, 2, 28), (6, 2, 30), (8, 2, 30)] Try.underlying32 (by kernel_rfl) ht0_
  obtain ⟨y_, m_, ht1_⟩ := hs1_ 0 _ _ _ rfl
  obtain ⟨a2_0, e_, _⟩ := DataW.trod_bool Try.underlying4 ht1_
  obtain rfl : c2_0 = _ := by simpa using e_
  clear e_
  clear ht1_
  obtain ⟨y_, m_, ht1_⟩ := hs1_ 1 _ _ _ rfl
  obtain ⟨a2_1, e_, _, w2_1⟩ := DataW.trod_int Try.underlying5 ht1_
  obtain rfl : c2_1 = _ := by simpa using e_
  clear e_
  clear ht1_
  obtain ⟨y_, m_, ht1_⟩ := hs1_ 2 _ _ _ rfl
  have hs2_ := RowAid.sub [(0, 1, 23), (1, 1, 3)] Try.underlying28 (by kernel_rfl) ht1_
  obtain ⟨y_, m_, ht2_⟩ := hs2_ 0 _ _ _ rfl
  obtain ⟨a2_2, e_, _, w2_2⟩ := DataW.trod_int Try.underlying23 ht2_
  obtain rfl : c2_2 = _ := by simpa using e_
  clear e_
  clear ht2_
  obtain ⟨y_, m_, ht2_⟩ := hs2_ 1 _ _ _ rfl
  obtain ⟨a2_3, e_, _, w2_3⟩ := DataW.trod_int Try.underlying3 ht2_
  obtain rfl : c2_3 = _ := by simpa using e_
  clear e_
  clear ht2_
  clear hs2_
  clear ht1_
  obtain ⟨y_, m_, ht1_⟩ := hs1_ 3 _ _ _ rfl
  have hs2_ := RowAid.sub [(0, 1, 23), (1, 1, 3)] Try.underlying28 (by kernel_rfl) ht1_
  obtain ⟨y_, m_, ht2_⟩ := hs2_ 0 _ _ _ rfl
  obtain ⟨a2_4, e_, _, w2_4⟩ := DataW.trod_int Try.underlying23 ht2_
  obtain rfl : c2_4 = _ := by simpa using e_
  clear e_
  clear ht2_
  obtain ⟨y_, m_, ht2_⟩ := hs2_ 1 _ _ _ rfl
  obtain ⟨a2_5, e_, _, w2_5⟩ := DataW.trod_int Try.underlying3 ht2_
  obtain rfl : c2_5 = _ := by simpa using e_
  clear e_
  clear ht2_
  clear hs2_
  clear ht1_
  obtain ⟨y_, m_, ht1_⟩ := hs1_ 4 _ _ _ rfl
  have hs2_ := RowAid.sub [(0, 1, 24), (1, 1, 24)] Try.underlying30 (by kernel_rfl) ht1_
  obtain ⟨y_, m_, ht2_⟩ := hs2_ 0 _ _ _ rfl
  obtain ⟨a2_6, e_, _, w2_6⟩ := DataW.trod_int Try.underlying24 ht2_
  obtain rfl : c2_6 = _ := by simpa using e_
  clear e_
  clear ht2_
  obtain ⟨y_, m_, ht2_⟩ := hs2_ 1 _ _ _ rfl
  obtain ⟨a2_7, e_, _, w2_7⟩ := DataW.trod_int Try.underlying24 ht2_
  obtain rfl : c2_7 = _ := by simpa using e_
  clear e_
  clear ht2_
  clear hs2_
  clear ht1_
  obtain ⟨y_, m_, ht1_⟩ := hs1_ 5 _ _ _ rfl
  have hs2_ := RowAid.sub [(0, 1, 24), (1, 1, 24)] Try.underlying30 (by kernel_rfl) ht1_
  obtain ⟨y_, m_, ht2_⟩ := hs2_ 0 _ _ _ rfl
  obtain ⟨a2_8, e_, _, w2_8⟩ := DataW.trod_int Try.underlying24 ht2_
  obtain rfl : c2_8 = _ := by simpa using e_
  clear e_
  clear ht2_
  obtain ⟨y_, m_, ht2_⟩ := hs2_ 1 _ _ _ rfl
  obtain ⟨a2_9, e_, _, w2_9⟩ := DataW.trod_int Try.underlying24 ht2_
  obtain rfl : c2_9 = _ := by simpa using e_
  clear e_
  clear ht2_
  clear hs2_
  clear ht1_
  clear hs1_
  clear hl2_ ht0_
  clear hA0 hval0 hsz0 hsz
  refine (Mat.mantletlaw13_MatchFirst.walk Pure.MatchFirst a0 cap0 l0 a1_0 a1_1 a1_2 a1_3 a1_4 a1_5 a1_6 a2_0 a2_1 a2_2 a2_3 a2_4 a2_5 a2_6 a2_7 a2_8 a2_9 W hr0 hc0 m0 y0 v0 w1_0 w1_1 w1_2 w1_3 w1_4 w1_5 w1_6 w2_1 w2_2 w2_3 w2_4 w2_5 w2_6 w2_7 w2_8 w2_9).mono fun e W' ⟨he, bel⟩ => ?_
  subst he
  exact ⟨_, rfl, _, _, _, [], _, [], hW', trodAll_mk1 (shut_bool Try.underlying4 _), (trodAll_cons_mk (Below.trod laidOut (by kernel_rfl) (of_decide_eq_true (by kernel_rfl)) k0 bel lt0) (trodAll_cons_mk (Below.trod laidOut (by kernel_rfl) (of_decide_eq_true (by kernel_rfl)) k1 bel lt1) (trodAll_cons_mk (Below.trod laidOut (by kernel_rfl) (of_decide_eq_true (by kernel_rfl)) k2 bel lt2) trodAll_mk0))), rfl, bel.frame _, fun h => by cases h⟩
theorem over : Rows.matchFirstRow.holds Try.pinned (OpenSpec.ofChange Rows.matchFirstSpec) :=
  OpenClaim.holds_of_wide 3 Try.f3 rfl rfl rfl rfl rfl rfl rfl ⟨rfl, rfl, rfl, rfl, rfl⟩ rfl rfl rfl rfl rfl (by kernel_rfl) Try.func3 (by kernel_rfl)
    (of_decide_eq_true (by kernel_rfl)) (by unfold Func.isWrapper; first | (rw [if_pos (by decide +kernel)]; kernel_rfl) | (rw [if_neg (by decide +kernel)]; exact ⟨rfl, rfl⟩))
    (fun os started H enc _ => lifted os started H enc)
theorem proved : Rows.MatchFirstSaid := over
#print axioms proved
end Go.Proofs.Ytbdgjcmljjfomaa.matchFirst
namespace Go.Proofs.Ytbdgjcmljjfomaa
/-- The row, under a short name, for the claim. -/
theorem matchFirst_holds : Rows.MatchFirstSaid := matchFirst.proved
end Go.Proofs.Ytbdgjcmljjfomaa
