-- Made by a program of this workplace (wip/pr.sh) out of Lean's print of the translation; Lean checks it.
import Derived.Test.YtplioggeccoleaaKeyx0
import Derived.Test.YtplioggeccoleaaKeyx1
import Derived.Test.YtplioggeccoleaaKeyx2
import Derived.Test.YtplioggeccoleaaKeyx8
import Derived.Test.YtplioggeccoleaaKeyx21
import Derived.Test.YtplioggeccoleaaKeyx22
namespace Go.Proofs.Ytplioggeccoleaa.Key
open Go.Proofs.Ytplioggeccoleaa.Ext
open Go.RowKit Go.Proofs.YtplioggeccoleaaW.PrintWords Go.Proofs.YtplioggeccoleaaW.PrintLast Go.Proofs.YtplioggeccoleaaW.PrintMore
attribute [local go_sem] max2_int min2_int max_two min_two max_three min_three max_four min_four   -- for this text's walks alone
set_option linter.unusedVariables false
set_option linter.unusedSimpArgs false

attribute [local go_sem high] eqA25 eqA29
/-! ### mantletlaw10_KeyTurns: function 5 -/
def mantletlaw10_KeyTurns.j0 : Nat → Bool → Bool → Bool → Int → Int → Int → Int → Int → Int → Int → Int → Int → Int → Int → Int → Int → Int → Int → Int → Int → Int → Int → Int → Int → Int → Int → Int → Option (Bool)
  | 0, _, _, _, _, _, _, _, _, _, _, _, _, _, _, _, _, _, _, _, _, _, _, _, _, _, _, _ => none
  | k + 1, x5, x7, x8, x242000, x242001, x242002, x242003, x242004, x242005, x242006, x250000, x250001, x250002, x250003, x250004, x250005, x250006, x257000, x257001, x257002, x257003, x257004, x264000, x264001, x264002, x264003, x264004 => (mantletlaw10_awake.f k).bind fun t264 => (if t264 = true then (if ((x257000 == x264000 && (x257001 == x264001)) && ((x257002 == x264002 && (x257003 == x264003)) && (x257004 == x264004))) = true then (if ((x5 != x7) == (!x8)) = true then ((key_Turn.f x250000 x250001 x250002 x250003 x250004 x250005 x250006).bind fun bt265 => (if (bt265.1 == x242000 && (bt265.2.1 == x242001 && (bt265.2.2.1 == x242002 && (bt265.2.2.2.1 == x242003 && (bt265.2.2.2.2.1 == x242004 && (bt265.2.2.2.2.2.1 == x242005 && (bt265.2.2.2.2.2.2 == x242006))))))) = true then (if x257000 < x257001 then (some true) else (if x257000 = x257001 then (some (decide (x257002 ≤ x257003))) else (some false))) else (some false))) else (some false)) else (some false)) else (some false))
def mantletlaw10_KeyTurns.f (k : Nat) (a0_0 : Int) (a0_1 : Int) (a0_2 : Int) (a0_3 : Int) (a0_4 : Int) (a0_5 : Int) (a0_6 : Int) : Option (Bool) := (key_Turn.f a0_0 a0_1 a0_2 a0_3 a0_4 a0_5 a0_6).bind fun bt242 => ((key_Of.f k a0_0 a0_1 a0_2 a0_3 a0_4 a0_5 a0_6).bind fun bt250 => ((key_Of.f k bt242.1 bt242.2.1 bt242.2.2.1 bt242.2.2.2.1 bt242.2.2.2.2.1 bt242.2.2.2.2.2.1 bt242.2.2.2.2.2.2).bind fun bt257 => (if a0_1 = a0_2 then (mantletlaw10_KeyTurns.j0 k bt250.2.2.2.2.2 bt257.2.2.2.2.2 (a0_3 == a0_4) a0_0 a0_1 a0_2 a0_3 a0_4 a0_5 a0_6 bt242.1 bt242.2.1 bt242.2.2.1 bt242.2.2.2.1 bt242.2.2.2.2.1 bt242.2.2.2.2.2.1 bt242.2.2.2.2.2.2 bt250.1 bt250.2.1 bt250.2.2.1 bt250.2.2.2.1 bt250.2.2.2.2.1 bt257.1 bt257.2.1 bt257.2.2.1 bt257.2.2.2.1 bt257.2.2.2.2.1) else (mantletlaw10_KeyTurns.j0 k bt250.2.2.2.2.2 bt257.2.2.2.2.2 false a0_0 a0_1 a0_2 a0_3 a0_4 a0_5 a0_6 bt242.1 bt242.2.1 bt242.2.2.1 bt242.2.2.2.1 bt242.2.2.2.2.1 bt242.2.2.2.2.2.1 bt242.2.2.2.2.2.2 bt250.1 bt250.2.1 bt250.2.2.1 bt250.2.2.2.1 bt250.2.2.2.2.1 bt257.1 bt257.2.1 bt257.2.2.1 bt257.2.2.2.1 bt257.2.2.2.2.1))))
theorem mantletlaw10_KeyTurns.mono_l : ∀ k, (∀ y0 y1 y2 y3 y4 y5 y6 y7 y8 y9 y10 y11 y12 y13 y14 y15 y16 y17 y18 y19 y20 y21 y22 y23 y24 y25 y26, LeO (mantletlaw10_KeyTurns.j0 k y0 y1 y2 y3 y4 y5 y6 y7 y8 y9 y10 y11 y12 y13 y14 y15 y16 y17 y18 y19 y20 y21 y22 y23 y24 y25 y26) (mantletlaw10_KeyTurns.j0 (k + 1) y0 y1 y2 y3 y4 y5 y6 y7 y8 y9 y10 y11 y12 y13 y14 y15 y16 y17 y18 y19 y20 y21 y22 y23 y24 y25 y26))
  | 0 => fun _ _ _ _ _ _ _ _ _ _ _ _ _ _ _ _ _ _ _ _ _ _ _ _ _ _ _ r h => by simp [mantletlaw10_KeyTurns.j0] at h
  | k + 1 => by
    have ih0 := mantletlaw10_KeyTurns.mono_l k
    · intro y0 y1 y2 y3 y4 y5 y6 y7 y8 y9 y10 y11 y12 y13 y14 y15 y16 y17 y18 y19 y20 y21 y22 y23 y24 y25 y26
      unfold mantletlaw10_KeyTurns.j0
      repeat' first
      | (with_reducible exact ih0 _ _ _ _ _ _ _ _ _ _ _ _ _ _ _ _ _ _ _ _ _ _ _ _ _ _ _)
      | (with_reducible exact key_Of.mono _ _ _ _ _ _ _ _)
      | (with_reducible exact mantletlaw10_awake.mono _)
      | (with_reducible exact LeO.refl _)
      | (with_reducible exact LeO.none _)
      | (with_reducible refine LeO.ite ?_ ?_)
      | (with_reducible refine LeO.bind ?_ (fun _ => ?_))
      | exact ih0 _ _ _ _ _ _ _ _ _ _ _ _ _ _ _ _ _ _ _ _ _ _ _ _ _ _ _
      | exact key_Of.mono _ _ _ _ _ _ _ _
      | exact mantletlaw10_awake.mono _
      | exact LeO.none _
      | refine LeO.ite ?_ ?_
      | refine LeO.bind ?_ (fun _ => ?_)
theorem mantletlaw10_KeyTurns.mono : ∀ a0 a1 a2 a3 a4 a5 a6 k, LeO (mantletlaw10_KeyTurns.f k a0 a1 a2 a3 a4 a5 a6) (mantletlaw10_KeyTurns.f (k + 1) a0 a1 a2 a3 a4 a5 a6) := by
  intro a0 a1 a2 a3 a4 a5 a6 k
  have ih0 := mantletlaw10_KeyTurns.mono_l k
  unfold mantletlaw10_KeyTurns.f
  repeat' first
      | (with_reducible exact ih0 _ _ _ _ _ _ _ _ _ _ _ _ _ _ _ _ _ _ _ _ _ _ _ _ _ _ _)
      | (with_reducible exact key_Of.mono _ _ _ _ _ _ _ _)
      | (with_reducible exact mantletlaw10_awake.mono _)
      | (with_reducible exact LeO.refl _)
      | (with_reducible exact LeO.none _)
      | (with_reducible refine LeO.ite ?_ ?_)
      | (with_reducible refine LeO.bind ?_ (fun _ => ?_))
      | exact ih0 _ _ _ _ _ _ _ _ _ _ _ _ _ _ _ _ _ _ _ _ _ _ _ _ _ _ _
      | exact key_Of.mono _ _ _ _ _ _ _ _
      | exact mantletlaw10_awake.mono _
      | exact LeO.none _
      | refine LeO.ite ?_ ?_
      | refine LeO.bind ?_ (fun _ => ?_)
def mantletlaw10_KeyTurns.T5 : Bool × List (List Nat × List Nat) := (true, [([], []), ([0, 0], [0]), ([1], [1]), ([1], [1]), ([2, 3, 1], [1, 2, 3]), ([1, 4], [1, 4]), ([5, 1], [5]), ([6], [6]), ([6], [6]), ([7, 8, 6], [6, 7, 8]), ([6], [6]), ([10, 6], [6, 10]), ([9, 11, 6], [6, 9, 11]), ([6, 12], [6, 12]), ([13, 6], [13]), ([14], [14]), ([15, 14, 14], [14, 15]), ([14], [14]), ([16, 17, 14], [14, 16, 17]), ([14, 18], [14, 18]), ([19, 16], [19]), ([20], [20]), ([21, 20], [20, 21]), ([22, 20], [20, 22]), ([20], [20]), ([24, 20], [20, 24]), ([25, 20], [20, 25]), ([23, 26, 20], [20, 23, 26]), ([27, 20, 20], [20, 27]), ([28], [28]), ([29, 28], [28, 29]), ([30, 28], [28, 30]), ([28], [28]), ([32, 28], [28, 32]), ([33, 28], [28, 33]), ([31, 34, 28], [28, 31, 34]), ([35, 28, 28], [28, 35]), ([36], [36]), ([37, 36], [36, 37]), ([38, 36], [36, 38]), ([36], [36]), ([40, 36], [36, 40]), ([41, 36], [36, 41]), ([39, 42, 36], [36, 39, 42]), ([36, 43, 28], [28, 36, 43]), ([28, 44, 20], [20, 28, 44]), ([20, 45], [20, 45]), ([46, 36, 0, 1, 2, 3, 4, 5, 6, 7, 8, 9, 10, 11, 12, 13, 14, 15, 16, 17, 18, 19, 20, 21, 22, 23, 24, 25, 26, 27, 28, 29, 30, 31, 32, 33, 34, 35, 36, 37, 38, 39, 40, 41, 42, 43, 44, 45, 46], [46])])
def mantletlaw10_KeyTurns.B5 : List Nat := [0, 1, 3, 3, 15, 31, 63, 127, 127, 511, 127, 1151, 4095, 8191, 16383, 32767, 65535, 32767, 262143, 524287, 1048575, 2097151, 4194303, 8388607, 2097151, 18874367, 52428799, 134217727, 268435455, 536870911, 1073741823, 2147483647, 536870911, 4831838207, 13421772799, 34359738367, 68719476735, 137438953471, 274877906943, 549755813887, 137438953471, 1236950581247, 3435973836799, 8796093022207, 17592186044415, 35184372088831, 70368744177663, 140737488355327]
theorem mantletlaw10_KeyTurns.tab5 : rtab .any (opsOf Try.f5 5) = mantletlaw10_KeyTurns.T5 := by kernel_rfl
theorem mantletlaw10_KeyTurns.bits5 : waitsOk mantletlaw10_KeyTurns.T5.2 mantletlaw10_KeyTurns.B5 = true := by kernel_rfl
set_option maxHeartbeats 8000000 in
set_option maxRecDepth 100000 in
theorem mantletlaw10_KeyTurns.calls (k : Nat) (a0_0 : Int) (a0_1 : Int) (a0_2 : Int) (a0_3 : Int) (a0_4 : Int) (a0_5 : Int) (a0_6 : Int) (r : Bool) (w : World) (h : mantletlaw10_KeyTurns.f k a0_0 a0_1 a0_2 a0_3 a0_4 a0_5 a0_6 = some r) (hT_ : r = true) :
    Calls Try.prog 5 #[.agg #[.int .u8 a0_0, .int .u32 a0_1, .int .u32 a0_2, .int .u16 a0_3, .int .u16 a0_4, .int .u8 a0_5, .int .u8 a0_6]] w fun e w' => e = .returned (.bool r) ∧ Below w.heap.size w w' := by
 have HT := Aside0.mk hT_
 clear hT_
 have hu25 := Try.underlying25
 have hu29 := Try.underlying29
 have HB := Aside0.mk (Below.refl w.heap.size w)
 have H : ((key_Turn.f a0_0 a0_1 a0_2 a0_3 a0_4 a0_5 a0_6).bind fun bt242 => ((key_Of.f k a0_0 a0_1 a0_2 a0_3 a0_4 a0_5 a0_6).bind fun bt250 => ((key_Of.f k bt242.1 bt242.2.1 bt242.2.2.1 bt242.2.2.2.1 bt242.2.2.2.2.1 bt242.2.2.2.2.2.1 bt242.2.2.2.2.2.2).bind fun bt257 => (if a0_1 = a0_2 then (mantletlaw10_KeyTurns.j0 k bt250.2.2.2.2.2 bt257.2.2.2.2.2 (a0_3 == a0_4) a0_0 a0_1 a0_2 a0_3 a0_4 a0_5 a0_6 bt242.1 bt242.2.1 bt242.2.2.1 bt242.2.2.2.1 bt242.2.2.2.2.1 bt242.2.2.2.2.2.1 bt242.2.2.2.2.2.2 bt250.1 bt250.2.1 bt250.2.2.1 bt250.2.2.2.1 bt250.2.2.2.2.1 bt257.1 bt257.2.1 bt257.2.2.1 bt257.2.2.2.1 bt257.2.2.2.2.1) else (mantletlaw10_KeyTurns.j0 k bt250.2.2.2.2.2 bt257.2.2.2.2.2 false a0_0 a0_1 a0_2 a0_3 a0_4 a0_5 a0_6 bt242.1 bt242.2.1 bt242.2.2.1 bt242.2.2.2.1 bt242.2.2.2.2.1 bt242.2.2.2.2.2.1 bt242.2.2.2.2.2.2 bt250.1 bt250.2.1 bt250.2.2.1 bt250.2.2.2.1 bt250.2.2.2.2.1 bt257.1 bt257.2.1 bt257.2.2.1 bt257.2.2.2.1 bt257.2.2.2.2.1))))) = some r := h
 clear h
 replace H := Option.bind_eq_some_iff.mp H
 obtain ⟨⟨t242, t243, t244, t245, t246, t247, t248⟩, A20, H⟩ := H
 replace H : ((key_Of.f k a0_0 a0_1 a0_2 a0_3 a0_4 a0_5 a0_6).bind fun bt250 => ((key_Of.f k t242 t243 t244 t245 t246 t247 t248).bind fun bt257 => (if a0_1 = a0_2 then (mantletlaw10_KeyTurns.j0 k bt250.2.2.2.2.2 bt257.2.2.2.2.2 (a0_3 == a0_4) a0_0 a0_1 a0_2 a0_3 a0_4 a0_5 a0_6 t242 t243 t244 t245 t246 t247 t248 bt250.1 bt250.2.1 bt250.2.2.1 bt250.2.2.2.1 bt250.2.2.2.2.1 bt257.1 bt257.2.1 bt257.2.2.1 bt257.2.2.2.1 bt257.2.2.2.2.1) else (mantletlaw10_KeyTurns.j0 k bt250.2.2.2.2.2 bt257.2.2.2.2.2 false a0_0 a0_1 a0_2 a0_3 a0_4 a0_5 a0_6 t242 t243 t244 t245 t246 t247 t248 bt250.1 bt250.2.1 bt250.2.2.1 bt250.2.2.2.1 bt250.2.2.2.2.1 bt257.1 bt257.2.1 bt257.2.2.1 bt257.2.2.2.1 bt257.2.2.2.2.1)))) = some r := H
 have A2 := Aside0.mk A20
 clear A20
 replace H := Option.bind_eq_some_iff.mp H
 obtain ⟨⟨t250, t251, t252, t253, t254, t255⟩, A30, H⟩ := H
 replace H : ((key_Of.f k t242 t243 t244 t245 t246 t247 t248).bind fun bt257 => (if a0_1 = a0_2 then (mantletlaw10_KeyTurns.j0 k t255 bt257.2.2.2.2.2 (a0_3 == a0_4) a0_0 a0_1 a0_2 a0_3 a0_4 a0_5 a0_6 t242 t243 t244 t245 t246 t247 t248 t250 t251 t252 t253 t254 bt257.1 bt257.2.1 bt257.2.2.1 bt257.2.2.2.1 bt257.2.2.2.2.1) else (mantletlaw10_KeyTurns.j0 k t255 bt257.2.2.2.2.2 false a0_0 a0_1 a0_2 a0_3 a0_4 a0_5 a0_6 t242 t243 t244 t245 t246 t247 t248 t250 t251 t252 t253 t254 bt257.1 bt257.2.1 bt257.2.2.1 bt257.2.2.2.1 bt257.2.2.2.2.1))) = some r := H
 have A3 := Aside0.mk A30
 clear A30
 replace H := Option.bind_eq_some_iff.mp H
 obtain ⟨⟨t257, t258, t259, t260, t261, t262⟩, A40, H⟩ := H
 replace H : (if a0_1 = a0_2 then (mantletlaw10_KeyTurns.j0 k t255 t262 (a0_3 == a0_4) a0_0 a0_1 a0_2 a0_3 a0_4 a0_5 a0_6 t242 t243 t244 t245 t246 t247 t248 t250 t251 t252 t253 t254 t257 t258 t259 t260 t261) else (mantletlaw10_KeyTurns.j0 k t255 t262 false a0_0 a0_1 a0_2 a0_3 a0_4 a0_5 a0_6 t242 t243 t244 t245 t246 t247 t248 t250 t251 t252 t253 t254 t257 t258 t259 t260 t261)) = some r := H
 have A4 := Aside0.mk A40
 clear A40
 have HC5 := Aside0.mk H
 clear H
 go_enter Try.func5, Try.ntmps5
 go_upto_region 4 with (first | ((with_reducible refine gate_dst (N := 1) rfl ?_); refine box_event ?hg (N := 1) ?hd (cs := #[.int .u8 a0_0, .int .u32 a0_1, .int .u32 a0_2, .int .u16 a0_3, .int .u16 a0_4, .int .u8 a0_5, .int .u8 a0_6]) (t := 25) ?hr ?_; (case hd => rfl); (case hg => rfl); (case hr => first | (go_simp; done) | (go_simp; rfl)); intro gb241 hg w6 hbox hb; have n0_ := Aside0.mk (below_step (by repeat first | (with_reducible first | exact HB.out | apply mB) | exact HB.out) hb); have n1_ := Aside0.mk (hbox); have n2_ := Aside0.mk ((by rw [hg]; exact (below_size (by repeat first | (with_reducible first | exact HB.out | apply mB) | exact HB.out)) : w.heap.size ≤ gb241)); have n3_ := Aside0.mk ((by rw [hg]; exact (below_size (by repeat first | (with_reducible first | exact HB.out | apply mB) | exact HB.out)) : w.heap.size ≤ gb241)); clear HB; have HB := n0_; have BK241 := n1_; have GW241 := n2_; have GE241 := n3_; clear n0_ n1_ n2_ n3_; clear hb hbox hg; have hcz7_0 : w6.cell? ⟨gb241, 0, none⟩ = some (.int .u8 a0_0) := (blk_cell BK241.out 0).trans rfl; have hcz7_1 : w6.cell? ⟨gb241, 1, none⟩ = some (.int .u32 a0_1) := (blk_cell BK241.out 1).trans rfl; have hcz7_2 : w6.cell? ⟨gb241, 2, none⟩ = some (.int .u32 a0_2) := (blk_cell BK241.out 2).trans rfl; have hcz7_3 : w6.cell? ⟨gb241, 3, none⟩ = some (.int .u16 a0_3) := (blk_cell BK241.out 3).trans rfl; have hcz7_4 : w6.cell? ⟨gb241, 4, none⟩ = some (.int .u16 a0_4) := (blk_cell BK241.out 4).trans rfl; have hcz7_5 : w6.cell? ⟨gb241, 5, none⟩ = some (.int .u8 a0_5) := (blk_cell BK241.out 5).trans rfl; have hcz7_6 : w6.cell? ⟨gb241, 6, none⟩ = some (.int .u8 a0_6) := (blk_cell BK241.out 6).trans rfl; have hfz7_0 := blk_frozen BK241.out 0; have hfz7_1 := blk_frozen BK241.out 1; have hfz7_2 := blk_frozen BK241.out 2; have hfz7_3 := blk_frozen BK241.out 3; have hfz7_4 := blk_frozen BK241.out 4; have hfz7_5 := blk_frozen BK241.out 5; have hfz7_6 := blk_frozen BK241.out 6) | ((with_reducible refine gate_callee (f := 17) rfl ?_); refine goesL_ (some 10) rfl rfl Try.func17 (by kernel_rfl) rfl #[.agg #[.int .u8 a0_0, .int .u32 a0_1, .int .u32 a0_2, .int .u16 a0_3, .int .u16 a0_4, .int .u8 a0_5, .int .u8 a0_6]] rfl (by (try simp only [List.map_toArray, List.map_cons, List.map_nil]); first | done | rfl) ?_; (with_reducible refine (key_Turn.calls a0_0 a0_1 a0_2 a0_3 a0_4 a0_5 a0_6 t242 t243 t244 t245 t246 t247 t248 _ A2.out).mono ?_); rintro e w8 ⟨rfl, hb⟩; refine ⟨_, rfl, ?_⟩; have n0_ := Aside0.mk (blk_below (g := gb241) (o := .cells #[.int .u8 a0_0, .int .u32 a0_1, .int .u32 a0_2, .int .u16 a0_3, .int .u16 a0_4, .int .u8 a0_5, .int .u8 a0_6] 25 (0, 0)) (by (with_reducible repeat apply mk_); exact BK241.out) hb); have n1_ := Aside0.mk (below_step (by repeat first | (with_reducible first | exact HB.out | apply mB | refine below_set ?_ GE241.out) | exact HB.out) hb); clear BK241; clear HB; have BK241 := n0_; have HB := n1_; clear n0_ n1_; (try clear hb); (try clear hb2); (try clear hk); (try clear hi)) | ((with_reducible refine gate_dst (N := 3) rfl ?_); refine box_event ?hg (N := 3) ?hd (cs := #[.int .u8 0, .int .u32 0, .int .u32 0, .int .u16 0, .int .u16 0, .int .u8 0, .int .u8 0]) (t := 25) ?hr ?_; (case hd => rfl); (case hg => rfl); (case hr => first | (go_simp; done) | (go_simp; rfl)); intro gb249 hg w9 hbox hb; have n0_ := Aside0.mk (blk_below (g := gb241) (o := .cells #[.int .u8 a0_0, .int .u32 a0_1, .int .u32 a0_2, .int .u16 a0_3, .int .u16 a0_4, .int .u8 a0_5, .int .u8 a0_6] 25 (0, 0)) (by (with_reducible repeat apply mk_); exact BK241.out) hb); have n1_ := Aside0.mk (below_step (by repeat first | (with_reducible first | exact HB.out | apply mB | refine below_set ?_ GE241.out) | exact HB.out) hb); have n2_ := Aside0.mk (hbox); have n3_ := Aside0.mk ((by rw [hg]; exact (below_size (by repeat first | (with_reducible first | exact HB.out | apply mB | refine below_set ?_ GE241.out) | exact HB.out)) : w.heap.size ≤ gb249)); have n4_ := Aside0.mk ((by rw [hg]; exact (below_size (by repeat first | (with_reducible first | exact HB.out | apply mB | refine below_set ?_ GE241.out) | exact HB.out)) : w.heap.size ≤ gb249)); have n5_ := Aside0.mk ((by rw [hg]; exact Nat.ne_of_lt (blk_lt (g := gb241) (o := .cells #[.int .u8 a0_0, .int .u32 a0_1, .int .u32 a0_2, .int .u16 a0_3, .int .u16 a0_4, .int .u8 a0_5, .int .u8 a0_6] 25 (0, 0)) (by (with_reducible repeat apply mk_); exact BK241.out)) : gb241 ≠ gb249)); have n6_ := Aside0.mk ((by rw [hg]; exact Nat.ne_of_gt (blk_lt (g := gb241) (o := .cells #[.int .u8 a0_0, .int .u32 a0_1, .int .u32 a0_2, .int .u16 a0_3, .int .u16 a0_4, .int .u8 a0_5, .int .u8 a0_6] 25 (0, 0)) (by (with_reducible repeat apply mk_); exact BK241.out)) : gb249 ≠ gb241)); clear BK241; clear HB; have BK241 := n0_; have HB := n1_; have BK249 := n2_; have GW249 := n3_; have GE249 := n4_; have NB241_249 := n5_; have NB249_241 := n6_; clear n0_ n1_ n2_ n3_ n4_ n5_ n6_; clear hb hbox hg; have hnb10 := NB249_241.out; have hnc10 := NB241_249.out; have hcz11_0 : w9.cell? ⟨gb249, 0, none⟩ = some (.int .u8 0) := (blk_cell BK249.out 0).trans rfl; have hcz11_1 : w9.cell? ⟨gb249, 1, none⟩ = some (.int .u32 0) := (blk_cell BK249.out 1).trans rfl; have hcz11_2 : w9.cell? ⟨gb249, 2, none⟩ = some (.int .u32 0) := (blk_cell BK249.out 2).trans rfl; have hcz11_3 : w9.cell? ⟨gb249, 3, none⟩ = some (.int .u16 0) := (blk_cell BK249.out 3).trans rfl; have hcz11_4 : w9.cell? ⟨gb249, 4, none⟩ = some (.int .u16 0) := (blk_cell BK249.out 4).trans rfl; have hcz11_5 : w9.cell? ⟨gb249, 5, none⟩ = some (.int .u8 0) := (blk_cell BK249.out 5).trans rfl; have hcz11_6 : w9.cell? ⟨gb249, 6, none⟩ = some (.int .u8 0) := (blk_cell BK249.out 6).trans rfl; have hfz11_0 := blk_frozen BK249.out 0; have hfz11_1 := blk_frozen BK249.out 1; have hfz11_2 := blk_frozen BK249.out 2; have hfz11_3 := blk_frozen BK249.out 3; have hfz11_4 := blk_frozen BK249.out 4; have hfz11_5 := blk_frozen BK249.out 5; have hfz11_6 := blk_frozen BK249.out 6) | ((with_reducible refine gate_store (t := 25) (p := 3) rfl ?_); (try (rw [drewN_self w9]; generalize hq_ : World.drewN w9 _ = w9; have n0_ := Aside0.mk (blk_at hq_ BK241.out); have n1_ := Aside0.mk (blk_at hq_ BK249.out); have n2_ := Aside0.mk (below_at hq_ HB.out); clear hq_ BK241 BK249 HB; have BK241 := n0_; have BK249 := n1_; have HB := n2_; clear n0_ n1_ n2_)); refine store_event (t := 25) (p := 3) (v := ?vo_w12) (w1 := (((((((w9.setCell ⟨gb249, 0, none⟩ (.int .u8 t242)).setCell ⟨gb249, 1, none⟩ (.int .u32 t243)).setCell ⟨gb249, 2, none⟩ (.int .u32 t244)).setCell ⟨gb249, 3, none⟩ (.int .u16 t245)).setCell ⟨gb249, 4, none⟩ (.int .u16 t246)).setCell ⟨gb249, 5, none⟩ (.int .u8 t247)).setCell ⟨gb249, 6, none⟩ (.int .u8 t248))) ?hg ?ho ?hn ?hr ?_; (case ho => rfl); (case hg => rfl); (case hn => rfl); (case hr => first | (go_simp; done) | (go_simp; rfl) | (have hcy0_ : w9.cell? ⟨gb249, 0, none⟩ = some (.int .u8 0) := (blk_cell BK249.out 0).trans rfl; have hfy0_ := blk_frozen BK249.out 0; have hcy1_ : w9.cell? ⟨gb249, 1, none⟩ = some (.int .u32 0) := (blk_cell BK249.out 1).trans rfl; have hfy1_ := blk_frozen BK249.out 1; have hcy2_ : w9.cell? ⟨gb249, 2, none⟩ = some (.int .u32 0) := (blk_cell BK249.out 2).trans rfl; have hfy2_ := blk_frozen BK249.out 2; have hcy3_ : w9.cell? ⟨gb249, 3, none⟩ = some (.int .u16 0) := (blk_cell BK249.out 3).trans rfl; have hfy3_ := blk_frozen BK249.out 3; have hcy4_ : w9.cell? ⟨gb249, 4, none⟩ = some (.int .u16 0) := (blk_cell BK249.out 4).trans rfl; have hfy4_ := blk_frozen BK249.out 4; have hcy5_ : w9.cell? ⟨gb249, 5, none⟩ = some (.int .u8 0) := (blk_cell BK249.out 5).trans rfl; have hfy5_ := blk_frozen BK249.out 5; have hcy6_ : w9.cell? ⟨gb249, 6, none⟩ = some (.int .u8 0) := (blk_cell BK249.out 6).trans rfl; have hfy6_ := blk_frozen BK249.out 6; first | (go_simp; done) | (go_simp; rfl))); intro w12 hw; have n0_ : Aside0 (w12.heap[gb241]? = some (.cells #[.int .u8 a0_0, .int .u32 a0_1, .int .u32 a0_2, .int .u16 a0_3, .int .u16 a0_4, .int .u8 a0_5, .int .u8 a0_6] 25 (0, 0))) := ⟨(by rw [hw]; exact (by (with_reducible repeat apply mk_); refine blk_far ?_ NB241_249.out _; (with_reducible repeat apply mk_); refine blk_far ?_ NB241_249.out _; (with_reducible repeat apply mk_); refine blk_far ?_ NB241_249.out _; (with_reducible repeat apply mk_); refine blk_far ?_ NB241_249.out _; (with_reducible repeat apply mk_); refine blk_far ?_ NB241_249.out _; (with_reducible repeat apply mk_); refine blk_far ?_ NB241_249.out _; (with_reducible repeat apply mk_); refine blk_far ?_ NB241_249.out _; (with_reducible repeat apply mk_); exact BK241.out))⟩; have n1_ : Aside0 (w12.heap[gb249]? = some (.cells #[.int .u8 t242, .int .u32 t243, .int .u32 t244, .int .u16 t245, .int .u16 t246, .int .u8 t247, .int .u8 t248] 25 (0, 0))) := ⟨(by rw [hw]; exact (by (with_reducible repeat apply mk_); refine blk_put (cs := #[.int .u8 t242, .int .u32 t243, .int .u32 t244, .int .u16 t245, .int .u16 t246, .int .u8 t247, .int .u8 0]) ?_ 6 _ rfl; (with_reducible repeat apply mk_); refine blk_put (cs := #[.int .u8 t242, .int .u32 t243, .int .u32 t244, .int .u16 t245, .int .u16 t246, .int .u8 0, .int .u8 0]) ?_ 5 _ rfl; (with_reducible repeat apply mk_); refine blk_put (cs := #[.int .u8 t242, .int .u32 t243, .int .u32 t244, .int .u16 t245, .int .u16 0, .int .u8 0, .int .u8 0]) ?_ 4 _ rfl; (with_reducible repeat apply mk_); refine blk_put (cs := #[.int .u8 t242, .int .u32 t243, .int .u32 t244, .int .u16 0, .int .u16 0, .int .u8 0, .int .u8 0]) ?_ 3 _ rfl; (with_reducible repeat apply mk_); refine blk_put (cs := #[.int .u8 t242, .int .u32 t243, .int .u32 0, .int .u16 0, .int .u16 0, .int .u8 0, .int .u8 0]) ?_ 2 _ rfl; (with_reducible repeat apply mk_); refine blk_put (cs := #[.int .u8 t242, .int .u32 0, .int .u32 0, .int .u16 0, .int .u16 0, .int .u8 0, .int .u8 0]) ?_ 1 _ rfl; (with_reducible repeat apply mk_); refine blk_put (cs := #[.int .u8 0, .int .u32 0, .int .u32 0, .int .u16 0, .int .u16 0, .int .u8 0, .int .u8 0]) ?_ 0 _ rfl; (with_reducible repeat apply mk_); exact BK249.out))⟩; have n2_ : Aside0 (Below w.heap.size w w12) := ⟨(by rw [hw]; exact (by repeat first | (with_reducible first | exact HB.out | apply mB | refine below_set ?_ GE241.out | refine below_set ?_ GE249.out) | exact HB.out))⟩; clear hw; clear BK241; clear BK249; clear HB; have BK241 := n0_; have BK249 := n1_; have HB := n2_; clear n0_ n1_ n2_; have hcz13_0 : w12.cell? ⟨gb241, 0, none⟩ = some (.int .u8 a0_0) := (blk_cell BK241.out 0).trans rfl; have hcz13_1 : w12.cell? ⟨gb241, 1, none⟩ = some (.int .u32 a0_1) := (blk_cell BK241.out 1).trans rfl; have hcz13_2 : w12.cell? ⟨gb241, 2, none⟩ = some (.int .u32 a0_2) := (blk_cell BK241.out 2).trans rfl; have hcz13_3 : w12.cell? ⟨gb241, 3, none⟩ = some (.int .u16 a0_3) := (blk_cell BK241.out 3).trans rfl; have hcz13_4 : w12.cell? ⟨gb241, 4, none⟩ = some (.int .u16 a0_4) := (blk_cell BK241.out 4).trans rfl; have hcz13_5 : w12.cell? ⟨gb241, 5, none⟩ = some (.int .u8 a0_5) := (blk_cell BK241.out 5).trans rfl; have hcz13_6 : w12.cell? ⟨gb241, 6, none⟩ = some (.int .u8 a0_6) := (blk_cell BK241.out 6).trans rfl; have hfz13_0 := blk_frozen BK241.out 0; have hfz13_1 := blk_frozen BK241.out 1; have hfz13_2 := blk_frozen BK241.out 2; have hfz13_3 := blk_frozen BK241.out 3; have hfz13_4 := blk_frozen BK241.out 4; have hfz13_5 := blk_frozen BK241.out 5; have hfz13_6 := blk_frozen BK241.out 6) | ((with_reducible refine gate_callee (f := 8) rfl ?_); refine goesL_ (some 13) rfl rfl Try.func8 (by kernel_rfl) rfl #[.agg #[.int .u8 a0_0, .int .u32 a0_1, .int .u32 a0_2, .int .u16 a0_3, .int .u16 a0_4, .int .u8 a0_5, .int .u8 a0_6]] rfl (by (try simp only [List.map_toArray, List.map_cons, List.map_nil]); first | done | rfl) ?_; (with_reducible refine (key_Of.calls k a0_0 a0_1 a0_2 a0_3 a0_4 a0_5 a0_6 t250 t251 t252 t253 t254 t255 _ A3.out).mono ?_); rintro e w14 ⟨rfl, hb⟩; refine ⟨_, rfl, ?_⟩; have n0_ := Aside0.mk (blk_below (g := gb241) (o := .cells #[.int .u8 a0_0, .int .u32 a0_1, .int .u32 a0_2, .int .u16 a0_3, .int .u16 a0_4, .int .u8 a0_5, .int .u8 a0_6] 25 (0, 0)) (by (with_reducible repeat apply mk_); exact BK241.out) hb); have n1_ := Aside0.mk (blk_below (g := gb249) (o := .cells #[.int .u8 t242, .int .u32 t243, .int .u32 t244, .int .u16 t245, .int .u16 t246, .int .u8 t247, .int .u8 t248] 25 (0, 0)) (by (with_reducible repeat apply mk_); exact BK249.out) hb); have n2_ := Aside0.mk (below_step (by repeat first | (with_reducible first | exact HB.out | apply mB | refine below_set ?_ GE241.out | refine below_set ?_ GE249.out) | exact HB.out) hb); clear BK241; clear BK249; clear HB; have BK241 := n0_; have BK249 := n1_; have HB := n2_; clear n0_ n1_ n2_; (try clear hb); (try clear hb2); (try clear hk); (try clear hi)) | ((with_reducible refine gate_dst (N := 4) rfl ?_); refine box_event ?hg (N := 4) ?hd (cs := #[.int .u32 0, .int .u32 0, .int .u16 0, .int .u16 0, .int .u8 0]) (t := 29) ?hr ?_; (case hd => rfl); (case hg => rfl); (case hr => first | (go_simp; done) | (go_simp; rfl)); intro gb256 hg w15 hbox hb; have n0_ := Aside0.mk (blk_below (g := gb241) (o := .cells #[.int .u8 a0_0, .int .u32 a0_1, .int .u32 a0_2, .int .u16 a0_3, .int .u16 a0_4, .int .u8 a0_5, .int .u8 a0_6] 25 (0, 0)) (by (with_reducible repeat apply mk_); exact BK241.out) hb); have n1_ := Aside0.mk (blk_below (g := gb249) (o := .cells #[.int .u8 t242, .int .u32 t243, .int .u32 t244, .int .u16 t245, .int .u16 t246, .int .u8 t247, .int .u8 t248] 25 (0, 0)) (by (with_reducible repeat apply mk_); exact BK249.out) hb); have n2_ := Aside0.mk (below_step (by repeat first | (with_reducible first | exact HB.out | apply mB | refine below_set ?_ GE241.out | refine below_set ?_ GE249.out) | exact HB.out) hb); have n3_ := Aside0.mk (hbox); have n4_ := Aside0.mk ((by rw [hg]; exact (below_size (by repeat first | (with_reducible first | exact HB.out | apply mB | refine below_set ?_ GE241.out | refine below_set ?_ GE249.out) | exact HB.out)) : w.heap.size ≤ gb256)); have n5_ := Aside0.mk ((by rw [hg]; exact (below_size (by repeat first | (with_reducible first | exact HB.out | apply mB | refine below_set ?_ GE241.out | refine below_set ?_ GE249.out) | exact HB.out)) : w.heap.size ≤ gb256)); have n6_ := Aside0.mk ((by rw [hg]; exact Nat.ne_of_lt (blk_lt (g := gb241) (o := .cells #[.int .u8 a0_0, .int .u32 a0_1, .int .u32 a0_2, .int .u16 a0_3, .int .u16 a0_4, .int .u8 a0_5, .int .u8 a0_6] 25 (0, 0)) (by (with_reducible repeat apply mk_); exact BK241.out)) : gb241 ≠ gb256)); have n7_ := Aside0.mk ((by rw [hg]; exact Nat.ne_of_gt (blk_lt (g := gb241) (o := .cells #[.int .u8 a0_0, .int .u32 a0_1, .int .u32 a0_2, .int .u16 a0_3, .int .u16 a0_4, .int .u8 a0_5, .int .u8 a0_6] 25 (0, 0)) (by (with_reducible repeat apply mk_); exact BK241.out)) : gb256 ≠ gb241)); have n8_ := Aside0.mk ((by rw [hg]; exact Nat.ne_of_lt (blk_lt (g := gb249) (o := .cells #[.int .u8 t242, .int .u32 t243, .int .u32 t244, .int .u16 t245, .int .u16 t246, .int .u8 t247, .int .u8 t248] 25 (0, 0)) (by (with_reducible repeat apply mk_); exact BK249.out)) : gb249 ≠ gb256)); have n9_ := Aside0.mk ((by rw [hg]; exact Nat.ne_of_gt (blk_lt (g := gb249) (o := .cells #[.int .u8 t242, .int .u32 t243, .int .u32 t244, .int .u16 t245, .int .u16 t246, .int .u8 t247, .int .u8 t248] 25 (0, 0)) (by (with_reducible repeat apply mk_); exact BK249.out)) : gb256 ≠ gb249)); clear BK241; clear BK249; clear HB; have BK241 := n0_; have BK249 := n1_; have HB := n2_; have BK256 := n3_; have GW256 := n4_; have GE256 := n5_; have NB241_256 := n6_; have NB256_241 := n7_; have NB249_256 := n8_; have NB256_249 := n9_; clear n0_ n1_ n2_ n3_ n4_ n5_ n6_ n7_ n8_ n9_; clear hb hbox hg; have hnb16 := NB256_241.out; have hnc16 := NB241_256.out; have hnb17 := NB256_249.out; have hnc17 := NB249_256.out; have hcz18_0 : w15.cell? ⟨gb256, 0, none⟩ = some (.int .u32 0) := (blk_cell BK256.out 0).trans rfl; have hcz18_1 : w15.cell? ⟨gb256, 1, none⟩ = some (.int .u32 0) := (blk_cell BK256.out 1).trans rfl; have hcz18_2 : w15.cell? ⟨gb256, 2, none⟩ = some (.int .u16 0) := (blk_cell BK256.out 2).trans rfl; have hcz18_3 : w15.cell? ⟨gb256, 3, none⟩ = some (.int .u16 0) := (blk_cell BK256.out 3).trans rfl; have hcz18_4 : w15.cell? ⟨gb256, 4, none⟩ = some (.int .u8 0) := (blk_cell BK256.out 4).trans rfl; have hfz18_0 := blk_frozen BK256.out 0; have hfz18_1 := blk_frozen BK256.out 1; have hfz18_2 := blk_frozen BK256.out 2; have hfz18_3 := blk_frozen BK256.out 3; have hfz18_4 := blk_frozen BK256.out 4) | ((with_reducible refine gate_store (t := 29) (p := 4) rfl ?_); (try (rw [drewN_self w15]; generalize hq_ : World.drewN w15 _ = w15; have n0_ := Aside0.mk (blk_at hq_ BK241.out); have n1_ := Aside0.mk (blk_at hq_ BK249.out); have n2_ := Aside0.mk (blk_at hq_ BK256.out); have n3_ := Aside0.mk (below_at hq_ HB.out); clear hq_ BK241 BK249 BK256 HB; have BK241 := n0_; have BK249 := n1_; have BK256 := n2_; have HB := n3_; clear n0_ n1_ n2_ n3_)); refine store_event (t := 29) (p := 4) (v := ?vo_w19) (w1 := (((((w15.setCell ⟨gb256, 0, none⟩ (.int .u32 t250)).setCell ⟨gb256, 1, none⟩ (.int .u32 t251)).setCell ⟨gb256, 2, none⟩ (.int .u16 t252)).setCell ⟨gb256, 3, none⟩ (.int .u16 t253)).setCell ⟨gb256, 4, none⟩ (.int .u8 t254))) ?hg ?ho ?hn ?hr ?_; (case ho => rfl); (case hg => rfl); (case hn => rfl); (case hr => first | (go_simp; done) | (go_simp; rfl) | (have hcy0_ : w15.cell? ⟨gb256, 0, none⟩ = some (.int .u32 0) := (blk_cell BK256.out 0).trans rfl; have hfy0_ := blk_frozen BK256.out 0; have hcy1_ : w15.cell? ⟨gb256, 1, none⟩ = some (.int .u32 0) := (blk_cell BK256.out 1).trans rfl; have hfy1_ := blk_frozen BK256.out 1; have hcy2_ : w15.cell? ⟨gb256, 2, none⟩ = some (.int .u16 0) := (blk_cell BK256.out 2).trans rfl; have hfy2_ := blk_frozen BK256.out 2; have hcy3_ : w15.cell? ⟨gb256, 3, none⟩ = some (.int .u16 0) := (blk_cell BK256.out 3).trans rfl; have hfy3_ := blk_frozen BK256.out 3; have hcy4_ : w15.cell? ⟨gb256, 4, none⟩ = some (.int .u8 0) := (blk_cell BK256.out 4).trans rfl; have hfy4_ := blk_frozen BK256.out 4; first | (go_simp; done) | (go_simp; rfl))); intro w19 hw; have n0_ : Aside0 (w19.heap[gb241]? = some (.cells #[.int .u8 a0_0, .int .u32 a0_1, .int .u32 a0_2, .int .u16 a0_3, .int .u16 a0_4, .int .u8 a0_5, .int .u8 a0_6] 25 (0, 0))) := ⟨(by rw [hw]; exact (by (with_reducible repeat apply mk_); refine blk_far ?_ NB241_256.out _; (with_reducible repeat apply mk_); refine blk_far ?_ NB241_256.out _; (with_reducible repeat apply mk_); refine blk_far ?_ NB241_256.out _; (with_reducible repeat apply mk_); refine blk_far ?_ NB241_256.out _; (with_reducible repeat apply mk_); refine blk_far ?_ NB241_256.out _; (with_reducible repeat apply mk_); exact BK241.out))⟩; have n1_ : Aside0 (w19.heap[gb249]? = some (.cells #[.int .u8 t242, .int .u32 t243, .int .u32 t244, .int .u16 t245, .int .u16 t246, .int .u8 t247, .int .u8 t248] 25 (0, 0))) := ⟨(by rw [hw]; exact (by (with_reducible repeat apply mk_); refine blk_far ?_ NB249_256.out _; (with_reducible repeat apply mk_); refine blk_far ?_ NB249_256.out _; (with_reducible repeat apply mk_); refine blk_far ?_ NB249_256.out _; (with_reducible repeat apply mk_); refine blk_far ?_ NB249_256.out _; (with_reducible repeat apply mk_); refine blk_far ?_ NB249_256.out _; (with_reducible repeat apply mk_); exact BK249.out))⟩; have n2_ : Aside0 (w19.heap[gb256]? = some (.cells #[.int .u32 t250, .int .u32 t251, .int .u16 t252, .int .u16 t253, .int .u8 t254] 29 (0, 0))) := ⟨(by rw [hw]; exact (by (with_reducible repeat apply mk_); refine blk_put (cs := #[.int .u32 t250, .int .u32 t251, .int .u16 t252, .int .u16 t253, .int .u8 0]) ?_ 4 _ rfl; (with_reducible repeat apply mk_); refine blk_put (cs := #[.int .u32 t250, .int .u32 t251, .int .u16 t252, .int .u16 0, .int .u8 0]) ?_ 3 _ rfl; (with_reducible repeat apply mk_); refine blk_put (cs := #[.int .u32 t250, .int .u32 t251, .int .u16 0, .int .u16 0, .int .u8 0]) ?_ 2 _ rfl; (with_reducible repeat apply mk_); refine blk_put (cs := #[.int .u32 t250, .int .u32 0, .int .u16 0, .int .u16 0, .int .u8 0]) ?_ 1 _ rfl; (with_reducible repeat apply mk_); refine blk_put (cs := #[.int .u32 0, .int .u32 0, .int .u16 0, .int .u16 0, .int .u8 0]) ?_ 0 _ rfl; (with_reducible repeat apply mk_); exact BK256.out))⟩; have n3_ : Aside0 (Below w.heap.size w w19) := ⟨(by rw [hw]; exact (by repeat first | (with_reducible first | exact HB.out | apply mB | refine below_set ?_ GE241.out | refine below_set ?_ GE249.out | refine below_set ?_ GE256.out) | exact HB.out))⟩; clear hw; clear BK241; clear BK249; clear BK256; clear HB; have BK241 := n0_; have BK249 := n1_; have BK256 := n2_; have HB := n3_; clear n0_ n1_ n2_ n3_; have hcz20_0 : w19.cell? ⟨gb249, 0, none⟩ = some (.int .u8 t242) := (blk_cell BK249.out 0).trans rfl; have hcz20_1 : w19.cell? ⟨gb249, 1, none⟩ = some (.int .u32 t243) := (blk_cell BK249.out 1).trans rfl; have hcz20_2 : w19.cell? ⟨gb249, 2, none⟩ = some (.int .u32 t244) := (blk_cell BK249.out 2).trans rfl; have hcz20_3 : w19.cell? ⟨gb249, 3, none⟩ = some (.int .u16 t245) := (blk_cell BK249.out 3).trans rfl; have hcz20_4 : w19.cell? ⟨gb249, 4, none⟩ = some (.int .u16 t246) := (blk_cell BK249.out 4).trans rfl; have hcz20_5 : w19.cell? ⟨gb249, 5, none⟩ = some (.int .u8 t247) := (blk_cell BK249.out 5).trans rfl; have hcz20_6 : w19.cell? ⟨gb249, 6, none⟩ = some (.int .u8 t248) := (blk_cell BK249.out 6).trans rfl; have hfz20_0 := blk_frozen BK249.out 0; have hfz20_1 := blk_frozen BK249.out 1; have hfz20_2 := blk_frozen BK249.out 2; have hfz20_3 := blk_frozen BK249.out 3; have hfz20_4 := blk_frozen BK249.out 4; have hfz20_5 := blk_frozen BK249.out 5; have hfz20_6 := blk_frozen BK249.out 6) | ((with_reducible refine gate_callee (f := 8) rfl ?_); refine goesL_ (some 18) rfl rfl Try.func8 (by kernel_rfl) rfl #[.agg #[.int .u8 t242, .int .u32 t243, .int .u32 t244, .int .u16 t245, .int .u16 t246, .int .u8 t247, .int .u8 t248]] rfl (by (try simp only [List.map_toArray, List.map_cons, List.map_nil]); first | done | rfl) ?_; (with_reducible refine (key_Of.calls k t242 t243 t244 t245 t246 t247 t248 t257 t258 t259 t260 t261 t262 _ A4.out).mono ?_); rintro e w21 ⟨rfl, hb⟩; refine ⟨_, rfl, ?_⟩; have n0_ := Aside0.mk (blk_below (g := gb241) (o := .cells #[.int .u8 a0_0, .int .u32 a0_1, .int .u32 a0_2, .int .u16 a0_3, .int .u16 a0_4, .int .u8 a0_5, .int .u8 a0_6] 25 (0, 0)) (by (with_reducible repeat apply mk_); exact BK241.out) hb); have n1_ := Aside0.mk (blk_below (g := gb249) (o := .cells #[.int .u8 t242, .int .u32 t243, .int .u32 t244, .int .u16 t245, .int .u16 t246, .int .u8 t247, .int .u8 t248] 25 (0, 0)) (by (with_reducible repeat apply mk_); exact BK249.out) hb); have n2_ := Aside0.mk (blk_below (g := gb256) (o := .cells #[.int .u32 t250, .int .u32 t251, .int .u16 t252, .int .u16 t253, .int .u8 t254] 29 (0, 0)) (by (with_reducible repeat apply mk_); exact BK256.out) hb); have n3_ := Aside0.mk (below_step (by repeat first | (with_reducible first | exact HB.out | apply mB | refine below_set ?_ GE241.out | refine below_set ?_ GE249.out | refine below_set ?_ GE256.out) | exact HB.out) hb); clear BK241; clear BK249; clear BK256; clear HB; have BK241 := n0_; have BK249 := n1_; have BK256 := n2_; have HB := n3_; clear n0_ n1_ n2_ n3_; (try clear hb); (try clear hb2); (try clear hk); (try clear hi)) | ((with_reducible refine gate_dst (N := 6) rfl ?_); refine box_event ?hg (N := 6) ?hd (cs := #[.int .u32 0, .int .u32 0, .int .u16 0, .int .u16 0, .int .u8 0]) (t := 29) ?hr ?_; (case hd => rfl); (case hg => rfl); (case hr => first | (go_simp; done) | (go_simp; rfl)); intro gb263 hg w22 hbox hb; have n0_ := Aside0.mk (blk_below (g := gb241) (o := .cells #[.int .u8 a0_0, .int .u32 a0_1, .int .u32 a0_2, .int .u16 a0_3, .int .u16 a0_4, .int .u8 a0_5, .int .u8 a0_6] 25 (0, 0)) (by (with_reducible repeat apply mk_); exact BK241.out) hb); have n1_ := Aside0.mk (blk_below (g := gb249) (o := .cells #[.int .u8 t242, .int .u32 t243, .int .u32 t244, .int .u16 t245, .int .u16 t246, .int .u8 t247, .int .u8 t248] 25 (0, 0)) (by (with_reducible repeat apply mk_); exact BK249.out) hb); have n2_ := Aside0.mk (blk_below (g := gb256) (o := .cells #[.int .u32 t250, .int .u32 t251, .int .u16 t252, .int .u16 t253, .int .u8 t254] 29 (0, 0)) (by (with_reducible repeat apply mk_); exact BK256.out) hb); have n3_ := Aside0.mk (below_step (by repeat first | (with_reducible first | exact HB.out | apply mB | refine below_set ?_ GE241.out | refine below_set ?_ GE249.out | refine below_set ?_ GE256.out) | exact HB.out) hb); have n4_ := Aside0.mk (hbox); have n5_ := Aside0.mk ((by rw [hg]; exact (below_size (by repeat first | (with_reducible first | exact HB.out | apply mB | refine below_set ?_ GE241.out | refine below_set ?_ GE249.out | refine below_set ?_ GE256.out) | exact HB.out)) : w.heap.size ≤ gb263)); have n6_ := Aside0.mk ((by rw [hg]; exact (below_size (by repeat first | (with_reducible first | exact HB.out | apply mB | refine below_set ?_ GE241.out | refine below_set ?_ GE249.out | refine below_set ?_ GE256.out) | exact HB.out)) : w.heap.size ≤ gb263)); have n7_ := Aside0.mk ((by rw [hg]; exact Nat.ne_of_lt (blk_lt (g := gb241) (o := .cells #[.int .u8 a0_0, .int .u32 a0_1, .int .u32 a0_2, .int .u16 a0_3, .int .u16 a0_4, .int .u8 a0_5, .int .u8 a0_6] 25 (0, 0)) (by (with_reducible repeat apply mk_); exact BK241.out)) : gb241 ≠ gb263)); have n8_ := Aside0.mk ((by rw [hg]; exact Nat.ne_of_gt (blk_lt (g := gb241) (o := .cells #[.int .u8 a0_0, .int .u32 a0_1, .int .u32 a0_2, .int .u16 a0_3, .int .u16 a0_4, .int .u8 a0_5, .int .u8 a0_6] 25 (0, 0)) (by (with_reducible repeat apply mk_); exact BK241.out)) : gb263 ≠ gb241)); have n9_ := Aside0.mk ((by rw [hg]; exact Nat.ne_of_lt (blk_lt (g := gb249) (o := .cells #[.int .u8 t242, .int .u32 t243, .int .u32 t244, .int .u16 t245, .int .u16 t246, .int .u8 t247, .int .u8 t248] 25 (0, 0)) (by (with_reducible repeat apply mk_); exact BK249.out)) : gb249 ≠ gb263)); have n10_ := Aside0.mk ((by rw [hg]; exact Nat.ne_of_gt (blk_lt (g := gb249) (o := .cells #[.int .u8 t242, .int .u32 t243, .int .u32 t244, .int .u16 t245, .int .u16 t246, .int .u8 t247, .int .u8 t248] 25 (0, 0)) (by (with_reducible repeat apply mk_); exact BK249.out)) : gb263 ≠ gb249)); have n11_ := Aside0.mk ((by rw [hg]; exact Nat.ne_of_lt (blk_lt (g := gb256) (o := .cells #[.int .u32 t250, .int .u32 t251, .int .u16 t252, .int .u16 t253, .int .u8 t254] 29 (0, 0)) (by (with_reducible repeat apply mk_); exact BK256.out)) : gb256 ≠ gb263)); have n12_ := Aside0.mk ((by rw [hg]; exact Nat.ne_of_gt (blk_lt (g := gb256) (o := .cells #[.int .u32 t250, .int .u32 t251, .int .u16 t252, .int .u16 t253, .int .u8 t254] 29 (0, 0)) (by (with_reducible repeat apply mk_); exact BK256.out)) : gb263 ≠ gb256)); clear BK241; clear BK249; clear BK256; clear HB; have BK241 := n0_; have BK249 := n1_; have BK256 := n2_; have HB := n3_; have BK263 := n4_; have GW263 := n5_; have GE263 := n6_; have NB241_263 := n7_; have NB263_241 := n8_; have NB249_263 := n9_; have NB263_249 := n10_; have NB256_263 := n11_; have NB263_256 := n12_; clear n0_ n1_ n2_ n3_ n4_ n5_ n6_ n7_ n8_ n9_ n10_ n11_ n12_; clear hb hbox hg; have hnb23 := NB263_241.out; have hnc23 := NB241_263.out; have hnb24 := NB263_249.out; have hnc24 := NB249_263.out; have hnb25 := NB263_256.out; have hnc25 := NB256_263.out; have hcz26_0 : w22.cell? ⟨gb263, 0, none⟩ = some (.int .u32 0) := (blk_cell BK263.out 0).trans rfl; have hcz26_1 : w22.cell? ⟨gb263, 1, none⟩ = some (.int .u32 0) := (blk_cell BK263.out 1).trans rfl; have hcz26_2 : w22.cell? ⟨gb263, 2, none⟩ = some (.int .u16 0) := (blk_cell BK263.out 2).trans rfl; have hcz26_3 : w22.cell? ⟨gb263, 3, none⟩ = some (.int .u16 0) := (blk_cell BK263.out 3).trans rfl; have hcz26_4 : w22.cell? ⟨gb263, 4, none⟩ = some (.int .u8 0) := (blk_cell BK263.out 4).trans rfl; have hfz26_0 := blk_frozen BK263.out 0; have hfz26_1 := blk_frozen BK263.out 1; have hfz26_2 := blk_frozen BK263.out 2; have hfz26_3 := blk_frozen BK263.out 3; have hfz26_4 := blk_frozen BK263.out 4) | ((with_reducible refine gate_store (t := 29) (p := 6) rfl ?_); (try (rw [drewN_self w22]; generalize hq_ : World.drewN w22 _ = w22; have n0_ := Aside0.mk (blk_at hq_ BK241.out); have n1_ := Aside0.mk (blk_at hq_ BK249.out); have n2_ := Aside0.mk (blk_at hq_ BK256.out); have n3_ := Aside0.mk (blk_at hq_ BK263.out); have n4_ := Aside0.mk (below_at hq_ HB.out); clear hq_ BK241 BK249 BK256 BK263 HB; have BK241 := n0_; have BK249 := n1_; have BK256 := n2_; have BK263 := n3_; have HB := n4_; clear n0_ n1_ n2_ n3_ n4_)); refine store_event (t := 29) (p := 6) (v := ?vo_w27) (w1 := (((((w22.setCell ⟨gb263, 0, none⟩ (.int .u32 t257)).setCell ⟨gb263, 1, none⟩ (.int .u32 t258)).setCell ⟨gb263, 2, none⟩ (.int .u16 t259)).setCell ⟨gb263, 3, none⟩ (.int .u16 t260)).setCell ⟨gb263, 4, none⟩ (.int .u8 t261))) ?hg ?ho ?hn ?hr ?_; (case ho => rfl); (case hg => rfl); (case hn => rfl); (case hr => first | (go_simp; done) | (go_simp; rfl) | (have hcy0_ : w22.cell? ⟨gb263, 0, none⟩ = some (.int .u32 0) := (blk_cell BK263.out 0).trans rfl; have hfy0_ := blk_frozen BK263.out 0; have hcy1_ : w22.cell? ⟨gb263, 1, none⟩ = some (.int .u32 0) := (blk_cell BK263.out 1).trans rfl; have hfy1_ := blk_frozen BK263.out 1; have hcy2_ : w22.cell? ⟨gb263, 2, none⟩ = some (.int .u16 0) := (blk_cell BK263.out 2).trans rfl; have hfy2_ := blk_frozen BK263.out 2; have hcy3_ : w22.cell? ⟨gb263, 3, none⟩ = some (.int .u16 0) := (blk_cell BK263.out 3).trans rfl; have hfy3_ := blk_frozen BK263.out 3; have hcy4_ : w22.cell? ⟨gb263, 4, none⟩ = some (.int .u8 0) := (blk_cell BK263.out 4).trans rfl; have hfy4_ := blk_frozen BK263.out 4; first | (go_simp; done) | (go_simp; rfl))); intro w27 hw; have n0_ : Aside0 (w27.heap[gb241]? = some (.cells #[.int .u8 a0_0, .int .u32 a0_1, .int .u32 a0_2, .int .u16 a0_3, .int .u16 a0_4, .int .u8 a0_5, .int .u8 a0_6] 25 (0, 0))) := ⟨(by rw [hw]; exact (by (with_reducible repeat apply mk_); refine blk_far ?_ NB241_263.out _; (with_reducible repeat apply mk_); refine blk_far ?_ NB241_263.out _; (with_reducible repeat apply mk_); refine blk_far ?_ NB241_263.out _; (with_reducible repeat apply mk_); refine blk_far ?_ NB241_263.out _; (with_reducible repeat apply mk_); refine blk_far ?_ NB241_263.out _; (with_reducible repeat apply mk_); exact BK241.out))⟩; have n1_ : Aside0 (w27.heap[gb249]? = some (.cells #[.int .u8 t242, .int .u32 t243, .int .u32 t244, .int .u16 t245, .int .u16 t246, .int .u8 t247, .int .u8 t248] 25 (0, 0))) := ⟨(by rw [hw]; exact (by (with_reducible repeat apply mk_); refine blk_far ?_ NB249_263.out _; (with_reducible repeat apply mk_); refine blk_far ?_ NB249_263.out _; (with_reducible repeat apply mk_); refine blk_far ?_ NB249_263.out _; (with_reducible repeat apply mk_); refine blk_far ?_ NB249_263.out _; (with_reducible repeat apply mk_); refine blk_far ?_ NB249_263.out _; (with_reducible repeat apply mk_); exact BK249.out))⟩; have n2_ : Aside0 (w27.heap[gb256]? = some (.cells #[.int .u32 t250, .int .u32 t251, .int .u16 t252, .int .u16 t253, .int .u8 t254] 29 (0, 0))) := ⟨(by rw [hw]; exact (by (with_reducible repeat apply mk_); refine blk_far ?_ NB256_263.out _; (with_reducible repeat apply mk_); refine blk_far ?_ NB256_263.out _; (with_reducible repeat apply mk_); refine blk_far ?_ NB256_263.out _; (with_reducible repeat apply mk_); refine blk_far ?_ NB256_263.out _; (with_reducible repeat apply mk_); refine blk_far ?_ NB256_263.out _; (with_reducible repeat apply mk_); exact BK256.out))⟩; have n3_ : Aside0 (w27.heap[gb263]? = some (.cells #[.int .u32 t257, .int .u32 t258, .int .u16 t259, .int .u16 t260, .int .u8 t261] 29 (0, 0))) := ⟨(by rw [hw]; exact (by (with_reducible repeat apply mk_); refine blk_put (cs := #[.int .u32 t257, .int .u32 t258, .int .u16 t259, .int .u16 t260, .int .u8 0]) ?_ 4 _ rfl; (with_reducible repeat apply mk_); refine blk_put (cs := #[.int .u32 t257, .int .u32 t258, .int .u16 t259, .int .u16 0, .int .u8 0]) ?_ 3 _ rfl; (with_reducible repeat apply mk_); refine blk_put (cs := #[.int .u32 t257, .int .u32 t258, .int .u16 0, .int .u16 0, .int .u8 0]) ?_ 2 _ rfl; (with_reducible repeat apply mk_); refine blk_put (cs := #[.int .u32 t257, .int .u32 0, .int .u16 0, .int .u16 0, .int .u8 0]) ?_ 1 _ rfl; (with_reducible repeat apply mk_); refine blk_put (cs := #[.int .u32 0, .int .u32 0, .int .u16 0, .int .u16 0, .int .u8 0]) ?_ 0 _ rfl; (with_reducible repeat apply mk_); exact BK263.out))⟩; have n4_ : Aside0 (Below w.heap.size w w27) := ⟨(by rw [hw]; exact (by repeat first | (with_reducible first | exact HB.out | apply mB | refine below_set ?_ GE241.out | refine below_set ?_ GE249.out | refine below_set ?_ GE256.out | refine below_set ?_ GE263.out) | exact HB.out))⟩; clear hw; clear BK241; clear BK249; clear BK256; clear BK263; clear HB; have BK241 := n0_; have BK249 := n1_; have BK256 := n2_; have BK263 := n3_; have HB := n4_; clear n0_ n1_ n2_ n3_ n4_))
 (try simp only [Act.put, List.setIfInBounds_toArray, List.set_cons_zero, List.set_cons_succ])
 go_cut [8] (fun v8 wc => ∃ (kq : Nat) (x8_4 : Bool), v8 = .bool x8_4 ∧ Aside0 (mantletlaw10_KeyTurns.j0 kq t255 t262 x8_4 a0_0 a0_1 a0_2 a0_3 a0_4 a0_5 a0_6 t242 t243 t244 t245 t246 t247 t248 t250 t251 t252 t253 t254 t257 t258 t259 t260 t261 = some r) ∧ Aside0 (kq ≤ k) ∧ Aside0 (wc.heap[gb241]? = some (.cells #[.int .u8 a0_0, .int .u32 a0_1, .int .u32 a0_2, .int .u16 a0_3, .int .u16 a0_4, .int .u8 a0_5, .int .u8 a0_6] 25 (0, 0))) ∧ Aside0 (wc.heap[gb249]? = some (.cells #[.int .u8 t242, .int .u32 t243, .int .u32 t244, .int .u16 t245, .int .u16 t246, .int .u8 t247, .int .u8 t248] 25 (0, 0))) ∧ Aside0 (wc.heap[gb256]? = some (.cells #[.int .u32 t250, .int .u32 t251, .int .u16 t252, .int .u16 t253, .int .u8 t254] 29 (0, 0))) ∧ Aside0 (wc.heap[gb263]? = some (.cells #[.int .u32 t257, .int .u32 t258, .int .u16 t259, .int .u16 t260, .int .u8 t261] 29 (0, 0))) ∧ Aside0 (Below w.heap.size w wc))
 case first =>
  have H := HC5.out
  clear HC5
  by_cases c28 : a0_1 = a0_2
  ·rw [if_pos c28] at H
   have c28b0 : (a0_1 == a0_2) = true := beq_iff_eq.mpr c28
   have c28b1 : (a0_1 != a0_2) = false := bne_eq_false_iff_eq.mpr c28
   clear c28
   (first | rw [c28b0] | (simp only [i64_w, i32_w]; rw [c28b0]) | skip)
   have H' := Aside0.mk H
   clear H
   have hnb29 := NB241_249.out
   have hnc29 := NB249_241.out
   have hnb30 := NB241_256.out
   have hnc30 := NB256_241.out
   have hnb31 := NB241_263.out
   have hnc31 := NB263_241.out
   have hcz32_0 : w27.cell? ⟨gb241, 0, none⟩ = some (.int .u8 a0_0) := (blk_cell BK241.out 0).trans rfl
   have hcz32_1 : w27.cell? ⟨gb241, 1, none⟩ = some (.int .u32 a0_1) := (blk_cell BK241.out 1).trans rfl
   have hcz32_2 : w27.cell? ⟨gb241, 2, none⟩ = some (.int .u32 a0_2) := (blk_cell BK241.out 2).trans rfl
   have hcz32_3 : w27.cell? ⟨gb241, 3, none⟩ = some (.int .u16 a0_3) := (blk_cell BK241.out 3).trans rfl
   have hcz32_4 : w27.cell? ⟨gb241, 4, none⟩ = some (.int .u16 a0_4) := (blk_cell BK241.out 4).trans rfl
   have hcz32_5 : w27.cell? ⟨gb241, 5, none⟩ = some (.int .u8 a0_5) := (blk_cell BK241.out 5).trans rfl
   have hcz32_6 : w27.cell? ⟨gb241, 6, none⟩ = some (.int .u8 a0_6) := (blk_cell BK241.out 6).trans rfl
   have hfz32_0 := blk_frozen BK241.out 0
   have hfz32_1 := blk_frozen BK241.out 1
   have hfz32_2 := blk_frozen BK241.out 2
   have hfz32_3 := blk_frozen BK241.out 3
   have hfz32_4 := blk_frozen BK241.out 4
   have hfz32_5 := blk_frozen BK241.out 5
   have hfz32_6 := blk_frozen BK241.out 6
   go_wp2
   go_meet
   case rel => exact ⟨_, ((a0_3 == a0_4)), (by first | rfl | (simp; done) | (simp [*]; done)), H', ⟨by first | omega | exact Nat.le_refl _⟩, ⟨by (with_reducible repeat apply mk_); exact BK241.out⟩, ⟨by (with_reducible repeat apply mk_); exact BK249.out⟩, ⟨by (with_reducible repeat apply mk_); exact BK256.out⟩, ⟨by (with_reducible repeat apply mk_); exact BK263.out⟩, ⟨by repeat first | (with_reducible first | exact HB.out | apply mB | refine below_set ?_ GE241.out | refine below_set ?_ GE249.out | refine below_set ?_ GE256.out | refine below_set ?_ GE263.out) | exact HB.out⟩⟩
  ·rw [if_neg c28] at H
   have c28b0 : (a0_1 == a0_2) = false := beq_eq_false_iff_ne.mpr c28
   have c28b1 : (a0_1 != a0_2) = true := bne_iff_ne.mpr c28
   (first | rw [c28b0] | (simp only [i64_w, i32_w]; rw [c28b0]) | skip)
   have H' := Aside0.mk H
   clear H
   have hnb33 := NB241_249.out
   have hnc33 := NB249_241.out
   have hnb34 := NB241_256.out
   have hnc34 := NB256_241.out
   have hnb35 := NB241_263.out
   have hnc35 := NB263_241.out
   have hcz36_0 : w27.cell? ⟨gb241, 0, none⟩ = some (.int .u8 a0_0) := (blk_cell BK241.out 0).trans rfl
   have hcz36_1 : w27.cell? ⟨gb241, 1, none⟩ = some (.int .u32 a0_1) := (blk_cell BK241.out 1).trans rfl
   have hcz36_2 : w27.cell? ⟨gb241, 2, none⟩ = some (.int .u32 a0_2) := (blk_cell BK241.out 2).trans rfl
   have hcz36_3 : w27.cell? ⟨gb241, 3, none⟩ = some (.int .u16 a0_3) := (blk_cell BK241.out 3).trans rfl
   have hcz36_4 : w27.cell? ⟨gb241, 4, none⟩ = some (.int .u16 a0_4) := (blk_cell BK241.out 4).trans rfl
   have hcz36_5 : w27.cell? ⟨gb241, 5, none⟩ = some (.int .u8 a0_5) := (blk_cell BK241.out 5).trans rfl
   have hcz36_6 : w27.cell? ⟨gb241, 6, none⟩ = some (.int .u8 a0_6) := (blk_cell BK241.out 6).trans rfl
   have hfz36_0 := blk_frozen BK241.out 0
   have hfz36_1 := blk_frozen BK241.out 1
   have hfz36_2 := blk_frozen BK241.out 2
   have hfz36_3 := blk_frozen BK241.out 3
   have hfz36_4 := blk_frozen BK241.out 4
   have hfz36_5 := blk_frozen BK241.out 5
   have hfz36_6 := blk_frozen BK241.out 6
   go_wp2
   go_meet
   case rel => exact ⟨_, (false), (by first | rfl | (simp; done) | (simp [*]; done)), H', ⟨by first | omega | exact Nat.le_refl _⟩, ⟨by (with_reducible repeat apply mk_); exact BK241.out⟩, ⟨by (with_reducible repeat apply mk_); exact BK249.out⟩, ⟨by (with_reducible repeat apply mk_); exact BK256.out⟩, ⟨by (with_reducible repeat apply mk_); exact BK263.out⟩, ⟨by repeat first | (with_reducible first | exact HB.out | apply mB | refine below_set ?_ GE241.out | refine below_set ?_ GE249.out | refine below_set ?_ GE256.out | refine below_set ?_ GE263.out) | exact HB.out⟩⟩
 case rest =>
  clear HC5
  (try clear hcz11_0); (try clear hcz11_1); (try clear hcz11_2); (try clear hcz11_3); (try clear hcz11_4); (try clear hcz11_5); (try clear hcz11_6); (try clear hcz13_0); (try clear hcz13_1); (try clear hcz13_2); (try clear hcz13_3); (try clear hcz13_4)
  (try clear hcz13_5); (try clear hcz13_6); (try clear hcz18_0); (try clear hcz18_1); (try clear hcz18_2); (try clear hcz18_3); (try clear hcz18_4); (try clear hcz20_0); (try clear hcz20_1); (try clear hcz20_2); (try clear hcz20_3); (try clear hcz20_4)
  (try clear hcz20_5); (try clear hcz20_6); (try clear hcz26_0); (try clear hcz26_1); (try clear hcz26_2); (try clear hcz26_3); (try clear hcz26_4); (try clear hcz7_0); (try clear hcz7_1); (try clear hcz7_2); (try clear hcz7_3); (try clear hcz7_4)
  (try clear hcz7_5); (try clear hcz7_6); (try clear hfz11_0); (try clear hfz11_1); (try clear hfz11_2); (try clear hfz11_3); (try clear hfz11_4); (try clear hfz11_5); (try clear hfz11_6); (try clear hfz13_0); (try clear hfz13_1); (try clear hfz13_2)
  (try clear hfz13_3); (try clear hfz13_4); (try clear hfz13_5); (try clear hfz13_6); (try clear hfz18_0); (try clear hfz18_1); (try clear hfz18_2); (try clear hfz18_3); (try clear hfz18_4); (try clear hfz20_0); (try clear hfz20_1); (try clear hfz20_2)
  (try clear hfz20_3); (try clear hfz20_4); (try clear hfz20_5); (try clear hfz20_6); (try clear hfz26_0); (try clear hfz26_1); (try clear hfz26_2); (try clear hfz26_3); (try clear hfz26_4); (try clear hfz7_0); (try clear hfz7_1); (try clear hfz7_2)
  (try clear hfz7_3); (try clear hfz7_4); (try clear hfz7_5); (try clear hfz7_6)
  obtain ⟨kq, x8_4, rfl, HA, HJ4, BK241, BK249, BK256, BK263, HB⟩ := hcut
  cases kq with
  | zero => exact absurd HA.out (by simp [mantletlaw10_KeyTurns.j0])
  | succ kj4 =>
   have H := HA.out
   clear HA
   simp only [mantletlaw10_KeyTurns.j0] at H
   replace H := Option.bind_eq_some_iff.mp H
   obtain ⟨t264, A370, H⟩ := H
   replace H : (if t264 = true then (if ((t250 == t257 && (t251 == t258)) && ((t252 == t259 && (t253 == t260)) && (t254 == t261))) = true then (if ((t255 != t262) == (!x8_4)) = true then ((key_Turn.f t242 t243 t244 t245 t246 t247 t248).bind fun bt265 => (if (bt265.1 == a0_0 && (bt265.2.1 == a0_1 && (bt265.2.2.1 == a0_2 && (bt265.2.2.2.1 == a0_3 && (bt265.2.2.2.2.1 == a0_4 && (bt265.2.2.2.2.2.1 == a0_5 && (bt265.2.2.2.2.2.2 == a0_6))))))) = true then (if t250 < t251 then (some true) else (if t250 = t251 then (some (decide (t252 ≤ t253))) else (some false))) else (some false))) else (some false)) else (some false)) else (some false)) = some r := H
   have A37 := Aside0.mk A370
   clear A370
   by_cases c38 : t264 = true
   ·subst c38
    have H1 : (if ((t250 == t257 && (t251 == t258)) && ((t252 == t259 && (t253 == t260)) && (t254 == t261))) = true then (if ((t255 != t262) == (!x8_4)) = true then ((key_Turn.f t242 t243 t244 t245 t246 t247 t248).bind fun bt265 => (if (bt265.1 == a0_0 && (bt265.2.1 == a0_1 && (bt265.2.2.1 == a0_2 && (bt265.2.2.2.1 == a0_3 && (bt265.2.2.2.2.1 == a0_4 && (bt265.2.2.2.2.2.1 == a0_5 && (bt265.2.2.2.2.2.2 == a0_6))))))) = true then (if t250 < t251 then (some true) else (if t250 = t251 then (some (decide (t252 ≤ t253))) else (some false))) else (some false))) else (some false)) else (some false)) = some r := by rw [if_pos rfl] at H; exact H
    clear H
    have H := H1
    clear H1
    by_cases c39 : ((t250 == t257 && (t251 == t258)) && ((t252 == t259 && (t253 == t260)) && (t254 == t261))) = true
    ·rw [if_pos c39] at H
     have c39b0 : ((t250 == t257 && (t251 == t258)) && ((t252 == t259 && (t253 == t260)) && (t254 == t261))) = true := c39
     clear c39
     by_cases c40 : ((t255 != t262) == (!x8_4)) = true
     ·rw [if_pos c40] at H
      have c40b0 : ((t255 != t262) == (!x8_4)) = true := c40
      (try (have c40b1 : decide ((t255 != t262) = (!x8_4)) = true := by simpa using c40))
      (try (have c40b2 : ((t255 != t262) == (!x8_4)) = true := by simpa using c40))
      (try (have c40b3 : ((!(t255 == t262)) == (!x8_4)) = true := c40))
      clear c40
      replace H := Option.bind_eq_some_iff.mp H
      obtain ⟨⟨t265, t266, t267, t268, t269, t270, t271⟩, A410, H⟩ := H
      replace H : (if (t265 == a0_0 && (t266 == a0_1 && (t267 == a0_2 && (t268 == a0_3 && (t269 == a0_4 && (t270 == a0_5 && (t271 == a0_6))))))) = true then (if t250 < t251 then (some true) else (if t250 = t251 then (some (decide (t252 ≤ t253))) else (some false))) else (some false)) = some r := H
      have A41 := Aside0.mk A410
      clear A410
      by_cases c42 : (t265 == a0_0 && (t266 == a0_1 && (t267 == a0_2 && (t268 == a0_3 && (t269 == a0_4 && (t270 == a0_5 && (t271 == a0_6))))))) = true
      ·rw [if_pos c42] at H
       have c42b0 : (t265 == a0_0 && (t266 == a0_1 && (t267 == a0_2 && (t268 == a0_3 && (t269 == a0_4 && (t270 == a0_5 && (t271 == a0_6))))))) = true := c42
       (try (have c42b1 : decide (t265 = a0_0 && (t266 == a0_1 && (t267 == a0_2 && (t268 == a0_3 && (t269 == a0_4 && (t270 == a0_5 && (t271 == a0_6))))))) = true := by simpa using c42))
       (try (have c42b2 : (t265 == a0_0 && (t266 == a0_1 && (t267 == a0_2 && (t268 == a0_3 && (t269 == a0_4 && (t270 == a0_5 && (t271 == a0_6))))))) = true := by simpa using c42))
       clear c42
       by_cases c43 : t250 < t251
       ·rw [if_pos c43] at H
        have c43b0 : decide (t250 < t251) = true := decide_eq_true c43
        clear c43
        obtain rfl := Option.some.inj H
        try go_wp2
        have n0_ := Aside0.mk (blk_drew BK241.out)
        have n1_ := Aside0.mk (blk_drew BK249.out)
        have n2_ := Aside0.mk (blk_drew BK256.out)
        have n3_ := Aside0.mk (blk_drew BK263.out)
        have n4_ := Aside0.mk (below_drew1 HB.out)
        clear BK241
        clear BK249
        clear BK256
        clear BK263
        clear HB
        have BK241 := n0_
        have BK249 := n1_
        have BK256 := n2_
        have BK263 := n3_
        have HB := n4_
        clear n0_ n1_ n2_ n3_ n4_
        refine start_ (n := 48) (S := fun w' => w'.cell? ⟨gb256, 0, none⟩ = some (.int .u32 t250) ∧ w'.cell? ⟨gb256, 1, none⟩ = some (.int .u32 t251) ∧ w'.cell? ⟨gb256, 2, none⟩ = some (.int .u16 t252) ∧ w'.cell? ⟨gb256, 3, none⟩ = some (.int .u16 t253) ∧ w'.cell? ⟨gb256, 4, none⟩ = some (.int .u8 t254) ∧ w'.cell? ⟨gb263, 0, none⟩ = some (.int .u32 t257) ∧ w'.cell? ⟨gb263, 1, none⟩ = some (.int .u32 t258) ∧ w'.cell? ⟨gb263, 2, none⟩ = some (.int .u16 t259) ∧ w'.cell? ⟨gb263, 3, none⟩ = some (.int .u16 t260) ∧ w'.cell? ⟨gb263, 4, none⟩ = some (.int .u8 t261) ∧ w'.cell? ⟨gb249, 0, none⟩ = some (.int .u8 t242) ∧ w'.cell? ⟨gb249, 1, none⟩ = some (.int .u32 t243) ∧ w'.cell? ⟨gb249, 2, none⟩ = some (.int .u32 t244) ∧ w'.cell? ⟨gb249, 3, none⟩ = some (.int .u16 t245) ∧ w'.cell? ⟨gb249, 4, none⟩ = some (.int .u16 t246) ∧ w'.cell? ⟨gb249, 5, none⟩ = some (.int .u8 t247) ∧ w'.cell? ⟨gb249, 6, none⟩ = some (.int .u8 t248) ∧ w'.cell? ⟨gb241, 0, none⟩ = some (.int .u8 a0_0) ∧ w'.cell? ⟨gb241, 1, none⟩ = some (.int .u32 a0_1) ∧ w'.cell? ⟨gb241, 2, none⟩ = some (.int .u32 a0_2) ∧ w'.cell? ⟨gb241, 3, none⟩ = some (.int .u16 a0_3) ∧ w'.cell? ⟨gb241, 4, none⟩ = some (.int .u16 a0_4) ∧ w'.cell? ⟨gb241, 5, none⟩ = some (.int .u8 a0_5) ∧ w'.cell? ⟨gb241, 6, none⟩ = some (.int .u8 a0_6)) (ds := []) #[false, false, false, false, false, false, false, false, false, false, false, false, false, false, false, false, false, false, false, false, false, false, false, false, false, false, false, false, false, false, false, false, false, false, false, false, false, false, false, false, false, false, false, false, false, false, false, false] (by kernel_rfl) rfl rfl ⟨(blk_cell BK256.out 0).trans rfl, (blk_cell BK256.out 1).trans rfl, (blk_cell BK256.out 2).trans rfl, (blk_cell BK256.out 3).trans rfl, (blk_cell BK256.out 4).trans rfl, (blk_cell BK263.out 0).trans rfl, (blk_cell BK263.out 1).trans rfl, (blk_cell BK263.out 2).trans rfl, (blk_cell BK263.out 3).trans rfl, (blk_cell BK263.out 4).trans rfl, (blk_cell BK249.out 0).trans rfl, (blk_cell BK249.out 1).trans rfl, (blk_cell BK249.out 2).trans rfl, (blk_cell BK249.out 3).trans rfl, (blk_cell BK249.out 4).trans rfl, (blk_cell BK249.out 5).trans rfl, (blk_cell BK249.out 6).trans rfl, (blk_cell BK241.out 0).trans rfl, (blk_cell BK241.out 1).trans rfl, (blk_cell BK241.out 2).trans rfl, (blk_cell BK241.out 3).trans rfl, (blk_cell BK241.out 4).trans rfl, (blk_cell BK241.out 5).trans rfl, (blk_cell BK241.out 6).trans rfl⟩ (fun hHeld => ?_); refine with_tabW mantletlaw10_KeyTurns.tab5 mantletlaw10_KeyTurns.bits5 (fun HT_ HW_ => ?_)
        generalize wc.drew = w44 at BK241 BK249 BK256 BK263 HB hHeld ⊢
        refine one_ (i := 0) (N := some 33) #[true, false, false, false, false, false, false, false, false, false, false, false, false, false, false, false, false, false, false, false, false, false, false, false, false, false, false, false, false, false, false, false, false, false, false, false, false, false, false, false, false, false, false, false, false, false, false, false] rfl rfl (one_of HT_.out (by kernel_rfl)) (by decide) (fun K hK => ?_)
        refine goes_ Try.func10 (by kernel_rfl) rfl #[] (by rfl) rfl rfl (by (try simp only [List.map_toArray, List.map_cons, List.map_nil]); first | done | rfl) ?_
        with_reducible refine (mantletlaw10_awake.calls kj4  true _ A37.out).mono ?_
        rintro e w45 ⟨rfl, hb⟩
        refine ⟨_, rfl, ?_⟩
        have n0_ := Aside0.mk (blk_below (g := gb241) (o := .cells #[.int .u8 a0_0, .int .u32 a0_1, .int .u32 a0_2, .int .u16 a0_3, .int .u16 a0_4, .int .u8 a0_5, .int .u8 a0_6] 25 (0, 0)) (by (with_reducible repeat apply mk_); exact BK241.out) hb)
        have n1_ := Aside0.mk (blk_below (g := gb249) (o := .cells #[.int .u8 t242, .int .u32 t243, .int .u32 t244, .int .u16 t245, .int .u16 t246, .int .u8 t247, .int .u8 t248] 25 (0, 0)) (by (with_reducible repeat apply mk_); exact BK249.out) hb)
        have n2_ := Aside0.mk (blk_below (g := gb256) (o := .cells #[.int .u32 t250, .int .u32 t251, .int .u16 t252, .int .u16 t253, .int .u8 t254] 29 (0, 0)) (by (with_reducible repeat apply mk_); exact BK256.out) hb)
        have n3_ := Aside0.mk (blk_below (g := gb263) (o := .cells #[.int .u32 t257, .int .u32 t258, .int .u16 t259, .int .u16 t260, .int .u8 t261] 29 (0, 0)) (by (with_reducible repeat apply mk_); exact BK263.out) hb)
        have n4_ := Aside0.mk (below_step (by repeat first | (with_reducible first | exact HB.out | apply mB | refine below_set ?_ GE241.out | refine below_set ?_ GE249.out | refine below_set ?_ GE256.out | refine below_set ?_ GE263.out) | exact HB.out) hb)
        clear BK241
        clear BK249
        clear BK256
        clear BK263
        clear HB
        have BK241 := n0_
        have BK249 := n1_
        have BK256 := n2_
        have BK263 := n3_
        have HB := n4_
        clear n0_ n1_ n2_ n3_ n4_
        (try clear hb)
        (try clear hb2)
        (try clear hk)
        (try clear hi)
        refine hK.out _ _ ⟨(blk_cell BK256.out 0).trans rfl, (blk_cell BK256.out 1).trans rfl, (blk_cell BK256.out 2).trans rfl, (blk_cell BK256.out 3).trans rfl, (blk_cell BK256.out 4).trans rfl, (blk_cell BK263.out 0).trans rfl, (blk_cell BK263.out 1).trans rfl, (blk_cell BK263.out 2).trans rfl, (blk_cell BK263.out 3).trans rfl, (blk_cell BK263.out 4).trans rfl, (blk_cell BK249.out 0).trans rfl, (blk_cell BK249.out 1).trans rfl, (blk_cell BK249.out 2).trans rfl, (blk_cell BK249.out 3).trans rfl, (blk_cell BK249.out 4).trans rfl, (blk_cell BK249.out 5).trans rfl, (blk_cell BK249.out 6).trans rfl, (blk_cell BK241.out 0).trans rfl, (blk_cell BK241.out 1).trans rfl, (blk_cell BK241.out 2).trans rfl, (blk_cell BK241.out 3).trans rfl, (blk_cell BK241.out 4).trans rfl, (blk_cell BK241.out 5).trans rfl, (blk_cell BK241.out 6).trans rfl⟩ (fun hHeld => ?_)
        clear hK K
        refine norm_ (a' := ?_) ?_ ?_
        rotate_left
        ·show Act.put _ (some 33) _ = _
         simp only [Act.put, List.setIfInBounds_toArray, List.set_cons_zero, List.set_cons_succ, i64_w, i32_w]
         rfl
        refine pure_ (i := 1) (N := some 34) (v := ?_) (a' := ?_) #[true, true, false, false, false, false, false, false, false, false, false, false, false, false, false, false, false, false, false, false, false, false, false, false, false, false, false, false, false, false, false, false, false, false, false, false, false, false, false, false, false, false, false, false, false, false, false, false] rfl rfl (any_of HT_.out (by kernel_rfl)) (fun _ _ _ h => h) (Or.inl ⟨by rfl, ?_⟩) ?_ ?_
        rotate_left
        ·intro w'
         go_simp
         with_reducible rfl
        rotate_left
        ·simp only [Act.put, List.setIfInBounds_toArray, List.set_cons_zero, List.set_cons_succ, i64_w, i32_w]
         rfl
        refine take_ (i := 2) (N := some 35) (v := ?_) (a' := ?_) #[true, true, true, false, false, false, false, false, false, false, false, false, false, false, false, false, false, false, false, false, false, false, false, false, false, false, false, false, false, false, false, false, false, false, false, false, false, false, false, false, false, false, false, false, false, false, false, false] rfl rfl (take_ofW HT_.out HW_.out (by kernel_rfl)) (fun _ _ _ h => h) (Or.inl ⟨by rfl, ?_⟩) hHeld ?_ ?_
        rotate_left
        ·rintro w' ⟨s0, s1, s2, s3, s4, s5, s6, s7, s8, s9, s10, s11, s12, s13, s14, s15, s16, s17, s18, s19, s20, s21, s22, s23⟩
         go_simp
         with_reducible rfl
        rotate_left
        ·simp only [Act.put, List.setIfInBounds_toArray, List.set_cons_zero, List.set_cons_succ, i64_w, i32_w]
         rfl
        refine take_ (i := 3) (N := some 36) (v := ?_) (a' := ?_) #[true, true, true, true, false, false, false, false, false, false, false, false, false, false, false, false, false, false, false, false, false, false, false, false, false, false, false, false, false, false, false, false, false, false, false, false, false, false, false, false, false, false, false, false, false, false, false, false] rfl rfl (take_ofW HT_.out HW_.out (by kernel_rfl)) (fun _ _ _ h => h) (Or.inl ⟨by rfl, ?_⟩) hHeld ?_ ?_
        rotate_left
        ·rintro w' ⟨s0, s1, s2, s3, s4, s5, s6, s7, s8, s9, s10, s11, s12, s13, s14, s15, s16, s17, s18, s19, s20, s21, s22, s23⟩
         go_simp
         with_reducible rfl
        rotate_left
        ·simp only [Act.put, List.setIfInBounds_toArray, List.set_cons_zero, List.set_cons_succ, i64_w, i32_w]
         rfl
        refine pure_ (i := 4) (N := some 37) (v := ?_) (a' := ?_) #[true, true, true, true, true, false, false, false, false, false, false, false, false, false, false, false, false, false, false, false, false, false, false, false, false, false, false, false, false, false, false, false, false, false, false, false, false, false, false, false, false, false, false, false, false, false, false, false] rfl rfl (any_of HT_.out (by kernel_rfl)) (fun _ _ _ h => h) (Or.inl ⟨by rfl, ?_⟩) ?_ ?_
        rotate_left
        ·intro w'
         go_simp
         with_reducible rfl
        rotate_left
        ·simp only [Act.put, List.setIfInBounds_toArray, List.set_cons_zero, List.set_cons_succ, i64_w, i32_w]
         rfl
        refine pure_ (i := 5) (N := some 38) (v := ?_) (a' := ?_) #[true, true, true, true, true, true, false, false, false, false, false, false, false, false, false, false, false, false, false, false, false, false, false, false, false, false, false, false, false, false, false, false, false, false, false, false, false, false, false, false, false, false, false, false, false, false, false, false] rfl rfl (any_of HT_.out (by kernel_rfl)) (fun _ _ _ h => h) (Or.inl ⟨by rfl, ?_⟩) ?_ ?_
        rotate_left
        ·intro w'
         go_simp
         with_reducible rfl
        rotate_left
        ·simp only [Act.put, List.setIfInBounds_toArray, List.set_cons_zero, List.set_cons_succ, i64_w, i32_w]
         rfl
        refine pure_ (i := 6) (N := some 39) (v := ?_) (a' := ?_) #[true, true, true, true, true, true, true, false, false, false, false, false, false, false, false, false, false, false, false, false, false, false, false, false, false, false, false, false, false, false, false, false, false, false, false, false, false, false, false, false, false, false, false, false, false, false, false, false] rfl rfl (any_of HT_.out (by kernel_rfl)) (fun _ _ _ h => h) (Or.inl ⟨by rfl, ?_⟩) ?_ ?_
        rotate_left
        ·intro w'
         go_simp
         with_reducible rfl
        rotate_left
        ·simp only [Act.put, List.setIfInBounds_toArray, List.set_cons_zero, List.set_cons_succ, i64_w, i32_w]
         rfl
        refine pure_ (i := 7) (N := some 40) (v := ?_) (a' := ?_) #[true, true, true, true, true, true, true, true, false, false, false, false, false, false, false, false, false, false, false, false, false, false, false, false, false, false, false, false, false, false, false, false, false, false, false, false, false, false, false, false, false, false, false, false, false, false, false, false] rfl rfl (any_of HT_.out (by kernel_rfl)) (fun _ _ _ h => h) (Or.inl ⟨by rfl, ?_⟩) ?_ ?_
        rotate_left
        ·intro w'
         go_simp
         with_reducible rfl
        rotate_left
        ·simp only [Act.put, List.setIfInBounds_toArray, List.set_cons_zero, List.set_cons_succ, i64_w, i32_w]
         rfl
        refine pure_ (i := 8) (N := some 41) (v := ?_) (a' := ?_) #[true, true, true, true, true, true, true, true, true, false, false, false, false, false, false, false, false, false, false, false, false, false, false, false, false, false, false, false, false, false, false, false, false, false, false, false, false, false, false, false, false, false, false, false, false, false, false, false] rfl rfl (any_of HT_.out (by kernel_rfl)) (fun _ _ _ h => h) (Or.inl ⟨by rfl, ?_⟩) ?_ ?_
        rotate_left
        ·intro w'
         go_simp
         with_reducible rfl
        rotate_left
        ·simp only [Act.put, List.setIfInBounds_toArray, List.set_cons_zero, List.set_cons_succ, i64_w, i32_w]
         rfl
        refine pure_ (i := 9) (N := some 42) (v := ?_) (a' := ?_) #[true, true, true, true, true, true, true, true, true, true, false, false, false, false, false, false, false, false, false, false, false, false, false, false, false, false, false, false, false, false, false, false, false, false, false, false, false, false, false, false, false, false, false, false, false, false, false, false] rfl rfl (any_of HT_.out (by kernel_rfl)) (fun _ _ _ h => h) (Or.inl ⟨by rfl, ?_⟩) ?_ ?_
        rotate_left
        ·intro w'
         go_simp
         with_reducible rfl
        rotate_left
        ·simp only [Act.put, List.setIfInBounds_toArray, List.set_cons_zero, List.set_cons_succ, i64_w, i32_w]
         rfl
        refine pure_ (i := 10) (N := some 43) (v := ?_) (a' := ?_) #[true, true, true, true, true, true, true, true, true, true, true, false, false, false, false, false, false, false, false, false, false, false, false, false, false, false, false, false, false, false, false, false, false, false, false, false, false, false, false, false, false, false, false, false, false, false, false, false] rfl rfl (any_of HT_.out (by kernel_rfl)) (fun _ _ _ h => h) (Or.inl ⟨by rfl, ?_⟩) ?_ ?_
        rotate_left
        ·intro w'
         go_simp
         with_reducible rfl
        rotate_left
        ·simp only [Act.put, List.setIfInBounds_toArray, List.set_cons_zero, List.set_cons_succ, i64_w, i32_w]
         rfl
        refine pure_ (i := 11) (N := some 44) (v := ?_) (a' := ?_) #[true, true, true, true, true, true, true, true, true, true, true, true, false, false, false, false, false, false, false, false, false, false, false, false, false, false, false, false, false, false, false, false, false, false, false, false, false, false, false, false, false, false, false, false, false, false, false, false] rfl rfl (any_of HT_.out (by kernel_rfl)) (fun _ _ _ h => h) (Or.inl ⟨by rfl, ?_⟩) ?_ ?_
        rotate_left
        ·intro w'
         go_simp
         with_reducible rfl
        rotate_left
        ·simp only [Act.put, List.setIfInBounds_toArray, List.set_cons_zero, List.set_cons_succ, i64_w, i32_w]
         rfl
        refine pure_ (i := 12) (N := some 45) (v := ?_) (a' := ?_) #[true, true, true, true, true, true, true, true, true, true, true, true, true, false, false, false, false, false, false, false, false, false, false, false, false, false, false, false, false, false, false, false, false, false, false, false, false, false, false, false, false, false, false, false, false, false, false, false] rfl rfl (any_of HT_.out (by kernel_rfl)) (fun _ _ _ h => h) (Or.inl ⟨by rfl, ?_⟩) ?_ ?_
        rotate_left
        ·intro w'
         go_simp
         with_reducible rfl
        rotate_left
        ·simp only [Act.put, List.setIfInBounds_toArray, List.set_cons_zero, List.set_cons_succ, i64_w, i32_w]
         rfl
        refine pure_ (i := 13) (N := some 46) (v := ?_) (a' := ?_) #[true, true, true, true, true, true, true, true, true, true, true, true, true, true, false, false, false, false, false, false, false, false, false, false, false, false, false, false, false, false, false, false, false, false, false, false, false, false, false, false, false, false, false, false, false, false, false, false] rfl rfl (any_of HT_.out (by kernel_rfl)) (fun _ _ _ h => h) (Or.inl ⟨by rfl, ?_⟩) ?_ ?_
        rotate_left
        ·intro w'
         go_simp
         with_reducible rfl
        rotate_left
        ·simp only [Act.put, List.setIfInBounds_toArray, List.set_cons_zero, List.set_cons_succ, i64_w, i32_w]
         rfl
        refine pure_ (i := 14) (N := some 47) (v := ?_) (a' := ?_) #[true, true, true, true, true, true, true, true, true, true, true, true, true, true, true, false, false, false, false, false, false, false, false, false, false, false, false, false, false, false, false, false, false, false, false, false, false, false, false, false, false, false, false, false, false, false, false, false] rfl rfl (any_of HT_.out (by kernel_rfl)) (fun _ _ _ h => h) (Or.inl ⟨by rfl, ?_⟩) ?_ ?_
        rotate_left
        ·intro w'
         go_simp
         with_reducible rfl
        rotate_left
        ·simp only [Act.put, List.setIfInBounds_toArray, List.set_cons_zero, List.set_cons_succ, i64_w, i32_w]
         rfl
        refine take_ (i := 15) (N := some 48) (v := ?_) (a' := ?_) #[true, true, true, true, true, true, true, true, true, true, true, true, true, true, true, true, false, false, false, false, false, false, false, false, false, false, false, false, false, false, false, false, false, false, false, false, false, false, false, false, false, false, false, false, false, false, false, false] rfl rfl (take_ofW HT_.out HW_.out (by kernel_rfl)) (fun _ _ _ h => h) (Or.inl ⟨by rfl, ?_⟩) hHeld ?_ ?_
        rotate_left
        ·rintro w' ⟨s0, s1, s2, s3, s4, s5, s6, s7, s8, s9, s10, s11, s12, s13, s14, s15, s16, s17, s18, s19, s20, s21, s22, s23⟩
         go_simp
         with_reducible rfl
        rotate_left
        ·simp only [Act.put, List.setIfInBounds_toArray, List.set_cons_zero, List.set_cons_succ, i64_w, i32_w]
         rfl
        refine take_ (i := 17) (N := some 50) (v := ?_) (a' := ?_) #[true, true, true, true, true, true, true, true, true, true, true, true, true, true, true, true, false, true, false, false, false, false, false, false, false, false, false, false, false, false, false, false, false, false, false, false, false, false, false, false, false, false, false, false, false, false, false, false] rfl rfl (take_ofW HT_.out HW_.out (by kernel_rfl)) (fun _ _ _ h => h) (Or.inl ⟨by rfl, ?_⟩) hHeld ?_ ?_
        rotate_left
        ·rintro w' ⟨s0, s1, s2, s3, s4, s5, s6, s7, s8, s9, s10, s11, s12, s13, s14, s15, s16, s17, s18, s19, s20, s21, s22, s23⟩
         go_simp
         with_reducible rfl
        rotate_left
        ·simp only [Act.put, List.setIfInBounds_toArray, List.set_cons_zero, List.set_cons_succ, i64_w, i32_w]
         rfl
        refine one_ (i := 16) (N := some 49) #[true, true, true, true, true, true, true, true, true, true, true, true, true, true, true, true, true, true, false, false, false, false, false, false, false, false, false, false, false, false, false, false, false, false, false, false, false, false, false, false, false, false, false, false, false, false, false, false] rfl rfl (one_of HT_.out (by kernel_rfl)) (by decide) (fun K hK => ?_)
        refine goes_ Try.func17 (by kernel_rfl) rfl #[.agg #[.int .u8 t242, .int .u32 t243, .int .u32 t244, .int .u16 t245, .int .u16 t246, .int .u8 t247, .int .u8 t248]] (by rfl) rfl rfl (by (try simp only [List.map_toArray, List.map_cons, List.map_nil]); first | done | rfl) ?_
        with_reducible refine (key_Turn.calls t242 t243 t244 t245 t246 t247 t248 t265 t266 t267 t268 t269 t270 t271 _ A41.out).mono ?_
        rintro e w46 ⟨rfl, hb⟩
        refine ⟨_, rfl, ?_⟩
        have n0_ := Aside0.mk (blk_below (g := gb241) (o := .cells #[.int .u8 a0_0, .int .u32 a0_1, .int .u32 a0_2, .int .u16 a0_3, .int .u16 a0_4, .int .u8 a0_5, .int .u8 a0_6] 25 (0, 0)) (by (with_reducible repeat apply mk_); exact BK241.out) hb)
        have n1_ := Aside0.mk (blk_below (g := gb249) (o := .cells #[.int .u8 t242, .int .u32 t243, .int .u32 t244, .int .u16 t245, .int .u16 t246, .int .u8 t247, .int .u8 t248] 25 (0, 0)) (by (with_reducible repeat apply mk_); exact BK249.out) hb)
        have n2_ := Aside0.mk (blk_below (g := gb256) (o := .cells #[.int .u32 t250, .int .u32 t251, .int .u16 t252, .int .u16 t253, .int .u8 t254] 29 (0, 0)) (by (with_reducible repeat apply mk_); exact BK256.out) hb)
        have n3_ := Aside0.mk (blk_below (g := gb263) (o := .cells #[.int .u32 t257, .int .u32 t258, .int .u16 t259, .int .u16 t260, .int .u8 t261] 29 (0, 0)) (by (with_reducible repeat apply mk_); exact BK263.out) hb)
        have n4_ := Aside0.mk (below_step (by repeat first | (with_reducible first | exact HB.out | apply mB | refine below_set ?_ GE241.out | refine below_set ?_ GE249.out | refine below_set ?_ GE256.out | refine below_set ?_ GE263.out) | exact HB.out) hb)
        clear BK241
        clear BK249
        clear BK256
        clear BK263
        clear HB
        have BK241 := n0_
        have BK249 := n1_
        have BK256 := n2_
        have BK263 := n3_
        have HB := n4_
        clear n0_ n1_ n2_ n3_ n4_
        (try clear hb)
        (try clear hb2)
        (try clear hk)
        (try clear hi)
        refine hK.out _ _ ⟨(blk_cell BK256.out 0).trans rfl, (blk_cell BK256.out 1).trans rfl, (blk_cell BK256.out 2).trans rfl, (blk_cell BK256.out 3).trans rfl, (blk_cell BK256.out 4).trans rfl, (blk_cell BK263.out 0).trans rfl, (blk_cell BK263.out 1).trans rfl, (blk_cell BK263.out 2).trans rfl, (blk_cell BK263.out 3).trans rfl, (blk_cell BK263.out 4).trans rfl, (blk_cell BK249.out 0).trans rfl, (blk_cell BK249.out 1).trans rfl, (blk_cell BK249.out 2).trans rfl, (blk_cell BK249.out 3).trans rfl, (blk_cell BK249.out 4).trans rfl, (blk_cell BK249.out 5).trans rfl, (blk_cell BK249.out 6).trans rfl, (blk_cell BK241.out 0).trans rfl, (blk_cell BK241.out 1).trans rfl, (blk_cell BK241.out 2).trans rfl, (blk_cell BK241.out 3).trans rfl, (blk_cell BK241.out 4).trans rfl, (blk_cell BK241.out 5).trans rfl, (blk_cell BK241.out 6).trans rfl⟩ (fun hHeld => ?_)
        clear hK K
        refine norm_ (a' := ?_) ?_ ?_
        rotate_left
        ·show Act.put _ (some 49) _ = _
         simp only [Act.put, List.setIfInBounds_toArray, List.set_cons_zero, List.set_cons_succ, i64_w, i32_w]
         rfl
        refine pure_ (i := 18) (N := some 51) (v := ?_) (a' := ?_) #[true, true, true, true, true, true, true, true, true, true, true, true, true, true, true, true, true, true, true, false, false, false, false, false, false, false, false, false, false, false, false, false, false, false, false, false, false, false, false, false, false, false, false, false, false, false, false, false] rfl rfl (any_of HT_.out (by kernel_rfl)) (fun _ _ _ h => h) (Or.inl ⟨by rfl, ?_⟩) ?_ ?_
        rotate_left
        ·intro w'
         go_simp
         with_reducible rfl
        rotate_left
        ·simp only [Act.put, List.setIfInBounds_toArray, List.set_cons_zero, List.set_cons_succ, i64_w, i32_w]
         rfl
        refine pure_ (i := 19) (N := some 52) (v := ?_) (a' := ?_) #[true, true, true, true, true, true, true, true, true, true, true, true, true, true, true, true, true, true, true, true, false, false, false, false, false, false, false, false, false, false, false, false, false, false, false, false, false, false, false, false, false, false, false, false, false, false, false, false] rfl rfl (any_of HT_.out (by kernel_rfl)) (fun _ _ _ h => h) (Or.inl ⟨by rfl, ?_⟩) ?_ ?_
        rotate_left
        ·intro w'
         go_simp
         with_reducible rfl
        rotate_left
        ·simp only [Act.put, List.setIfInBounds_toArray, List.set_cons_zero, List.set_cons_succ, i64_w, i32_w]
         rfl
        refine pure_ (i := 20) (N := some 53) (v := ?_) (a' := ?_) #[true, true, true, true, true, true, true, true, true, true, true, true, true, true, true, true, true, true, true, true, true, false, false, false, false, false, false, false, false, false, false, false, false, false, false, false, false, false, false, false, false, false, false, false, false, false, false, false] rfl rfl (any_of HT_.out (by kernel_rfl)) (fun _ _ _ h => h) (Or.inl ⟨by rfl, ?_⟩) ?_ ?_
        rotate_left
        ·intro w'
         go_simp
         with_reducible rfl
        rotate_left
        ·simp only [Act.put, List.setIfInBounds_toArray, List.set_cons_zero, List.set_cons_succ, i64_w, i32_w]
         rfl
        refine pure_ (i := 21) (N := some 54) (v := ?_) (a' := ?_) #[true, true, true, true, true, true, true, true, true, true, true, true, true, true, true, true, true, true, true, true, true, true, false, false, false, false, false, false, false, false, false, false, false, false, false, false, false, false, false, false, false, false, false, false, false, false, false, false] rfl rfl (any_of HT_.out (by kernel_rfl)) (fun _ _ _ h => h) (Or.inl ⟨by rfl, ?_⟩) ?_ ?_
        rotate_left
        ·intro w'
         go_simp
         with_reducible rfl
        rotate_left
        ·simp only [Act.put, List.setIfInBounds_toArray, List.set_cons_zero, List.set_cons_succ, i64_w, i32_w]
         rfl
        refine pure_ (i := 22) (N := some 55) (v := ?_) (a' := ?_) #[true, true, true, true, true, true, true, true, true, true, true, true, true, true, true, true, true, true, true, true, true, true, true, false, false, false, false, false, false, false, false, false, false, false, false, false, false, false, false, false, false, false, false, false, false, false, false, false] rfl rfl (any_of HT_.out (by kernel_rfl)) (fun _ _ _ h => h) (Or.inl ⟨by rfl, ?_⟩) ?_ ?_
        rotate_left
        ·intro w'
         go_simp
         with_reducible rfl
        rotate_left
        ·simp only [Act.put, List.setIfInBounds_toArray, List.set_cons_zero, List.set_cons_succ, i64_w, i32_w]
         rfl
        refine pure_ (i := 24) (N := some 57) (v := ?_) (a' := ?_) #[true, true, true, true, true, true, true, true, true, true, true, true, true, true, true, true, true, true, true, true, true, true, true, false, true, false, false, false, false, false, false, false, false, false, false, false, false, false, false, false, false, false, false, false, false, false, false, false] rfl rfl (any_of HT_.out (by kernel_rfl)) (fun _ _ _ h => h) (Or.inl ⟨by rfl, ?_⟩) ?_ ?_
        rotate_left
        ·intro w'
         go_simp
         with_reducible rfl
        rotate_left
        ·simp only [Act.put, List.setIfInBounds_toArray, List.set_cons_zero, List.set_cons_succ, i64_w, i32_w]
         rfl
        refine pure_ (i := 25) (N := some 58) (v := ?_) (a' := ?_) #[true, true, true, true, true, true, true, true, true, true, true, true, true, true, true, true, true, true, true, true, true, true, true, false, true, true, false, false, false, false, false, false, false, false, false, false, false, false, false, false, false, false, false, false, false, false, false, false] rfl rfl (any_of HT_.out (by kernel_rfl)) (fun _ _ _ h => h) (Or.inl ⟨by rfl, ?_⟩) ?_ ?_
        rotate_left
        ·intro w'
         go_simp
         with_reducible rfl
        rotate_left
        ·simp only [Act.put, List.setIfInBounds_toArray, List.set_cons_zero, List.set_cons_succ, i64_w, i32_w]
         rfl
        refine take_ (i := 23) (N := some 56) (v := ?_) (a' := ?_) #[true, true, true, true, true, true, true, true, true, true, true, true, true, true, true, true, true, true, true, true, true, true, true, true, true, true, false, false, false, false, false, false, false, false, false, false, false, false, false, false, false, false, false, false, false, false, false, false] rfl rfl (take_ofW HT_.out HW_.out (by kernel_rfl)) (fun _ _ _ h => h) (Or.inl ⟨by rfl, ?_⟩) hHeld ?_ ?_
        rotate_left
        ·rintro w' ⟨s0, s1, s2, s3, s4, s5, s6, s7, s8, s9, s10, s11, s12, s13, s14, s15, s16, s17, s18, s19, s20, s21, s22, s23⟩
         go_simp
         with_reducible rfl
        rotate_left
        ·simp only [Act.put, List.setIfInBounds_toArray, List.set_cons_zero, List.set_cons_succ, i64_w, i32_w]
         rfl
        refine take_ (i := 26) (N := some 59) (v := ?_) (a' := ?_) #[true, true, true, true, true, true, true, true, true, true, true, true, true, true, true, true, true, true, true, true, true, true, true, true, true, true, true, false, false, false, false, false, false, false, false, false, false, false, false, false, false, false, false, false, false, false, false, false] rfl rfl (take_ofW HT_.out HW_.out (by kernel_rfl)) (fun _ _ _ h => h) (Or.inl ⟨by rfl, ?_⟩) hHeld ?_ ?_
        rotate_left
        ·rintro w' ⟨s0, s1, s2, s3, s4, s5, s6, s7, s8, s9, s10, s11, s12, s13, s14, s15, s16, s17, s18, s19, s20, s21, s22, s23⟩
         go_simp
         with_reducible rfl
        rotate_left
        ·simp only [Act.put, List.setIfInBounds_toArray, List.set_cons_zero, List.set_cons_succ, i64_w, i32_w]
         rfl
        refine pure_ (i := 27) (N := some 60) (v := ?_) (a' := ?_) #[true, true, true, true, true, true, true, true, true, true, true, true, true, true, true, true, true, true, true, true, true, true, true, true, true, true, true, true, false, false, false, false, false, false, false, false, false, false, false, false, false, false, false, false, false, false, false, false] rfl rfl (any_of HT_.out (by kernel_rfl)) (fun _ _ _ h => h) (Or.inl ⟨by rfl, ?_⟩) ?_ ?_
        rotate_left
        ·intro w'
         go_simp
         with_reducible rfl
        rotate_left
        ·simp only [Act.put, List.setIfInBounds_toArray, List.set_cons_zero, List.set_cons_succ, i64_w, i32_w]
         rfl
        refine pure_ (i := 28) (N := some 61) (v := ?_) (a' := ?_) #[true, true, true, true, true, true, true, true, true, true, true, true, true, true, true, true, true, true, true, true, true, true, true, true, true, true, true, true, true, false, false, false, false, false, false, false, false, false, false, false, false, false, false, false, false, false, false, false] rfl rfl (any_of HT_.out (by kernel_rfl)) (fun _ _ _ h => h) (Or.inl ⟨by rfl, ?_⟩) ?_ ?_
        rotate_left
        ·intro w'
         go_simp
         with_reducible rfl
        rotate_left
        ·simp only [Act.put, List.setIfInBounds_toArray, List.set_cons_zero, List.set_cons_succ, i64_w, i32_w]
         rfl
        refine pure_ (i := 29) (N := some 62) (v := undef) (a' := ?_) #[true, true, true, true, true, true, true, true, true, true, true, true, true, true, true, true, true, true, true, true, true, true, true, true, true, true, true, true, true, true, false, false, false, false, false, false, false, false, false, false, false, false, false, false, false, false, false, false] rfl rfl (any_of HT_.out (by kernel_rfl)) (fun _ _ _ h => h) (Or.inr ⟨by rfl, rfl⟩) ?_ ?_
        rotate_left
        ·simp only [Act.put, List.setIfInBounds_toArray, List.set_cons_zero, List.set_cons_succ, i64_w, i32_w]
         rfl
        refine pure_ (i := 30) (N := some 63) (v := undef) (a' := ?_) #[true, true, true, true, true, true, true, true, true, true, true, true, true, true, true, true, true, true, true, true, true, true, true, true, true, true, true, true, true, true, true, false, false, false, false, false, false, false, false, false, false, false, false, false, false, false, false, false] rfl rfl (any_of HT_.out (by kernel_rfl)) (fun _ _ _ h => h) (Or.inr ⟨by rfl, rfl⟩) ?_ ?_
        rotate_left
        ·simp only [Act.put, List.setIfInBounds_toArray, List.set_cons_zero, List.set_cons_succ, i64_w, i32_w]
         rfl
        refine pure_ (i := 31) (N := some 64) (v := undef) (a' := ?_) #[true, true, true, true, true, true, true, true, true, true, true, true, true, true, true, true, true, true, true, true, true, true, true, true, true, true, true, true, true, true, true, true, false, false, false, false, false, false, false, false, false, false, false, false, false, false, false, false] rfl rfl (any_of HT_.out (by kernel_rfl)) (fun _ _ _ h => h) (Or.inr ⟨by rfl, rfl⟩) ?_ ?_
        rotate_left
        ·simp only [Act.put, List.setIfInBounds_toArray, List.set_cons_zero, List.set_cons_succ, i64_w, i32_w]
         rfl
        refine pure_ (i := 32) (N := some 65) (v := undef) (a' := ?_) #[true, true, true, true, true, true, true, true, true, true, true, true, true, true, true, true, true, true, true, true, true, true, true, true, true, true, true, true, true, true, true, true, true, false, false, false, false, false, false, false, false, false, false, false, false, false, false, false] rfl rfl (any_of HT_.out (by kernel_rfl)) (fun _ _ _ h => h) (Or.inr ⟨by rfl, rfl⟩) ?_ ?_
        rotate_left
        ·simp only [Act.put, List.setIfInBounds_toArray, List.set_cons_zero, List.set_cons_succ, i64_w, i32_w]
         rfl
        refine pure_ (i := 33) (N := some 66) (v := undef) (a' := ?_) #[true, true, true, true, true, true, true, true, true, true, true, true, true, true, true, true, true, true, true, true, true, true, true, true, true, true, true, true, true, true, true, true, true, true, false, false, false, false, false, false, false, false, false, false, false, false, false, false] rfl rfl (any_of HT_.out (by kernel_rfl)) (fun _ _ _ h => h) (Or.inr ⟨by rfl, rfl⟩) ?_ ?_
        rotate_left
        ·simp only [Act.put, List.setIfInBounds_toArray, List.set_cons_zero, List.set_cons_succ, i64_w, i32_w]
         rfl
        refine pure_ (i := 34) (N := some 67) (v := undef) (a' := ?_) #[true, true, true, true, true, true, true, true, true, true, true, true, true, true, true, true, true, true, true, true, true, true, true, true, true, true, true, true, true, true, true, true, true, true, true, false, false, false, false, false, false, false, false, false, false, false, false, false] rfl rfl (any_of HT_.out (by kernel_rfl)) (fun _ _ _ h => h) (Or.inr ⟨by rfl, rfl⟩) ?_ ?_
        rotate_left
        ·simp only [Act.put, List.setIfInBounds_toArray, List.set_cons_zero, List.set_cons_succ, i64_w, i32_w]
         rfl
        refine pure_ (i := 35) (N := some 68) (v := undef) (a' := ?_) #[true, true, true, true, true, true, true, true, true, true, true, true, true, true, true, true, true, true, true, true, true, true, true, true, true, true, true, true, true, true, true, true, true, true, true, true, false, false, false, false, false, false, false, false, false, false, false, false] rfl rfl (any_of HT_.out (by kernel_rfl)) (fun _ _ _ h => h) (Or.inr ⟨by rfl, rfl⟩) ?_ ?_
        rotate_left
        ·simp only [Act.put, List.setIfInBounds_toArray, List.set_cons_zero, List.set_cons_succ, i64_w, i32_w]
         rfl
        refine pure_ (i := 36) (N := some 69) (v := undef) (a' := ?_) #[true, true, true, true, true, true, true, true, true, true, true, true, true, true, true, true, true, true, true, true, true, true, true, true, true, true, true, true, true, true, true, true, true, true, true, true, true, false, false, false, false, false, false, false, false, false, false, false] rfl rfl (any_of HT_.out (by kernel_rfl)) (fun _ _ _ h => h) (Or.inr ⟨by rfl, rfl⟩) ?_ ?_
        rotate_left
        ·simp only [Act.put, List.setIfInBounds_toArray, List.set_cons_zero, List.set_cons_succ, i64_w, i32_w]
         rfl
        refine pure_ (i := 37) (N := some 70) (v := undef) (a' := ?_) #[true, true, true, true, true, true, true, true, true, true, true, true, true, true, true, true, true, true, true, true, true, true, true, true, true, true, true, true, true, true, true, true, true, true, true, true, true, true, false, false, false, false, false, false, false, false, false, false] rfl rfl (any_of HT_.out (by kernel_rfl)) (fun _ _ _ h => h) (Or.inr ⟨by rfl, rfl⟩) ?_ ?_
        rotate_left
        ·simp only [Act.put, List.setIfInBounds_toArray, List.set_cons_zero, List.set_cons_succ, i64_w, i32_w]
         rfl
        refine pure_ (i := 38) (N := some 71) (v := undef) (a' := ?_) #[true, true, true, true, true, true, true, true, true, true, true, true, true, true, true, true, true, true, true, true, true, true, true, true, true, true, true, true, true, true, true, true, true, true, true, true, true, true, true, false, false, false, false, false, false, false, false, false] rfl rfl (any_of HT_.out (by kernel_rfl)) (fun _ _ _ h => h) (Or.inr ⟨by rfl, rfl⟩) ?_ ?_
        rotate_left
        ·simp only [Act.put, List.setIfInBounds_toArray, List.set_cons_zero, List.set_cons_succ, i64_w, i32_w]
         rfl
        refine pure_ (i := 39) (N := some 72) (v := undef) (a' := ?_) #[true, true, true, true, true, true, true, true, true, true, true, true, true, true, true, true, true, true, true, true, true, true, true, true, true, true, true, true, true, true, true, true, true, true, true, true, true, true, true, true, false, false, false, false, false, false, false, false] rfl rfl (any_of HT_.out (by kernel_rfl)) (fun _ _ _ h => h) (Or.inr ⟨by rfl, rfl⟩) ?_ ?_
        rotate_left
        ·simp only [Act.put, List.setIfInBounds_toArray, List.set_cons_zero, List.set_cons_succ, i64_w, i32_w]
         rfl
        refine pure_ (i := 40) (N := some 73) (v := undef) (a' := ?_) #[true, true, true, true, true, true, true, true, true, true, true, true, true, true, true, true, true, true, true, true, true, true, true, true, true, true, true, true, true, true, true, true, true, true, true, true, true, true, true, true, true, false, false, false, false, false, false, false] rfl rfl (any_of HT_.out (by kernel_rfl)) (fun _ _ _ h => h) (Or.inr ⟨by rfl, rfl⟩) ?_ ?_
        rotate_left
        ·simp only [Act.put, List.setIfInBounds_toArray, List.set_cons_zero, List.set_cons_succ, i64_w, i32_w]
         rfl
        refine pure_ (i := 41) (N := some 74) (v := undef) (a' := ?_) #[true, true, true, true, true, true, true, true, true, true, true, true, true, true, true, true, true, true, true, true, true, true, true, true, true, true, true, true, true, true, true, true, true, true, true, true, true, true, true, true, true, true, false, false, false, false, false, false] rfl rfl (any_of HT_.out (by kernel_rfl)) (fun _ _ _ h => h) (Or.inr ⟨by rfl, rfl⟩) ?_ ?_
        rotate_left
        ·simp only [Act.put, List.setIfInBounds_toArray, List.set_cons_zero, List.set_cons_succ, i64_w, i32_w]
         rfl
        refine pure_ (i := 42) (N := some 75) (v := undef) (a' := ?_) #[true, true, true, true, true, true, true, true, true, true, true, true, true, true, true, true, true, true, true, true, true, true, true, true, true, true, true, true, true, true, true, true, true, true, true, true, true, true, true, true, true, true, true, false, false, false, false, false] rfl rfl (any_of HT_.out (by kernel_rfl)) (fun _ _ _ h => h) (Or.inr ⟨by rfl, rfl⟩) ?_ ?_
        rotate_left
        ·simp only [Act.put, List.setIfInBounds_toArray, List.set_cons_zero, List.set_cons_succ, i64_w, i32_w]
         rfl
        refine pure_ (i := 43) (N := some 76) (v := undef) (a' := ?_) #[true, true, true, true, true, true, true, true, true, true, true, true, true, true, true, true, true, true, true, true, true, true, true, true, true, true, true, true, true, true, true, true, true, true, true, true, true, true, true, true, true, true, true, true, false, false, false, false] rfl rfl (any_of HT_.out (by kernel_rfl)) (fun _ _ _ h => h) (Or.inr ⟨by rfl, rfl⟩) ?_ ?_
        rotate_left
        ·simp only [Act.put, List.setIfInBounds_toArray, List.set_cons_zero, List.set_cons_succ, i64_w, i32_w]
         rfl
        refine pure_ (i := 44) (N := some 77) (v := undef) (a' := ?_) #[true, true, true, true, true, true, true, true, true, true, true, true, true, true, true, true, true, true, true, true, true, true, true, true, true, true, true, true, true, true, true, true, true, true, true, true, true, true, true, true, true, true, true, true, true, false, false, false] rfl rfl (any_of HT_.out (by kernel_rfl)) (fun _ _ _ h => h) (Or.inr ⟨by rfl, rfl⟩) ?_ ?_
        rotate_left
        ·simp only [Act.put, List.setIfInBounds_toArray, List.set_cons_zero, List.set_cons_succ, i64_w, i32_w]
         rfl
        refine pure_ (i := 45) (N := some 78) (v := ?_) (a' := ?_) #[true, true, true, true, true, true, true, true, true, true, true, true, true, true, true, true, true, true, true, true, true, true, true, true, true, true, true, true, true, true, true, true, true, true, true, true, true, true, true, true, true, true, true, true, true, true, false, false] rfl rfl (any_of HT_.out (by kernel_rfl)) (fun _ _ _ h => h) (Or.inl ⟨by rfl, ?_⟩) ?_ ?_
        rotate_left
        ·intro w'
         go_simp
         with_reducible rfl
        rotate_left
        ·simp only [Act.put, List.setIfInBounds_toArray, List.set_cons_zero, List.set_cons_succ, i64_w, i32_w]
         rfl
        refine pure_ (i := 46) (N := some 79) (v := ?_) (a' := ?_) #[true, true, true, true, true, true, true, true, true, true, true, true, true, true, true, true, true, true, true, true, true, true, true, true, true, true, true, true, true, true, true, true, true, true, true, true, true, true, true, true, true, true, true, true, true, true, true, false] rfl rfl (any_of HT_.out (by kernel_rfl)) (fun _ _ _ h => h) (Or.inl ⟨by rfl, ?_⟩) ?_ ?_
        rotate_left
        ·intro w'
         go_simp
         with_reducible rfl
        rotate_left
        ·simp only [Act.put, List.setIfInBounds_toArray, List.set_cons_zero, List.set_cons_succ, i64_w, i32_w]
         rfl
        refine pure_ (i := 47) (N := some 2) (v := ?_) (a' := ?_) #[true, true, true, true, true, true, true, true, true, true, true, true, true, true, true, true, true, true, true, true, true, true, true, true, true, true, true, true, true, true, true, true, true, true, true, true, true, true, true, true, true, true, true, true, true, true, true, true] rfl rfl (any_of HT_.out (by kernel_rfl)) (fun _ _ _ h => h) (Or.inl ⟨by rfl, ?_⟩) ?_ ?_
        rotate_left
        ·intro w'
         go_simp
         with_reducible rfl
        rotate_left
        ·simp only [Act.put, List.setIfInBounds_toArray, List.set_cons_zero, List.set_cons_succ, i64_w, i32_w]
         rfl
        refine done_ (done_of HT_.out (by kernel_rfl)) ?_
        try go_wp2
        go_ret
        exact ⟨by first | rfl | (simp [errW_none, errW_some] <;> rfl) | (simp [*, errW_none, errW_some] <;> rfl), by repeat first | (with_reducible first | exact HB.out | apply mB | refine below_set ?_ GE241.out | refine below_set ?_ GE249.out | refine below_set ?_ GE256.out | refine below_set ?_ GE263.out) | exact HB.out⟩
       ·rw [if_neg c43] at H
        have c43b0 : decide (t250 < t251) = false := decide_eq_false c43
        clear c43
        by_cases c47 : t250 = t251
        ·rw [if_pos c47] at H
         have c47b0 : (t250 == t251) = true := beq_iff_eq.mpr c47
         have c47b1 : (t250 != t251) = false := bne_eq_false_iff_eq.mpr c47
         clear c47
         obtain rfl := Option.some.inj H
         try go_wp2
         have n0_ := Aside0.mk (blk_drew BK241.out)
         have n1_ := Aside0.mk (blk_drew BK249.out)
         have n2_ := Aside0.mk (blk_drew BK256.out)
         have n3_ := Aside0.mk (blk_drew BK263.out)
         have n4_ := Aside0.mk (below_drew1 HB.out)
         clear BK241
         clear BK249
         clear BK256
         clear BK263
         clear HB
         have BK241 := n0_
         have BK249 := n1_
         have BK256 := n2_
         have BK263 := n3_
         have HB := n4_
         clear n0_ n1_ n2_ n3_ n4_
         refine start_ (n := 48) (S := fun w' => w'.cell? ⟨gb256, 0, none⟩ = some (.int .u32 t250) ∧ w'.cell? ⟨gb256, 1, none⟩ = some (.int .u32 t251) ∧ w'.cell? ⟨gb256, 2, none⟩ = some (.int .u16 t252) ∧ w'.cell? ⟨gb256, 3, none⟩ = some (.int .u16 t253) ∧ w'.cell? ⟨gb256, 4, none⟩ = some (.int .u8 t254) ∧ w'.cell? ⟨gb263, 0, none⟩ = some (.int .u32 t257) ∧ w'.cell? ⟨gb263, 1, none⟩ = some (.int .u32 t258) ∧ w'.cell? ⟨gb263, 2, none⟩ = some (.int .u16 t259) ∧ w'.cell? ⟨gb263, 3, none⟩ = some (.int .u16 t260) ∧ w'.cell? ⟨gb263, 4, none⟩ = some (.int .u8 t261) ∧ w'.cell? ⟨gb249, 0, none⟩ = some (.int .u8 t242) ∧ w'.cell? ⟨gb249, 1, none⟩ = some (.int .u32 t243) ∧ w'.cell? ⟨gb249, 2, none⟩ = some (.int .u32 t244) ∧ w'.cell? ⟨gb249, 3, none⟩ = some (.int .u16 t245) ∧ w'.cell? ⟨gb249, 4, none⟩ = some (.int .u16 t246) ∧ w'.cell? ⟨gb249, 5, none⟩ = some (.int .u8 t247) ∧ w'.cell? ⟨gb249, 6, none⟩ = some (.int .u8 t248) ∧ w'.cell? ⟨gb241, 0, none⟩ = some (.int .u8 a0_0) ∧ w'.cell? ⟨gb241, 1, none⟩ = some (.int .u32 a0_1) ∧ w'.cell? ⟨gb241, 2, none⟩ = some (.int .u32 a0_2) ∧ w'.cell? ⟨gb241, 3, none⟩ = some (.int .u16 a0_3) ∧ w'.cell? ⟨gb241, 4, none⟩ = some (.int .u16 a0_4) ∧ w'.cell? ⟨gb241, 5, none⟩ = some (.int .u8 a0_5) ∧ w'.cell? ⟨gb241, 6, none⟩ = some (.int .u8 a0_6)) (ds := []) #[false, false, false, false, false, false, false, false, false, false, false, false, false, false, false, false, false, false, false, false, false, false, false, false, false, false, false, false, false, false, false, false, false, false, false, false, false, false, false, false, false, false, false, false, false, false, false, false] (by kernel_rfl) rfl rfl ⟨(blk_cell BK256.out 0).trans rfl, (blk_cell BK256.out 1).trans rfl, (blk_cell BK256.out 2).trans rfl, (blk_cell BK256.out 3).trans rfl, (blk_cell BK256.out 4).trans rfl, (blk_cell BK263.out 0).trans rfl, (blk_cell BK263.out 1).trans rfl, (blk_cell BK263.out 2).trans rfl, (blk_cell BK263.out 3).trans rfl, (blk_cell BK263.out 4).trans rfl, (blk_cell BK249.out 0).trans rfl, (blk_cell BK249.out 1).trans rfl, (blk_cell BK249.out 2).trans rfl, (blk_cell BK249.out 3).trans rfl, (blk_cell BK249.out 4).trans rfl, (blk_cell BK249.out 5).trans rfl, (blk_cell BK249.out 6).trans rfl, (blk_cell BK241.out 0).trans rfl, (blk_cell BK241.out 1).trans rfl, (blk_cell BK241.out 2).trans rfl, (blk_cell BK241.out 3).trans rfl, (blk_cell BK241.out 4).trans rfl, (blk_cell BK241.out 5).trans rfl, (blk_cell BK241.out 6).trans rfl⟩ (fun hHeld => ?_); refine with_tabW mantletlaw10_KeyTurns.tab5 mantletlaw10_KeyTurns.bits5 (fun HT_ HW_ => ?_)
         generalize wc.drew = w48 at BK241 BK249 BK256 BK263 HB hHeld ⊢
         refine one_ (i := 0) (N := some 33) #[true, false, false, false, false, false, false, false, false, false, false, false, false, false, false, false, false, false, false, false, false, false, false, false, false, false, false, false, false, false, false, false, false, false, false, false, false, false, false, false, false, false, false, false, false, false, false, false] rfl rfl (one_of HT_.out (by kernel_rfl)) (by decide) (fun K hK => ?_)
         refine goes_ Try.func10 (by kernel_rfl) rfl #[] (by rfl) rfl rfl (by (try simp only [List.map_toArray, List.map_cons, List.map_nil]); first | done | rfl) ?_
         with_reducible refine (mantletlaw10_awake.calls kj4  true _ A37.out).mono ?_
         rintro e w49 ⟨rfl, hb⟩
         refine ⟨_, rfl, ?_⟩
         have n0_ := Aside0.mk (blk_below (g := gb241) (o := .cells #[.int .u8 a0_0, .int .u32 a0_1, .int .u32 a0_2, .int .u16 a0_3, .int .u16 a0_4, .int .u8 a0_5, .int .u8 a0_6] 25 (0, 0)) (by (with_reducible repeat apply mk_); exact BK241.out) hb)
         have n1_ := Aside0.mk (blk_below (g := gb249) (o := .cells #[.int .u8 t242, .int .u32 t243, .int .u32 t244, .int .u16 t245, .int .u16 t246, .int .u8 t247, .int .u8 t248] 25 (0, 0)) (by (with_reducible repeat apply mk_); exact BK249.out) hb)
         have n2_ := Aside0.mk (blk_below (g := gb256) (o := .cells #[.int .u32 t250, .int .u32 t251, .int .u16 t252, .int .u16 t253, .int .u8 t254] 29 (0, 0)) (by (with_reducible repeat apply mk_); exact BK256.out) hb)
         have n3_ := Aside0.mk (blk_below (g := gb263) (o := .cells #[.int .u32 t257, .int .u32 t258, .int .u16 t259, .int .u16 t260, .int .u8 t261] 29 (0, 0)) (by (with_reducible repeat apply mk_); exact BK263.out) hb)
         have n4_ := Aside0.mk (below_step (by repeat first | (with_reducible first | exact HB.out | apply mB | refine below_set ?_ GE241.out | refine below_set ?_ GE249.out | refine below_set ?_ GE256.out | refine below_set ?_ GE263.out) | exact HB.out) hb)
         clear BK241
         clear BK249
         clear BK256
         clear BK263
         clear HB
         have BK241 := n0_
         have BK249 := n1_
         have BK256 := n2_
         have BK263 := n3_
         have HB := n4_
         clear n0_ n1_ n2_ n3_ n4_
         (try clear hb)
         (try clear hb2)
         (try clear hk)
         (try clear hi)
         refine hK.out _ _ ⟨(blk_cell BK256.out 0).trans rfl, (blk_cell BK256.out 1).trans rfl, (blk_cell BK256.out 2).trans rfl, (blk_cell BK256.out 3).trans rfl, (blk_cell BK256.out 4).trans rfl, (blk_cell BK263.out 0).trans rfl, (blk_cell BK263.out 1).trans rfl, (blk_cell BK263.out 2).trans rfl, (blk_cell BK263.out 3).trans rfl, (blk_cell BK263.out 4).trans rfl, (blk_cell BK249.out 0).trans rfl, (blk_cell BK249.out 1).trans rfl, (blk_cell BK249.out 2).trans rfl, (blk_cell BK249.out 3).trans rfl, (blk_cell BK249.out 4).trans rfl, (blk_cell BK249.out 5).trans rfl, (blk_cell BK249.out 6).trans rfl, (blk_cell BK241.out 0).trans rfl, (blk_cell BK241.out 1).trans rfl, (blk_cell BK241.out 2).trans rfl, (blk_cell BK241.out 3).trans rfl, (blk_cell BK241.out 4).trans rfl, (blk_cell BK241.out 5).trans rfl, (blk_cell BK241.out 6).trans rfl⟩ (fun hHeld => ?_)
         clear hK K
         refine norm_ (a' := ?_) ?_ ?_
         rotate_left
         ·show Act.put _ (some 33) _ = _
          simp only [Act.put, List.setIfInBounds_toArray, List.set_cons_zero, List.set_cons_succ, i64_w, i32_w]
          rfl
         refine pure_ (i := 1) (N := some 34) (v := ?_) (a' := ?_) #[true, true, false, false, false, false, false, false, false, false, false, false, false, false, false, false, false, false, false, false, false, false, false, false, false, false, false, false, false, false, false, false, false, false, false, false, false, false, false, false, false, false, false, false, false, false, false, false] rfl rfl (any_of HT_.out (by kernel_rfl)) (fun _ _ _ h => h) (Or.inl ⟨by rfl, ?_⟩) ?_ ?_
         rotate_left
         ·intro w'
          go_simp
          with_reducible rfl
         rotate_left
         ·simp only [Act.put, List.setIfInBounds_toArray, List.set_cons_zero, List.set_cons_succ, i64_w, i32_w]
          rfl
         refine take_ (i := 2) (N := some 35) (v := ?_) (a' := ?_) #[true, true, true, false, false, false, false, false, false, false, false, false, false, false, false, false, false, false, false, false, false, false, false, false, false, false, false, false, false, false, false, false, false, false, false, false, false, false, false, false, false, false, false, false, false, false, false, false] rfl rfl (take_ofW HT_.out HW_.out (by kernel_rfl)) (fun _ _ _ h => h) (Or.inl ⟨by rfl, ?_⟩) hHeld ?_ ?_
         rotate_left
         ·rintro w' ⟨s0, s1, s2, s3, s4, s5, s6, s7, s8, s9, s10, s11, s12, s13, s14, s15, s16, s17, s18, s19, s20, s21, s22, s23⟩
          go_simp
          with_reducible rfl
         rotate_left
         ·simp only [Act.put, List.setIfInBounds_toArray, List.set_cons_zero, List.set_cons_succ, i64_w, i32_w]
          rfl
         refine take_ (i := 3) (N := some 36) (v := ?_) (a' := ?_) #[true, true, true, true, false, false, false, false, false, false, false, false, false, false, false, false, false, false, false, false, false, false, false, false, false, false, false, false, false, false, false, false, false, false, false, false, false, false, false, false, false, false, false, false, false, false, false, false] rfl rfl (take_ofW HT_.out HW_.out (by kernel_rfl)) (fun _ _ _ h => h) (Or.inl ⟨by rfl, ?_⟩) hHeld ?_ ?_
         rotate_left
         ·rintro w' ⟨s0, s1, s2, s3, s4, s5, s6, s7, s8, s9, s10, s11, s12, s13, s14, s15, s16, s17, s18, s19, s20, s21, s22, s23⟩
          go_simp
          with_reducible rfl
         rotate_left
         ·simp only [Act.put, List.setIfInBounds_toArray, List.set_cons_zero, List.set_cons_succ, i64_w, i32_w]
          rfl
         refine pure_ (i := 4) (N := some 37) (v := ?_) (a' := ?_) #[true, true, true, true, true, false, false, false, false, false, false, false, false, false, false, false, false, false, false, false, false, false, false, false, false, false, false, false, false, false, false, false, false, false, false, false, false, false, false, false, false, false, false, false, false, false, false, false] rfl rfl (any_of HT_.out (by kernel_rfl)) (fun _ _ _ h => h) (Or.inl ⟨by rfl, ?_⟩) ?_ ?_
         rotate_left
         ·intro w'
          go_simp
          with_reducible rfl
         rotate_left
         ·simp only [Act.put, List.setIfInBounds_toArray, List.set_cons_zero, List.set_cons_succ, i64_w, i32_w]
          rfl
         refine pure_ (i := 5) (N := some 38) (v := ?_) (a' := ?_) #[true, true, true, true, true, true, false, false, false, false, false, false, false, false, false, false, false, false, false, false, false, false, false, false, false, false, false, false, false, false, false, false, false, false, false, false, false, false, false, false, false, false, false, false, false, false, false, false] rfl rfl (any_of HT_.out (by kernel_rfl)) (fun _ _ _ h => h) (Or.inl ⟨by rfl, ?_⟩) ?_ ?_
         rotate_left
         ·intro w'
          go_simp
          with_reducible rfl
         rotate_left
         ·simp only [Act.put, List.setIfInBounds_toArray, List.set_cons_zero, List.set_cons_succ, i64_w, i32_w]
          rfl
         refine pure_ (i := 6) (N := some 39) (v := ?_) (a' := ?_) #[true, true, true, true, true, true, true, false, false, false, false, false, false, false, false, false, false, false, false, false, false, false, false, false, false, false, false, false, false, false, false, false, false, false, false, false, false, false, false, false, false, false, false, false, false, false, false, false] rfl rfl (any_of HT_.out (by kernel_rfl)) (fun _ _ _ h => h) (Or.inl ⟨by rfl, ?_⟩) ?_ ?_
         rotate_left
         ·intro w'
          go_simp
          with_reducible rfl
         rotate_left
         ·simp only [Act.put, List.setIfInBounds_toArray, List.set_cons_zero, List.set_cons_succ, i64_w, i32_w]
          rfl
         refine pure_ (i := 7) (N := some 40) (v := ?_) (a' := ?_) #[true, true, true, true, true, true, true, true, false, false, false, false, false, false, false, false, false, false, false, false, false, false, false, false, false, false, false, false, false, false, false, false, false, false, false, false, false, false, false, false, false, false, false, false, false, false, false, false] rfl rfl (any_of HT_.out (by kernel_rfl)) (fun _ _ _ h => h) (Or.inl ⟨by rfl, ?_⟩) ?_ ?_
         rotate_left
         ·intro w'
          go_simp
          with_reducible rfl
         rotate_left
         ·simp only [Act.put, List.setIfInBounds_toArray, List.set_cons_zero, List.set_cons_succ, i64_w, i32_w]
          rfl
         refine pure_ (i := 8) (N := some 41) (v := ?_) (a' := ?_) #[true, true, true, true, true, true, true, true, true, false, false, false, false, false, false, false, false, false, false, false, false, false, false, false, false, false, false, false, false, false, false, false, false, false, false, false, false, false, false, false, false, false, false, false, false, false, false, false] rfl rfl (any_of HT_.out (by kernel_rfl)) (fun _ _ _ h => h) (Or.inl ⟨by rfl, ?_⟩) ?_ ?_
         rotate_left
         ·intro w'
          go_simp
          with_reducible rfl
         rotate_left
         ·simp only [Act.put, List.setIfInBounds_toArray, List.set_cons_zero, List.set_cons_succ, i64_w, i32_w]
          rfl
         refine pure_ (i := 9) (N := some 42) (v := ?_) (a' := ?_) #[true, true, true, true, true, true, true, true, true, true, false, false, false, false, false, false, false, false, false, false, false, false, false, false, false, false, false, false, false, false, false, false, false, false, false, false, false, false, false, false, false, false, false, false, false, false, false, false] rfl rfl (any_of HT_.out (by kernel_rfl)) (fun _ _ _ h => h) (Or.inl ⟨by rfl, ?_⟩) ?_ ?_
         rotate_left
         ·intro w'
          go_simp
          with_reducible rfl
         rotate_left
         ·simp only [Act.put, List.setIfInBounds_toArray, List.set_cons_zero, List.set_cons_succ, i64_w, i32_w]
          rfl
         refine pure_ (i := 10) (N := some 43) (v := ?_) (a' := ?_) #[true, true, true, true, true, true, true, true, true, true, true, false, false, false, false, false, false, false, false, false, false, false, false, false, false, false, false, false, false, false, false, false, false, false, false, false, false, false, false, false, false, false, false, false, false, false, false, false] rfl rfl (any_of HT_.out (by kernel_rfl)) (fun _ _ _ h => h) (Or.inl ⟨by rfl, ?_⟩) ?_ ?_
         rotate_left
         ·intro w'
          go_simp
          with_reducible rfl
         rotate_left
         ·simp only [Act.put, List.setIfInBounds_toArray, List.set_cons_zero, List.set_cons_succ, i64_w, i32_w]
          rfl
         refine pure_ (i := 11) (N := some 44) (v := ?_) (a' := ?_) #[true, true, true, true, true, true, true, true, true, true, true, true, false, false, false, false, false, false, false, false, false, false, false, false, false, false, false, false, false, false, false, false, false, false, false, false, false, false, false, false, false, false, false, false, false, false, false, false] rfl rfl (any_of HT_.out (by kernel_rfl)) (fun _ _ _ h => h) (Or.inl ⟨by rfl, ?_⟩) ?_ ?_
         rotate_left
         ·intro w'
          go_simp
          with_reducible rfl
         rotate_left
         ·simp only [Act.put, List.setIfInBounds_toArray, List.set_cons_zero, List.set_cons_succ, i64_w, i32_w]
          rfl
         refine pure_ (i := 12) (N := some 45) (v := ?_) (a' := ?_) #[true, true, true, true, true, true, true, true, true, true, true, true, true, false, false, false, false, false, false, false, false, false, false, false, false, false, false, false, false, false, false, false, false, false, false, false, false, false, false, false, false, false, false, false, false, false, false, false] rfl rfl (any_of HT_.out (by kernel_rfl)) (fun _ _ _ h => h) (Or.inl ⟨by rfl, ?_⟩) ?_ ?_
         rotate_left
         ·intro w'
          go_simp
          with_reducible rfl
         rotate_left
         ·simp only [Act.put, List.setIfInBounds_toArray, List.set_cons_zero, List.set_cons_succ, i64_w, i32_w]
          rfl
         refine pure_ (i := 13) (N := some 46) (v := ?_) (a' := ?_) #[true, true, true, true, true, true, true, true, true, true, true, true, true, true, false, false, false, false, false, false, false, false, false, false, false, false, false, false, false, false, false, false, false, false, false, false, false, false, false, false, false, false, false, false, false, false, false, false] rfl rfl (any_of HT_.out (by kernel_rfl)) (fun _ _ _ h => h) (Or.inl ⟨by rfl, ?_⟩) ?_ ?_
         rotate_left
         ·intro w'
          go_simp
          with_reducible rfl
         rotate_left
         ·simp only [Act.put, List.setIfInBounds_toArray, List.set_cons_zero, List.set_cons_succ, i64_w, i32_w]
          rfl
         refine pure_ (i := 14) (N := some 47) (v := ?_) (a' := ?_) #[true, true, true, true, true, true, true, true, true, true, true, true, true, true, true, false, false, false, false, false, false, false, false, false, false, false, false, false, false, false, false, false, false, false, false, false, false, false, false, false, false, false, false, false, false, false, false, false] rfl rfl (any_of HT_.out (by kernel_rfl)) (fun _ _ _ h => h) (Or.inl ⟨by rfl, ?_⟩) ?_ ?_
         rotate_left
         ·intro w'
          go_simp
          with_reducible rfl
         rotate_left
         ·simp only [Act.put, List.setIfInBounds_toArray, List.set_cons_zero, List.set_cons_succ, i64_w, i32_w]
          rfl
         refine take_ (i := 15) (N := some 48) (v := ?_) (a' := ?_) #[true, true, true, true, true, true, true, true, true, true, true, true, true, true, true, true, false, false, false, false, false, false, false, false, false, false, false, false, false, false, false, false, false, false, false, false, false, false, false, false, false, false, false, false, false, false, false, false] rfl rfl (take_ofW HT_.out HW_.out (by kernel_rfl)) (fun _ _ _ h => h) (Or.inl ⟨by rfl, ?_⟩) hHeld ?_ ?_
         rotate_left
         ·rintro w' ⟨s0, s1, s2, s3, s4, s5, s6, s7, s8, s9, s10, s11, s12, s13, s14, s15, s16, s17, s18, s19, s20, s21, s22, s23⟩
          go_simp
          with_reducible rfl
         rotate_left
         ·simp only [Act.put, List.setIfInBounds_toArray, List.set_cons_zero, List.set_cons_succ, i64_w, i32_w]
          rfl
         refine take_ (i := 17) (N := some 50) (v := ?_) (a' := ?_) #[true, true, true, true, true, true, true, true, true, true, true, true, true, true, true, true, false, true, false, false, false, false, false, false, false, false, false, false, false, false, false, false, false, false, false, false, false, false, false, false, false, false, false, false, false, false, false, false] rfl rfl (take_ofW HT_.out HW_.out (by kernel_rfl)) (fun _ _ _ h => h) (Or.inl ⟨by rfl, ?_⟩) hHeld ?_ ?_
         rotate_left
         ·rintro w' ⟨s0, s1, s2, s3, s4, s5, s6, s7, s8, s9, s10, s11, s12, s13, s14, s15, s16, s17, s18, s19, s20, s21, s22, s23⟩
          go_simp
          with_reducible rfl
         rotate_left
         ·simp only [Act.put, List.setIfInBounds_toArray, List.set_cons_zero, List.set_cons_succ, i64_w, i32_w]
          rfl
         refine one_ (i := 16) (N := some 49) #[true, true, true, true, true, true, true, true, true, true, true, true, true, true, true, true, true, true, false, false, false, false, false, false, false, false, false, false, false, false, false, false, false, false, false, false, false, false, false, false, false, false, false, false, false, false, false, false] rfl rfl (one_of HT_.out (by kernel_rfl)) (by decide) (fun K hK => ?_)
         refine goes_ Try.func17 (by kernel_rfl) rfl #[.agg #[.int .u8 t242, .int .u32 t243, .int .u32 t244, .int .u16 t245, .int .u16 t246, .int .u8 t247, .int .u8 t248]] (by rfl) rfl rfl (by (try simp only [List.map_toArray, List.map_cons, List.map_nil]); first | done | rfl) ?_
         with_reducible refine (key_Turn.calls t242 t243 t244 t245 t246 t247 t248 t265 t266 t267 t268 t269 t270 t271 _ A41.out).mono ?_
         rintro e w50 ⟨rfl, hb⟩
         refine ⟨_, rfl, ?_⟩
         have n0_ := Aside0.mk (blk_below (g := gb241) (o := .cells #[.int .u8 a0_0, .int .u32 a0_1, .int .u32 a0_2, .int .u16 a0_3, .int .u16 a0_4, .int .u8 a0_5, .int .u8 a0_6] 25 (0, 0)) (by (with_reducible repeat apply mk_); exact BK241.out) hb)
         have n1_ := Aside0.mk (blk_below (g := gb249) (o := .cells #[.int .u8 t242, .int .u32 t243, .int .u32 t244, .int .u16 t245, .int .u16 t246, .int .u8 t247, .int .u8 t248] 25 (0, 0)) (by (with_reducible repeat apply mk_); exact BK249.out) hb)
         have n2_ := Aside0.mk (blk_below (g := gb256) (o := .cells #[.int .u32 t250, .int .u32 t251, .int .u16 t252, .int .u16 t253, .int .u8 t254] 29 (0, 0)) (by (with_reducible repeat apply mk_); exact BK256.out) hb)
         have n3_ := Aside0.mk (blk_below (g := gb263) (o := .cells #[.int .u32 t257, .int .u32 t258, .int .u16 t259, .int .u16 t260, .int .u8 t261] 29 (0, 0)) (by (with_reducible repeat apply mk_); exact BK263.out) hb)
         have n4_ := Aside0.mk (below_step (by repeat first | (with_reducible first | exact HB.out | apply mB | refine below_set ?_ GE241.out | refine below_set ?_ GE249.out | refine below_set ?_ GE256.out | refine below_set ?_ GE263.out) | exact HB.out) hb)
         clear BK241
         clear BK249
         clear BK256
         clear BK263
         clear HB
         have BK241 := n0_
         have BK249 := n1_
         have BK256 := n2_
         have BK263 := n3_
         have HB := n4_
         clear n0_ n1_ n2_ n3_ n4_
         (try clear hb)
         (try clear hb2)
         (try clear hk)
         (try clear hi)
         refine hK.out _ _ ⟨(blk_cell BK256.out 0).trans rfl, (blk_cell BK256.out 1).trans rfl, (blk_cell BK256.out 2).trans rfl, (blk_cell BK256.out 3).trans rfl, (blk_cell BK256.out 4).trans rfl, (blk_cell BK263.out 0).trans rfl, (blk_cell BK263.out 1).trans rfl, (blk_cell BK263.out 2).trans rfl, (blk_cell BK263.out 3).trans rfl, (blk_cell BK263.out 4).trans rfl, (blk_cell BK249.out 0).trans rfl, (blk_cell BK249.out 1).trans rfl, (blk_cell BK249.out 2).trans rfl, (blk_cell BK249.out 3).trans rfl, (blk_cell BK249.out 4).trans rfl, (blk_cell BK249.out 5).trans rfl, (blk_cell BK249.out 6).trans rfl, (blk_cell BK241.out 0).trans rfl, (blk_cell BK241.out 1).trans rfl, (blk_cell BK241.out 2).trans rfl, (blk_cell BK241.out 3).trans rfl, (blk_cell BK241.out 4).trans rfl, (blk_cell BK241.out 5).trans rfl, (blk_cell BK241.out 6).trans rfl⟩ (fun hHeld => ?_)
         clear hK K
         refine norm_ (a' := ?_) ?_ ?_
         rotate_left
         ·show Act.put _ (some 49) _ = _
          simp only [Act.put, List.setIfInBounds_toArray, List.set_cons_zero, List.set_cons_succ, i64_w, i32_w]
          rfl
         refine pure_ (i := 18) (N := some 51) (v := ?_) (a' := ?_) #[true, true, true, true, true, true, true, true, true, true, true, true, true, true, true, true, true, true, true, false, false, false, false, false, false, false, false, false, false, false, false, false, false, false, false, false, false, false, false, false, false, false, false, false, false, false, false, false] rfl rfl (any_of HT_.out (by kernel_rfl)) (fun _ _ _ h => h) (Or.inl ⟨by rfl, ?_⟩) ?_ ?_
         rotate_left
         ·intro w'
          go_simp
          with_reducible rfl
         rotate_left
         ·simp only [Act.put, List.setIfInBounds_toArray, List.set_cons_zero, List.set_cons_succ, i64_w, i32_w]
          rfl
         refine pure_ (i := 19) (N := some 52) (v := ?_) (a' := ?_) #[true, true, true, true, true, true, true, true, true, true, true, true, true, true, true, true, true, true, true, true, false, false, false, false, false, false, false, false, false, false, false, false, false, false, false, false, false, false, false, false, false, false, false, false, false, false, false, false] rfl rfl (any_of HT_.out (by kernel_rfl)) (fun _ _ _ h => h) (Or.inl ⟨by rfl, ?_⟩) ?_ ?_
         rotate_left
         ·intro w'
          go_simp
          with_reducible rfl
         rotate_left
         ·simp only [Act.put, List.setIfInBounds_toArray, List.set_cons_zero, List.set_cons_succ, i64_w, i32_w]
          rfl
         refine pure_ (i := 20) (N := some 53) (v := ?_) (a' := ?_) #[true, true, true, true, true, true, true, true, true, true, true, true, true, true, true, true, true, true, true, true, true, false, false, false, false, false, false, false, false, false, false, false, false, false, false, false, false, false, false, false, false, false, false, false, false, false, false, false] rfl rfl (any_of HT_.out (by kernel_rfl)) (fun _ _ _ h => h) (Or.inl ⟨by rfl, ?_⟩) ?_ ?_
         rotate_left
         ·intro w'
          go_simp
          with_reducible rfl
         rotate_left
         ·simp only [Act.put, List.setIfInBounds_toArray, List.set_cons_zero, List.set_cons_succ, i64_w, i32_w]
          rfl
         refine pure_ (i := 21) (N := some 54) (v := ?_) (a' := ?_) #[true, true, true, true, true, true, true, true, true, true, true, true, true, true, true, true, true, true, true, true, true, true, false, false, false, false, false, false, false, false, false, false, false, false, false, false, false, false, false, false, false, false, false, false, false, false, false, false] rfl rfl (any_of HT_.out (by kernel_rfl)) (fun _ _ _ h => h) (Or.inl ⟨by rfl, ?_⟩) ?_ ?_
         rotate_left
         ·intro w'
          go_simp
          with_reducible rfl
         rotate_left
         ·simp only [Act.put, List.setIfInBounds_toArray, List.set_cons_zero, List.set_cons_succ, i64_w, i32_w]
          rfl
         refine pure_ (i := 22) (N := some 55) (v := ?_) (a' := ?_) #[true, true, true, true, true, true, true, true, true, true, true, true, true, true, true, true, true, true, true, true, true, true, true, false, false, false, false, false, false, false, false, false, false, false, false, false, false, false, false, false, false, false, false, false, false, false, false, false] rfl rfl (any_of HT_.out (by kernel_rfl)) (fun _ _ _ h => h) (Or.inl ⟨by rfl, ?_⟩) ?_ ?_
         rotate_left
         ·intro w'
          go_simp
          with_reducible rfl
         rotate_left
         ·simp only [Act.put, List.setIfInBounds_toArray, List.set_cons_zero, List.set_cons_succ, i64_w, i32_w]
          rfl
         refine pure_ (i := 24) (N := some 57) (v := ?_) (a' := ?_) #[true, true, true, true, true, true, true, true, true, true, true, true, true, true, true, true, true, true, true, true, true, true, true, false, true, false, false, false, false, false, false, false, false, false, false, false, false, false, false, false, false, false, false, false, false, false, false, false] rfl rfl (any_of HT_.out (by kernel_rfl)) (fun _ _ _ h => h) (Or.inl ⟨by rfl, ?_⟩) ?_ ?_
         rotate_left
         ·intro w'
          go_simp
          with_reducible rfl
         rotate_left
         ·simp only [Act.put, List.setIfInBounds_toArray, List.set_cons_zero, List.set_cons_succ, i64_w, i32_w]
          rfl
         refine pure_ (i := 25) (N := some 58) (v := ?_) (a' := ?_) #[true, true, true, true, true, true, true, true, true, true, true, true, true, true, true, true, true, true, true, true, true, true, true, false, true, true, false, false, false, false, false, false, false, false, false, false, false, false, false, false, false, false, false, false, false, false, false, false] rfl rfl (any_of HT_.out (by kernel_rfl)) (fun _ _ _ h => h) (Or.inl ⟨by rfl, ?_⟩) ?_ ?_
         rotate_left
         ·intro w'
          go_simp
          with_reducible rfl
         rotate_left
         ·simp only [Act.put, List.setIfInBounds_toArray, List.set_cons_zero, List.set_cons_succ, i64_w, i32_w]
          rfl
         refine take_ (i := 23) (N := some 56) (v := ?_) (a' := ?_) #[true, true, true, true, true, true, true, true, true, true, true, true, true, true, true, true, true, true, true, true, true, true, true, true, true, true, false, false, false, false, false, false, false, false, false, false, false, false, false, false, false, false, false, false, false, false, false, false] rfl rfl (take_ofW HT_.out HW_.out (by kernel_rfl)) (fun _ _ _ h => h) (Or.inl ⟨by rfl, ?_⟩) hHeld ?_ ?_
         rotate_left
         ·rintro w' ⟨s0, s1, s2, s3, s4, s5, s6, s7, s8, s9, s10, s11, s12, s13, s14, s15, s16, s17, s18, s19, s20, s21, s22, s23⟩
          go_simp
          with_reducible rfl
         rotate_left
         ·simp only [Act.put, List.setIfInBounds_toArray, List.set_cons_zero, List.set_cons_succ, i64_w, i32_w]
          rfl
         refine take_ (i := 26) (N := some 59) (v := ?_) (a' := ?_) #[true, true, true, true, true, true, true, true, true, true, true, true, true, true, true, true, true, true, true, true, true, true, true, true, true, true, true, false, false, false, false, false, false, false, false, false, false, false, false, false, false, false, false, false, false, false, false, false] rfl rfl (take_ofW HT_.out HW_.out (by kernel_rfl)) (fun _ _ _ h => h) (Or.inl ⟨by rfl, ?_⟩) hHeld ?_ ?_
         rotate_left
         ·rintro w' ⟨s0, s1, s2, s3, s4, s5, s6, s7, s8, s9, s10, s11, s12, s13, s14, s15, s16, s17, s18, s19, s20, s21, s22, s23⟩
          go_simp
          with_reducible rfl
         rotate_left
         ·simp only [Act.put, List.setIfInBounds_toArray, List.set_cons_zero, List.set_cons_succ, i64_w, i32_w]
          rfl
         refine pure_ (i := 27) (N := some 60) (v := ?_) (a' := ?_) #[true, true, true, true, true, true, true, true, true, true, true, true, true, true, true, true, true, true, true, true, true, true, true, true, true, true, true, true, false, false, false, false, false, false, false, false, false, false, false, false, false, false, false, false, false, false, false, false] rfl rfl (any_of HT_.out (by kernel_rfl)) (fun _ _ _ h => h) (Or.inl ⟨by rfl, ?_⟩) ?_ ?_
         rotate_left
         ·intro w'
          go_simp
          with_reducible rfl
         rotate_left
         ·simp only [Act.put, List.setIfInBounds_toArray, List.set_cons_zero, List.set_cons_succ, i64_w, i32_w]
          rfl
         refine pure_ (i := 28) (N := some 61) (v := ?_) (a' := ?_) #[true, true, true, true, true, true, true, true, true, true, true, true, true, true, true, true, true, true, true, true, true, true, true, true, true, true, true, true, true, false, false, false, false, false, false, false, false, false, false, false, false, false, false, false, false, false, false, false] rfl rfl (any_of HT_.out (by kernel_rfl)) (fun _ _ _ h => h) (Or.inl ⟨by rfl, ?_⟩) ?_ ?_
         rotate_left
         ·intro w'
          go_simp
          with_reducible rfl
         rotate_left
         ·simp only [Act.put, List.setIfInBounds_toArray, List.set_cons_zero, List.set_cons_succ, i64_w, i32_w]
          rfl
         refine pure_ (i := 29) (N := some 62) (v := ?_) (a' := ?_) #[true, true, true, true, true, true, true, true, true, true, true, true, true, true, true, true, true, true, true, true, true, true, true, true, true, true, true, true, true, true, false, false, false, false, false, false, false, false, false, false, false, false, false, false, false, false, false, false] rfl rfl (any_of HT_.out (by kernel_rfl)) (fun _ _ _ h => h) (Or.inl ⟨by rfl, ?_⟩) ?_ ?_
         rotate_left
         ·intro w'
          go_simp
          with_reducible rfl
         rotate_left
         ·simp only [Act.put, List.setIfInBounds_toArray, List.set_cons_zero, List.set_cons_succ, i64_w, i32_w]
          rfl
         refine pure_ (i := 30) (N := some 63) (v := ?_) (a' := ?_) #[true, true, true, true, true, true, true, true, true, true, true, true, true, true, true, true, true, true, true, true, true, true, true, true, true, true, true, true, true, true, true, false, false, false, false, false, false, false, false, false, false, false, false, false, false, false, false, false] rfl rfl (any_of HT_.out (by kernel_rfl)) (fun _ _ _ h => h) (Or.inl ⟨by rfl, ?_⟩) ?_ ?_
         rotate_left
         ·intro w'
          go_simp
          with_reducible rfl
         rotate_left
         ·simp only [Act.put, List.setIfInBounds_toArray, List.set_cons_zero, List.set_cons_succ, i64_w, i32_w]
          rfl
         refine pure_ (i := 32) (N := some 65) (v := ?_) (a' := ?_) #[true, true, true, true, true, true, true, true, true, true, true, true, true, true, true, true, true, true, true, true, true, true, true, true, true, true, true, true, true, true, true, false, true, false, false, false, false, false, false, false, false, false, false, false, false, false, false, false] rfl rfl (any_of HT_.out (by kernel_rfl)) (fun _ _ _ h => h) (Or.inl ⟨by rfl, ?_⟩) ?_ ?_
         rotate_left
         ·intro w'
          go_simp
          with_reducible rfl
         rotate_left
         ·simp only [Act.put, List.setIfInBounds_toArray, List.set_cons_zero, List.set_cons_succ, i64_w, i32_w]
          rfl
         refine pure_ (i := 33) (N := some 66) (v := ?_) (a' := ?_) #[true, true, true, true, true, true, true, true, true, true, true, true, true, true, true, true, true, true, true, true, true, true, true, true, true, true, true, true, true, true, true, false, true, true, false, false, false, false, false, false, false, false, false, false, false, false, false, false] rfl rfl (any_of HT_.out (by kernel_rfl)) (fun _ _ _ h => h) (Or.inl ⟨by rfl, ?_⟩) ?_ ?_
         rotate_left
         ·intro w'
          go_simp
          with_reducible rfl
         rotate_left
         ·simp only [Act.put, List.setIfInBounds_toArray, List.set_cons_zero, List.set_cons_succ, i64_w, i32_w]
          rfl
         refine take_ (i := 31) (N := some 64) (v := ?_) (a' := ?_) #[true, true, true, true, true, true, true, true, true, true, true, true, true, true, true, true, true, true, true, true, true, true, true, true, true, true, true, true, true, true, true, true, true, true, false, false, false, false, false, false, false, false, false, false, false, false, false, false] rfl rfl (take_ofW HT_.out HW_.out (by kernel_rfl)) (fun _ _ _ h => h) (Or.inl ⟨by rfl, ?_⟩) hHeld ?_ ?_
         rotate_left
         ·rintro w' ⟨s0, s1, s2, s3, s4, s5, s6, s7, s8, s9, s10, s11, s12, s13, s14, s15, s16, s17, s18, s19, s20, s21, s22, s23⟩
          go_simp
          with_reducible rfl
         rotate_left
         ·simp only [Act.put, List.setIfInBounds_toArray, List.set_cons_zero, List.set_cons_succ, i64_w, i32_w]
          rfl
         refine take_ (i := 34) (N := some 67) (v := ?_) (a' := ?_) #[true, true, true, true, true, true, true, true, true, true, true, true, true, true, true, true, true, true, true, true, true, true, true, true, true, true, true, true, true, true, true, true, true, true, true, false, false, false, false, false, false, false, false, false, false, false, false, false] rfl rfl (take_ofW HT_.out HW_.out (by kernel_rfl)) (fun _ _ _ h => h) (Or.inl ⟨by rfl, ?_⟩) hHeld ?_ ?_
         rotate_left
         ·rintro w' ⟨s0, s1, s2, s3, s4, s5, s6, s7, s8, s9, s10, s11, s12, s13, s14, s15, s16, s17, s18, s19, s20, s21, s22, s23⟩
          go_simp
          with_reducible rfl
         rotate_left
         ·simp only [Act.put, List.setIfInBounds_toArray, List.set_cons_zero, List.set_cons_succ, i64_w, i32_w]
          rfl
         refine pure_ (i := 35) (N := some 68) (v := ?_) (a' := ?_) #[true, true, true, true, true, true, true, true, true, true, true, true, true, true, true, true, true, true, true, true, true, true, true, true, true, true, true, true, true, true, true, true, true, true, true, true, false, false, false, false, false, false, false, false, false, false, false, false] rfl rfl (any_of HT_.out (by kernel_rfl)) (fun _ _ _ h => h) (Or.inl ⟨by rfl, ?_⟩) ?_ ?_
         rotate_left
         ·intro w'
          go_simp
          with_reducible rfl
         rotate_left
         ·simp only [Act.put, List.setIfInBounds_toArray, List.set_cons_zero, List.set_cons_succ, i64_w, i32_w]
          rfl
         refine pure_ (i := 36) (N := some 69) (v := ?_) (a' := ?_) #[true, true, true, true, true, true, true, true, true, true, true, true, true, true, true, true, true, true, true, true, true, true, true, true, true, true, true, true, true, true, true, true, true, true, true, true, true, false, false, false, false, false, false, false, false, false, false, false] rfl rfl (any_of HT_.out (by kernel_rfl)) (fun _ _ _ h => h) (Or.inl ⟨by rfl, ?_⟩) ?_ ?_
         rotate_left
         ·intro w'
          go_simp
          with_reducible rfl
         rotate_left
         ·simp only [Act.put, List.setIfInBounds_toArray, List.set_cons_zero, List.set_cons_succ, i64_w, i32_w]
          rfl
         refine pure_ (i := 37) (N := some 70) (v := ?_) (a' := ?_) #[true, true, true, true, true, true, true, true, true, true, true, true, true, true, true, true, true, true, true, true, true, true, true, true, true, true, true, true, true, true, true, true, true, true, true, true, true, true, false, false, false, false, false, false, false, false, false, false] rfl rfl (any_of HT_.out (by kernel_rfl)) (fun _ _ _ h => h) (Or.inl ⟨by rfl, ?_⟩) ?_ ?_
         rotate_left
         ·intro w'
          go_simp
          with_reducible rfl
         rotate_left
         ·simp only [Act.put, List.setIfInBounds_toArray, List.set_cons_zero, List.set_cons_succ, i64_w, i32_w]
          rfl
         refine pure_ (i := 38) (N := some 71) (v := ?_) (a' := ?_) #[true, true, true, true, true, true, true, true, true, true, true, true, true, true, true, true, true, true, true, true, true, true, true, true, true, true, true, true, true, true, true, true, true, true, true, true, true, true, true, false, false, false, false, false, false, false, false, false] rfl rfl (any_of HT_.out (by kernel_rfl)) (fun _ _ _ h => h) (Or.inl ⟨by rfl, ?_⟩) ?_ ?_
         rotate_left
         ·intro w'
          go_simp
          with_reducible rfl
         rotate_left
         ·simp only [Act.put, List.setIfInBounds_toArray, List.set_cons_zero, List.set_cons_succ, i64_w, i32_w]
          rfl
         refine pure_ (i := 40) (N := some 73) (v := ?_) (a' := ?_) #[true, true, true, true, true, true, true, true, true, true, true, true, true, true, true, true, true, true, true, true, true, true, true, true, true, true, true, true, true, true, true, true, true, true, true, true, true, true, true, false, true, false, false, false, false, false, false, false] rfl rfl (any_of HT_.out (by kernel_rfl)) (fun _ _ _ h => h) (Or.inl ⟨by rfl, ?_⟩) ?_ ?_
         rotate_left
         ·intro w'
          go_simp
          with_reducible rfl
         rotate_left
         ·simp only [Act.put, List.setIfInBounds_toArray, List.set_cons_zero, List.set_cons_succ, i64_w, i32_w]
          rfl
         refine pure_ (i := 41) (N := some 74) (v := ?_) (a' := ?_) #[true, true, true, true, true, true, true, true, true, true, true, true, true, true, true, true, true, true, true, true, true, true, true, true, true, true, true, true, true, true, true, true, true, true, true, true, true, true, true, false, true, true, false, false, false, false, false, false] rfl rfl (any_of HT_.out (by kernel_rfl)) (fun _ _ _ h => h) (Or.inl ⟨by rfl, ?_⟩) ?_ ?_
         rotate_left
         ·intro w'
          go_simp
          with_reducible rfl
         rotate_left
         ·simp only [Act.put, List.setIfInBounds_toArray, List.set_cons_zero, List.set_cons_succ, i64_w, i32_w]
          rfl
         refine take_ (i := 39) (N := some 72) (v := ?_) (a' := ?_) #[true, true, true, true, true, true, true, true, true, true, true, true, true, true, true, true, true, true, true, true, true, true, true, true, true, true, true, true, true, true, true, true, true, true, true, true, true, true, true, true, true, true, false, false, false, false, false, false] rfl rfl (take_ofW HT_.out HW_.out (by kernel_rfl)) (fun _ _ _ h => h) (Or.inl ⟨by rfl, ?_⟩) hHeld ?_ ?_
         rotate_left
         ·rintro w' ⟨s0, s1, s2, s3, s4, s5, s6, s7, s8, s9, s10, s11, s12, s13, s14, s15, s16, s17, s18, s19, s20, s21, s22, s23⟩
          go_simp
          with_reducible rfl
         rotate_left
         ·simp only [Act.put, List.setIfInBounds_toArray, List.set_cons_zero, List.set_cons_succ, i64_w, i32_w]
          rfl
         refine take_ (i := 42) (N := some 75) (v := ?_) (a' := ?_) #[true, true, true, true, true, true, true, true, true, true, true, true, true, true, true, true, true, true, true, true, true, true, true, true, true, true, true, true, true, true, true, true, true, true, true, true, true, true, true, true, true, true, true, false, false, false, false, false] rfl rfl (take_ofW HT_.out HW_.out (by kernel_rfl)) (fun _ _ _ h => h) (Or.inl ⟨by rfl, ?_⟩) hHeld ?_ ?_
         rotate_left
         ·rintro w' ⟨s0, s1, s2, s3, s4, s5, s6, s7, s8, s9, s10, s11, s12, s13, s14, s15, s16, s17, s18, s19, s20, s21, s22, s23⟩
          go_simp
          with_reducible rfl
         rotate_left
         ·simp only [Act.put, List.setIfInBounds_toArray, List.set_cons_zero, List.set_cons_succ, i64_w, i32_w]
          rfl
         refine pure_ (i := 43) (N := some 76) (v := ?_) (a' := ?_) #[true, true, true, true, true, true, true, true, true, true, true, true, true, true, true, true, true, true, true, true, true, true, true, true, true, true, true, true, true, true, true, true, true, true, true, true, true, true, true, true, true, true, true, true, false, false, false, false] rfl rfl (any_of HT_.out (by kernel_rfl)) (fun _ _ _ h => h) (Or.inl ⟨by rfl, ?_⟩) ?_ ?_
         rotate_left
         ·intro w'
          go_simp
          with_reducible rfl
         rotate_left
         ·simp only [Act.put, List.setIfInBounds_toArray, List.set_cons_zero, List.set_cons_succ, i64_w, i32_w]
          rfl
         refine pure_ (i := 44) (N := some 77) (v := ?_) (a' := ?_) #[true, true, true, true, true, true, true, true, true, true, true, true, true, true, true, true, true, true, true, true, true, true, true, true, true, true, true, true, true, true, true, true, true, true, true, true, true, true, true, true, true, true, true, true, true, false, false, false] rfl rfl (any_of HT_.out (by kernel_rfl)) (fun _ _ _ h => h) (Or.inl ⟨by rfl, ?_⟩) ?_ ?_
         rotate_left
         ·intro w'
          go_simp
          with_reducible rfl
         rotate_left
         ·simp only [Act.put, List.setIfInBounds_toArray, List.set_cons_zero, List.set_cons_succ, i64_w, i32_w]
          rfl
         refine pure_ (i := 45) (N := some 78) (v := ?_) (a' := ?_) #[true, true, true, true, true, true, true, true, true, true, true, true, true, true, true, true, true, true, true, true, true, true, true, true, true, true, true, true, true, true, true, true, true, true, true, true, true, true, true, true, true, true, true, true, true, true, false, false] rfl rfl (any_of HT_.out (by kernel_rfl)) (fun _ _ _ h => h) (Or.inl ⟨by rfl, ?_⟩) ?_ ?_
         rotate_left
         ·intro w'
          go_simp
          with_reducible rfl
         rotate_left
         ·simp only [Act.put, List.setIfInBounds_toArray, List.set_cons_zero, List.set_cons_succ, i64_w, i32_w]
          rfl
         refine pure_ (i := 46) (N := some 79) (v := ?_) (a' := ?_) #[true, true, true, true, true, true, true, true, true, true, true, true, true, true, true, true, true, true, true, true, true, true, true, true, true, true, true, true, true, true, true, true, true, true, true, true, true, true, true, true, true, true, true, true, true, true, true, false] rfl rfl (any_of HT_.out (by kernel_rfl)) (fun _ _ _ h => h) (Or.inl ⟨by rfl, ?_⟩) ?_ ?_
         rotate_left
         ·intro w'
          go_simp
          with_reducible rfl
         rotate_left
         ·simp only [Act.put, List.setIfInBounds_toArray, List.set_cons_zero, List.set_cons_succ, i64_w, i32_w]
          rfl
         refine pure_ (i := 47) (N := some 2) (v := ?_) (a' := ?_) #[true, true, true, true, true, true, true, true, true, true, true, true, true, true, true, true, true, true, true, true, true, true, true, true, true, true, true, true, true, true, true, true, true, true, true, true, true, true, true, true, true, true, true, true, true, true, true, true] rfl rfl (any_of HT_.out (by kernel_rfl)) (fun _ _ _ h => h) (Or.inl ⟨by rfl, ?_⟩) ?_ ?_
         rotate_left
         ·intro w'
          go_simp
          with_reducible rfl
         rotate_left
         ·simp only [Act.put, List.setIfInBounds_toArray, List.set_cons_zero, List.set_cons_succ, i64_w, i32_w]
          rfl
         refine done_ (done_of HT_.out (by kernel_rfl)) ?_
         try go_wp2
         go_ret
         exact ⟨by first | rfl | (simp [errW_none, errW_some] <;> rfl) | (simp [*, errW_none, errW_some] <;> rfl), by repeat first | (with_reducible first | exact HB.out | apply mB | refine below_set ?_ GE241.out | refine below_set ?_ GE249.out | refine below_set ?_ GE256.out | refine below_set ?_ GE263.out) | exact HB.out⟩
        ·rw [if_neg c47] at H
         have c47b0 : (t250 == t251) = false := beq_eq_false_iff_ne.mpr c47
         have c47b1 : (t250 != t251) = true := bne_iff_ne.mpr c47
         exact absurd ((Option.some.inj H).trans HT.out) (by decide)
      ·rw [if_neg c42] at H
       have c42b0 : (t265 == a0_0 && (t266 == a0_1 && (t267 == a0_2 && (t268 == a0_3 && (t269 == a0_4 && (t270 == a0_5 && (t271 == a0_6))))))) = false := by simpa using c42
       (try (have c42b1 : decide (t265 = a0_0 && (t266 == a0_1 && (t267 == a0_2 && (t268 == a0_3 && (t269 == a0_4 && (t270 == a0_5 && (t271 == a0_6))))))) = false := by simpa using c42))
       (try (have c42b2 : (t265 == a0_0 && (t266 == a0_1 && (t267 == a0_2 && (t268 == a0_3 && (t269 == a0_4 && (t270 == a0_5 && (t271 == a0_6))))))) = false := by simpa using c42))
       (try (have c42b3 : ¬ (t265 = a0_0 && (t266 == a0_1 && (t267 == a0_2 && (t268 == a0_3 && (t269 == a0_4 && (t270 == a0_5 && (t271 == a0_6))))))) := by simpa using c42))
       clear c42
       exact absurd ((Option.some.inj H).trans HT.out) (by decide)
     ·rw [if_neg c40] at H
      have c40b0 : ((t255 != t262) == (!x8_4)) = false := by simpa using c40
      (try (have c40b1 : decide ((t255 != t262) = (!x8_4)) = false := by simpa using c40))
      (try (have c40b2 : ((t255 != t262) == (!x8_4)) = false := by simpa using c40))
      (try (have c40b3 : ¬ ((t255 != t262) = (!x8_4)) := by simpa using c40))
      (try (have c40b4 : ((!(t255 == t262)) == (!x8_4)) = false := Bool.eq_false_iff.mpr c40))
      clear c40
      exact absurd ((Option.some.inj H).trans HT.out) (by decide)
    ·rw [if_neg c39] at H
     have c39b0 : ((t250 == t257 && (t251 == t258)) && ((t252 == t259 && (t253 == t260)) && (t254 == t261))) = false := by simpa using c39
     clear c39
     exact absurd ((Option.some.inj H).trans HT.out) (by decide)
   ·replace c38 := Bool.eq_false_iff.mpr c38
    subst c38
    have H1 : (some false) = some r := by rw [if_neg (show ¬ (false = true) by decide)] at H; exact H
    clear H
    have H := H1
    clear H1
    exact absurd ((Option.some.inj H).trans HT.out) (by decide)/-- THE ONE PURE STATEMENT of mantletlaw10_KeyTurns: yours. -/
def mantletlaw10_KeyTurns.Pure : Prop := ∀ (a0_0 : Int) (a0_1 : Int) (a0_2 : Int) (a0_3 : Int) (a0_4 : Int) (a0_5 : Int) (a0_6 : Int), (Lit.int .u8 a0_0).wf = true → (Lit.int .u32 a0_1).wf = true → (Lit.int .u32 a0_2).wf = true → (Lit.int .u16 a0_3).wf = true → (Lit.int .u16 a0_4).wf = true → (Lit.int .u8 a0_5).wf = true → (Lit.int .u8 a0_6).wf = true → ∃ k, mantletlaw10_KeyTurns.f k a0_0 a0_1 a0_2 a0_3 a0_4 a0_5 a0_6 = some true
theorem mantletlaw10_KeyTurns.walk (P : mantletlaw10_KeyTurns.Pure) (a0_0 : Int) (a0_1 : Int) (a0_2 : Int) (a0_3 : Int) (a0_4 : Int) (a0_5 : Int) (a0_6 : Int) (w : World) (w0_0 : (Lit.int .u8 a0_0).wf = true) (w0_1 : (Lit.int .u32 a0_1).wf = true) (w0_2 : (Lit.int .u32 a0_2).wf = true) (w0_3 : (Lit.int .u16 a0_3).wf = true) (w0_4 : (Lit.int .u16 a0_4).wf = true) (w0_5 : (Lit.int .u8 a0_5).wf = true) (w0_6 : (Lit.int .u8 a0_6).wf = true) :
    Calls Try.prog 5 #[.agg #[.int .u8 a0_0, .int .u32 a0_1, .int .u32 a0_2, .int .u16 a0_3, .int .u16 a0_4, .int .u8 a0_5, .int .u8 a0_6]] w fun e w' => e = .returned (.bool true) ∧ Below w.heap.size w w' := by
 obtain ⟨k, h⟩ := P a0_0 a0_1 a0_2 a0_3 a0_4 a0_5 a0_6 w0_0 w0_1 w0_2 w0_3 w0_4 w0_5 w0_6
 refine (mantletlaw10_KeyTurns.calls k a0_0 a0_1 a0_2 a0_3 a0_4 a0_5 a0_6 true w h rfl).mono ?_
 rintro e w' ⟨rfl, hd⟩
 exact ⟨rfl, hd⟩

end Go.Proofs.Ytplioggeccoleaa.Key
