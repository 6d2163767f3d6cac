-- Made by a program of this workplace (wip/pr.sh) out of Lean's print of the translation; Lean checks it.
import Derived.Test.YtbdgjcmljjfomaaMatFirst
import Derived.Test.YtbdgjcmljjfomaaMatx0
import Derived.Test.YtbdgjcmljjfomaaMatx2
import Derived.Test.YtbdgjcmljjfomaaMatx12
import Derived.Test.YtbdgjcmljjfomaaMatx13
namespace Go.Proofs.Ytbdgjcmljjfomaa.Mat
open Go.RowKit Go.Proofs.YtbdgjcmljjfomaaW.PrintWords Go.Proofs.YtbdgjcmljjfomaaW.PrintLast Go.Proofs.YtbdgjcmljjfomaaW.PrintMore
attribute [local go_sem] max2_int min2_int max_two min_two max_three min_three max_four min_four   -- for this text's walks alone
set_option linter.unusedVariables false
set_option linter.unusedSimpArgs false

/-! ### mantletlaw13_MatchBehind: function 5 -/
mutual
def mantletlaw13_MatchBehind.j0 : Nat → List (S32) → List (S32) → Int → Bool → Bool → Int → Int → Int → Int → Int → Int → Int → Option (Bool)
  | 0, _, _, _, _, _, _, _, _, _, _, _, _ => none
  | k + 1, x0, x1, x7, x8, x38, x185000, x185001, x185002, x185003, x185004, x185005, x185006 => if x38 = true then (some false) else (mantletlaw13_MatchBehind.l0 k x0 x1 x7 x8 0 x185000 x185001 x185002 x185003 x185004 x185005 x185006)
def mantletlaw13_MatchBehind.l0 : Nat → List (S32) → List (S32) → Int → Bool → Int → Int → Int → Int → Int → Int → Int → Int → Option (Bool)
  | 0, _, _, _, _, _, _, _, _, _, _, _, _ => none
  | k + 1, x0, x1, x7, x8, x9, x185000, x185001, x185002, x185003, x185004, x185005, x185006 => if x9 < x7 then (if 0 ≤ x9 then (if x9 < (x0.length : Int) then ((match_Matches.f ((rd_T32 x0 x9).f0) ((rd_T32 x0 x9).f1) ((rd_T32 x0 x9).f2.f0) ((rd_T32 x0 x9).f2.f1) ((rd_T32 x0 x9).f3.f0) ((rd_T32 x0 x9).f3.f1) ((rd_T32 x0 x9).f4.f0) ((rd_T32 x0 x9).f4.f1) ((rd_T32 x0 x9).f5.f0) ((rd_T32 x0 x9).f5.f1) x185000 x185001 x185002 x185003 x185004 x185005 x185006).bind fun t194 => (if t194 = true then (some false) else (mantletlaw13_MatchBehind.l0 k x0 x1 x7 x8 (wrap64 (x9 + 1)) x185000 x185001 x185002 x185003 x185004 x185005 x185006))) else (none)) else (none)) else ((some (([] : List (S32)) : List (S32))).bind fun y195 => (if 0 ≤ (wrap64 (x7 + 1)) then (if (wrap64 (x7 + 1)) ≤ (x0.length : Int) then ((some (x0.take ((wrap64 (x7 + 1)) : Int).toNat : List (S32))).bind fun y198 => (if y195.length + y198.length < 2932031007402 then ((some (y195 ++ y198 : List (S32))).bind fun y202 => ((mantletlaw13_few.f x1).bind fun t205 => (if y202.length + t205.length < 2932031007402 then ((match_First.f (y202 ++ t205) x185000 x185001 x185002 x185003 x185004 x185005 x185006).bind fun bt211 => ((mantletlaw13_awake.f).bind fun t213 => (if t213 = true then (if bt211.1 = x7 then (if (bt211.2 == x8) = true then (if 0 ≤ x7 then (if x7 < (x0.length : Int) then (some (x8 == ((rd_T32 x0 x7).f0))) else (none)) else (none)) else (some false)) else (some false)) else (some false)))) else (none)))) else (none))) else (none)) else (none)))
end
def mantletlaw13_MatchBehind.f (k : Nat) (l0 : List (S32)) (l1 : List (S32)) (a2_0 : Int) (a2_1 : Int) (a2_2 : Int) (a2_3 : Int) (a2_4 : Int) (a2_5 : Int) (a2_6 : Int) : Option (Bool) := (mantletlaw13_few.f l0).bind fun t185 => ((match_First.f t185 a2_0 a2_1 a2_2 a2_3 a2_4 a2_5 a2_6).bind fun bt188 => (if bt188.1 < 0 then ((mantletlaw13_awake.f).bind fun t190 => (if t190 = true then (some (!bt188.2)) else (some false))) else (if bt188.1 ≥ (l0.length : Int) then (mantletlaw13_MatchBehind.j0 k l0 l1 bt188.1 bt188.2 true a2_0 a2_1 a2_2 a2_3 a2_4 a2_5 a2_6) else (if 0 ≤ bt188.1 then (if bt188.1 < (l0.length : Int) then ((match_Matches.f ((rd_T32 l0 bt188.1).f0) ((rd_T32 l0 bt188.1).f1) ((rd_T32 l0 bt188.1).f2.f0) ((rd_T32 l0 bt188.1).f2.f1) ((rd_T32 l0 bt188.1).f3.f0) ((rd_T32 l0 bt188.1).f3.f1) ((rd_T32 l0 bt188.1).f4.f0) ((rd_T32 l0 bt188.1).f4.f1) ((rd_T32 l0 bt188.1).f5.f0) ((rd_T32 l0 bt188.1).f5.f1) a2_0 a2_1 a2_2 a2_3 a2_4 a2_5 a2_6).bind fun t192 => (mantletlaw13_MatchBehind.j0 k l0 l1 bt188.1 bt188.2 (!t192) a2_0 a2_1 a2_2 a2_3 a2_4 a2_5 a2_6)) else (none)) else (none)))))
theorem mantletlaw13_MatchBehind.mono_l : ∀ k, (∀ y0 y1 y2 y3 y4 y5 y6 y7 y8 y9 y10 y11, LeO (mantletlaw13_MatchBehind.j0 k y0 y1 y2 y3 y4 y5 y6 y7 y8 y9 y10 y11) (mantletlaw13_MatchBehind.j0 (k + 1) y0 y1 y2 y3 y4 y5 y6 y7 y8 y9 y10 y11)) ∧ (∀ y0 y1 y2 y3 y4 y5 y6 y7 y8 y9 y10 y11, LeO (mantletlaw13_MatchBehind.l0 k y0 y1 y2 y3 y4 y5 y6 y7 y8 y9 y10 y11) (mantletlaw13_MatchBehind.l0 (k + 1) y0 y1 y2 y3 y4 y5 y6 y7 y8 y9 y10 y11))
  | 0 => ⟨fun _ _ _ _ _ _ _ _ _ _ _ _ r h => by simp [mantletlaw13_MatchBehind.j0] at h, fun _ _ _ _ _ _ _ _ _ _ _ _ r h => by simp [mantletlaw13_MatchBehind.l0] at h⟩
  | k + 1 => by
    obtain ⟨ih0, ih1⟩ := mantletlaw13_MatchBehind.mono_l k
    refine ⟨?_, ?_⟩
    · intro y0 y1 y2 y3 y4 y5 y6 y7 y8 y9 y10 y11
      unfold mantletlaw13_MatchBehind.j0
      repeat' first
      | (with_reducible exact ih0 _ _ _ _ _ _ _ _ _ _ _ _)
      | (with_reducible exact ih1 _ _ _ _ _ _ _ _ _ _ _ _)
      | (with_reducible exact LeO.refl _)
      | (with_reducible exact LeO.none _)
      | (with_reducible refine LeO.ite ?_ ?_)
      | (with_reducible refine LeO.bind ?_ (fun _ => ?_))
      | exact ih0 _ _ _ _ _ _ _ _ _ _ _ _
      | exact ih1 _ _ _ _ _ _ _ _ _ _ _ _
      | exact LeO.none _
      | refine LeO.ite ?_ ?_
      | refine LeO.bind ?_ (fun _ => ?_)
    · intro y0 y1 y2 y3 y4 y5 y6 y7 y8 y9 y10 y11
      unfold mantletlaw13_MatchBehind.l0
      repeat' first
      | (with_reducible exact ih0 _ _ _ _ _ _ _ _ _ _ _ _)
      | (with_reducible exact ih1 _ _ _ _ _ _ _ _ _ _ _ _)
      | (with_reducible exact LeO.refl _)
      | (with_reducible exact LeO.none _)
      | (with_reducible refine LeO.ite ?_ ?_)
      | (with_reducible refine LeO.bind ?_ (fun _ => ?_))
      | exact ih0 _ _ _ _ _ _ _ _ _ _ _ _
      | exact ih1 _ _ _ _ _ _ _ _ _ _ _ _
      | exact LeO.none _
      | refine LeO.ite ?_ ?_
      | refine LeO.bind ?_ (fun _ => ?_)
theorem mantletlaw13_MatchBehind.mono : ∀ a0 a1 a2 a3 a4 a5 a6 a7 a8 k, LeO (mantletlaw13_MatchBehind.f k a0 a1 a2 a3 a4 a5 a6 a7 a8) (mantletlaw13_MatchBehind.f (k + 1) a0 a1 a2 a3 a4 a5 a6 a7 a8) := by
  intro a0 a1 a2 a3 a4 a5 a6 a7 a8 k
  obtain ⟨ih0, ih1⟩ := mantletlaw13_MatchBehind.mono_l k
  unfold mantletlaw13_MatchBehind.f
  repeat' first
      | (with_reducible exact ih0 _ _ _ _ _ _ _ _ _ _ _ _)
      | (with_reducible exact ih1 _ _ _ _ _ _ _ _ _ _ _ _)
      | (with_reducible exact LeO.refl _)
      | (with_reducible exact LeO.none _)
      | (with_reducible refine LeO.ite ?_ ?_)
      | (with_reducible refine LeO.bind ?_ (fun _ => ?_))
      | exact ih0 _ _ _ _ _ _ _ _ _ _ _ _
      | exact ih1 _ _ _ _ _ _ _ _ _ _ _ _
      | exact LeO.none _
      | refine LeO.ite ?_ ?_
      | refine LeO.bind ?_ (fun _ => ?_)
def mantletlaw13_MatchBehind.T1 : Bool × List (List Nat × List Nat) := (true, [([], []), ([0], [0]), ([], []), ([1, 2, 1], [1, 2]), ([3], [3]), ([4], [4]), ([4], [4]), ([5, 3, 0, 1, 2, 3, 4, 5], [5]), ([6, 7, 0, 1, 2, 3, 4, 5, 6, 7], [6])])
def mantletlaw13_MatchBehind.B1 : List Nat := [0, 1, 0, 7, 15, 31, 31, 63, 255]
theorem mantletlaw13_MatchBehind.tab1 : rtab .any (opsOf Try.f5 1) = mantletlaw13_MatchBehind.T1 := by kernel_rfl
theorem mantletlaw13_MatchBehind.bits1 : waitsOk mantletlaw13_MatchBehind.T1.2 mantletlaw13_MatchBehind.B1 = true := by kernel_rfl
def mantletlaw13_MatchBehind.T4 : Bool × List (List Nat × List Nat) := (true, [([], []), ([], []), ([1], [1]), ([0, 2], [0, 2]), ([3], [3]), ([4], [4]), ([4], [4]), ([5, 6, 4], [4, 5, 6]), ([7, 4], [4, 7]), ([4], [4]), ([8, 9, 4, 4], [4, 8, 9]), ([10, 4], [4, 10]), ([4, 11], [4, 11])])
def mantletlaw13_MatchBehind.B4 : List Nat := [0, 0, 2, 7, 15, 31, 31, 127, 255, 31, 1023, 2047, 4095]
theorem mantletlaw13_MatchBehind.tab4 : rtab .any (opsOf Try.f5 4) = mantletlaw13_MatchBehind.T4 := by kernel_rfl
theorem mantletlaw13_MatchBehind.bits4 : waitsOk mantletlaw13_MatchBehind.T4.2 mantletlaw13_MatchBehind.B4 = true := by kernel_rfl
def mantletlaw13_MatchBehind.T11 : Bool × List (List Nat × List Nat) := (true, [([], []), ([], []), ([], []), ([2], [2]), ([1, 3], [1, 3]), ([0, 4], [0, 4]), ([], []), ([6, 5], [6]), ([5, 7, 7], [5, 7]), ([], []), ([8, 9, 8], [8, 9]), ([10], [10]), ([11], [11]), ([11], [11]), ([12, 10, 0, 1, 2, 3, 4, 5, 6, 7, 8, 9, 10, 11, 12], [12]), ([13, 14, 0, 1, 2, 3, 4, 5, 6, 7, 8, 9, 10, 11, 12, 13, 14], [13])])
def mantletlaw13_MatchBehind.B11 : List Nat := [0, 0, 0, 4, 14, 31, 0, 127, 255, 0, 1023, 2047, 4095, 4095, 8191, 32767]
theorem mantletlaw13_MatchBehind.tab11 : rtab .any (opsOf Try.f5 11) = mantletlaw13_MatchBehind.T11 := by kernel_rfl
theorem mantletlaw13_MatchBehind.bits11 : waitsOk mantletlaw13_MatchBehind.T11.2 mantletlaw13_MatchBehind.B11 = true := by kernel_rfl
set_option maxHeartbeats 8000000 in
set_option maxRecDepth 100000 in
theorem mantletlaw13_MatchBehind.calls (k : Nat) (A0 : Option Addr) (c0 : Nat) (l0 : List (S32)) (A1 : Option Addr) (c1 : Nat) (l1 : List (S32)) (a2_0 : Int) (a2_1 : Int) (a2_2 : Int) (a2_3 : Int) (a2_4 : Int) (a2_5 : Int) (a2_6 : Int) (r : Bool) (w : World) (hr0 : Kd.C k32 w A0 l0.length l0) (hc0 : l0.length ≤ c0) (hr1 : Kd.C k32 w A1 l1.length l1) (hc1 : l1.length ≤ c1) (h : mantletlaw13_MatchBehind.f k l0 l1 a2_0 a2_1 a2_2 a2_3 a2_4 a2_5 a2_6 = some r) (hT_ : r = true) :
    Calls Try.prog 5 #[.slice A0 l0.length c0, .slice A1 l1.length c1, .agg #[.int .u8 a2_0, .int .u32 a2_1, .int .u32 a2_2, .int .u16 a2_3, .int .u16 a2_4, .int .u8 a2_5, .int .u8 a2_6]] w fun e w' => e = .returned (.bool r) ∧ Below w.heap.size w w' := by
 have HT := Aside0.mk hT_
 clear hT_
 have hu26 := Try.underlying26
 have hu32 := Try.underlying32
 have HR0 := Aside0.mk hr0
 have HC0 := Aside0.mk hc0
 clear hr0 hc0
 have HR1 := Aside0.mk hr1
 have HC1 := Aside0.mk hc1
 clear hr1 hc1
 have HB := Aside0.mk (Below.refl w.heap.size w)
 have H : ((mantletlaw13_few.f l0).bind fun t185 => ((match_First.f t185 a2_0 a2_1 a2_2 a2_3 a2_4 a2_5 a2_6).bind fun bt188 => (if bt188.1 < 0 then ((mantletlaw13_awake.f).bind fun t190 => (if t190 = true then (some (!bt188.2)) else (some false))) else (if bt188.1 ≥ (l0.length : Int) then (mantletlaw13_MatchBehind.j0 k l0 l1 bt188.1 bt188.2 true a2_0 a2_1 a2_2 a2_3 a2_4 a2_5 a2_6) else (if 0 ≤ bt188.1 then (if bt188.1 < (l0.length : Int) then ((match_Matches.f ((rd_T32 l0 bt188.1).f0) ((rd_T32 l0 bt188.1).f1) ((rd_T32 l0 bt188.1).f2.f0) ((rd_T32 l0 bt188.1).f2.f1) ((rd_T32 l0 bt188.1).f3.f0) ((rd_T32 l0 bt188.1).f3.f1) ((rd_T32 l0 bt188.1).f4.f0) ((rd_T32 l0 bt188.1).f4.f1) ((rd_T32 l0 bt188.1).f5.f0) ((rd_T32 l0 bt188.1).f5.f1) a2_0 a2_1 a2_2 a2_3 a2_4 a2_5 a2_6).bind fun t192 => (mantletlaw13_MatchBehind.j0 k l0 l1 bt188.1 bt188.2 (!t192) a2_0 a2_1 a2_2 a2_3 a2_4 a2_5 a2_6)) else (none)) else (none)))))) = some r := h
 clear h
 replace H := Option.bind_eq_some_iff.mp H
 obtain ⟨t185, A40, H⟩ := H
 replace H : ((match_First.f t185 a2_0 a2_1 a2_2 a2_3 a2_4 a2_5 a2_6).bind fun bt188 => (if bt188.1 < 0 then ((mantletlaw13_awake.f).bind fun t190 => (if t190 = true then (some (!bt188.2)) else (some false))) else (if bt188.1 ≥ (l0.length : Int) then (mantletlaw13_MatchBehind.j0 k l0 l1 bt188.1 bt188.2 true a2_0 a2_1 a2_2 a2_3 a2_4 a2_5 a2_6) else (if 0 ≤ bt188.1 then (if bt188.1 < (l0.length : Int) then ((match_Matches.f ((rd_T32 l0 bt188.1).f0) ((rd_T32 l0 bt188.1).f1) ((rd_T32 l0 bt188.1).f2.f0) ((rd_T32 l0 bt188.1).f2.f1) ((rd_T32 l0 bt188.1).f3.f0) ((rd_T32 l0 bt188.1).f3.f1) ((rd_T32 l0 bt188.1).f4.f0) ((rd_T32 l0 bt188.1).f4.f1) ((rd_T32 l0 bt188.1).f5.f0) ((rd_T32 l0 bt188.1).f5.f1) a2_0 a2_1 a2_2 a2_3 a2_4 a2_5 a2_6).bind fun t192 => (mantletlaw13_MatchBehind.j0 k l0 l1 bt188.1 bt188.2 (!t192) a2_0 a2_1 a2_2 a2_3 a2_4 a2_5 a2_6)) else (none)) else (none))))) = some r := H
 have A4 := Aside0.mk A40
 clear A40
 replace H := Option.bind_eq_some_iff.mp H
 obtain ⟨⟨t188, t189⟩, A50, H⟩ := H
 replace H : (if t188 < 0 then ((mantletlaw13_awake.f).bind fun t190 => (if t190 = true then (some (!t189)) else (some false))) else (if t188 ≥ (l0.length : Int) then (mantletlaw13_MatchBehind.j0 k l0 l1 t188 t189 true a2_0 a2_1 a2_2 a2_3 a2_4 a2_5 a2_6) else (if 0 ≤ t188 then (if t188 < (l0.length : Int) then ((match_Matches.f ((rd_T32 l0 t188).f0) ((rd_T32 l0 t188).f1) ((rd_T32 l0 t188).f2.f0) ((rd_T32 l0 t188).f2.f1) ((rd_T32 l0 t188).f3.f0) ((rd_T32 l0 t188).f3.f1) ((rd_T32 l0 t188).f4.f0) ((rd_T32 l0 t188).f4.f1) ((rd_T32 l0 t188).f5.f0) ((rd_T32 l0 t188).f5.f1) a2_0 a2_1 a2_2 a2_3 a2_4 a2_5 a2_6).bind fun t192 => (mantletlaw13_MatchBehind.j0 k l0 l1 t188 t189 (!t192) a2_0 a2_1 a2_2 a2_3 a2_4 a2_5 a2_6)) else (none)) else (none)))) = some r := H
 have A5 := Aside0.mk A50
 clear A50
 have HH_ := Aside0.mk H
 clear H
 go_enter Try.func5, Try.ntmps5
 try go_wp2_with (first | ((with_reducible refine gate_dst (N := 5) rfl ?_); refine box_event ?hg (N := 5) ?hd (cs := #[.int .u8 a2_0, .int .u32 a2_1, .int .u32 a2_2, .int .u16 a2_3, .int .u16 a2_4, .int .u8 a2_5, .int .u8 a2_6]) (t := 26) ?hr ?_; (case hd => rfl); (case hg => rfl); (case hr => first | (go_simp; done) | (go_simp; rfl)); intro gb900 hg w901 hbox hb; have n0_ := Aside0.mk (below_step (by repeat first | (with_reducible first | exact HB.out | apply below_alloc | apply pw_below_drewN | apply below_drew1) | exact HB.out) hb); have n1_ := Aside0.mk (hbox); have n2_ := Aside0.mk ((by rw [hg]; exact (below_size (by repeat first | (with_reducible first | exact HB.out | apply below_alloc | apply pw_below_drewN | apply below_drew1) | exact HB.out)) : w.heap.size ≤ gb900)); have n3_ := Aside0.mk ((by rw [hg]; exact (below_size (by repeat first | (with_reducible first | exact HB.out | apply below_alloc | apply pw_below_drewN | apply below_drew1) | exact HB.out)) : w.heap.size ≤ gb900)); clear HB; have HB := n0_; have BK902 := n1_; have GW903 := n2_; have GE904 := n3_; clear n0_ n1_ n2_ n3_; clear hb hbox hg))
 have n0_ := Aside0.mk (blk_drew BK902.out)
 have n1_ := Aside0.mk (below_drew1 HB.out)
 clear BK902
 clear HB
 have BK902 := n0_
 have HB := n1_
 clear n0_ n1_
 refine start_ (n := 9) (S := fun w' => w'.cell? ⟨gb900, 0, none⟩ = some (.int .u8 a2_0) ∧ w'.cell? ⟨gb900, 1, none⟩ = some (.int .u32 a2_1) ∧ w'.cell? ⟨gb900, 2, none⟩ = some (.int .u32 a2_2) ∧ w'.cell? ⟨gb900, 3, none⟩ = some (.int .u16 a2_3) ∧ w'.cell? ⟨gb900, 4, none⟩ = some (.int .u16 a2_4) ∧ w'.cell? ⟨gb900, 5, none⟩ = some (.int .u8 a2_5) ∧ w'.cell? ⟨gb900, 6, none⟩ = some (.int .u8 a2_6)) (ds := []) #[false, false, false, false, false, false, false, false, false] (by kernel_rfl) rfl rfl ⟨(blk_cell BK902.out 0).trans rfl, (blk_cell BK902.out 1).trans rfl, (blk_cell BK902.out 2).trans rfl, (blk_cell BK902.out 3).trans rfl, (blk_cell BK902.out 4).trans rfl, (blk_cell BK902.out 5).trans rfl, (blk_cell BK902.out 6).trans rfl⟩ (fun hHeld => ?_); refine with_tabW mantletlaw13_MatchBehind.tab1 mantletlaw13_MatchBehind.bits1 (fun HT_ HW_ => ?_)
 generalize w901.drew = w905 at BK902 HB hHeld ⊢
 refine pure_ (i := 0) (N := some 13) (v := ?_) (a' := ?_) #[true, false, false, false, false, false, false, false, false] rfl rfl (any_of HT_.out (by kernel_rfl)) (fun _ _ _ h => h) (Or.inl ⟨by rfl, ?_⟩) ?_ ?_
 rotate_left
 ·intro w'
  go_simp
  with_reducible rfl
 rotate_left
 ·simp only [Act.put, List.setIfInBounds_toArray, List.set_cons_zero, List.set_cons_succ, i64_w, i32_w]
  rfl
 refine take_ (i := 2) (N := some 15) (v := ?_) (a' := ?_) #[true, false, true, false, false, false, false, false, false] rfl rfl (take_ofW HT_.out HW_.out (by kernel_rfl)) (fun _ _ _ h => h) (Or.inl ⟨by rfl, ?_⟩) hHeld ?_ ?_
 rotate_left
 ·rintro w' ⟨s906, s907, s908, s909, s910, s911, s912⟩
  go_simp
  with_reducible rfl
 rotate_left
 ·simp only [Act.put, List.setIfInBounds_toArray, List.set_cons_zero, List.set_cons_succ, i64_w, i32_w]
  rfl
 refine one_ (i := 1) (N := some 14) #[true, true, true, false, false, false, false, false, false] rfl rfl (one_of HT_.out (by kernel_rfl)) (by decide) (fun K hK => ?_)
 refine goes_ Try.func15 (by kernel_rfl) rfl #[.slice A0 l0.length c0] (by rfl) rfl rfl (by (try simp only [List.map_toArray, List.map_cons, List.map_nil]); first | done | rfl) ?_
 with_reducible refine (mantletlaw13_few.calls (fun k_ => k_ < w.heap.size) _ _ l0 t185 _ ?side913 A4.out).mono ?_
 (case side913 => exact Kd.V_mk HC0.out (Kd.F_below (Kd.C_F k32_heap HR0.out) (by repeat first | (with_reducible first | exact HB.out | apply below_alloc | apply pw_below_drewN | apply below_drew1 | refine below_set ?_ GE904.out) | exact HB.out)))
 rintro e w914 ⟨v915, rfl, ho916, hb⟩
 refine ⟨_, rfl, ?_⟩
 have n0_ := Aside0.mk (Kd.V_lower (Kd.V_mono (ok' := fun k_ => k_ ≠ gb900) ho916 (fun k_ hk_ => Or.elim hk_ (fun hs_ => fun e_ => Nat.not_le.2 hs_ (by rw [e_]; exact GW903.out)) (fun hn_ => (Kd.freshB (g := gb900) (o := .cells #[.int .u8 a2_0, .int .u32 a2_1, .int .u32 a2_2, .int .u16 a2_3, .int .u16 a2_4, .int .u8 a2_5, .int .u8 a2_6] 26 (0, 0)) (by (with_reducible repeat first | apply blk_drewN | apply blk_drew | apply blk_alloc); exact BK902.out) k_ hn_)))) (below_size (by repeat first | (with_reducible first | exact HB.out | apply below_alloc | apply pw_below_drewN | apply below_drew1 | refine below_set ?_ GE904.out) | exact HB.out)))
 have n1_ := Aside0.mk (blk_below (g := gb900) (o := .cells #[.int .u8 a2_0, .int .u32 a2_1, .int .u32 a2_2, .int .u16 a2_3, .int .u16 a2_4, .int .u8 a2_5, .int .u8 a2_6] 26 (0, 0)) (by (with_reducible repeat first | apply blk_drewN | apply blk_drew | apply blk_alloc); exact BK902.out) hb)
 have n2_ := Aside0.mk (below_step (by repeat first | (with_reducible first | exact HB.out | apply below_alloc | apply pw_below_drewN | apply below_drew1 | refine below_set ?_ GE904.out) | exact HB.out) hb)
 clear BK902
 clear HB
 have HO917 := n0_
 have BK902 := n1_
 have HB := n2_
 clear n0_ n1_ n2_
 (try clear hb)
 (try clear hb2)
 (try clear hk)
 (try clear hi)
 (try clear ho916)
 obtain ⟨Ao918, co919, eo920⟩ := Kd.V_slice HO917.out
 (first | subst eo920 | (injection eo920 with f1_ f2_ f3_; have f921 := f1_.symm; have f922 := f3_.symm; clear f1_ f2_ f3_; subst f921; subst f922))
 refine hK.out _ _ ⟨(blk_cell BK902.out 0).trans rfl, (blk_cell BK902.out 1).trans rfl, (blk_cell BK902.out 2).trans rfl, (blk_cell BK902.out 3).trans rfl, (blk_cell BK902.out 4).trans rfl, (blk_cell BK902.out 5).trans rfl, (blk_cell BK902.out 6).trans rfl⟩ (fun hHeld => ?_)
 clear hK K
 refine norm_ (a' := ?_) ?_ ?_
 rotate_left
 ·show Act.put _ (some 14) _ = _
  simp only [Act.put, List.setIfInBounds_toArray, List.set_cons_zero, List.set_cons_succ, i64_w, i32_w]
  rfl
 refine one_ (i := 3) (N := some 16) #[true, true, true, true, false, false, false, false, false] rfl rfl (one_of HT_.out (by kernel_rfl)) (by decide) (fun K hK => ?_)
 refine goes_ Try.func14 (by kernel_rfl) rfl #[.slice Ao918 t185.length co919, .agg #[.int .u8 a2_0, .int .u32 a2_1, .int .u32 a2_2, .int .u16 a2_3, .int .u16 a2_4, .int .u8 a2_5, .int .u8 a2_6]] (by rfl) rfl rfl (by (try simp only [List.map_toArray, List.map_cons, List.map_nil]); first | done | rfl) ?_
 with_reducible refine (match_First.calls _ _ t185 a2_0 a2_1 a2_2 a2_3 a2_4 a2_5 a2_6 t188 t189 _ ?side913 ?side923 A5.out).mono ?_
 (case side913 => repeat (first | exact (Kd.V_reads' HO917.out).2.2 | (with_reducible refine Kd.C_alloc ?_ _) | (with_reducible refine Kd.C_drewN ?_ _) | (with_reducible refine Kd.C_drew ?_)))
 (case side923 => exact (Kd.V_reads' HO917.out).2.1)
 rintro e w924 ⟨rfl, hb⟩
 refine ⟨_, rfl, ?_⟩
 have n0_ := Aside0.mk (Kd.V_below (by (with_reducible repeat (first | apply Kd.V_alloc | apply Kd.V_drewN | apply Kd.V_drew)); exact HO917.out) hb)
 have n1_ := Aside0.mk (blk_below (g := gb900) (o := .cells #[.int .u8 a2_0, .int .u32 a2_1, .int .u32 a2_2, .int .u16 a2_3, .int .u16 a2_4, .int .u8 a2_5, .int .u8 a2_6] 26 (0, 0)) (by (with_reducible repeat first | apply blk_drewN | apply blk_drew | apply blk_alloc); exact BK902.out) hb)
 have n2_ := Aside0.mk (below_step (by repeat first | (with_reducible first | exact HB.out | apply below_alloc | apply pw_below_drewN | apply below_drew1 | refine below_set ?_ GE904.out) | exact HB.out) hb)
 clear HO917
 clear BK902
 clear HB
 have HO917 := n0_
 have BK902 := n1_
 have HB := n2_
 clear n0_ n1_ n2_
 (try clear hb)
 (try clear hb2)
 (try clear hk)
 (try clear hi)
 refine hK.out _ _ ⟨(blk_cell BK902.out 0).trans rfl, (blk_cell BK902.out 1).trans rfl, (blk_cell BK902.out 2).trans rfl, (blk_cell BK902.out 3).trans rfl, (blk_cell BK902.out 4).trans rfl, (blk_cell BK902.out 5).trans rfl, (blk_cell BK902.out 6).trans rfl⟩ (fun hHeld => ?_)
 clear hK K
 refine norm_ (a' := ?_) ?_ ?_
 rotate_left
 ·show Act.put _ (some 16) _ = _
  simp only [Act.put, List.setIfInBounds_toArray, List.set_cons_zero, List.set_cons_succ, i64_w, i32_w]
  rfl
 refine pure_ (i := 4) (N := some 12) (v := ?_) (a' := ?_) #[true, true, true, true, true, false, false, false, false] rfl rfl (any_of HT_.out (by kernel_rfl)) (fun _ _ _ h => h) (Or.inl ⟨by rfl, ?_⟩) ?_ ?_
 rotate_left
 ·intro w'
  go_simp
  with_reducible rfl
 rotate_left
 ·simp only [Act.put, List.setIfInBounds_toArray, List.set_cons_zero, List.set_cons_succ, i64_w, i32_w]
  rfl
 refine pure_ (i := 5) (N := some 17) (v := ?_) (a' := ?_) #[true, true, true, true, true, true, false, false, false] rfl rfl (any_of HT_.out (by kernel_rfl)) (fun _ _ _ h => h) (Or.inl ⟨by rfl, ?_⟩) ?_ ?_
 rotate_left
 ·intro w'
  go_simp
  with_reducible rfl
 rotate_left
 ·simp only [Act.put, List.setIfInBounds_toArray, List.set_cons_zero, List.set_cons_succ, i64_w, i32_w]
  rfl
 refine pure_ (i := 6) (N := some 18) (v := ?_) (a' := ?_) #[true, true, true, true, true, true, true, false, false] rfl rfl (any_of HT_.out (by kernel_rfl)) (fun _ _ _ h => h) (Or.inl ⟨by rfl, ?_⟩) ?_ ?_
 rotate_left
 ·intro w'
  go_simp
  with_reducible rfl
 rotate_left
 ·simp only [Act.put, List.setIfInBounds_toArray, List.set_cons_zero, List.set_cons_succ, i64_w, i32_w]
  rfl
 refine pure_ (i := 7) (N := some 7) (v := ?_) (a' := ?_) #[true, true, true, true, true, true, true, true, false] rfl rfl (any_of HT_.out (by kernel_rfl)) (fun _ _ _ h => h) (Or.inl ⟨by rfl, ?_⟩) ?_ ?_
 rotate_left
 ·intro w'
  go_simp
  with_reducible rfl
 rotate_left
 ·simp only [Act.put, List.setIfInBounds_toArray, List.set_cons_zero, List.set_cons_succ, i64_w, i32_w]
  rfl
 refine pure_ (i := 8) (N := some 8) (v := ?_) (a' := ?_) #[true, true, true, true, true, true, true, true, true] rfl rfl (any_of HT_.out (by kernel_rfl)) (fun _ _ _ h => h) (Or.inl ⟨by rfl, ?_⟩) ?_ ?_
 rotate_left
 ·intro w'
  go_simp
  with_reducible rfl
 rotate_left
 ·simp only [Act.put, List.setIfInBounds_toArray, List.set_cons_zero, List.set_cons_succ, i64_w, i32_w]
  rfl
 refine done_ (done_of HT_.out (by kernel_rfl)) ?_
 have H := HH_.out
 clear HH_
 by_cases c6 : t188 < 0
 ·rw [if_pos c6] at H
  have c6b0 : decide (t188 < 0) = true := decide_eq_true c6
  clear c6
  replace H := Option.bind_eq_some_iff.mp H
  obtain ⟨t190, A70, H⟩ := H
  replace H : (if t190 = true then (some (!t189)) else (some false)) = some r := H
  have A7 := Aside0.mk A70
  clear A70
  by_cases c8 : t190 = true
  ·subst c8
   have H1 : (some (!t189)) = some r := by rw [if_pos rfl] at H; exact H
   clear H
   have H := H1
   clear H1
   obtain rfl := Option.some.inj H
   try go_wp2_with (first | ((with_reducible refine gate_callee (f := 17) rfl ?_); refine goesL_ (some 21) rfl rfl Try.func17 (by kernel_rfl) rfl #[] rfl (by (try simp only [List.map_toArray, List.map_cons, List.map_nil]); first | done | rfl) ?_; (with_reducible refine (mantletlaw13_awake.calls  true _ A7.out).mono ?_); rintro e w925 ⟨rfl, hb⟩; refine ⟨_, rfl, ?_⟩; have n0_ := Aside0.mk (Kd.V_below (by (with_reducible repeat (first | apply Kd.V_alloc | apply Kd.V_drewN | apply Kd.V_drew)); exact HO917.out) hb); have n1_ := Aside0.mk (blk_below (g := gb900) (o := .cells #[.int .u8 a2_0, .int .u32 a2_1, .int .u32 a2_2, .int .u16 a2_3, .int .u16 a2_4, .int .u8 a2_5, .int .u8 a2_6] 26 (0, 0)) (by (with_reducible repeat first | apply blk_drewN | apply blk_drew | apply blk_alloc); exact BK902.out) hb); have n2_ := Aside0.mk (below_step (by repeat first | (with_reducible first | exact HB.out | apply below_alloc | apply pw_below_drewN | apply below_drew1 | refine below_set ?_ GE904.out) | exact HB.out) hb); clear HO917; clear BK902; clear HB; have HO917 := n0_; have BK902 := n1_; have HB := n2_; clear n0_ n1_ n2_; (try clear hb); (try clear hb2); (try clear hk); (try clear hi)))
   go_ret
   exact ⟨by first | rfl | (simp [errW_none, errW_some] <;> rfl) | (simp [*, errW_none, errW_some] <;> rfl), by repeat first | (with_reducible first | exact HB.out | apply below_alloc | apply pw_below_drewN | apply below_drew1 | refine below_set ?_ GE904.out) | exact HB.out⟩
  ·replace c8 := Bool.eq_false_iff.mpr c8
   subst c8
   have H1 : (some false) = some r := by rw [if_neg (show ¬ (false = true) by decide)] at H; exact H
   clear H
   have H := H1
   clear H1
   exact absurd ((Option.some.inj H).trans HT.out) (by decide)
 ·rw [if_neg c6] at H
  have c6b0 : decide (t188 < 0) = false := decide_eq_false c6
  clear c6
  have HC21 := Aside0.mk H
  clear H
  go_upto_region 4 with (fail)
  go_cut [38] (fun v38 wc => ∃ (kq : Nat) (x925 : Bool), v38 = .bool x925 ∧ Aside0 (mantletlaw13_MatchBehind.j0 kq l0 l1 t188 t189 x925 a2_0 a2_1 a2_2 a2_3 a2_4 a2_5 a2_6 = some r) ∧ Aside0 (kq ≤ k) ∧ Aside0 (wc.heap[gb900]? = some (.cells #[.int .u8 a2_0, .int .u32 a2_1, .int .u32 a2_2, .int .u16 a2_3, .int .u16 a2_4, .int .u8 a2_5, .int .u8 a2_6] 26 (0, 0))) ∧ Aside0 (Below w.heap.size w wc))
  case first =>
   have H := HC21.out
   clear HC21
   by_cases c27 : t188 ≥ (l0.length : Int)
   ·rw [if_pos c27] at H
    have c926 : decide ((l0.length : Int) ≤ t188) = true := decide_eq_true c27
    clear c27
    (first | rw [c926] | (simp only [i64_w, i32_w]; rw [c926]) | skip)
    have H' := Aside0.mk H
    clear H
    try go_wp2
    have n0_ := Aside0.mk (Kd.V_drew HO917.out)
    have n1_ := Aside0.mk (blk_drew BK902.out)
    have n2_ := Aside0.mk (below_drew1 HB.out)
    clear HO917
    clear BK902
    clear HB
    have HO917 := n0_
    have BK902 := n1_
    have HB := n2_
    clear n0_ n1_ n2_
    refine start_ (n := 13) (S := fun w' => True) (ds := []) #[false, false, false, false, false, false, false, false, false, false, false, false, false] (by kernel_rfl) rfl rfl trivial (fun hHeld => ?_); refine with_tabW mantletlaw13_MatchBehind.tab4 mantletlaw13_MatchBehind.bits4 (fun HT_ HW_ => ?_)
    generalize w924.drew = w927 at HO917 BK902 HB hHeld ⊢
    refine pure_ (i := 0) (N := some 26) (v := ?_) (a' := ?_) #[true, false, false, false, false, false, false, false, false, false, false, false, false] rfl rfl (any_of HT_.out (by kernel_rfl)) (fun _ _ _ h => h) (Or.inl ⟨by rfl, ?_⟩) ?_ ?_
    rotate_left
    ·intro w'
     go_simp
     with_reducible rfl
    rotate_left
    ·simp only [Act.put, List.setIfInBounds_toArray, List.set_cons_zero, List.set_cons_succ, i64_w, i32_w]
     rfl
    refine pure_ (i := 1) (N := some 27) (v := ?_) (a' := ?_) #[true, true, false, false, false, false, false, false, false, false, false, false, false] rfl rfl (any_of HT_.out (by kernel_rfl)) (fun _ _ _ h => h) (Or.inl ⟨by rfl, ?_⟩) ?_ ?_
    rotate_left
    ·intro w'
     go_simp
     with_reducible rfl
    rotate_left
    ·simp only [Act.put, List.setIfInBounds_toArray, List.set_cons_zero, List.set_cons_succ, i64_w, i32_w]
     rfl
    refine pure_ (i := 2) (N := some 28) (v := ?_) (a' := ?_) #[true, true, true, false, false, false, false, false, false, false, false, false, false] rfl rfl (any_of HT_.out (by kernel_rfl)) (fun _ _ _ h => h) (Or.inl ⟨by rfl, ?_⟩) ?_ ?_
    rotate_left
    ·intro w'
     go_simp
     with_reducible rfl
    rotate_left
    ·simp only [Act.put, List.setIfInBounds_toArray, List.set_cons_zero, List.set_cons_succ, i64_w, i32_w]
     rfl
    refine pure_ (i := 3) (N := some 29) (v := ?_) (a' := ?_) #[true, true, true, true, false, false, false, false, false, false, false, false, false] rfl rfl (any_of HT_.out (by kernel_rfl)) (fun _ _ _ h => h) (Or.inl ⟨by rfl, ?_⟩) ?_ ?_
    rotate_left
    ·intro w'
     go_simp
     with_reducible rfl
    rotate_left
    ·simp only [Act.put, List.setIfInBounds_toArray, List.set_cons_zero, List.set_cons_succ, i64_w, i32_w]
     rfl
    refine pure_ (i := 4) (N := some 30) (v := ?_) (a' := ?_) #[true, true, true, true, true, false, false, false, false, false, false, false, false] rfl rfl (any_of HT_.out (by kernel_rfl)) (fun _ _ _ h => h) (Or.inl ⟨by rfl, ?_⟩) ?_ ?_
    rotate_left
    ·intro w'
     go_simp
     with_reducible rfl
    rotate_left
    ·simp only [Act.put, List.setIfInBounds_toArray, List.set_cons_zero, List.set_cons_succ, i64_w, i32_w]
     rfl
    refine pure_ (i := 5) (N := some 31) (v := undef) (a' := ?_) #[true, true, true, true, true, true, false, false, false, false, false, false, false] rfl rfl (any_of HT_.out (by kernel_rfl)) (fun _ _ _ h => h) (Or.inr ⟨by rfl, rfl⟩) ?_ ?_
    rotate_left
    ·simp only [Act.put, List.setIfInBounds_toArray, List.set_cons_zero, List.set_cons_succ, i64_w, i32_w]
     rfl
    refine pure_ (i := 6) (N := some 32) (v := undef) (a' := ?_) #[true, true, true, true, true, true, true, false, false, false, false, false, false] rfl rfl (any_of HT_.out (by kernel_rfl)) (fun _ _ _ h => h) (Or.inr ⟨by rfl, rfl⟩) ?_ ?_
    rotate_left
    ·simp only [Act.put, List.setIfInBounds_toArray, List.set_cons_zero, List.set_cons_succ, i64_w, i32_w]
     rfl
    refine pure_ (i := 7) (N := some 33) (v := undef) (a' := ?_) #[true, true, true, true, true, true, true, true, false, false, false, false, false] rfl rfl (any_of HT_.out (by kernel_rfl)) (fun _ _ _ h => h) (Or.inr ⟨by rfl, rfl⟩) ?_ ?_
    rotate_left
    ·simp only [Act.put, List.setIfInBounds_toArray, List.set_cons_zero, List.set_cons_succ, i64_w, i32_w]
     rfl
    refine pure_ (i := 8) (N := some 34) (v := undef) (a' := ?_) #[true, true, true, true, true, true, true, true, true, false, false, false, false] rfl rfl (any_of HT_.out (by kernel_rfl)) (fun _ _ _ h => h) (Or.inr ⟨by rfl, rfl⟩) ?_ ?_
    rotate_left
    ·simp only [Act.put, List.setIfInBounds_toArray, List.set_cons_zero, List.set_cons_succ, i64_w, i32_w]
     rfl
    refine pure_ (i := 9) (N := some 35) (v := undef) (a' := ?_) #[true, true, true, true, true, true, true, true, true, true, false, false, false] rfl rfl (any_of HT_.out (by kernel_rfl)) (fun _ _ _ h => h) (Or.inr ⟨by rfl, rfl⟩) ?_ ?_
    rotate_left
    ·simp only [Act.put, List.setIfInBounds_toArray, List.set_cons_zero, List.set_cons_succ, i64_w, i32_w]
     rfl
    refine pure_ (i := 10) (N := some 36) (v := undef) (a' := ?_) #[true, true, true, true, true, true, true, true, true, true, true, false, false] rfl rfl (any_of HT_.out (by kernel_rfl)) (fun _ _ _ h => h) (Or.inr ⟨by rfl, rfl⟩) ?_ ?_
    rotate_left
    ·simp only [Act.put, List.setIfInBounds_toArray, List.set_cons_zero, List.set_cons_succ, i64_w, i32_w]
     rfl
    refine pure_ (i := 11) (N := some 37) (v := undef) (a' := ?_) #[true, true, true, true, true, true, true, true, true, true, true, true, false] rfl rfl (any_of HT_.out (by kernel_rfl)) (fun _ _ _ h => h) (Or.inr ⟨by rfl, rfl⟩) ?_ ?_
    rotate_left
    ·simp only [Act.put, List.setIfInBounds_toArray, List.set_cons_zero, List.set_cons_succ, i64_w, i32_w]
     rfl
    refine pure_ (i := 12) (N := some 38) (v := ?_) (a' := ?_) #[true, true, true, true, true, true, true, true, true, true, true, true, true] rfl rfl (any_of HT_.out (by kernel_rfl)) (fun _ _ _ h => h) (Or.inl ⟨by rfl, ?_⟩) ?_ ?_
    rotate_left
    ·intro w'
     go_simp
     with_reducible rfl
    rotate_left
    ·simp only [Act.put, List.setIfInBounds_toArray, List.set_cons_zero, List.set_cons_succ, i64_w, i32_w]
     rfl
    refine done_ (done_of HT_.out (by kernel_rfl)) ?_
    try go_wp2
    go_meet
    case rel => exact ⟨_, (true), (by first | rfl | (simp; done) | (simp [*]; done)), H', ⟨by first | omega | exact Nat.le_refl _⟩, ⟨by (with_reducible repeat first | apply blk_drewN | apply blk_drew | apply blk_alloc); exact BK902.out⟩, ⟨by repeat first | (with_reducible first | exact HB.out | apply below_alloc | apply pw_below_drewN | apply below_drew1 | refine below_set ?_ GE904.out) | exact HB.out⟩⟩
   ·rw [if_neg c27] at H
    have c926 : decide ((l0.length : Int) ≤ t188) = false := decide_eq_false c27
    clear c27
    (first | rw [c926] | (simp only [i64_w, i32_w]; rw [c926]) | skip)
    by_cases c29 : 0 ≤ t188
    ·rw [if_pos c29] at H
     have c928 : decide (0 ≤ t188) = true := decide_eq_true c29
     clear c29
     by_cases c30 : t188 < (l0.length : Int)
     ·rw [if_pos c30] at H
      have c929 : decide (t188 < (l0.length : Int)) = true := decide_eq_true c30
      clear c30
      replace H := Option.bind_eq_some_iff.mp H
      obtain ⟨t192, A930, H⟩ := H
      replace H : (mantletlaw13_MatchBehind.j0 k l0 l1 t188 t189 (!t192) a2_0 a2_1 a2_2 a2_3 a2_4 a2_5 a2_6) = some r := H
      have A931 := Aside0.mk A930
      clear A930
      have H' := Aside0.mk H
      clear H
      try go_wp2
      have n0_ := Aside0.mk (Kd.V_drew HO917.out)
      have n1_ := Aside0.mk (blk_drew BK902.out)
      have n2_ := Aside0.mk (below_drew1 HB.out)
      clear HO917
      clear BK902
      clear HB
      have HO917 := n0_
      have BK902 := n1_
      have HB := n2_
      clear n0_ n1_ n2_
      have p932 : 0 ≤ (t188 : Int) := of_decide_eq_true (by first | (with_reducible assumption) | assumption)
      have q933 : t188 < (l0.length : Int) := of_decide_eq_true (by first | (with_reducible assumption) | assumption)
      obtain ⟨ad934, e935, hx936, hx937, hx938, hx939, hx940, hx941, hx942, hx943, hx944, hx945⟩ := at_T32 HR0.out t188 p932 q933
      have hw946 := hx945
      have hw947 := hx944
      have hw948 := hx943
      have hw949 := hx942
      have hw950 := hx941
      have hw951 := hx940
      have hw952 := hx939
      have hw953 := hx938
      have hw954 := hx937
      have hw955 := hx936
      cases e935
      replace hx936 := (HB.out.cell (World.block_lt_of_cell? w _ hx936)).trans hx936
      replace hx937 := (HB.out.cell (World.block_lt_of_cell? w _ hx937)).trans hx937
      replace hx938 := (HB.out.cell (World.block_lt_of_cell? w _ hx938)).trans hx938
      replace hx939 := (HB.out.cell (World.block_lt_of_cell? w _ hx939)).trans hx939
      replace hx940 := (HB.out.cell (World.block_lt_of_cell? w _ hx940)).trans hx940
      replace hx941 := (HB.out.cell (World.block_lt_of_cell? w _ hx941)).trans hx941
      replace hx942 := (HB.out.cell (World.block_lt_of_cell? w _ hx942)).trans hx942
      replace hx943 := (HB.out.cell (World.block_lt_of_cell? w _ hx943)).trans hx943
      replace hx944 := (HB.out.cell (World.block_lt_of_cell? w _ hx944)).trans hx944
      replace hx945 := (HB.out.cell (World.block_lt_of_cell? w _ hx945)).trans hx945
      replace p932 := eq_true p932
      replace q933 := eq_true q933
      refine start_ (n := 13) (S := fun w' => w'.cell? ⟨gb900, 0, none⟩ = some (.int .u8 a2_0) ∧ w'.cell? ⟨gb900, 1, none⟩ = some (.int .u32 a2_1) ∧ w'.cell? ⟨gb900, 2, none⟩ = some (.int .u32 a2_2) ∧ w'.cell? ⟨gb900, 3, none⟩ = some (.int .u16 a2_3) ∧ w'.cell? ⟨gb900, 4, none⟩ = some (.int .u16 a2_4) ∧ w'.cell? ⟨gb900, 5, none⟩ = some (.int .u8 a2_5) ∧ w'.cell? ⟨gb900, 6, none⟩ = some (.int .u8 a2_6) ∧ w'.cell? (ad934.add ((t188).toNat * 10)) = some (.bool ((rd_T32 l0 t188).f0)) ∧ w'.cell? ⟨(ad934.add ((t188).toNat * 10)).block, (ad934.add ((t188).toNat * 10)).off + 1, none⟩ = some (.int .u8 ((rd_T32 l0 t188).f1)) ∧ w'.cell? ⟨(ad934.add ((t188).toNat * 10)).block, (ad934.add ((t188).toNat * 10)).off + 2, none⟩ = some (.int .u32 ((rd_T32 l0 t188).f2.f0)) ∧ w'.cell? ⟨(ad934.add ((t188).toNat * 10)).block, (ad934.add ((t188).toNat * 10)).off + 3, none⟩ = some (.int .i64 ((rd_T32 l0 t188).f2.f1)) ∧ w'.cell? ⟨(ad934.add ((t188).toNat * 10)).block, (ad934.add ((t188).toNat * 10)).off + 4, none⟩ = some (.int .u32 ((rd_T32 l0 t188).f3.f0)) ∧ w'.cell? ⟨(ad934.add ((t188).toNat * 10)).block, (ad934.add ((t188).toNat * 10)).off + 5, none⟩ = some (.int .i64 ((rd_T32 l0 t188).f3.f1)) ∧ w'.cell? ⟨(ad934.add ((t188).toNat * 10)).block, (ad934.add ((t188).toNat * 10)).off + 6, none⟩ = some (.int .u16 ((rd_T32 l0 t188).f4.f0)) ∧ w'.cell? ⟨(ad934.add ((t188).toNat * 10)).block, (ad934.add ((t188).toNat * 10)).off + 7, none⟩ = some (.int .u16 ((rd_T32 l0 t188).f4.f1)) ∧ w'.cell? ⟨(ad934.add ((t188).toNat * 10)).block, (ad934.add ((t188).toNat * 10)).off + 8, none⟩ = some (.int .u16 ((rd_T32 l0 t188).f5.f0)) ∧ w'.cell? ⟨(ad934.add ((t188).toNat * 10)).block, (ad934.add ((t188).toNat * 10)).off + 9, none⟩ = some (.int .u16 ((rd_T32 l0 t188).f5.f1))) (ds := []) #[false, false, false, false, false, false, false, false, false, false, false, false, false] (by kernel_rfl) rfl rfl ⟨(blk_cell BK902.out 0).trans rfl, (blk_cell BK902.out 1).trans rfl, (blk_cell BK902.out 2).trans rfl, (blk_cell BK902.out 3).trans rfl, (blk_cell BK902.out 4).trans rfl, (blk_cell BK902.out 5).trans rfl, (blk_cell BK902.out 6).trans rfl, ((HB.out.cell (World.block_lt_of_cell? w _ hw955)).trans hw955), ((HB.out.cell (World.block_lt_of_cell? w _ hw954)).trans hw954), ((HB.out.cell (World.block_lt_of_cell? w _ hw953)).trans hw953), ((HB.out.cell (World.block_lt_of_cell? w _ hw952)).trans hw952), ((HB.out.cell (World.block_lt_of_cell? w _ hw951)).trans hw951), ((HB.out.cell (World.block_lt_of_cell? w _ hw950)).trans hw950), ((HB.out.cell (World.block_lt_of_cell? w _ hw949)).trans hw949), ((HB.out.cell (World.block_lt_of_cell? w _ hw948)).trans hw948), ((HB.out.cell (World.block_lt_of_cell? w _ hw947)).trans hw947), ((HB.out.cell (World.block_lt_of_cell? w _ hw946)).trans hw946)⟩ (fun hHeld => ?_); refine with_tabW mantletlaw13_MatchBehind.tab4 mantletlaw13_MatchBehind.bits4 (fun HT_ HW_ => ?_)
      generalize w924.drew = w956 at HO917 BK902 HB hx936 hx937 hx938 hx939 hx940 hx941 hx942 hx943 hx944 hx945 hHeld ⊢
      refine pure_ (i := 0) (N := some 26) (v := ?_) (a' := ?_) #[true, false, false, false, false, false, false, false, false, false, false, false, false] rfl rfl (any_of HT_.out (by kernel_rfl)) (fun _ _ _ h => h) (Or.inl ⟨by rfl, ?_⟩) ?_ ?_
      rotate_left
      ·intro w'
       go_simp
       with_reducible rfl
      rotate_left
      ·simp only [Act.put, List.setIfInBounds_toArray, List.set_cons_zero, List.set_cons_succ, i64_w, i32_w]
       rfl
      refine pure_ (i := 1) (N := some 27) (v := ?_) (a' := ?_) #[true, true, false, false, false, false, false, false, false, false, false, false, false] rfl rfl (any_of HT_.out (by kernel_rfl)) (fun _ _ _ h => h) (Or.inl ⟨by rfl, ?_⟩) ?_ ?_
      rotate_left
      ·intro w'
       go_simp
       with_reducible rfl
      rotate_left
      ·simp only [Act.put, List.setIfInBounds_toArray, List.set_cons_zero, List.set_cons_succ, i64_w, i32_w]
       rfl
      refine pure_ (i := 2) (N := some 28) (v := ?_) (a' := ?_) #[true, true, true, false, false, false, false, false, false, false, false, false, false] rfl rfl (any_of HT_.out (by kernel_rfl)) (fun _ _ _ h => h) (Or.inl ⟨by rfl, ?_⟩) ?_ ?_
      rotate_left
      ·intro w'
       go_simp
       with_reducible rfl
      rotate_left
      ·simp only [Act.put, List.setIfInBounds_toArray, List.set_cons_zero, List.set_cons_succ, i64_w, i32_w]
       rfl
      refine pure_ (i := 3) (N := some 29) (v := ?_) (a' := ?_) #[true, true, true, true, false, false, false, false, false, false, false, false, false] rfl rfl (any_of HT_.out (by kernel_rfl)) (fun _ _ _ h => h) (Or.inl ⟨by rfl, ?_⟩) ?_ ?_
      rotate_left
      ·intro w'
       go_simp
       with_reducible rfl
      rotate_left
      ·simp only [Act.put, List.setIfInBounds_toArray, List.set_cons_zero, List.set_cons_succ, i64_w, i32_w]
       rfl
      refine pure_ (i := 4) (N := some 30) (v := ?_) (a' := ?_) #[true, true, true, true, true, false, false, false, false, false, false, false, false] rfl rfl (any_of HT_.out (by kernel_rfl)) (fun _ _ _ h => h) (Or.inl ⟨by rfl, ?_⟩) ?_ ?_
      rotate_left
      ·intro w'
       go_simp
       with_reducible rfl
      rotate_left
      ·simp only [Act.put, List.setIfInBounds_toArray, List.set_cons_zero, List.set_cons_succ, i64_w, i32_w]
       rfl
      refine pure_ (i := 5) (N := some 31) (v := ?_) (a' := ?_) #[true, true, true, true, true, true, false, false, false, false, false, false, false] rfl rfl (any_of HT_.out (by kernel_rfl)) (fun _ _ _ h => h) (Or.inl ⟨by rfl, ?_⟩) ?_ ?_
      rotate_left
      ·intro w'
       go_simp
       with_reducible rfl
      rotate_left
      ·simp only [Act.put, List.setIfInBounds_toArray, List.set_cons_zero, List.set_cons_succ, i64_w, i32_w]
       rfl
      refine pure_ (i := 6) (N := some 32) (v := ?_) (a' := ?_) #[true, true, true, true, true, true, true, false, false, false, false, false, false] rfl rfl (any_of HT_.out (by kernel_rfl)) (fun _ _ _ h => h) (Or.inl ⟨by rfl, ?_⟩) ?_ ?_
      rotate_left
      ·intro w'
       go_simp
       with_reducible rfl
      rotate_left
      ·simp only [Act.put, List.setIfInBounds_toArray, List.set_cons_zero, List.set_cons_succ, i64_w, i32_w]
       rfl
      refine pure_ (i := 7) (N := some 33) (v := ?_) (a' := ?_) #[true, true, true, true, true, true, true, true, false, false, false, false, false] rfl rfl (any_of HT_.out (by kernel_rfl)) (fun _ _ _ h => h) (Or.inl ⟨by rfl, ?_⟩) ?_ ?_
      rotate_left
      ·intro w'
       go_simp
       with_reducible rfl
      rotate_left
      ·simp only [Act.put, List.setIfInBounds_toArray, List.set_cons_zero, List.set_cons_succ, i64_w, i32_w]
       rfl
      refine take_ (i := 8) (N := some 34) (v := ?_) (a' := ?_) #[true, true, true, true, true, true, true, true, true, false, false, false, false] rfl rfl (take_ofW HT_.out HW_.out (by kernel_rfl)) (fun _ _ _ h => h) (Or.inl ⟨by rfl, ?_⟩) hHeld ?_ ?_
      rotate_left
      ·rintro w' ⟨s906, s907, s908, s909, s910, s911, s912, s957, s958, s959, s960, s961, s962, s963, s964, s965, s966⟩
       go_simp
       with_reducible rfl
      rotate_left
      ·simp only [Act.put, List.setIfInBounds_toArray, List.set_cons_zero, List.set_cons_succ, i64_w, i32_w]
       rfl
      refine take_ (i := 9) (N := some 35) (v := ?_) (a' := ?_) #[true, true, true, true, true, true, true, true, true, true, false, false, false] rfl rfl (take_ofW HT_.out HW_.out (by kernel_rfl)) (fun _ _ _ h => h) (Or.inl ⟨by rfl, ?_⟩) hHeld ?_ ?_
      rotate_left
      ·rintro w' ⟨s906, s907, s908, s909, s910, s911, s912, s957, s958, s959, s960, s961, s962, s963, s964, s965, s966⟩
       go_simp
       with_reducible rfl
      rotate_left
      ·simp only [Act.put, List.setIfInBounds_toArray, List.set_cons_zero, List.set_cons_succ, i64_w, i32_w]
       rfl
      refine one_ (i := 10) (N := some 36) #[true, true, true, true, true, true, true, true, true, true, true, false, false] rfl rfl (one_of HT_.out (by kernel_rfl)) (by decide) (fun K hK => ?_)
      refine goes_ Try.func18 (by kernel_rfl) rfl #[.agg #[.bool ((rd_T32 l0 t188).f0), .int .u8 ((rd_T32 l0 t188).f1), .int .u32 ((rd_T32 l0 t188).f2.f0), .int .i64 ((rd_T32 l0 t188).f2.f1), .int .u32 ((rd_T32 l0 t188).f3.f0), .int .i64 ((rd_T32 l0 t188).f3.f1), .int .u16 ((rd_T32 l0 t188).f4.f0), .int .u16 ((rd_T32 l0 t188).f4.f1), .int .u16 ((rd_T32 l0 t188).f5.f0), .int .u16 ((rd_T32 l0 t188).f5.f1)], .agg #[.int .u8 a2_0, .int .u32 a2_1, .int .u32 a2_2, .int .u16 a2_3, .int .u16 a2_4, .int .u8 a2_5, .int .u8 a2_6]] (by rfl) rfl rfl (by (try simp only [List.map_toArray, List.map_cons, List.map_nil]); first | done | rfl) ?_
      with_reducible refine (match_Matches.calls ((rd_T32 l0 t188).f0) ((rd_T32 l0 t188).f1) ((rd_T32 l0 t188).f2.f0) ((rd_T32 l0 t188).f2.f1) ((rd_T32 l0 t188).f3.f0) ((rd_T32 l0 t188).f3.f1) ((rd_T32 l0 t188).f4.f0) ((rd_T32 l0 t188).f4.f1) ((rd_T32 l0 t188).f5.f0) ((rd_T32 l0 t188).f5.f1) a2_0 a2_1 a2_2 a2_3 a2_4 a2_5 a2_6 t192 _ A931.out).mono ?_
      rintro e w967 ⟨rfl, hb⟩
      refine ⟨_, rfl, ?_⟩
      have n0_ := Aside0.mk (Kd.V_below (by (with_reducible repeat (first | apply Kd.V_alloc | apply Kd.V_drewN | apply Kd.V_drew)); exact HO917.out) hb)
      have n1_ := Aside0.mk (blk_below (g := gb900) (o := .cells #[.int .u8 a2_0, .int .u32 a2_1, .int .u32 a2_2, .int .u16 a2_3, .int .u16 a2_4, .int .u8 a2_5, .int .u8 a2_6] 26 (0, 0)) (by (with_reducible repeat first | apply blk_drewN | apply blk_drew | apply blk_alloc); exact BK902.out) hb)
      have n2_ := Aside0.mk (below_step (by repeat first | (with_reducible first | exact HB.out | apply below_alloc | apply pw_below_drewN | apply below_drew1 | refine below_set ?_ GE904.out) | exact HB.out) hb)
      clear HO917
      clear BK902
      clear HB
      have HO917 := n0_
      have BK902 := n1_
      have HB := n2_
      clear n0_ n1_ n2_
      (try clear hb)
      (try clear hb2)
      (try clear hk)
      (try clear hi)
      refine hK.out _ _ ⟨(blk_cell BK902.out 0).trans rfl, (blk_cell BK902.out 1).trans rfl, (blk_cell BK902.out 2).trans rfl, (blk_cell BK902.out 3).trans rfl, (blk_cell BK902.out 4).trans rfl, (blk_cell BK902.out 5).trans rfl, (blk_cell BK902.out 6).trans rfl, ((HB.out.cell (World.block_lt_of_cell? w _ hw955)).trans hw955), ((HB.out.cell (World.block_lt_of_cell? w _ hw954)).trans hw954), ((HB.out.cell (World.block_lt_of_cell? w _ hw953)).trans hw953), ((HB.out.cell (World.block_lt_of_cell? w _ hw952)).trans hw952), ((HB.out.cell (World.block_lt_of_cell? w _ hw951)).trans hw951), ((HB.out.cell (World.block_lt_of_cell? w _ hw950)).trans hw950), ((HB.out.cell (World.block_lt_of_cell? w _ hw949)).trans hw949), ((HB.out.cell (World.block_lt_of_cell? w _ hw948)).trans hw948), ((HB.out.cell (World.block_lt_of_cell? w _ hw947)).trans hw947), ((HB.out.cell (World.block_lt_of_cell? w _ hw946)).trans hw946)⟩ (fun hHeld => ?_)
      clear hK K
      refine norm_ (a' := ?_) ?_ ?_
      rotate_left
      ·show Act.put _ (some 36) _ = _
       simp only [Act.put, List.setIfInBounds_toArray, List.set_cons_zero, List.set_cons_succ, i64_w, i32_w]
       rfl
      refine pure_ (i := 11) (N := some 37) (v := ?_) (a' := ?_) #[true, true, true, true, true, true, true, true, true, true, true, true, false] rfl rfl (any_of HT_.out (by kernel_rfl)) (fun _ _ _ h => h) (Or.inl ⟨by rfl, ?_⟩) ?_ ?_
      rotate_left
      ·intro w'
       go_simp
       with_reducible rfl
      rotate_left
      ·simp only [Act.put, List.setIfInBounds_toArray, List.set_cons_zero, List.set_cons_succ, i64_w, i32_w]
       rfl
      refine pure_ (i := 12) (N := some 38) (v := ?_) (a' := ?_) #[true, true, true, true, true, true, true, true, true, true, true, true, true] rfl rfl (any_of HT_.out (by kernel_rfl)) (fun _ _ _ h => h) (Or.inl ⟨by rfl, ?_⟩) ?_ ?_
      rotate_left
      ·intro w'
       go_simp
       with_reducible rfl
      rotate_left
      ·simp only [Act.put, List.setIfInBounds_toArray, List.set_cons_zero, List.set_cons_succ, i64_w, i32_w]
       rfl
      refine done_ (done_of HT_.out (by kernel_rfl)) ?_
      try go_wp2
      go_meet
      case rel => exact ⟨_, (!t192), (by first | rfl | (simp; done) | (simp [*]; done)), H', ⟨by first | omega | exact Nat.le_refl _⟩, ⟨by (with_reducible repeat first | apply blk_drewN | apply blk_drew | apply blk_alloc); exact BK902.out⟩, ⟨by repeat first | (with_reducible first | exact HB.out | apply below_alloc | apply pw_below_drewN | apply below_drew1 | refine below_set ?_ GE904.out) | exact HB.out⟩⟩
     ·rw [if_neg c30] at H
      exact absurd H (by simp)
    ·rw [if_neg c29] at H
     exact absurd H (by simp)
  case rest =>
   clear HC21
   (try clear c1); (try clear c6); (try clear c6b0)
   obtain ⟨kq, x925, rfl, HA, HJ968, BK902, HB⟩ := hcut
   cases kq with
   | zero => exact absurd HA.out (by simp [mantletlaw13_MatchBehind.j0])
   | succ kj20 =>
    have H := HA.out
    clear HA
    simp only [mantletlaw13_MatchBehind.j0] at H
    by_cases c969 : x925 = true
    ·subst c969
     have H970 : (some false) = some r := by rw [if_pos rfl] at H; exact H
     clear H
     have H := H970
     clear H970
     exact absurd ((Option.some.inj H).trans HT.out) (by decide)
    ·replace c969 := Bool.eq_false_iff.mpr c969
     subst c969
     have H970 : (mantletlaw13_MatchBehind.l0 kj20 l0 l1 t188 t189 0 a2_0 a2_1 a2_2 a2_3 a2_4 a2_5 a2_6) = some r := by rw [if_neg (show ¬ (false = true) by decide)] at H; exact H
     clear H
     have H := H970
     clear H970
     have H' := Aside0.mk H
     clear H
     go_wp2
     go_loopg [9] kj20 (fun kq v9 w' => ∃ (x971 : Int), v9 = .int .i64 x971 ∧ Aside0 (mantletlaw13_MatchBehind.l0 kq l0 l1 t188 t189 x971 a2_0 a2_1 a2_2 a2_3 a2_4 a2_5 a2_6 = some r) ∧ Aside0 (kq ≤ kj20) ∧ Aside0 (w'.heap[gb900]? = some (.cells #[.int .u8 a2_0, .int .u32 a2_1, .int .u32 a2_2, .int .u16 a2_3, .int .u16 a2_4, .int .u8 a2_5, .int .u8 a2_6] 26 (0, 0))) ∧ Aside0 (Below w.heap.size w w'))
     case atStart => exact ⟨(0), (by first | rfl | (simp; done) | (simp [*]; done)), H', ⟨Nat.le_refl _⟩, ⟨by (with_reducible repeat first | apply blk_drewN | apply blk_drew | apply blk_alloc); exact BK902.out⟩, ⟨by repeat first | (with_reducible first | exact HB.out | apply below_alloc | apply pw_below_drewN | apply below_drew1 | refine below_set ?_ GE904.out) | exact HB.out⟩⟩
     case round =>
      clear H'
      (try clear c1); (try clear c6); (try clear c6b0); (try clear c969)
      obtain ⟨x971, rfl, HA, HK972, BK902, HB⟩ := hrel
      cases gk with
      | zero => exact absurd HA.out (by simp [mantletlaw13_MatchBehind.l0])
      | succ k2 =>
       have H := HA.out
       clear HA
       simp only [mantletlaw13_MatchBehind.l0] at H
       by_cases c35 : x971 < t188
       ·rw [if_pos c35] at H
        have c973 : decide (x971 < t188) = true := decide_eq_true c35
        clear c35
        by_cases c36 : 0 ≤ x971
        ·rw [if_pos c36] at H
         have c974 : decide (0 ≤ x971) = true := decide_eq_true c36
         clear c36
         by_cases c37 : x971 < (l0.length : Int)
         ·rw [if_pos c37] at H
          have c975 : decide (x971 < (l0.length : Int)) = true := decide_eq_true c37
          clear c37
          replace H := Option.bind_eq_some_iff.mp H
          obtain ⟨t194, A976, H⟩ := H
          replace H : (if t194 = true then (some false) else (mantletlaw13_MatchBehind.l0 k2 l0 l1 t188 t189 (wrap64 (x971 + 1)) a2_0 a2_1 a2_2 a2_3 a2_4 a2_5 a2_6)) = some r := H
          have A977 := Aside0.mk A976
          clear A976
          by_cases c978 : t194 = true
          ·subst c978
           have H970 : (some false) = some r := by rw [if_pos rfl] at H; exact H
           clear H
           have H := H970
           clear H970
           exact absurd ((Option.some.inj H).trans HT.out) (by decide)
          ·replace c978 := Bool.eq_false_iff.mpr c978
           subst c978
           have H970 : (mantletlaw13_MatchBehind.l0 k2 l0 l1 t188 t189 (wrap64 (x971 + 1)) a2_0 a2_1 a2_2 a2_3 a2_4 a2_5 a2_6) = some r := by rw [if_neg (show ¬ (false = true) by decide)] at H; exact H
           clear H
           have H := H970
           clear H970
           have H' := Aside0.mk H
           clear H
           try go_wp2
           have n0_ := Aside0.mk (blk_drew BK902.out)
           have n1_ := Aside0.mk (below_drew1 HB.out)
           clear BK902
           clear HB
           have BK902 := n0_
           have HB := n1_
           clear n0_ n1_
           have p979 : 0 ≤ (x971 : Int) := of_decide_eq_true (by first | (with_reducible assumption) | assumption)
           have q980 : x971 < (l0.length : Int) := of_decide_eq_true (by first | (with_reducible assumption) | assumption)
           obtain ⟨ad981, e982, hx983, hx984, hx985, hx986, hx987, hx988, hx989, hx990, hx991, hx992⟩ := at_T32 HR0.out x971 p979 q980
           have hw993 := hx992
           have hw994 := hx991
           have hw995 := hx990
           have hw996 := hx989
           have hw997 := hx988
           have hw998 := hx987
           have hw999 := hx986
           have hw9100 := hx985
           have hw9101 := hx984
           have hw9102 := hx983
           cases e982
           replace hx983 := (HB.out.cell (World.block_lt_of_cell? w _ hx983)).trans hx983
           replace hx984 := (HB.out.cell (World.block_lt_of_cell? w _ hx984)).trans hx984
           replace hx985 := (HB.out.cell (World.block_lt_of_cell? w _ hx985)).trans hx985
           replace hx986 := (HB.out.cell (World.block_lt_of_cell? w _ hx986)).trans hx986
           replace hx987 := (HB.out.cell (World.block_lt_of_cell? w _ hx987)).trans hx987
           replace hx988 := (HB.out.cell (World.block_lt_of_cell? w _ hx988)).trans hx988
           replace hx989 := (HB.out.cell (World.block_lt_of_cell? w _ hx989)).trans hx989
           replace hx990 := (HB.out.cell (World.block_lt_of_cell? w _ hx990)).trans hx990
           replace hx991 := (HB.out.cell (World.block_lt_of_cell? w _ hx991)).trans hx991
           replace hx992 := (HB.out.cell (World.block_lt_of_cell? w _ hx992)).trans hx992
           replace p979 := eq_true p979
           replace q980 := eq_true q980
           refine start_ (n := 6) (S := fun w' => w'.cell? ⟨gb900, 0, none⟩ = some (.int .u8 a2_0) ∧ w'.cell? ⟨gb900, 1, none⟩ = some (.int .u32 a2_1) ∧ w'.cell? ⟨gb900, 2, none⟩ = some (.int .u32 a2_2) ∧ w'.cell? ⟨gb900, 3, none⟩ = some (.int .u16 a2_3) ∧ w'.cell? ⟨gb900, 4, none⟩ = some (.int .u16 a2_4) ∧ w'.cell? ⟨gb900, 5, none⟩ = some (.int .u8 a2_5) ∧ w'.cell? ⟨gb900, 6, none⟩ = some (.int .u8 a2_6) ∧ w'.cell? (ad981.add ((x971).toNat * 10)) = some (.bool ((rd_T32 l0 x971).f0)) ∧ w'.cell? ⟨(ad981.add ((x971).toNat * 10)).block, (ad981.add ((x971).toNat * 10)).off + 1, none⟩ = some (.int .u8 ((rd_T32 l0 x971).f1)) ∧ w'.cell? ⟨(ad981.add ((x971).toNat * 10)).block, (ad981.add ((x971).toNat * 10)).off + 2, none⟩ = some (.int .u32 ((rd_T32 l0 x971).f2.f0)) ∧ w'.cell? ⟨(ad981.add ((x971).toNat * 10)).block, (ad981.add ((x971).toNat * 10)).off + 3, none⟩ = some (.int .i64 ((rd_T32 l0 x971).f2.f1)) ∧ w'.cell? ⟨(ad981.add ((x971).toNat * 10)).block, (ad981.add ((x971).toNat * 10)).off + 4, none⟩ = some (.int .u32 ((rd_T32 l0 x971).f3.f0)) ∧ w'.cell? ⟨(ad981.add ((x971).toNat * 10)).block, (ad981.add ((x971).toNat * 10)).off + 5, none⟩ = some (.int .i64 ((rd_T32 l0 x971).f3.f1)) ∧ w'.cell? ⟨(ad981.add ((x971).toNat * 10)).block, (ad981.add ((x971).toNat * 10)).off + 6, none⟩ = some (.int .u16 ((rd_T32 l0 x971).f4.f0)) ∧ w'.cell? ⟨(ad981.add ((x971).toNat * 10)).block, (ad981.add ((x971).toNat * 10)).off + 7, none⟩ = some (.int .u16 ((rd_T32 l0 x971).f4.f1)) ∧ w'.cell? ⟨(ad981.add ((x971).toNat * 10)).block, (ad981.add ((x971).toNat * 10)).off + 8, none⟩ = some (.int .u16 ((rd_T32 l0 x971).f5.f0)) ∧ w'.cell? ⟨(ad981.add ((x971).toNat * 10)).block, (ad981.add ((x971).toNat * 10)).off + 9, none⟩ = some (.int .u16 ((rd_T32 l0 x971).f5.f1))) (ds := []) #[false, false, false, false, false, false] (by kernel_rfl) rfl rfl ⟨(blk_cell BK902.out 0).trans rfl, (blk_cell BK902.out 1).trans rfl, (blk_cell BK902.out 2).trans rfl, (blk_cell BK902.out 3).trans rfl, (blk_cell BK902.out 4).trans rfl, (blk_cell BK902.out 5).trans rfl, (blk_cell BK902.out 6).trans rfl, ((HB.out.cell (World.block_lt_of_cell? w _ hw9102)).trans hw9102), ((HB.out.cell (World.block_lt_of_cell? w _ hw9101)).trans hw9101), ((HB.out.cell (World.block_lt_of_cell? w _ hw9100)).trans hw9100), ((HB.out.cell (World.block_lt_of_cell? w _ hw999)).trans hw999), ((HB.out.cell (World.block_lt_of_cell? w _ hw998)).trans hw998), ((HB.out.cell (World.block_lt_of_cell? w _ hw997)).trans hw997), ((HB.out.cell (World.block_lt_of_cell? w _ hw996)).trans hw996), ((HB.out.cell (World.block_lt_of_cell? w _ hw995)).trans hw995), ((HB.out.cell (World.block_lt_of_cell? w _ hw994)).trans hw994), ((HB.out.cell (World.block_lt_of_cell? w _ hw993)).trans hw993)⟩ (fun hHeld => ?_)
           generalize wr.drew = w9103 at BK902 HB hx983 hx984 hx985 hx986 hx987 hx988 hx989 hx990 hx991 hx992 hHeld ⊢
           refine pure_ (i := 0) (N := some 44) (v := ?_) (a' := ?_) #[true, false, false, false, false, false] rfl rfl (by kernel_rfl) (fun _ _ _ h => h) (Or.inl ⟨by rfl, ?_⟩) ?_ ?_
           rotate_left
           ·intro w'
            go_simp
            with_reducible rfl
           rotate_left
           ·simp only [Act.put, List.setIfInBounds_toArray, List.set_cons_zero, List.set_cons_succ, i64_w, i32_w]
            rfl
           refine pure_ (i := 1) (N := some 45) (v := ?_) (a' := ?_) #[true, true, false, false, false, false] rfl rfl (by kernel_rfl) (fun _ _ _ h => h) (Or.inl ⟨by rfl, ?_⟩) ?_ ?_
           rotate_left
           ·intro w'
            go_simp
            with_reducible rfl
           rotate_left
           ·simp only [Act.put, List.setIfInBounds_toArray, List.set_cons_zero, List.set_cons_succ, i64_w, i32_w]
            rfl
           refine pure_ (i := 2) (N := some 46) (v := ?_) (a' := ?_) #[true, true, true, false, false, false] rfl rfl (by kernel_rfl) (fun _ _ _ h => h) (Or.inl ⟨by rfl, ?_⟩) ?_ ?_
           rotate_left
           ·intro w'
            go_simp
            with_reducible rfl
           rotate_left
           ·simp only [Act.put, List.setIfInBounds_toArray, List.set_cons_zero, List.set_cons_succ, i64_w, i32_w]
            rfl
           refine take_ (i := 3) (N := some 47) (v := ?_) (a' := ?_) #[true, true, true, true, false, false] rfl rfl (by kernel_rfl) (fun _ _ _ h => h) (Or.inl ⟨by rfl, ?_⟩) hHeld ?_ ?_
           rotate_left
           ·rintro w' ⟨s906, s907, s908, s909, s910, s911, s912, s957, s958, s959, s960, s961, s962, s963, s964, s965, s966⟩
            go_simp
            with_reducible rfl
           rotate_left
           ·simp only [Act.put, List.setIfInBounds_toArray, List.set_cons_zero, List.set_cons_succ, i64_w, i32_w]
            rfl
           refine take_ (i := 4) (N := some 48) (v := ?_) (a' := ?_) #[true, true, true, true, true, false] rfl rfl (by kernel_rfl) (fun _ _ _ h => h) (Or.inl ⟨by rfl, ?_⟩) hHeld ?_ ?_
           rotate_left
           ·rintro w' ⟨s906, s907, s908, s909, s910, s911, s912, s957, s958, s959, s960, s961, s962, s963, s964, s965, s966⟩
            go_simp
            with_reducible rfl
           rotate_left
           ·simp only [Act.put, List.setIfInBounds_toArray, List.set_cons_zero, List.set_cons_succ, i64_w, i32_w]
            rfl
           refine one_ (i := 5) (N := some 49) #[true, true, true, true, true, true] rfl rfl (by kernel_rfl) (by decide) (fun K hK => ?_)
           refine goes_ Try.func18 (by kernel_rfl) rfl #[.agg #[.bool ((rd_T32 l0 x971).f0), .int .u8 ((rd_T32 l0 x971).f1), .int .u32 ((rd_T32 l0 x971).f2.f0), .int .i64 ((rd_T32 l0 x971).f2.f1), .int .u32 ((rd_T32 l0 x971).f3.f0), .int .i64 ((rd_T32 l0 x971).f3.f1), .int .u16 ((rd_T32 l0 x971).f4.f0), .int .u16 ((rd_T32 l0 x971).f4.f1), .int .u16 ((rd_T32 l0 x971).f5.f0), .int .u16 ((rd_T32 l0 x971).f5.f1)], .agg #[.int .u8 a2_0, .int .u32 a2_1, .int .u32 a2_2, .int .u16 a2_3, .int .u16 a2_4, .int .u8 a2_5, .int .u8 a2_6]] (by rfl) rfl rfl (by (try simp only [List.map_toArray, List.map_cons, List.map_nil]); first | done | rfl) ?_
           with_reducible refine (match_Matches.calls ((rd_T32 l0 x971).f0) ((rd_T32 l0 x971).f1) ((rd_T32 l0 x971).f2.f0) ((rd_T32 l0 x971).f2.f1) ((rd_T32 l0 x971).f3.f0) ((rd_T32 l0 x971).f3.f1) ((rd_T32 l0 x971).f4.f0) ((rd_T32 l0 x971).f4.f1) ((rd_T32 l0 x971).f5.f0) ((rd_T32 l0 x971).f5.f1) a2_0 a2_1 a2_2 a2_3 a2_4 a2_5 a2_6 false _ A977.out).mono ?_
           rintro e w9104 ⟨rfl, hb⟩
           refine ⟨_, rfl, ?_⟩
           have n0_ := Aside0.mk (blk_below (g := gb900) (o := .cells #[.int .u8 a2_0, .int .u32 a2_1, .int .u32 a2_2, .int .u16 a2_3, .int .u16 a2_4, .int .u8 a2_5, .int .u8 a2_6] 26 (0, 0)) (by (with_reducible repeat first | apply blk_drewN | apply blk_drew | apply blk_alloc); exact BK902.out) hb)
           have n1_ := Aside0.mk (below_step (by repeat first | (with_reducible first | exact HB.out | apply below_alloc | apply pw_below_drewN | apply below_drew1 | refine below_set ?_ GE904.out) | exact HB.out) hb)
           clear BK902
           clear HB
           have BK902 := n0_
           have HB := n1_
           clear n0_ n1_
           (try clear hb)
           (try clear hb2)
           (try clear hk)
           (try clear hi)
           refine hK.out _ _ ⟨(blk_cell BK902.out 0).trans rfl, (blk_cell BK902.out 1).trans rfl, (blk_cell BK902.out 2).trans rfl, (blk_cell BK902.out 3).trans rfl, (blk_cell BK902.out 4).trans rfl, (blk_cell BK902.out 5).trans rfl, (blk_cell BK902.out 6).trans rfl, ((HB.out.cell (World.block_lt_of_cell? w _ hw9102)).trans hw9102), ((HB.out.cell (World.block_lt_of_cell? w _ hw9101)).trans hw9101), ((HB.out.cell (World.block_lt_of_cell? w _ hw9100)).trans hw9100), ((HB.out.cell (World.block_lt_of_cell? w _ hw999)).trans hw999), ((HB.out.cell (World.block_lt_of_cell? w _ hw998)).trans hw998), ((HB.out.cell (World.block_lt_of_cell? w _ hw997)).trans hw997), ((HB.out.cell (World.block_lt_of_cell? w _ hw996)).trans hw996), ((HB.out.cell (World.block_lt_of_cell? w _ hw995)).trans hw995), ((HB.out.cell (World.block_lt_of_cell? w _ hw994)).trans hw994), ((HB.out.cell (World.block_lt_of_cell? w _ hw993)).trans hw993)⟩ (fun hHeld => ?_)
           clear hK K
           refine norm_ (a' := ?_) ?_ ?_
           rotate_left
           ·show Act.put _ (some 49) _ = _
            simp only [Act.put, List.setIfInBounds_toArray, List.set_cons_zero, List.set_cons_succ, i64_w, i32_w]
            rfl
           refine done_ (by kernel_rfl) ?_
           try go_wp2
           go_roundg k2
           case measure => have := HJ968.out; have := HK972.out; omega
           case rel => exact ⟨(wrap64 (x971 + 1)), (by first | rfl | (simp; done) | (simp [*]; done)), H', ⟨by have := HJ968.out; have := HK972.out; omega⟩, ⟨by (with_reducible repeat first | apply blk_drewN | apply blk_drew | apply blk_alloc); exact BK902.out⟩, ⟨by repeat first | (with_reducible first | exact HB.out | apply below_alloc | apply pw_below_drewN | apply below_drew1 | refine below_set ?_ GE904.out) | exact HB.out⟩⟩
         ·rw [if_neg c37] at H
          exact absurd H (by simp)
        ·rw [if_neg c36] at H
         exact absurd H (by simp)
       ·rw [if_neg c35] at H
        have c973 : decide (x971 < t188) = false := decide_eq_false c35
        clear c35
        obtain ⟨y195, hy9105⟩ : ∃ y_ : List (S32), y_ = (([] : List (S32))) := ⟨_, rfl⟩
        replace H : (if 0 ≤ (wrap64 (t188 + 1)) then (if (wrap64 (t188 + 1)) ≤ (l0.length : Int) then ((some (l0.take ((wrap64 (t188 + 1)) : Int).toNat : List (S32))).bind fun y198 => (if y195.length + y198.length < 2932031007402 then ((some (y195 ++ y198 : List (S32))).bind fun y202 => ((mantletlaw13_few.f l1).bind fun t205 => (if y202.length + t205.length < 2932031007402 then ((match_First.f (y202 ++ t205) a2_0 a2_1 a2_2 a2_3 a2_4 a2_5 a2_6).bind fun bt211 => ((mantletlaw13_awake.f).bind fun t213 => (if t213 = true then (if bt211.1 = t188 then (if (bt211.2 == t189) = true then (if 0 ≤ t188 then (if t188 < (l0.length : Int) then (some (t189 == ((rd_T32 l0 t188).f0))) else (none)) else (none)) else (some false)) else (some false)) else (some false)))) else (none)))) else (none))) else (none)) else (none)) = some r := by first | (rw [hy9105]; with_reducible exact H) | (have H9106 := (Option.bind_some _ _).symm.trans H; rw [hy9105]; with_reducible exact H9106) | (have H9106 := (Option.bind_some _ _).symm.trans H; with_reducible exact H9106) | with_reducible exact H | (rw [hy9105]; exact H) | exact H
        have Ny9107 := Aside0.mk hy9105
        clear hy9105
        obtain ⟨ji9108, hji9109⟩ : ∃ j_ : Int, (wrap64 (t188 + 1)) = j_ := ⟨_, rfl⟩
        replace H : (if 0 ≤ (ji9108) then (if (ji9108) ≤ (l0.length : Int) then ((some (l0.take ((ji9108) : Int).toNat : List (S32))).bind fun y198 => (if y195.length + y198.length < 2932031007402 then ((some (y195 ++ y198 : List (S32))).bind fun y202 => ((mantletlaw13_few.f l1).bind fun t205 => (if y202.length + t205.length < 2932031007402 then ((match_First.f (y202 ++ t205) a2_0 a2_1 a2_2 a2_3 a2_4 a2_5 a2_6).bind fun bt211 => ((mantletlaw13_awake.f).bind fun t213 => (if t213 = true then (if bt211.1 = t188 then (if (bt211.2 == t189) = true then (if 0 ≤ t188 then (if t188 < (l0.length : Int) then (some (t189 == ((rd_T32 l0 t188).f0))) else (none)) else (none)) else (some false)) else (some false)) else (some false)))) else (none)))) else (none))) else (none)) else (none)) = some r := by first | (rw [hji9109] at H; exact H) | (simp only [hji9109] at H ⊢; exact H)
        have hji9110 : (IntKind.i64.wrap (t188 + 1)) = ji9108 := (i64_w _).trans hji9109
        by_cases c45 : 0 ≤ (ji9108)
        ·rw [if_pos c45] at H
         have c9111 := eq_true c45
         have c9112 : decide (0 ≤ (ji9108)) = true := decide_eq_true c45
         clear c45
         by_cases c46 : (ji9108) ≤ (l0.length : Int)
         ·rw [if_pos c46] at H
          have c9113 := eq_true c46
          have c9114 : decide ((ji9108) ≤ (l0.length : Int)) = true := decide_eq_true c46
          (try have c9115 : ((ji9108) ≤ (c0 : Int)) = True := eq_true (by have h_ := HC0.out; have h9116 := c46; omega))
          clear c46
          obtain ⟨y198, hy9117⟩ : ∃ y_ : List (S32), y_ = (l0.take ((ji9108) : Int).toNat) := ⟨_, rfl⟩
          replace H : (if y195.length + y198.length < 2932031007402 then ((some (y195 ++ y198 : List (S32))).bind fun y202 => ((mantletlaw13_few.f l1).bind fun t205 => (if y202.length + t205.length < 2932031007402 then ((match_First.f (y202 ++ t205) a2_0 a2_1 a2_2 a2_3 a2_4 a2_5 a2_6).bind fun bt211 => ((mantletlaw13_awake.f).bind fun t213 => (if t213 = true then (if bt211.1 = t188 then (if (bt211.2 == t189) = true then (if 0 ≤ t188 then (if t188 < (l0.length : Int) then (some (t189 == ((rd_T32 l0 t188).f0))) else (none)) else (none)) else (some false)) else (some false)) else (some false)))) else (none)))) else (none)) = some r := by first | (rw [hy9117]; with_reducible exact H) | (have H9106 := (Option.bind_some _ _).symm.trans H; rw [hy9117]; with_reducible exact H9106) | (have H9106 := (Option.bind_some _ _).symm.trans H; with_reducible exact H9106) | with_reducible exact H | (rw [hy9117]; exact H) | exact H
          have Ny9118 := Aside0.mk hy9117
          clear hy9117
          by_cases c47 : y195.length + y198.length < 2932031007402
          ·rw [if_pos c47] at H
           have LMc9119 := Aside0.mk c47
           clear c47
           obtain ⟨y202, hy9120⟩ : ∃ y_ : List (S32), y_ = (y195 ++ y198) := ⟨_, rfl⟩
           replace H : ((mantletlaw13_few.f l1).bind fun t205 => (if y202.length + t205.length < 2932031007402 then ((match_First.f (y202 ++ t205) a2_0 a2_1 a2_2 a2_3 a2_4 a2_5 a2_6).bind fun bt211 => ((mantletlaw13_awake.f).bind fun t213 => (if t213 = true then (if bt211.1 = t188 then (if (bt211.2 == t189) = true then (if 0 ≤ t188 then (if t188 < (l0.length : Int) then (some (t189 == ((rd_T32 l0 t188).f0))) else (none)) else (none)) else (some false)) else (some false)) else (some false)))) else (none))) = some r := by first | (rw [hy9120]; with_reducible exact H) | (have H9106 := (Option.bind_some _ _).symm.trans H; rw [hy9120]; with_reducible exact H9106) | (have H9106 := (Option.bind_some _ _).symm.trans H; with_reducible exact H9106) | with_reducible exact H | (rw [hy9120]; exact H) | exact H
           have Ny9121 := Aside0.mk hy9120
           clear hy9120
           replace H := Option.bind_eq_some_iff.mp H
           obtain ⟨t205, A9122, H⟩ := H
           replace H : (if y202.length + t205.length < 2932031007402 then ((match_First.f (y202 ++ t205) a2_0 a2_1 a2_2 a2_3 a2_4 a2_5 a2_6).bind fun bt211 => ((mantletlaw13_awake.f).bind fun t213 => (if t213 = true then (if bt211.1 = t188 then (if (bt211.2 == t189) = true then (if 0 ≤ t188 then (if t188 < (l0.length : Int) then (some (t189 == ((rd_T32 l0 t188).f0))) else (none)) else (none)) else (some false)) else (some false)) else (some false)))) else (none)) = some r := H
           have A9123 := Aside0.mk A9122
           clear A9122
           by_cases c49 : y202.length + t205.length < 2932031007402
           ·rw [if_pos c49] at H
            have LMc9124 := Aside0.mk c49
            clear c49
            obtain ⟨y9125, hy9126⟩ : ∃ y_ : List (S32), y_ = (y202 ++ t205) := ⟨_, rfl⟩
            replace H : ((match_First.f y9125 a2_0 a2_1 a2_2 a2_3 a2_4 a2_5 a2_6).bind fun bt211 => ((mantletlaw13_awake.f).bind fun t213 => (if t213 = true then (if bt211.1 = t188 then (if (bt211.2 == t189) = true then (if 0 ≤ t188 then (if t188 < (l0.length : Int) then (some (t189 == ((rd_T32 l0 t188).f0))) else (none)) else (none)) else (some false)) else (some false)) else (some false)))) = some r := by first | (rw [hy9126]; with_reducible exact H) | (have H9106 := (Option.bind_some _ _).symm.trans H; rw [hy9126]; with_reducible exact H9106) | (have H9106 := (Option.bind_some _ _).symm.trans H; with_reducible exact H9106) | with_reducible exact H | (rw [hy9126]; exact H) | exact H
            have Ny9127 := Aside0.mk hy9126
            clear hy9126
            replace H := Option.bind_eq_some_iff.mp H
            obtain ⟨⟨t9128, t9129⟩, A9130, H⟩ := H
            replace H : ((mantletlaw13_awake.f).bind fun t213 => (if t213 = true then (if t9128 = t188 then (if (t9129 == t189) = true then (if 0 ≤ t188 then (if t188 < (l0.length : Int) then (some (t189 == ((rd_T32 l0 t188).f0))) else (none)) else (none)) else (some false)) else (some false)) else (some false))) = some r := H
            have A50 := Aside0.mk A9130
            clear A9130
            replace H := Option.bind_eq_some_iff.mp H
            obtain ⟨t213, A9131, H⟩ := H
            replace H : (if t213 = true then (if t9128 = t188 then (if (t9129 == t189) = true then (if 0 ≤ t188 then (if t188 < (l0.length : Int) then (some (t189 == ((rd_T32 l0 t188).f0))) else (none)) else (none)) else (some false)) else (some false)) else (some false)) = some r := H
            have A9132 := Aside0.mk A9131
            clear A9131
            by_cases c9133 : t213 = true
            ·subst c9133
             have H970 : (if t9128 = t188 then (if (t9129 == t189) = true then (if 0 ≤ t188 then (if t188 < (l0.length : Int) then (some (t189 == ((rd_T32 l0 t188).f0))) else (none)) else (none)) else (some false)) else (some false)) = some r := by rw [if_pos rfl] at H; exact H
             clear H
             have H := H970
             clear H970
             by_cases c53 : t9128 = t188
             ·rw [if_pos c53] at H
              have c9134 : (t9128 == t188) = true := beq_iff_eq.mpr c53
              have c9135 : (t9128 != t188) = false := bne_eq_false_iff_eq.mpr c53
              clear c53
              by_cases c54 : (t9129 == t189) = true
              ·rw [if_pos c54] at H
               have c9136 : (t9129 == t189) = true := c54
               (try (have c9137 : decide (t9129 = t189) = true := by simpa using c54))
               (try (have c9138 : (t9129 == t189) = true := by simpa using c54))
               clear c54
               by_cases c55 : 0 ≤ t188
               ·rw [if_pos c55] at H
                have c9139 : decide (0 ≤ t188) = true := decide_eq_true c55
                clear c55
                by_cases c56 : t188 < (l0.length : Int)
                ·rw [if_pos c56] at H
                 have c9140 : decide (t188 < (l0.length : Int)) = true := decide_eq_true c56
                 clear c56
                 obtain rfl := Option.some.inj H
                 try go_wp2
                 have n0_ := Aside0.mk (blk_drew BK902.out)
                 have n1_ := Aside0.mk (below_drew1 HB.out)
                 clear BK902
                 clear HB
                 have BK902 := n0_
                 have HB := n1_
                 clear n0_ n1_
                 have q9141 : ((ji9108) : Int) ≤ ((l0.length : Int) : Int) := of_decide_eq_true (by first | (with_reducible assumption) | assumption)
                 obtain ⟨i9142, hi9143, _, hsz9144, _⟩ := info_parts info32
                 have hroom9145 : l0.length ≤ c0 := HC0.out
                 have hC9146 : Kd.C k32 _ A0 l0.length l0 := HR0.out
                 have hcut9147 := cut_to (P := Try.prog) 22 32 .i64 Try.underlying22 hi9143 A0 l0.length c0 (ji9108) (of_decide_eq_true (by first | (with_reducible assumption) | assumption)) q9141 hroom9145
                 have hr9148 := Kd.C_take (m := ((ji9108) : Int).toNat) hC9146 (by omega)
                 have hy9149 : y198.length = ((ji9108) : Int).toNat := (by rw [Ny9118.out, List.length_take]; omega)
                 rw [← Ny9118.out] at hr9148
                 rw [← hy9149] at hcut9147
                 have HR9150 := Aside0.mk hr9148
                 have HC9151 := Aside0.mk (show y198.length ≤ c0 from by omega)
                 clear hr9148 hC9146 hroom9145 hi9143 hsz9144
                 have KY9152 := Aside0.mk hy9149
                 clear hy9149
                 replace q9141 := eq_true q9141
                 refine start_ (n := 16) (S := fun w' => w'.cell? ⟨gb900, 0, none⟩ = some (.int .u8 a2_0) ∧ w'.cell? ⟨gb900, 1, none⟩ = some (.int .u32 a2_1) ∧ w'.cell? ⟨gb900, 2, none⟩ = some (.int .u32 a2_2) ∧ w'.cell? ⟨gb900, 3, none⟩ = some (.int .u16 a2_3) ∧ w'.cell? ⟨gb900, 4, none⟩ = some (.int .u16 a2_4) ∧ w'.cell? ⟨gb900, 5, none⟩ = some (.int .u8 a2_5) ∧ w'.cell? ⟨gb900, 6, none⟩ = some (.int .u8 a2_6)) (ds := []) #[false, false, false, false, false, false, false, false, false, false, false, false, false, false, false, false] (by kernel_rfl) rfl rfl ⟨(blk_cell BK902.out 0).trans rfl, (blk_cell BK902.out 1).trans rfl, (blk_cell BK902.out 2).trans rfl, (blk_cell BK902.out 3).trans rfl, (blk_cell BK902.out 4).trans rfl, (blk_cell BK902.out 5).trans rfl, (blk_cell BK902.out 6).trans rfl⟩ (fun hHeld => ?_); refine with_tabW mantletlaw13_MatchBehind.tab11 mantletlaw13_MatchBehind.bits11 (fun HT_ HW_ => ?_)
                 generalize wr.drew = w9153 at BK902 HB HR9150 hHeld ⊢
                 refine pure_ (i := 1) (N := some 52) (v := ?_) (a' := ?_) #[false, true, false, false, false, false, false, false, false, false, false, false, false, false, false, false] rfl rfl (any_of HT_.out (by kernel_rfl)) (fun _ _ _ h => h) (Or.inl ⟨by rfl, ?_⟩) ?_ ?_
                 rotate_left
                 ·intro w'
                  go_simp
                  with_reducible rfl
                 rotate_left
                 ·simp only [Act.put, List.setIfInBounds_toArray, List.set_cons_zero, List.set_cons_succ, i64_w, i32_w]
                  rfl
                 refine pure_ (i := 2) (N := some 53) (v := ?_) (a' := ?_) #[false, true, true, false, false, false, false, false, false, false, false, false, false, false, false, false] rfl rfl (any_of HT_.out (by kernel_rfl)) (fun _ _ _ h => h) (Or.inl ⟨by rfl, ?_⟩) ?_ ?_
                 rotate_left
                 ·intro w'
                  go_simp
                  with_reducible rfl
                 rotate_left
                 ·simp only [Act.put, List.setIfInBounds_toArray, List.set_cons_zero, List.set_cons_succ, i64_w, i32_w]
                  rfl
                 refine pure_ (i := 3) (N := some 54) (v := ?_) (a' := ?_) #[false, true, true, true, false, false, false, false, false, false, false, false, false, false, false, false] rfl rfl (any_of HT_.out (by kernel_rfl)) (fun _ _ _ h => h) (Or.inl ⟨by rfl, ?_⟩) ?_ ?_
                 rotate_left
                 ·intro w'
                  go_simp
                  with_reducible rfl
                 rotate_left
                 ·simp only [Act.put, List.setIfInBounds_toArray, List.set_cons_zero, List.set_cons_succ, i64_w, i32_w]
                  rfl
                 refine pure_ (i := 4) (N := some 55) (v := ?_) (a' := ?_) #[false, true, true, true, true, false, false, false, false, false, false, false, false, false, false, false] rfl rfl (any_of HT_.out (by kernel_rfl)) (fun _ _ _ h => h) (Or.inl ⟨by rfl, ?_⟩) ?_ ?_
                 rotate_left
                 ·intro w'
                  go_simp
                  with_reducible rfl
                 rotate_left
                 ·simp only [Act.put, List.setIfInBounds_toArray, List.set_cons_zero, List.set_cons_succ, i64_w, i32_w]
                  rfl
                 refine pure_ (i := 6) (N := some 57) (v := ?_) (a' := ?_) #[false, true, true, true, true, false, true, false, false, false, false, false, false, false, false, false] rfl rfl (any_of HT_.out (by kernel_rfl)) (fun _ _ _ h => h) (Or.inl ⟨by rfl, ?_⟩) ?_ ?_
                 rotate_left
                 ·intro w'
                  go_simp
                  with_reducible rfl
                 rotate_left
                 ·simp only [Act.put, List.setIfInBounds_toArray, List.set_cons_zero, List.set_cons_succ, i64_w, i32_w]
                  rfl
                 refine take_ (i := 9) (N := some 60) (v := ?_) (a' := ?_) #[false, true, true, true, true, false, true, false, false, true, false, false, false, false, false, false] rfl rfl (take_ofW HT_.out HW_.out (by kernel_rfl)) (fun _ _ _ h => h) (Or.inl ⟨by rfl, ?_⟩) hHeld ?_ ?_
                 rotate_left
                 ·rintro w' ⟨s906, s907, s908, s909, s910, s911, s912⟩
                  go_simp
                  with_reducible rfl
                 rotate_left
                 ·simp only [Act.put, List.setIfInBounds_toArray, List.set_cons_zero, List.set_cons_succ, i64_w, i32_w]
                  rfl
                 refine one_ (i := 0) (N := some 51) #[true, true, true, true, true, false, true, false, false, true, false, false, false, false, false, false] rfl rfl (one_of HT_.out (by kernel_rfl)) (by decide) (fun K hK => ?_)
                 refine Kd.R_lit_step k32 _ 32 ?hg (N := 51) ?hd (xs := ([] : List (S32))) (inner := []) (ok := fun _ => True) (okp := fun _ => True) ?hr ?hp (fun _ hk => hk) trivial (Below.refl _ _) (Nat.le_refl _) (by simp) ?_; (case hd => rfl); (case hg => rfl); (case hr => first | (go_simp; done) | (go_simp; rfl)); (case hp => exact (Reps.none _ _))
                 intro v9154 w9155 ho9156 hb hg_ hnew_
                 clear hg_ hnew_
                 (first | rw [← Ny9107.out] at ho9156 | (simp only [Int.reduceToNat] at ho9156; rw [← Ny9107.out] at ho9156))
                 have n0_ := Aside0.mk (Kd.R_lower ho9156 (below_size (by repeat first | (with_reducible first | exact HB.out | apply below_alloc | apply pw_below_drewN | apply below_drew1 | refine below_set ?_ GE904.out) | exact HB.out)))
                 have n1_ := Aside0.mk (blk_below (g := gb900) (o := .cells #[.int .u8 a2_0, .int .u32 a2_1, .int .u32 a2_2, .int .u16 a2_3, .int .u16 a2_4, .int .u8 a2_5, .int .u8 a2_6] 26 (0, 0)) (by (with_reducible repeat first | apply blk_drewN | apply blk_drew | apply blk_alloc); exact BK902.out) hb)
                 have n2_ := Aside0.mk (below_step (by repeat first | (with_reducible first | exact HB.out | apply below_alloc | apply pw_below_drewN | apply below_drew1 | refine below_set ?_ GE904.out) | exact HB.out) hb)
                 clear BK902
                 clear HB
                 have HO9157 := n0_
                 have BK902 := n1_
                 have HB := n2_
                 clear n0_ n1_ n2_
                 clear hb ho9156
                 refine hK.out _ _ ⟨(blk_cell BK902.out 0).trans rfl, (blk_cell BK902.out 1).trans rfl, (blk_cell BK902.out 2).trans rfl, (blk_cell BK902.out 3).trans rfl, (blk_cell BK902.out 4).trans rfl, (blk_cell BK902.out 5).trans rfl, (blk_cell BK902.out 6).trans rfl⟩ (fun hHeld => ?_)
                 clear hK K
                 refine norm_ (a' := ?_) ?_ ?_
                 rotate_left
                 ·show Act.put _ (some 51) _ = _
                  simp only [Act.put, List.setIfInBounds_toArray, List.set_cons_zero, List.set_cons_succ, i64_w, i32_w]
                  rfl
                 refine one_ (i := 5) (N := some 56) #[true, true, true, true, true, true, true, false, false, true, false, false, false, false, false, false] rfl rfl (one_of HT_.out (by kernel_rfl)) (by decide) (fun K hK => ?_)
                 refine Kd.R_append_rows_step k32 (w0 := w) w.heap.size (by rfl) (.tmp 51) (.tmp 55) 22 32 (.agg #[(.bool false), (.int .u8 0), (.int .u32 0), (.int .i64 0), (.int .u32 0), (.int .i64 0), (.int .u16 0), (.int .u16 0), (.int .u16 0), (.int .u16 0)]) 48 rfl Try.underlying22 info32 rfl (by decide) (by omega) v9154 y195 y198 _ _ _ (fun _ => True) (fun _ => False) rfl rfl ?aO ?aR (fun _ _ h => h) (fun _ h => h.elim) ?aF ?aB ?aS ?aL ?_
                 (case aR => repeat (first | exact (Kd.C_below HR9150.out HB.out) | (with_reducible refine Kd.C_alloc ?_ _) | (with_reducible refine Kd.C_drewN ?_ _) | (with_reducible refine Kd.C_drew ?_)))
                 (case aB => exact (by repeat first | (with_reducible first | exact HB.out | apply below_alloc | apply pw_below_drewN | apply below_drew1 | refine below_set ?_ GE904.out) | exact HB.out))
                 (case aF => exact (fun _ _ => trivial))
                 (case aO => exact (by (with_reducible repeat (first | apply Kd.R_alloc | apply Kd.R_drewN | apply Kd.R_drew)); exact HO9157.out))
                 (case aS => exact (below_size (by repeat first | (with_reducible first | exact HB.out | apply below_alloc | apply pw_below_drewN | apply below_drew1 | refine below_set ?_ GE904.out) | exact HB.out)))
                 (case aL => have := LMc9119.out; omega)
                 intro v9158 w9159 ho hb hg hat
                 rw [← Ny9121.out] at ho
                 have n0_ := Aside0.mk (blk_grown (g := gb900) (o := .cells #[.int .u8 a2_0, .int .u32 a2_1, .int .u32 a2_2, .int .u16 a2_3, .int .u16 a2_4, .int .u8 a2_5, .int .u8 a2_6] 26 (0, 0)) (by (with_reducible repeat first | apply blk_drewN | apply blk_drew | apply blk_alloc); exact BK902.out) hg (Kd.R_ne HO9157.out BK902.out (by decide)))
                 have n1_ := Aside0.mk (hb)
                 have n2_ := Aside0.mk (ho)
                 clear BK902
                 clear HB
                 clear HO9157
                 have BK902 := n0_
                 have HB := n1_
                 have HO9160 := n2_
                 clear n0_ n1_ n2_
                 clear ho hb hg hat
                 refine hK.out _ _ ⟨(blk_cell BK902.out 0).trans rfl, (blk_cell BK902.out 1).trans rfl, (blk_cell BK902.out 2).trans rfl, (blk_cell BK902.out 3).trans rfl, (blk_cell BK902.out 4).trans rfl, (blk_cell BK902.out 5).trans rfl, (blk_cell BK902.out 6).trans rfl⟩ (fun hHeld => ?_)
                 clear hK K
                 refine norm_ (a' := ?_) ?_ ?_
                 rotate_left
                 ·show Act.put _ (some 56) _ = _
                  simp only [Act.put, List.setIfInBounds_toArray, List.set_cons_zero, List.set_cons_succ, i64_w, i32_w]
                  rfl
                 refine one_ (i := 7) (N := some 58) #[true, true, true, true, true, true, true, true, false, true, false, false, false, false, false, false] rfl rfl (one_of HT_.out (by kernel_rfl)) (by decide) (fun K hK => ?_)
                 refine goes_ Try.func15 (by kernel_rfl) rfl #[.slice A1 l1.length c1] (by rfl) rfl rfl (by (try simp only [List.map_toArray, List.map_cons, List.map_nil]); first | done | rfl) ?_
                 with_reducible refine (mantletlaw13_few.calls (fun k_ => k_ < w.heap.size) _ _ l1 t205 _ ?side913 A9123.out).mono ?_
                 (case side913 => exact Kd.V_mk HC1.out (Kd.F_below (Kd.C_F k32_heap HR1.out) (by repeat first | (with_reducible first | exact HB.out | apply below_alloc | apply pw_below_drewN | apply below_drew1 | refine below_set ?_ GE904.out) | exact HB.out)))
                 rintro e w9161 ⟨v9162, rfl, ho916, hb⟩
                 refine ⟨_, rfl, ?_⟩
                 have n0_ := Aside0.mk (Kd.R_below (by (with_reducible repeat (first | apply Kd.R_alloc | apply Kd.R_drewN | apply Kd.R_drew)); exact HO9160.out) hb)
                 have n1_ := Aside0.mk (Kd.V_lower (Kd.V_mono (ok' := fun k_ => some k_ ≠ (v9158 : Value).ownBlock ∧ k_ ≠ gb900) ho916 (fun k_ hk_ => ⟨Or.elim hk_ (fun hs_ => fun e_ => Nat.not_le.2 hs_ (Kd.R_base HO9160.out k_ e_.symm)) (fun hn_ => (Kd.fresh' (Kd.R_lt (by (with_reducible repeat (first | apply Kd.R_alloc | apply Kd.R_drewN | apply Kd.R_drew)); exact HO9160.out)) k_ hn_)), Or.elim hk_ (fun hs_ => fun e_ => Nat.not_le.2 hs_ (by rw [e_]; exact GW903.out)) (fun hn_ => (Kd.freshB (g := gb900) (o := .cells #[.int .u8 a2_0, .int .u32 a2_1, .int .u32 a2_2, .int .u16 a2_3, .int .u16 a2_4, .int .u8 a2_5, .int .u8 a2_6] 26 (0, 0)) (by (with_reducible repeat first | apply blk_drewN | apply blk_drew | apply blk_alloc); exact BK902.out) k_ hn_))⟩)) (below_size (by repeat first | (with_reducible first | exact HB.out | apply below_alloc | apply pw_below_drewN | apply below_drew1 | refine below_set ?_ GE904.out) | exact HB.out)))
                 have n2_ := Aside0.mk (blk_below (g := gb900) (o := .cells #[.int .u8 a2_0, .int .u32 a2_1, .int .u32 a2_2, .int .u16 a2_3, .int .u16 a2_4, .int .u8 a2_5, .int .u8 a2_6] 26 (0, 0)) (by (with_reducible repeat first | apply blk_drewN | apply blk_drew | apply blk_alloc); exact BK902.out) hb)
                 have n3_ := Aside0.mk (below_step (by repeat first | (with_reducible first | exact HB.out | apply below_alloc | apply pw_below_drewN | apply below_drew1 | refine below_set ?_ GE904.out) | exact HB.out) hb)
                 clear HO9160
                 clear BK902
                 clear HB
                 have HO9160 := n0_
                 have HO9163 := n1_
                 have BK902 := n2_
                 have HB := n3_
                 clear n0_ n1_ n2_ n3_
                 (try clear hb)
                 (try clear hb2)
                 (try clear hk)
                 (try clear hi)
                 (try clear ho916)
                 obtain ⟨Ao9164, co9165, eo9166⟩ := Kd.V_slice HO9163.out
                 (first | subst eo9166 | (injection eo9166 with f1_ f2_ f3_; have f921 := f1_.symm; have f922 := f3_.symm; clear f1_ f2_ f3_; subst f921; subst f922))
                 refine hK.out _ _ ⟨(blk_cell BK902.out 0).trans rfl, (blk_cell BK902.out 1).trans rfl, (blk_cell BK902.out 2).trans rfl, (blk_cell BK902.out 3).trans rfl, (blk_cell BK902.out 4).trans rfl, (blk_cell BK902.out 5).trans rfl, (blk_cell BK902.out 6).trans rfl⟩ (fun hHeld => ?_)
                 clear hK K
                 refine norm_ (a' := ?_) ?_ ?_
                 rotate_left
                 ·show Act.put _ (some 58) _ = _
                  simp only [Act.put, List.setIfInBounds_toArray, List.set_cons_zero, List.set_cons_succ, i64_w, i32_w]
                  rfl
                 refine one_ (i := 8) (N := some 59) #[true, true, true, true, true, true, true, true, true, true, false, false, false, false, false, false] rfl rfl (one_of HT_.out (by kernel_rfl)) (by decide) (fun K hK => ?_)
                 refine Kd.R_append_rows_step k32 (w0 := w) w.heap.size (by rfl) (.tmp 56) (.tmp 58) 22 32 (.agg #[(.bool false), (.int .u8 0), (.int .u32 0), (.int .i64 0), (.int .u32 0), (.int .i64 0), (.int .u16 0), (.int .u16 0), (.int .u16 0), (.int .u16 0)]) 48 rfl Try.underlying22 info32 rfl (by decide) (by omega) v9158 y202 t205 _ _ _ (fun _ => True) (fun _ => False) rfl rfl ?aO ?aR (fun _ _ h => h) (fun _ h => h.elim) ?aF ?aB ?aS ?aL ?_
                 (case aR => repeat (first | exact (Kd.V_reads' HO9163.out).2.2 | (with_reducible refine Kd.C_alloc ?_ _) | (with_reducible refine Kd.C_drewN ?_ _) | (with_reducible refine Kd.C_drew ?_)))
                 (case aB => exact (by repeat first | (with_reducible first | exact HB.out | apply below_alloc | apply pw_below_drewN | apply below_drew1 | refine below_set ?_ GE904.out) | exact HB.out))
                 (case aF => exact (fun _ _ => trivial))
                 (case aO => exact (by (with_reducible repeat (first | apply Kd.R_alloc | apply Kd.R_drewN | apply Kd.R_drew)); exact HO9160.out))
                 (case aS => exact (below_size (by repeat first | (with_reducible first | exact HB.out | apply below_alloc | apply pw_below_drewN | apply below_drew1 | refine below_set ?_ GE904.out) | exact HB.out)))
                 (case aL => have := LMc9124.out; omega)
                 intro v9167 w9168 ho hb hg hat
                 rw [← Ny9127.out] at ho
                 have n0_ := Aside0.mk (blk_grown (g := gb900) (o := .cells #[.int .u8 a2_0, .int .u32 a2_1, .int .u32 a2_2, .int .u16 a2_3, .int .u16 a2_4, .int .u8 a2_5, .int .u8 a2_6] 26 (0, 0)) (by (with_reducible repeat first | apply blk_drewN | apply blk_drew | apply blk_alloc); exact BK902.out) hg (Kd.R_ne HO9160.out BK902.out (by decide)))
                 have n1_ := Aside0.mk (Kd.V_afterv (ok := (fun k_ => k_ ≠ gb900)) (by (with_reducible repeat (first | apply Kd.V_alloc | apply Kd.V_drewN | apply Kd.V_drew)); exact Kd.V_mono HO9163.out (fun _ hk => ⟨hk.2, hk.1⟩)) hg hat)
                 have n2_ := Aside0.mk (hb)
                 have n3_ := Aside0.mk (ho)
                 clear BK902
                 clear HO9163
                 clear HB
                 clear HO9160
                 have BK902 := n0_
                 have HO9163 := n1_
                 have HB := n2_
                 have HO9169 := n3_
                 clear n0_ n1_ n2_ n3_
                 clear ho hb hg hat
                 obtain ⟨Ao9170, co9171, eo9172⟩ := Kd.R_slice HO9169.out
                 (first | subst eo9172 | (injection eo9172 with f1_ f2_ f3_; have f921 := f1_.symm; have f922 := f3_.symm; clear f1_ f2_ f3_; subst f921; subst f922))
                 refine hK.out _ _ ⟨(blk_cell BK902.out 0).trans rfl, (blk_cell BK902.out 1).trans rfl, (blk_cell BK902.out 2).trans rfl, (blk_cell BK902.out 3).trans rfl, (blk_cell BK902.out 4).trans rfl, (blk_cell BK902.out 5).trans rfl, (blk_cell BK902.out 6).trans rfl⟩ (fun hHeld => ?_)
                 clear hK K
                 refine norm_ (a' := ?_) ?_ ?_
                 rotate_left
                 ·show Act.put _ (some 59) _ = _
                  simp only [Act.put, List.setIfInBounds_toArray, List.set_cons_zero, List.set_cons_succ, i64_w, i32_w]
                  rfl
                 refine one_ (i := 10) (N := some 61) #[true, true, true, true, true, true, true, true, true, true, true, false, false, false, false, false] rfl rfl (one_of HT_.out (by kernel_rfl)) (by decide) (fun K hK => ?_)
                 refine goes_ Try.func14 (by kernel_rfl) rfl #[.slice Ao9170 y9125.length co9171, .agg #[.int .u8 a2_0, .int .u32 a2_1, .int .u32 a2_2, .int .u16 a2_3, .int .u16 a2_4, .int .u8 a2_5, .int .u8 a2_6]] (by rfl) rfl rfl (by (try simp only [List.map_toArray, List.map_cons, List.map_nil]); first | done | rfl) ?_
                 with_reducible refine (match_First.calls _ _ y9125 a2_0 a2_1 a2_2 a2_3 a2_4 a2_5 a2_6 t9128 t9129 _ ?side913 ?side923 A50.out).mono ?_
                 (case side913 => repeat (first | exact (Kd.R_reads' HO9169.out).2.2 | (with_reducible refine Kd.C_alloc ?_ _) | (with_reducible refine Kd.C_drewN ?_ _) | (with_reducible refine Kd.C_drew ?_)))
                 (case side923 => exact (Kd.R_reads' HO9169.out).2.1)
                 rintro e w9173 ⟨rfl, hb⟩
                 refine ⟨_, rfl, ?_⟩
                 have n0_ := Aside0.mk (Kd.V_below (by (with_reducible repeat (first | apply Kd.V_alloc | apply Kd.V_drewN | apply Kd.V_drew)); exact HO9163.out) hb)
                 have n1_ := Aside0.mk (Kd.R_below (by (with_reducible repeat (first | apply Kd.R_alloc | apply Kd.R_drewN | apply Kd.R_drew)); exact HO9169.out) hb)
                 have n2_ := Aside0.mk (blk_below (g := gb900) (o := .cells #[.int .u8 a2_0, .int .u32 a2_1, .int .u32 a2_2, .int .u16 a2_3, .int .u16 a2_4, .int .u8 a2_5, .int .u8 a2_6] 26 (0, 0)) (by (with_reducible repeat first | apply blk_drewN | apply blk_drew | apply blk_alloc); exact BK902.out) hb)
                 have n3_ := Aside0.mk (below_step (by repeat first | (with_reducible first | exact HB.out | apply below_alloc | apply pw_below_drewN | apply below_drew1 | refine below_set ?_ GE904.out) | exact HB.out) hb)
                 clear HO9163
                 clear HO9169
                 clear BK902
                 clear HB
                 have HO9163 := n0_
                 have HO9169 := n1_
                 have BK902 := n2_
                 have HB := n3_
                 clear n0_ n1_ n2_ n3_
                 (try clear hb)
                 (try clear hb2)
                 (try clear hk)
                 (try clear hi)
                 refine hK.out _ _ ⟨(blk_cell BK902.out 0).trans rfl, (blk_cell BK902.out 1).trans rfl, (blk_cell BK902.out 2).trans rfl, (blk_cell BK902.out 3).trans rfl, (blk_cell BK902.out 4).trans rfl, (blk_cell BK902.out 5).trans rfl, (blk_cell BK902.out 6).trans rfl⟩ (fun hHeld => ?_)
                 clear hK K
                 refine norm_ (a' := ?_) ?_ ?_
                 rotate_left
                 ·show Act.put _ (some 61) _ = _
                  simp only [Act.put, List.setIfInBounds_toArray, List.set_cons_zero, List.set_cons_succ, i64_w, i32_w]
                  rfl
                 refine pure_ (i := 11) (N := some 50) (v := ?_) (a' := ?_) #[true, true, true, true, true, true, true, true, true, true, true, true, false, false, false, false] rfl rfl (any_of HT_.out (by kernel_rfl)) (fun _ _ _ h => h) (Or.inl ⟨by rfl, ?_⟩) ?_ ?_
                 rotate_left
                 ·intro w'
                  go_simp
                  with_reducible rfl
                 rotate_left
                 ·simp only [Act.put, List.setIfInBounds_toArray, List.set_cons_zero, List.set_cons_succ, i64_w, i32_w]
                  rfl
                 refine pure_ (i := 12) (N := some 62) (v := ?_) (a' := ?_) #[true, true, true, true, true, true, true, true, true, true, true, true, true, false, false, false] rfl rfl (any_of HT_.out (by kernel_rfl)) (fun _ _ _ h => h) (Or.inl ⟨by rfl, ?_⟩) ?_ ?_
                 rotate_left
                 ·intro w'
                  go_simp
                  with_reducible rfl
                 rotate_left
                 ·simp only [Act.put, List.setIfInBounds_toArray, List.set_cons_zero, List.set_cons_succ, i64_w, i32_w]
                  rfl
                 refine pure_ (i := 13) (N := some 63) (v := ?_) (a' := ?_) #[true, true, true, true, true, true, true, true, true, true, true, true, true, true, false, false] rfl rfl (any_of HT_.out (by kernel_rfl)) (fun _ _ _ h => h) (Or.inl ⟨by rfl, ?_⟩) ?_ ?_
                 rotate_left
                 ·intro w'
                  go_simp
                  with_reducible rfl
                 rotate_left
                 ·simp only [Act.put, List.setIfInBounds_toArray, List.set_cons_zero, List.set_cons_succ, i64_w, i32_w]
                  rfl
                 refine pure_ (i := 14) (N := some 10) (v := ?_) (a' := ?_) #[true, true, true, true, true, true, true, true, true, true, true, true, true, true, true, false] rfl rfl (any_of HT_.out (by kernel_rfl)) (fun _ _ _ h => h) (Or.inl ⟨by rfl, ?_⟩) ?_ ?_
                 rotate_left
                 ·intro w'
                  go_simp
                  with_reducible rfl
                 rotate_left
                 ·simp only [Act.put, List.setIfInBounds_toArray, List.set_cons_zero, List.set_cons_succ, i64_w, i32_w]
                  rfl
                 refine pure_ (i := 15) (N := some 11) (v := ?_) (a' := ?_) #[true, true, true, true, true, true, true, true, true, true, true, true, true, true, true, true] rfl rfl (any_of HT_.out (by kernel_rfl)) (fun _ _ _ h => h) (Or.inl ⟨by rfl, ?_⟩) ?_ ?_
                 rotate_left
                 ·intro w'
                  go_simp
                  with_reducible rfl
                 rotate_left
                 ·simp only [Act.put, List.setIfInBounds_toArray, List.set_cons_zero, List.set_cons_succ, i64_w, i32_w]
                  rfl
                 refine done_ (done_of HT_.out (by kernel_rfl)) ?_
                 try go_wp2_with (first | ((with_reducible refine gate_callee (f := 17) rfl ?_); refine goesL_ (some 64) rfl rfl Try.func17 (by kernel_rfl) rfl #[] rfl (by (try simp only [List.map_toArray, List.map_cons, List.map_nil]); first | done | rfl) ?_; (with_reducible refine (mantletlaw13_awake.calls  true _ A9132.out).mono ?_); rintro e w9174 ⟨rfl, hb⟩; refine ⟨_, rfl, ?_⟩; have n0_ := Aside0.mk (Kd.V_below (by (with_reducible repeat (first | apply Kd.V_alloc | apply Kd.V_drewN | apply Kd.V_drew)); exact HO9163.out) hb); have n1_ := Aside0.mk (Kd.R_below (by (with_reducible repeat (first | apply Kd.R_alloc | apply Kd.R_drewN | apply Kd.R_drew)); exact HO9169.out) hb); have n2_ := Aside0.mk (blk_below (g := gb900) (o := .cells #[.int .u8 a2_0, .int .u32 a2_1, .int .u32 a2_2, .int .u16 a2_3, .int .u16 a2_4, .int .u8 a2_5, .int .u8 a2_6] 26 (0, 0)) (by (with_reducible repeat first | apply blk_drewN | apply blk_drew | apply blk_alloc); exact BK902.out) hb); have n3_ := Aside0.mk (below_step (by repeat first | (with_reducible first | exact HB.out | apply below_alloc | apply pw_below_drewN | apply below_drew1 | refine below_set ?_ GE904.out) | exact HB.out) hb); clear HO9163; clear HO9169; clear BK902; clear HB; have HO9163 := n0_; have HO9169 := n1_; have BK902 := n2_; have HB := n3_; clear n0_ n1_ n2_ n3_; (try clear hb); (try clear hb2); (try clear hk); (try clear hi); have p9175 : 0 ≤ (t188 : Int) := of_decide_eq_true (by first | (with_reducible assumption) | assumption); have q9176 : t188 < (l0.length : Int) := of_decide_eq_true (by first | (with_reducible assumption) | assumption); obtain ⟨ad9177, e9178, hx9179, hx9180, hx9181, hx9182, hx9183, hx9184, hx9185, hx9186, hx9187, hx9188⟩ := at_T32 HR0.out t188 p9175 q9176; cases e9178; replace hx9179 := (HB.out.cell (World.block_lt_of_cell? w _ hx9179)).trans hx9179; replace hx9180 := (HB.out.cell (World.block_lt_of_cell? w _ hx9180)).trans hx9180; replace hx9181 := (HB.out.cell (World.block_lt_of_cell? w _ hx9181)).trans hx9181; replace hx9182 := (HB.out.cell (World.block_lt_of_cell? w _ hx9182)).trans hx9182; replace hx9183 := (HB.out.cell (World.block_lt_of_cell? w _ hx9183)).trans hx9183; replace hx9184 := (HB.out.cell (World.block_lt_of_cell? w _ hx9184)).trans hx9184; replace hx9185 := (HB.out.cell (World.block_lt_of_cell? w _ hx9185)).trans hx9185; replace hx9186 := (HB.out.cell (World.block_lt_of_cell? w _ hx9186)).trans hx9186; replace hx9187 := (HB.out.cell (World.block_lt_of_cell? w _ hx9187)).trans hx9187; replace hx9188 := (HB.out.cell (World.block_lt_of_cell? w _ hx9188)).trans hx9188; replace p9175 := eq_true p9175; replace q9176 := eq_true q9176))
                 go_ret
                 exact ⟨by first | rfl | (simp [errW_none, errW_some] <;> rfl) | (simp only [← hji9109]; first | rfl | (simp [errW_none, errW_some] <;> rfl)) | (simp [*, errW_none, errW_some] <;> rfl), by repeat first | (with_reducible first | exact HB.out | apply below_alloc | apply pw_below_drewN | apply below_drew1 | refine below_set ?_ GE904.out) | exact HB.out⟩
                ·rw [if_neg c56] at H
                 exact absurd H (by simp)
               ·rw [if_neg c55] at H
                exact absurd H (by simp)
              ·rw [if_neg c54] at H
               have c9136 : (t9129 == t189) = false := by simpa using c54
               (try (have c9137 : decide (t9129 = t189) = false := by simpa using c54))
               (try (have c9138 : (t9129 == t189) = false := by simpa using c54))
               (try (have c9189 : ¬ (t9129 = t189) := by simpa using c54))
               clear c54
               exact absurd ((Option.some.inj H).trans HT.out) (by decide)
             ·rw [if_neg c53] at H
              have c9134 : (t9128 == t188) = false := beq_eq_false_iff_ne.mpr c53
              have c9135 : (t9128 != t188) = true := bne_iff_ne.mpr c53
              exact absurd ((Option.some.inj H).trans HT.out) (by decide)
            ·replace c9133 := Bool.eq_false_iff.mpr c9133
             subst c9133
             have H970 : (some false) = some r := by rw [if_neg (show ¬ (false = true) by decide)] at H; exact H
             clear H
             have H := H970
             clear H970
             exact absurd ((Option.some.inj H).trans HT.out) (by decide)
           ·rw [if_neg c49] at H
            exact absurd H (by simp)
          ·rw [if_neg c47] at H
           exact absurd H (by simp)
         ·rw [if_neg c46] at H
          exact absurd H (by simp)
        ·rw [if_neg c45] at H
         exact absurd H (by simp)

/-- THE ONE PURE STATEMENT of mantletlaw13_MatchBehind: yours. -/
def mantletlaw13_MatchBehind.Pure : Prop := ∀ (l0 : List (S32)) (l1 : List (S32)) (a2_0 : Int) (a2_1 : Int) (a2_2 : Int) (a2_3 : Int) (a2_4 : Int) (a2_5 : Int) (a2_6 : Int), l0.length ≤ maxLen → l0.length * 48 ≤ 140737488351232 → (∀ x ∈ l0, (Lit.int .u8 x.f1).wf = true ∧ (Lit.int .u32 x.f2.f0).wf = true ∧ (Lit.int .i64 x.f2.f1).wf = true ∧ (Lit.int .u32 x.f3.f0).wf = true ∧ (Lit.int .i64 x.f3.f1).wf = true ∧ (Lit.int .u16 x.f4.f0).wf = true ∧ (Lit.int .u16 x.f4.f1).wf = true ∧ (Lit.int .u16 x.f5.f0).wf = true ∧ (Lit.int .u16 x.f5.f1).wf = true) → l1.length ≤ maxLen → l1.length * 48 ≤ 140737488351232 → (∀ x ∈ l1, (Lit.int .u8 x.f1).wf = true ∧ (Lit.int .u32 x.f2.f0).wf = true ∧ (Lit.int .i64 x.f2.f1).wf = true ∧ (Lit.int .u32 x.f3.f0).wf = true ∧ (Lit.int .i64 x.f3.f1).wf = true ∧ (Lit.int .u16 x.f4.f0).wf = true ∧ (Lit.int .u16 x.f4.f1).wf = true ∧ (Lit.int .u16 x.f5.f0).wf = true ∧ (Lit.int .u16 x.f5.f1).wf = true) → (Lit.int .u8 a2_0).wf = true → (Lit.int .u32 a2_1).wf = true → (Lit.int .u32 a2_2).wf = true → (Lit.int .u16 a2_3).wf = true → (Lit.int .u16 a2_4).wf = true → (Lit.int .u8 a2_5).wf = true → (Lit.int .u8 a2_6).wf = true → ∃ k, mantletlaw13_MatchBehind.f k l0 l1 a2_0 a2_1 a2_2 a2_3 a2_4 a2_5 a2_6 = some true
theorem mantletlaw13_MatchBehind.walk (P : mantletlaw13_MatchBehind.Pure) (a0 : Option Addr) (cap0 : Nat) (l0 : List (S32)) (a1 : Option Addr) (cap1 : Nat) (l1 : List (S32)) (a2_0 : Int) (a2_1 : Int) (a2_2 : Int) (a2_3 : Int) (a2_4 : Int) (a2_5 : Int) (a2_6 : Int) (w : World) (hr0 : Kd.C k32 w a0 l0.length l0) (hc0 : l0.length ≤ cap0) (m0 : l0.length ≤ maxLen) (y0 : l0.length * 48 ≤ 140737488351232) (v0 : ∀ x ∈ l0, (Lit.int .u8 x.f1).wf = true ∧ (Lit.int .u32 x.f2.f0).wf = true ∧ (Lit.int .i64 x.f2.f1).wf = true ∧ (Lit.int .u32 x.f3.f0).wf = true ∧ (Lit.int .i64 x.f3.f1).wf = true ∧ (Lit.int .u16 x.f4.f0).wf = true ∧ (Lit.int .u16 x.f4.f1).wf = true ∧ (Lit.int .u16 x.f5.f0).wf = true ∧ (Lit.int .u16 x.f5.f1).wf = true) (hr1 : Kd.C k32 w a1 l1.length l1) (hc1 : l1.length ≤ cap1) (m1 : l1.length ≤ maxLen) (y1 : l1.length * 48 ≤ 140737488351232) (v1 : ∀ x ∈ l1, (Lit.int .u8 x.f1).wf = true ∧ (Lit.int .u32 x.f2.f0).wf = true ∧ (Lit.int .i64 x.f2.f1).wf = true ∧ (Lit.int .u32 x.f3.f0).wf = true ∧ (Lit.int .i64 x.f3.f1).wf = true ∧ (Lit.int .u16 x.f4.f0).wf = true ∧ (Lit.int .u16 x.f4.f1).wf = true ∧ (Lit.int .u16 x.f5.f0).wf = true ∧ (Lit.int .u16 x.f5.f1).wf = true) (w2_0 : (Lit.int .u8 a2_0).wf = true) (w2_1 : (Lit.int .u32 a2_1).wf = true) (w2_2 : (Lit.int .u32 a2_2).wf = true) (w2_3 : (Lit.int .u16 a2_3).wf = true) (w2_4 : (Lit.int .u16 a2_4).wf = true) (w2_5 : (Lit.int .u8 a2_5).wf = true) (w2_6 : (Lit.int .u8 a2_6).wf = true) :
    Calls Try.prog 5 #[.slice a0 l0.length cap0, .slice a1 l1.length cap1, .agg #[.int .u8 a2_0, .int .u32 a2_1, .int .u32 a2_2, .int .u16 a2_3, .int .u16 a2_4, .int .u8 a2_5, .int .u8 a2_6]] w fun e w' => e = .returned (.bool true) ∧ Below w.heap.size w w' := by
 obtain ⟨k, h⟩ := P l0 l1 a2_0 a2_1 a2_2 a2_3 a2_4 a2_5 a2_6 m0 y0 v0 m1 y1 v1 w2_0 w2_1 w2_2 w2_3 w2_4 w2_5 w2_6
 refine (mantletlaw13_MatchBehind.calls k _ _ l0 _ _ l1 a2_0 a2_1 a2_2 a2_3 a2_4 a2_5 a2_6 true w hr0 hc0 hr1 hc1 h rfl).mono ?_
 rintro e w' ⟨rfl, hd⟩
 exact ⟨rfl, hd⟩

end Go.Proofs.Ytbdgjcmljjfomaa.Mat
