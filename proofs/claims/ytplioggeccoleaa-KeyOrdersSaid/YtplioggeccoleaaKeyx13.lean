-- Made by a program of this workplace (wip/pr.sh) out of Lean's print of the translation; Lean checks it.
import Derived.Test.YtplioggeccoleaaKeyx0
import Derived.Test.YtplioggeccoleaaKeyx11
import Derived.Test.YtplioggeccoleaaKeyx12
namespace Go.Proofs.Ytplioggeccoleaa.Key
open Go.Proofs.Ytplioggeccoleaa.Ext
open Go.RowKit Go.Proofs.YtplioggeccoleaaW.PrintWords Go.Proofs.YtplioggeccoleaaW.PrintLast Go.Proofs.YtplioggeccoleaaW.PrintMore
attribute [local go_sem] max2_int min2_int max_two min_two max_three min_three max_four min_four   -- for this text's walks alone
set_option linter.unusedVariables false
set_option linter.unusedSimpArgs false

/-! ### key_Hash: function 11 -/
def key_Hash.l1 : Nat → Int → List Int → Int → Int → Option (Int)
  | 0, _, _, _, _ => none
  | k + 1, x5, x30, x31, x32 => if x32 < x31 then (if 0 ≤ x32 then (if x32 < (x30.length : Int) then (key_Hash.l1 k (((Go.bits .xor .u32 x5 ((rd x30 x32) % 4294967296)) * 16777619) % 4294967296) x30 x31 (wrap64 (x32 + 1))) else (none)) else (none)) else (some x5)
def key_Hash.f (k : Nat) (a0_0 : Int) (a0_1 : Int) (a0_2 : Int) (a0_3 : Int) (a0_4 : Int) : Option (Int) := (field_Cut.f k (IntKind.u64.wrap (a0_0)) 4).bind fun t135 => ((field_Cut.f k (IntKind.u64.wrap (a0_2)) 2).bind fun t138 => ((slices_Concat_byte_byte.f k (([(([a0_4] : List Int)), t135, t138] : List (List Int)))).bind fun t144 => ((field_Cut.f k (IntKind.u64.wrap (a0_1)) 4).bind fun t147 => ((field_Cut.f k (IntKind.u64.wrap (a0_3)) 2).bind fun t150 => ((slices_Concat_byte_byte.f k (([t144, t147, t150] : List (List Int)))).bind fun t156 => (key_Hash.l1 k 2166136261 t156 (t156.length : Int) 0))))))
theorem key_Hash.mono_l : ∀ k, (∀ y0 y1 y2 y3, LeO (key_Hash.l1 k y0 y1 y2 y3) (key_Hash.l1 (k + 1) y0 y1 y2 y3))
  | 0 => fun _ _ _ _ r h => by simp [key_Hash.l1] at h
  | k + 1 => by
    have ih0 := key_Hash.mono_l k
    · intro y0 y1 y2 y3
      unfold key_Hash.l1
      repeat' first
      | (with_reducible exact ih0 _ _ _ _)
      | (with_reducible exact field_Cut.mono _ _ _)
      | (with_reducible exact slices_Concat_byte_byte.mono _ _)
      | (with_reducible exact LeO.refl _)
      | (with_reducible exact LeO.none _)
      | (with_reducible refine LeO.ite ?_ ?_)
      | (with_reducible refine LeO.bind ?_ (fun _ => ?_))
      | exact ih0 _ _ _ _
      | exact field_Cut.mono _ _ _
      | exact slices_Concat_byte_byte.mono _ _
      | exact LeO.none _
      | refine LeO.ite ?_ ?_
      | refine LeO.bind ?_ (fun _ => ?_)
theorem key_Hash.mono : ∀ a0 a1 a2 a3 a4 k, LeO (key_Hash.f k a0 a1 a2 a3 a4) (key_Hash.f (k + 1) a0 a1 a2 a3 a4) := by
  intro a0 a1 a2 a3 a4 k
  have ih0 := key_Hash.mono_l k
  unfold key_Hash.f
  repeat' first
      | (with_reducible exact ih0 _ _ _ _)
      | (with_reducible exact field_Cut.mono _ _ _)
      | (with_reducible exact slices_Concat_byte_byte.mono _ _)
      | (with_reducible exact LeO.refl _)
      | (with_reducible exact LeO.none _)
      | (with_reducible refine LeO.ite ?_ ?_)
      | (with_reducible refine LeO.bind ?_ (fun _ => ?_))
      | exact ih0 _ _ _ _
      | exact field_Cut.mono _ _ _
      | exact slices_Concat_byte_byte.mono _ _
      | exact LeO.none _
      | refine LeO.ite ?_ ?_
      | refine LeO.bind ?_ (fun _ => ?_)
def key_Hash.T5 : Bool × List (List Nat × List Nat) := (true, [([], []), ([], []), ([], []), ([2, 1], [1, 2]), ([3], [3]), ([4], [4]), ([5], [5]), ([], []), ([], []), ([8, 7], [7, 8]), ([9], [9]), ([10], [10]), ([11, 6], [11]), ([0, 6, 12], [0, 6, 12]), ([13, 12], [13]), ([14, 14, 0, 1, 2, 3, 4, 5, 6, 7, 8, 9, 10, 11, 12, 13, 14], [0, 14])])
def key_Hash.B5 : List Nat := [0, 0, 0, 6, 14, 30, 62, 0, 0, 384, 896, 1920, 4094, 8191, 16383, 32767]
theorem key_Hash.tab5 : rtab .any (opsOf Try.f11 5) = key_Hash.T5 := by kernel_rfl
theorem key_Hash.bits5 : waitsOk key_Hash.T5.2 key_Hash.B5 = true := by kernel_rfl
set_option maxHeartbeats 8000000 in
set_option maxRecDepth 100000 in
theorem key_Hash.calls (k : Nat) (a0_0 : Int) (a0_1 : Int) (a0_2 : Int) (a0_3 : Int) (a0_4 : Int) (r : Int) (w : World) (h : key_Hash.f k a0_0 a0_1 a0_2 a0_3 a0_4 = some r) :
    Calls Try.prog 11 #[.agg #[.int .u32 a0_0, .int .u32 a0_1, .int .u16 a0_2, .int .u16 a0_3, .int .u8 a0_4]] w fun e w' => e = .returned (.int .u32 r) ∧ Below w.heap.size w w' := by
  have hu29 := Try.underlying29
  have HB := Aside0.mk (Below.refl w.heap.size w)
  have H : ((field_Cut.f k (IntKind.u64.wrap (a0_0)) 4).bind fun t135 => ((field_Cut.f k (IntKind.u64.wrap (a0_2)) 2).bind fun t138 => ((slices_Concat_byte_byte.f k (([(([a0_4] : List Int)), t135, t138] : List (List Int)))).bind fun t144 => ((field_Cut.f k (IntKind.u64.wrap (a0_1)) 4).bind fun t147 => ((field_Cut.f k (IntKind.u64.wrap (a0_3)) 2).bind fun t150 => ((slices_Concat_byte_byte.f k (([t144, t147, t150] : List (List Int)))).bind fun t156 => (key_Hash.l1 k 2166136261 t156 (t156.length : Int) 0))))))) = some r := h
  clear h
  obtain ⟨y132, hy132⟩ : ∃ y_ : List Int, y_ = (([a0_4] : List Int)) := ⟨_, rfl⟩
  replace H : ((field_Cut.f k (IntKind.u64.wrap (a0_0)) 4).bind fun t135 => ((field_Cut.f k (IntKind.u64.wrap (a0_2)) 2).bind fun t138 => ((slices_Concat_byte_byte.f k (([y132, t135, t138] : List (List Int)))).bind fun t144 => ((field_Cut.f k (IntKind.u64.wrap (a0_1)) 4).bind fun t147 => ((field_Cut.f k (IntKind.u64.wrap (a0_3)) 2).bind fun t150 => ((slices_Concat_byte_byte.f k (([t144, t147, t150] : List (List Int)))).bind fun t156 => (key_Hash.l1 k 2166136261 t156 (t156.length : Int) 0))))))) = some r := by first | (rw [hy132]; with_reducible exact H) | (have H2_ := (Option.bind_some _ _).symm.trans H; rw [hy132]; with_reducible exact H2_) | (have H2_ := (Option.bind_some _ _).symm.trans H; with_reducible exact H2_) | with_reducible exact H | (rw [hy132]; exact H) | exact H
  have Ny132 := Aside0.mk hy132
  clear hy132
  replace H := Option.bind_eq_some_iff.mp H
  obtain ⟨t135, A20, H⟩ := H
  replace H : ((field_Cut.f k (IntKind.u64.wrap (a0_2)) 2).bind fun t138 => ((slices_Concat_byte_byte.f k (([y132, t135, t138] : List (List Int)))).bind fun t144 => ((field_Cut.f k (IntKind.u64.wrap (a0_1)) 4).bind fun t147 => ((field_Cut.f k (IntKind.u64.wrap (a0_3)) 2).bind fun t150 => ((slices_Concat_byte_byte.f k (([t144, t147, t150] : List (List Int)))).bind fun t156 => (key_Hash.l1 k 2166136261 t156 (t156.length : Int) 0)))))) = some r := H
  have A2 := Aside0.mk A20
  clear A20
  replace H := Option.bind_eq_some_iff.mp H
  obtain ⟨t138, A30, H⟩ := H
  replace H : ((slices_Concat_byte_byte.f k (([y132, t135, t138] : List (List Int)))).bind fun t144 => ((field_Cut.f k (IntKind.u64.wrap (a0_1)) 4).bind fun t147 => ((field_Cut.f k (IntKind.u64.wrap (a0_3)) 2).bind fun t150 => ((slices_Concat_byte_byte.f k (([t144, t147, t150] : List (List Int)))).bind fun t156 => (key_Hash.l1 k 2166136261 t156 (t156.length : Int) 0))))) = some r := H
  have A3 := Aside0.mk A30
  clear A30
  obtain ⟨y141, hy141⟩ : ∃ y_ : List (List Int), y_ = (([y132, t135, t138] : List (List Int))) := ⟨_, rfl⟩
  replace H : ((slices_Concat_byte_byte.f k y141).bind fun t144 => ((field_Cut.f k (IntKind.u64.wrap (a0_1)) 4).bind fun t147 => ((field_Cut.f k (IntKind.u64.wrap (a0_3)) 2).bind fun t150 => ((slices_Concat_byte_byte.f k (([t144, t147, t150] : List (List Int)))).bind fun t156 => (key_Hash.l1 k 2166136261 t156 (t156.length : Int) 0))))) = some r := by first | (rw [hy141]; with_reducible exact H) | (have H2_ := (Option.bind_some _ _).symm.trans H; rw [hy141]; with_reducible exact H2_) | (have H2_ := (Option.bind_some _ _).symm.trans H; with_reducible exact H2_) | with_reducible exact H | (rw [hy141]; exact H) | exact H
  have Ny141 := Aside0.mk hy141
  clear hy141
  replace H := Option.bind_eq_some_iff.mp H
  obtain ⟨t144, A40, H⟩ := H
  replace H : ((field_Cut.f k (IntKind.u64.wrap (a0_1)) 4).bind fun t147 => ((field_Cut.f k (IntKind.u64.wrap (a0_3)) 2).bind fun t150 => ((slices_Concat_byte_byte.f k (([t144, t147, t150] : List (List Int)))).bind fun t156 => (key_Hash.l1 k 2166136261 t156 (t156.length : Int) 0)))) = some r := H
  have A4 := Aside0.mk A40
  clear A40
  replace H := Option.bind_eq_some_iff.mp H
  obtain ⟨t147, A50, H⟩ := H
  replace H : ((field_Cut.f k (IntKind.u64.wrap (a0_3)) 2).bind fun t150 => ((slices_Concat_byte_byte.f k (([t144, t147, t150] : List (List Int)))).bind fun t156 => (key_Hash.l1 k 2166136261 t156 (t156.length : Int) 0))) = some r := H
  have A5 := Aside0.mk A50
  clear A50
  replace H := Option.bind_eq_some_iff.mp H
  obtain ⟨t150, A60, H⟩ := H
  replace H : ((slices_Concat_byte_byte.f k (([t144, t147, t150] : List (List Int)))).bind fun t156 => (key_Hash.l1 k 2166136261 t156 (t156.length : Int) 0)) = some r := H
  have A6 := Aside0.mk A60
  clear A60
  obtain ⟨y153, hy153⟩ : ∃ y_ : List (List Int), y_ = (([t144, t147, t150] : List (List Int))) := ⟨_, rfl⟩
  replace H : ((slices_Concat_byte_byte.f k y153).bind fun t156 => (key_Hash.l1 k 2166136261 t156 (t156.length : Int) 0)) = some r := by first | (rw [hy153]; with_reducible exact H) | (have H2_ := (Option.bind_some _ _).symm.trans H; rw [hy153]; with_reducible exact H2_) | (have H2_ := (Option.bind_some _ _).symm.trans H; with_reducible exact H2_) | with_reducible exact H | (rw [hy153]; exact H) | exact H
  have Ny153 := Aside0.mk hy153
  clear hy153
  replace H := Option.bind_eq_some_iff.mp H
  obtain ⟨t156, A70, H⟩ := H
  replace H : (key_Hash.l1 k 2166136261 t156 (t156.length : Int) 0) = some r := H
  have A7 := Aside0.mk A70
  clear A70
  have H' := Aside0.mk H
  clear H
  go_enter Try.func11, Try.ntmps11
  try go_wp2_with (first | ((with_reducible refine gate_dst (N := 1) rfl ?_); refine box_event ?hg (N := 1) ?hd (cs := #[.int .u32 a0_0, .int .u32 a0_1, .int .u16 a0_2, .int .u16 a0_3, .int .u8 a0_4]) (t := 29) ?hr ?_; (case hd => rfl); (case hg => rfl); (case hr => first | (go_simp; done) | (go_simp; rfl)); intro gb131 hg w8 hbox hb; have n0_ := Aside0.mk (below_step (by repeat first | (with_reducible first | exact HB.out | apply below_alloc | apply pw_below_drewN | apply below_drew1) | exact HB.out) hb); have n1_ := Aside0.mk (hbox); have n2_ := Aside0.mk ((by rw [hg]; exact (below_size (by repeat first | (with_reducible first | exact HB.out | apply below_alloc | apply pw_below_drewN | apply below_drew1) | exact HB.out)) : w.heap.size ≤ gb131)); have n3_ := Aside0.mk ((by rw [hg]; exact (below_size (by repeat first | (with_reducible first | exact HB.out | apply below_alloc | apply pw_below_drewN | apply below_drew1) | exact HB.out)) : w.heap.size ≤ gb131)); clear HB; have HB := n0_; have BK131 := n1_; have GW131 := n2_; have GE131 := n3_; clear n0_ n1_ n2_ n3_; clear hb hbox hg; have hcz9_0 : w8.cell? ⟨gb131, 0, none⟩ = some (.int .u32 a0_0) := (blk_cell BK131.out 0).trans rfl; have hcz9_1 : w8.cell? ⟨gb131, 1, none⟩ = some (.int .u32 a0_1) := (blk_cell BK131.out 1).trans rfl; have hcz9_2 : w8.cell? ⟨gb131, 2, none⟩ = some (.int .u16 a0_2) := (blk_cell BK131.out 2).trans rfl; have hcz9_3 : w8.cell? ⟨gb131, 3, none⟩ = some (.int .u16 a0_3) := (blk_cell BK131.out 3).trans rfl; have hcz9_4 : w8.cell? ⟨gb131, 4, none⟩ = some (.int .u8 a0_4) := (blk_cell BK131.out 4).trans rfl; have hfz9_0 := blk_frozen BK131.out 0; have hfz9_1 := blk_frozen BK131.out 1; have hfz9_2 := blk_frozen BK131.out 2; have hfz9_3 := blk_frozen BK131.out 3; have hfz9_4 := blk_frozen BK131.out 4) | ((with_reducible refine gate_dst (N := 10) rfl ?_); refine Kd.R_lit (Kd.int .u8) _ 5 ?hg (N := 10) ?hd (xs := ([a0_4] : List Int)) (inner := [.int .u8 a0_4]) (ok := fun _ => True) (okp := fun _ => True) ?hr ?hp (fun _ hk => hk) trivial (Below.refl _ _) (Nat.le_refl _) (by simp) ?_; (case hd => rfl); (case hg => rfl); (case hr => first | (go_simp; done) | (go_simp; rfl)); (case hp => exact (Reps.one (show Kd.M (Kd.int .u8) _ _ _ a0_4 [.int .u8 a0_4] from rfl) (Reps.none _ _))); intro v133 w10 ho11 hb hg_ hnew_; clear hg_ hnew_; (first | rw [← Ny132.out] at ho11 | (simp only [Int.reduceToNat] at ho11; rw [← Ny132.out] at ho11)); have n0_ := Aside0.mk (Kd.R_lower ho11 (below_size (by repeat first | (with_reducible first | exact HB.out | apply below_alloc | apply pw_below_drewN | apply below_drew1 | refine below_set ?_ GE131.out) | exact HB.out))); have n1_ := Aside0.mk (blk_below (g := gb131) (o := .cells #[.int .u32 a0_0, .int .u32 a0_1, .int .u16 a0_2, .int .u16 a0_3, .int .u8 a0_4] 29 (0, 0)) (by (with_reducible repeat first | apply blk_drewN | apply blk_drew | apply blk_alloc); exact BK131.out) hb); have n2_ := Aside0.mk (below_step (by repeat first | (with_reducible first | exact HB.out | apply below_alloc | apply pw_below_drewN | apply below_drew1 | refine below_set ?_ GE131.out) | exact HB.out) hb); clear BK131; clear HB; have HO134 := n0_; have BK131 := n1_; have HB := n2_; clear n0_ n1_ n2_; clear hb ho11))
  refine wp_loop_rounds 16 ?_
  rw [rounds_succ]
  try go_wp2
  have n0_ := Aside0.mk (Kd.R_drew HO134.out)
  have n1_ := Aside0.mk (blk_drew BK131.out)
  have n2_ := Aside0.mk (below_drew1 HB.out)
  clear HO134
  clear BK131
  clear HB
  have HO134 := n0_
  have BK131 := n1_
  have HB := n2_
  clear n0_ n1_ n2_
  refine start_ (n := 16) (S := fun w' => w'.cell? ⟨gb131, 0, none⟩ = some (.int .u32 a0_0) ∧ w'.cell? ⟨gb131, 1, none⟩ = some (.int .u32 a0_1) ∧ w'.cell? ⟨gb131, 2, none⟩ = some (.int .u16 a0_2) ∧ w'.cell? ⟨gb131, 3, none⟩ = some (.int .u16 a0_3) ∧ w'.cell? ⟨gb131, 4, none⟩ = some (.int .u8 a0_4)) (ds := []) #[false, false, false, false, false, false, false, false, false, false, false, false, false, false, false, false] (by kernel_rfl) rfl rfl ⟨(blk_cell BK131.out 0).trans rfl, (blk_cell BK131.out 1).trans rfl, (blk_cell BK131.out 2).trans rfl, (blk_cell BK131.out 3).trans rfl, (blk_cell BK131.out 4).trans rfl⟩ (fun hHeld => ?_); refine with_tabW key_Hash.tab5 key_Hash.bits5 (fun HT_ HW_ => ?_)
  generalize w10.drew = w12 at HO134 BK131 HB hHeld ⊢
  refine pure_ (i := 0) (N := some 14) (v := ?_) (a' := ?_) #[true, false, false, false, false, false, false, false, false, false, false, false, false, false, false, false] rfl rfl (any_of HT_.out (by kernel_rfl)) (fun _ _ _ h => h) (Or.inl ⟨by rfl, ?_⟩) ?_ ?_
  rotate_left
  · intro w'
    go_simp
    with_reducible rfl
  rotate_left
  · simp only [Act.put, List.setIfInBounds_toArray, List.set_cons_zero, List.set_cons_succ, i64_w, i32_w]
    rfl
  refine pure_ (i := 1) (N := some 15) (v := ?_) (a' := ?_) #[true, true, false, false, false, false, false, false, false, false, false, false, false, false, false, false] rfl rfl (any_of HT_.out (by kernel_rfl)) (fun _ _ _ h => h) (Or.inl ⟨by rfl, ?_⟩) ?_ ?_
  rotate_left
  · intro w'
    go_simp
    with_reducible rfl
  rotate_left
  · simp only [Act.put, List.setIfInBounds_toArray, List.set_cons_zero, List.set_cons_succ, i64_w, i32_w]
    rfl
  refine pure_ (i := 2) (N := some 16) (v := ?_) (a' := ?_) #[true, true, true, false, false, false, false, false, false, false, false, false, false, false, false, false] rfl rfl (any_of HT_.out (by kernel_rfl)) (fun _ _ _ h => h) (Or.inl ⟨by rfl, ?_⟩) ?_ ?_
  rotate_left
  · intro w'
    go_simp
    with_reducible rfl
  rotate_left
  · simp only [Act.put, List.setIfInBounds_toArray, List.set_cons_zero, List.set_cons_succ, i64_w, i32_w]
    rfl
  refine pure_ (i := 3) (N := some 17) (v := ?_) (a' := ?_) #[true, true, true, true, false, false, false, false, false, false, false, false, false, false, false, false] rfl rfl (any_of HT_.out (by kernel_rfl)) (fun _ _ _ h => h) (Or.inl ⟨by rfl, ?_⟩) ?_ ?_
  rotate_left
  · intro w'
    go_simp
    with_reducible rfl
  rotate_left
  · simp only [Act.put, List.setIfInBounds_toArray, List.set_cons_zero, List.set_cons_succ, i64_w, i32_w]
    rfl
  refine pure_ (i := 7) (N := some 21) (v := ?_) (a' := ?_) #[true, true, true, true, false, false, false, true, false, false, false, false, false, false, false, false] rfl rfl (any_of HT_.out (by kernel_rfl)) (fun _ _ _ h => h) (Or.inl ⟨by rfl, ?_⟩) ?_ ?_
  rotate_left
  · intro w'
    go_simp
    with_reducible rfl
  rotate_left
  · simp only [Act.put, List.setIfInBounds_toArray, List.set_cons_zero, List.set_cons_succ, i64_w, i32_w]
    rfl
  refine pure_ (i := 8) (N := some 22) (v := ?_) (a' := ?_) #[true, true, true, true, false, false, false, true, true, false, false, false, false, false, false, false] rfl rfl (any_of HT_.out (by kernel_rfl)) (fun _ _ _ h => h) (Or.inl ⟨by rfl, ?_⟩) ?_ ?_
  rotate_left
  · intro w'
    go_simp
    with_reducible rfl
  rotate_left
  · simp only [Act.put, List.setIfInBounds_toArray, List.set_cons_zero, List.set_cons_succ, i64_w, i32_w]
    rfl
  refine pure_ (i := 9) (N := some 23) (v := ?_) (a' := ?_) #[true, true, true, true, false, false, false, true, true, true, false, false, false, false, false, false] rfl rfl (any_of HT_.out (by kernel_rfl)) (fun _ _ _ h => h) (Or.inl ⟨by rfl, ?_⟩) ?_ ?_
  rotate_left
  · intro w'
    go_simp
    with_reducible rfl
  rotate_left
  · simp only [Act.put, List.setIfInBounds_toArray, List.set_cons_zero, List.set_cons_succ, i64_w, i32_w]
    rfl
  refine take_ (i := 4) (N := some 18) (v := ?_) (a' := ?_) #[true, true, true, true, true, false, false, true, true, true, false, false, false, false, false, false] rfl rfl (take_ofW HT_.out HW_.out (by kernel_rfl)) (fun _ _ _ h => h) (Or.inl ⟨by rfl, ?_⟩) hHeld ?_ ?_
  rotate_left
  · rintro w' ⟨s0, s1, s2, s3, s4⟩
    go_simp
    with_reducible rfl
  rotate_left
  · simp only [Act.put, List.setIfInBounds_toArray, List.set_cons_zero, List.set_cons_succ, i64_w, i32_w]
    rfl
  refine pure_ (i := 5) (N := some 19) (v := ?_) (a' := ?_) #[true, true, true, true, true, true, false, true, true, true, false, false, false, false, false, false] rfl rfl (any_of HT_.out (by kernel_rfl)) (fun _ _ _ h => h) (Or.inl ⟨by rfl, ?_⟩) ?_ ?_
  rotate_left
  · intro w'
    go_simp
    with_reducible rfl
  rotate_left
  · simp only [Act.put, List.setIfInBounds_toArray, List.set_cons_zero, List.set_cons_succ, i64_w, i32_w]
    rfl
  refine take_ (i := 10) (N := some 24) (v := ?_) (a' := ?_) #[true, true, true, true, true, true, false, true, true, true, true, false, false, false, false, false] rfl rfl (take_ofW HT_.out HW_.out (by kernel_rfl)) (fun _ _ _ h => h) (Or.inl ⟨by rfl, ?_⟩) hHeld ?_ ?_
  rotate_left
  · rintro w' ⟨s0, s1, s2, s3, s4⟩
    go_simp
    with_reducible rfl
  rotate_left
  · simp only [Act.put, List.setIfInBounds_toArray, List.set_cons_zero, List.set_cons_succ, i64_w, i32_w]
    rfl
  refine pure_ (i := 11) (N := some 25) (v := ?_) (a' := ?_) #[true, true, true, true, true, true, false, true, true, true, true, true, false, false, false, false] rfl rfl (any_of HT_.out (by kernel_rfl)) (fun _ _ _ h => h) (Or.inl ⟨by rfl, ?_⟩) ?_ ?_
  rotate_left
  · intro w'
    go_simp
    with_reducible rfl
  rotate_left
  · simp only [Act.put, List.setIfInBounds_toArray, List.set_cons_zero, List.set_cons_succ, i64_w, i32_w]
    rfl
  refine one_ (i := 6) (N := some 20) #[true, true, true, true, true, true, true, true, true, true, true, true, false, false, false, false] rfl rfl (one_of HT_.out (by kernel_rfl)) (by decide) (fun K hK => ?_)
  refine goes_ Try.func23 (by kernel_rfl) rfl #[.int .u64 (IntKind.u64.wrap (a0_0)), .int .i64 4] (by rfl) rfl rfl (by (try simp only [List.map_toArray, List.map_cons, List.map_nil]); first | done | rfl) ?_
  with_reducible refine (field_Cut.calls k (IntKind.u64.wrap (a0_0)) 4 t135 _ A2.out).mono ?_
  rintro e w13 ⟨v136, rfl, ho0, hb⟩
  refine ⟨_, rfl, ?_⟩
  have n0_ := Aside0.mk (Kd.R_elder' (by (with_reducible repeat (first | apply Kd.R_alloc | apply Kd.R_drewN | apply Kd.R_drew)); exact HO134.out) (Kd.R_base ho0) hb)
  have n1_ := Aside0.mk (Kd.R_lower (Kd.R_new' ho0 (Kd.R_lt (by (with_reducible repeat (first | apply Kd.R_alloc | apply Kd.R_drewN | apply Kd.R_drew)); exact HO134.out))) (below_size (by repeat first | (with_reducible first | exact HB.out | apply below_alloc | apply pw_below_drewN | apply below_drew1 | refine below_set ?_ GE131.out) | exact HB.out)))
  have n2_ := Aside0.mk (blk_below (g := gb131) (o := .cells #[.int .u32 a0_0, .int .u32 a0_1, .int .u16 a0_2, .int .u16 a0_3, .int .u8 a0_4] 29 (0, 0)) (by (with_reducible repeat first | apply blk_drewN | apply blk_drew | apply blk_alloc); exact BK131.out) hb)
  have n3_ := Aside0.mk (below_step (by repeat first | (with_reducible first | exact HB.out | apply below_alloc | apply pw_below_drewN | apply below_drew1 | refine below_set ?_ GE131.out) | exact HB.out) hb)
  clear HO134
  clear BK131
  clear HB
  have HO134 := n0_
  have HO137 := n1_
  have BK131 := n2_
  have HB := n3_
  clear n0_ n1_ n2_ n3_
  (try clear hb)
  (try clear hb2)
  (try clear hk)
  (try clear hi)
  (try clear ho0)
  refine hK.out _ _ ⟨(blk_cell BK131.out 0).trans rfl, (blk_cell BK131.out 1).trans rfl, (blk_cell BK131.out 2).trans rfl, (blk_cell BK131.out 3).trans rfl, (blk_cell BK131.out 4).trans rfl⟩ (fun hHeld => ?_)
  clear hK K
  refine norm_ (a' := ?_) ?_ ?_
  rotate_left
  · show Act.put _ (some 20) _ = _
    simp only [Act.put, List.setIfInBounds_toArray, List.set_cons_zero, List.set_cons_succ, i64_w, i32_w]
    rfl
  refine one_ (i := 12) (N := some 26) #[true, true, true, true, true, true, true, true, true, true, true, true, true, false, false, false] rfl rfl (one_of HT_.out (by kernel_rfl)) (by decide) (fun K hK => ?_)
  refine goes_ Try.func23 (by kernel_rfl) rfl #[.int .u64 (IntKind.u64.wrap (a0_2)), .int .i64 2] (by rfl) rfl rfl (by (try simp only [List.map_toArray, List.map_cons, List.map_nil]); first | done | rfl) ?_
  with_reducible refine (field_Cut.calls k (IntKind.u64.wrap (a0_2)) 2 t138 _ A3.out).mono ?_
  rintro e w14 ⟨v139, rfl, ho0, hb⟩
  refine ⟨_, rfl, ?_⟩
  have n0_ := Aside0.mk (Kd.R_elder' (by (with_reducible repeat (first | apply Kd.R_alloc | apply Kd.R_drewN | apply Kd.R_drew)); exact HO134.out) (Kd.R_base ho0) hb)
  have n1_ := Aside0.mk (Kd.R_elder' (by (with_reducible repeat (first | apply Kd.R_alloc | apply Kd.R_drewN | apply Kd.R_drew)); exact HO137.out) (Kd.R_base ho0) hb)
  have n2_ := Aside0.mk (Kd.R_lower (Kd.R_new' (Kd.R_new' ho0 (Kd.R_lt (by (with_reducible repeat (first | apply Kd.R_alloc | apply Kd.R_drewN | apply Kd.R_drew)); exact HO134.out))) (Kd.R_lt (by (with_reducible repeat (first | apply Kd.R_alloc | apply Kd.R_drewN | apply Kd.R_drew)); exact HO137.out))) (below_size (by repeat first | (with_reducible first | exact HB.out | apply below_alloc | apply pw_below_drewN | apply below_drew1 | refine below_set ?_ GE131.out) | exact HB.out)))
  have n3_ := Aside0.mk (blk_below (g := gb131) (o := .cells #[.int .u32 a0_0, .int .u32 a0_1, .int .u16 a0_2, .int .u16 a0_3, .int .u8 a0_4] 29 (0, 0)) (by (with_reducible repeat first | apply blk_drewN | apply blk_drew | apply blk_alloc); exact BK131.out) hb)
  have n4_ := Aside0.mk (below_step (by repeat first | (with_reducible first | exact HB.out | apply below_alloc | apply pw_below_drewN | apply below_drew1 | refine below_set ?_ GE131.out) | exact HB.out) hb)
  clear HO134
  clear HO137
  clear BK131
  clear HB
  have HO134 := n0_
  have HO137 := n1_
  have HO140 := n2_
  have BK131 := n3_
  have HB := n4_
  clear n0_ n1_ n2_ n3_ n4_
  (try clear hb)
  (try clear hb2)
  (try clear hk)
  (try clear hi)
  (try clear ho0)
  obtain ⟨Ao15, co15, eo15⟩ := Kd.R_slice HO134.out
  (first | subst eo15 | (injection eo15 with f1_ f2_ f3_; have f4_ := f1_.symm; have f5_ := f3_.symm; clear f1_ f2_ f3_; subst f4_; subst f5_))
  obtain ⟨Ao16, co16, eo16⟩ := Kd.R_slice HO137.out
  (first | subst eo16 | (injection eo16 with f1_ f2_ f3_; have f4_ := f1_.symm; have f5_ := f3_.symm; clear f1_ f2_ f3_; subst f4_; subst f5_))
  obtain ⟨Ao17, co17, eo17⟩ := Kd.R_slice HO140.out
  (first | subst eo17 | (injection eo17 with f1_ f2_ f3_; have f4_ := f1_.symm; have f5_ := f3_.symm; clear f1_ f2_ f3_; subst f4_; subst f5_))
  refine hK.out _ _ ⟨(blk_cell BK131.out 0).trans rfl, (blk_cell BK131.out 1).trans rfl, (blk_cell BK131.out 2).trans rfl, (blk_cell BK131.out 3).trans rfl, (blk_cell BK131.out 4).trans rfl⟩ (fun hHeld => ?_)
  clear hK K
  refine norm_ (a' := ?_) ?_ ?_
  rotate_left
  · show Act.put _ (some 26) _ = _
    simp only [Act.put, List.setIfInBounds_toArray, List.set_cons_zero, List.set_cons_succ, i64_w, i32_w]
    rfl
  refine one_ (i := 13) (N := some 27) #[true, true, true, true, true, true, true, true, true, true, true, true, true, true, false, false] rfl rfl (one_of HT_.out (by kernel_rfl)) (by decide) (fun K hK => ?_)
  refine Kd.N_lit_step (Kd.slice 5 (Kd.int .u8)) _ 46 ?hg (N' := 27) ?hd (xs := ([y132, t135, t138] : List (List Int))) (inner := [.slice Ao15 y132.length co15, .slice Ao16 t135.length co16, .slice Ao17 t138.length co17]) (ok := (fun k_ => k_ ≠ gb131)) (okp := (fun k_ => k_ ≠ gb131)) ?hr ?hp (fun _ hk => hk) ((show ∀ k_, w14.heap.size ≤ k_ → (fun k_ => k_ ≠ gb131) k_ from fun k_ hk => Kd.freshB (g := gb131) (o := .cells #[.int .u32 a0_0, .int .u32 a0_1, .int .u16 a0_2, .int .u16 a0_3, .int .u8 a0_4] 29 (0, 0)) (by (with_reducible repeat first | apply blk_drewN | apply blk_drew | apply blk_alloc); exact BK131.out) k_ hk) _ (Nat.le_refl _)) (Below.refl _ _) (Nat.le_refl _) (by simp) ?_; (case hd => rfl); (case hg => rfl); (case hr => first | (go_simp; done) | (go_simp; rfl)); (case hp => exact (Reps.one (show Kd.FK (Kd.slice 5 (Kd.int .u8)) _ _ y132 [.slice Ao15 y132.length co15] from (Kd.FK_slice_mk (Kd.R_reads' (Kd.R_mono (ok' := (fun k_ => k_ ≠ gb131)) (Kd.R_types (HO134.out) BK131.out (by decide)) (fun k_ hk => hk.2))).2.1 (Kd.R_F (Kd.R_mono (ok' := (fun k_ => k_ ≠ gb131)) (Kd.R_types (HO134.out) BK131.out (by decide)) (fun k_ hk => hk.2))))) (Reps.one (show Kd.FK (Kd.slice 5 (Kd.int .u8)) _ _ t135 [.slice Ao16 t135.length co16] from (Kd.FK_slice_mk (Kd.R_reads' (Kd.R_mono (ok' := (fun k_ => k_ ≠ gb131)) (Kd.R_types (HO137.out) BK131.out (by decide)) (fun k_ hk => hk.2))).2.1 (Kd.R_F (Kd.R_mono (ok' := (fun k_ => k_ ≠ gb131)) (Kd.R_types (HO137.out) BK131.out (by decide)) (fun k_ hk => hk.2))))) (Reps.one (show Kd.FK (Kd.slice 5 (Kd.int .u8)) _ _ t138 [.slice Ao17 t138.length co17] from (Kd.FK_slice_mk (Kd.R_reads' (Kd.R_mono (ok' := (fun k_ => k_ ≠ gb131)) (Kd.R_types (HO140.out) BK131.out (by decide)) (fun k_ hk => hk.2))).2.1 (Kd.R_F (Kd.R_mono (ok' := (fun k_ => k_ ≠ gb131)) (Kd.R_types (HO140.out) BK131.out (by decide)) (fun k_ hk => hk.2))))) (Reps.none _ _)))))
  intro v142 w18 ho19 hb hg_ hnew_
  clear hg_ hnew_
  (first | rw [← Ny141.out] at ho19 | (simp only [Int.reduceToNat] at ho19; rw [← Ny141.out] at ho19))
  have n0_ := Aside0.mk (Kd.N_lower ho19 (below_size (by repeat first | (with_reducible first | exact HB.out | apply below_alloc | apply pw_below_drewN | apply below_drew1 | refine below_set ?_ GE131.out) | exact HB.out)))
  have n1_ := Aside0.mk (blk_below (g := gb131) (o := .cells #[.int .u32 a0_0, .int .u32 a0_1, .int .u16 a0_2, .int .u16 a0_3, .int .u8 a0_4] 29 (0, 0)) (by (with_reducible repeat first | apply blk_drewN | apply blk_drew | apply blk_alloc); exact BK131.out) hb)
  have n2_ := Aside0.mk (below_step (by repeat first | (with_reducible first | exact HB.out | apply below_alloc | apply pw_below_drewN | apply below_drew1 | refine below_set ?_ GE131.out) | exact HB.out) hb)
  clear BK131
  clear HB
  clear HO134
  clear HO137
  clear HO140
  have HO143 := n0_
  have BK131 := n1_
  have HB := n2_
  clear n0_ n1_ n2_
  clear hb ho19
  obtain ⟨Ao20, co20, eo20⟩ := Kd.N_slice HO143.out
  (first | subst eo20 | (injection eo20 with f1_ f2_ f3_; have f4_ := f1_.symm; have f5_ := f3_.symm; clear f1_ f2_ f3_; subst f4_; subst f5_))
  refine hK.out _ _ ⟨(blk_cell BK131.out 0).trans rfl, (blk_cell BK131.out 1).trans rfl, (blk_cell BK131.out 2).trans rfl, (blk_cell BK131.out 3).trans rfl, (blk_cell BK131.out 4).trans rfl⟩ (fun hHeld => ?_)
  clear hK K
  refine norm_ (a' := ?_) ?_ ?_
  rotate_left
  · show Act.put _ (some 27) _ = _
    simp only [Act.put, List.setIfInBounds_toArray, List.set_cons_zero, List.set_cons_succ, i64_w, i32_w]
    rfl
  refine one_ (i := 14) (N := some 28) #[true, true, true, true, true, true, true, true, true, true, true, true, true, true, true, false] rfl rfl (one_of HT_.out (by kernel_rfl)) (by decide) (fun K hK => ?_)
  refine goes_ Try.func22 (by kernel_rfl) rfl #[.slice Ao20 y141.length co20] (by rfl) rfl rfl (by (try simp only [List.map_toArray, List.map_cons, List.map_nil]); first | done | rfl) ?_
  with_reducible refine (slices_Concat_byte_byte.calls k _ _ y141 t144 _ ?side1 ?side2 A4.out).mono ?_
  (case side1 => repeat (first | exact (Kd.N_reads' HO143.out).2.2 | (with_reducible refine Kd.C_alloc ?_ _) | (with_reducible refine Kd.C_drewN ?_ _) | (with_reducible refine Kd.C_drew ?_)))
  (case side2 => exact (Kd.N_reads' HO143.out).2.1)
  rintro e w21 ⟨v145, rfl, ho0, hb⟩
  refine ⟨_, rfl, ?_⟩
  have n0_ := Aside0.mk (Kd.N_elder' (by (with_reducible repeat (first | apply Kd.N_alloc | apply Kd.N_drewN | apply Kd.N_drew)); exact HO143.out) (Kd.R_base ho0) hb)
  have n1_ := Aside0.mk (Kd.R_lower ho0 (below_size (by repeat first | (with_reducible first | exact HB.out | apply below_alloc | apply pw_below_drewN | apply below_drew1 | refine below_set ?_ GE131.out) | exact HB.out)))
  have n2_ := Aside0.mk (blk_below (g := gb131) (o := .cells #[.int .u32 a0_0, .int .u32 a0_1, .int .u16 a0_2, .int .u16 a0_3, .int .u8 a0_4] 29 (0, 0)) (by (with_reducible repeat first | apply blk_drewN | apply blk_drew | apply blk_alloc); exact BK131.out) hb)
  have n3_ := Aside0.mk (below_step (by repeat first | (with_reducible first | exact HB.out | apply below_alloc | apply pw_below_drewN | apply below_drew1 | refine below_set ?_ GE131.out) | exact HB.out) hb)
  clear HO143
  clear BK131
  clear HB
  have HO143 := n0_
  have HO146 := n1_
  have BK131 := n2_
  have HB := n3_
  clear n0_ n1_ n2_ n3_
  (try clear hb)
  (try clear hb2)
  (try clear hk)
  (try clear hi)
  (try clear ho0)
  refine hK.out _ _ ⟨(blk_cell BK131.out 0).trans rfl, (blk_cell BK131.out 1).trans rfl, (blk_cell BK131.out 2).trans rfl, (blk_cell BK131.out 3).trans rfl, (blk_cell BK131.out 4).trans rfl⟩ (fun hHeld => ?_)
  clear hK K
  refine norm_ (a' := ?_) ?_ ?_
  rotate_left
  · show Act.put _ (some 28) _ = _
    simp only [Act.put, List.setIfInBounds_toArray, List.set_cons_zero, List.set_cons_succ, i64_w, i32_w]
    rfl
  refine pure_ (i := 15) (N := some 3) (v := ?_) (a' := ?_) #[true, true, true, true, true, true, true, true, true, true, true, true, true, true, true, true] rfl rfl (any_of HT_.out (by kernel_rfl)) (fun _ _ _ h => h) (Or.inl ⟨by rfl, ?_⟩) ?_ ?_
  rotate_left
  · intro w'
    go_simp
    with_reducible rfl
  rotate_left
  · simp only [Act.put, List.setIfInBounds_toArray, List.set_cons_zero, List.set_cons_succ, i64_w, i32_w]
    rfl
  refine done_ (done_of HT_.out (by kernel_rfl)) ?_
  try go_wp2
  rw [rounds_succ]
  try go_wp2
  have n0_ := Aside0.mk (Kd.N_drew HO143.out)
  have n1_ := Aside0.mk (Kd.R_drew HO146.out)
  have n2_ := Aside0.mk (blk_drew BK131.out)
  have n3_ := Aside0.mk (below_drew1 HB.out)
  clear HO143
  clear HO146
  clear BK131
  clear HB
  have HO143 := n0_
  have HO146 := n1_
  have BK131 := n2_
  have HB := n3_
  clear n0_ n1_ n2_ n3_
  refine start_ (n := 16) (S := fun w' => w'.cell? ⟨gb131, 0, none⟩ = some (.int .u32 a0_0) ∧ w'.cell? ⟨gb131, 1, none⟩ = some (.int .u32 a0_1) ∧ w'.cell? ⟨gb131, 2, none⟩ = some (.int .u16 a0_2) ∧ w'.cell? ⟨gb131, 3, none⟩ = some (.int .u16 a0_3) ∧ w'.cell? ⟨gb131, 4, none⟩ = some (.int .u8 a0_4)) (ds := []) #[false, false, false, false, false, false, false, false, false, false, false, false, false, false, false, false] (by kernel_rfl) rfl rfl ⟨(blk_cell BK131.out 0).trans rfl, (blk_cell BK131.out 1).trans rfl, (blk_cell BK131.out 2).trans rfl, (blk_cell BK131.out 3).trans rfl, (blk_cell BK131.out 4).trans rfl⟩ (fun hHeld => ?_); refine with_tabW key_Hash.tab5 key_Hash.bits5 (fun HT_ HW_ => ?_)
  generalize w21.drew = w22 at HO143 HO146 BK131 HB hHeld ⊢
  refine pure_ (i := 0) (N := some 14) (v := ?_) (a' := ?_) #[true, false, false, false, false, false, false, false, false, false, false, false, false, false, false, false] rfl rfl (any_of HT_.out (by kernel_rfl)) (fun _ _ _ h => h) (Or.inl ⟨by rfl, ?_⟩) ?_ ?_
  rotate_left
  · intro w'
    go_simp
    with_reducible rfl
  rotate_left
  · simp only [Act.put, List.setIfInBounds_toArray, List.set_cons_zero, List.set_cons_succ, i64_w, i32_w]
    rfl
  refine pure_ (i := 1) (N := some 15) (v := ?_) (a' := ?_) #[true, true, false, false, false, false, false, false, false, false, false, false, false, false, false, false] rfl rfl (any_of HT_.out (by kernel_rfl)) (fun _ _ _ h => h) (Or.inl ⟨by rfl, ?_⟩) ?_ ?_
  rotate_left
  · intro w'
    go_simp
    with_reducible rfl
  rotate_left
  · simp only [Act.put, List.setIfInBounds_toArray, List.set_cons_zero, List.set_cons_succ, i64_w, i32_w]
    rfl
  refine pure_ (i := 2) (N := some 16) (v := ?_) (a' := ?_) #[true, true, true, false, false, false, false, false, false, false, false, false, false, false, false, false] rfl rfl (any_of HT_.out (by kernel_rfl)) (fun _ _ _ h => h) (Or.inl ⟨by rfl, ?_⟩) ?_ ?_
  rotate_left
  · intro w'
    go_simp
    with_reducible rfl
  rotate_left
  · simp only [Act.put, List.setIfInBounds_toArray, List.set_cons_zero, List.set_cons_succ, i64_w, i32_w]
    rfl
  refine pure_ (i := 3) (N := some 17) (v := ?_) (a' := ?_) #[true, true, true, true, false, false, false, false, false, false, false, false, false, false, false, false] rfl rfl (any_of HT_.out (by kernel_rfl)) (fun _ _ _ h => h) (Or.inl ⟨by rfl, ?_⟩) ?_ ?_
  rotate_left
  · intro w'
    go_simp
    with_reducible rfl
  rotate_left
  · simp only [Act.put, List.setIfInBounds_toArray, List.set_cons_zero, List.set_cons_succ, i64_w, i32_w]
    rfl
  refine pure_ (i := 7) (N := some 21) (v := ?_) (a' := ?_) #[true, true, true, true, false, false, false, true, false, false, false, false, false, false, false, false] rfl rfl (any_of HT_.out (by kernel_rfl)) (fun _ _ _ h => h) (Or.inl ⟨by rfl, ?_⟩) ?_ ?_
  rotate_left
  · intro w'
    go_simp
    with_reducible rfl
  rotate_left
  · simp only [Act.put, List.setIfInBounds_toArray, List.set_cons_zero, List.set_cons_succ, i64_w, i32_w]
    rfl
  refine pure_ (i := 8) (N := some 22) (v := ?_) (a' := ?_) #[true, true, true, true, false, false, false, true, true, false, false, false, false, false, false, false] rfl rfl (any_of HT_.out (by kernel_rfl)) (fun _ _ _ h => h) (Or.inl ⟨by rfl, ?_⟩) ?_ ?_
  rotate_left
  · intro w'
    go_simp
    with_reducible rfl
  rotate_left
  · simp only [Act.put, List.setIfInBounds_toArray, List.set_cons_zero, List.set_cons_succ, i64_w, i32_w]
    rfl
  refine pure_ (i := 9) (N := some 23) (v := ?_) (a' := ?_) #[true, true, true, true, false, false, false, true, true, true, false, false, false, false, false, false] rfl rfl (any_of HT_.out (by kernel_rfl)) (fun _ _ _ h => h) (Or.inl ⟨by rfl, ?_⟩) ?_ ?_
  rotate_left
  · intro w'
    go_simp
    with_reducible rfl
  rotate_left
  · simp only [Act.put, List.setIfInBounds_toArray, List.set_cons_zero, List.set_cons_succ, i64_w, i32_w]
    rfl
  refine take_ (i := 4) (N := some 18) (v := ?_) (a' := ?_) #[true, true, true, true, true, false, false, true, true, true, false, false, false, false, false, false] rfl rfl (take_ofW HT_.out HW_.out (by kernel_rfl)) (fun _ _ _ h => h) (Or.inl ⟨by rfl, ?_⟩) hHeld ?_ ?_
  rotate_left
  · rintro w' ⟨s0, s1, s2, s3, s4⟩
    go_simp
    with_reducible rfl
  rotate_left
  · simp only [Act.put, List.setIfInBounds_toArray, List.set_cons_zero, List.set_cons_succ, i64_w, i32_w]
    rfl
  refine pure_ (i := 5) (N := some 19) (v := ?_) (a' := ?_) #[true, true, true, true, true, true, false, true, true, true, false, false, false, false, false, false] rfl rfl (any_of HT_.out (by kernel_rfl)) (fun _ _ _ h => h) (Or.inl ⟨by rfl, ?_⟩) ?_ ?_
  rotate_left
  · intro w'
    go_simp
    with_reducible rfl
  rotate_left
  · simp only [Act.put, List.setIfInBounds_toArray, List.set_cons_zero, List.set_cons_succ, i64_w, i32_w]
    rfl
  refine take_ (i := 10) (N := some 24) (v := ?_) (a' := ?_) #[true, true, true, true, true, true, false, true, true, true, true, false, false, false, false, false] rfl rfl (take_ofW HT_.out HW_.out (by kernel_rfl)) (fun _ _ _ h => h) (Or.inl ⟨by rfl, ?_⟩) hHeld ?_ ?_
  rotate_left
  · rintro w' ⟨s0, s1, s2, s3, s4⟩
    go_simp
    with_reducible rfl
  rotate_left
  · simp only [Act.put, List.setIfInBounds_toArray, List.set_cons_zero, List.set_cons_succ, i64_w, i32_w]
    rfl
  refine pure_ (i := 11) (N := some 25) (v := ?_) (a' := ?_) #[true, true, true, true, true, true, false, true, true, true, true, true, false, false, false, false] rfl rfl (any_of HT_.out (by kernel_rfl)) (fun _ _ _ h => h) (Or.inl ⟨by rfl, ?_⟩) ?_ ?_
  rotate_left
  · intro w'
    go_simp
    with_reducible rfl
  rotate_left
  · simp only [Act.put, List.setIfInBounds_toArray, List.set_cons_zero, List.set_cons_succ, i64_w, i32_w]
    rfl
  refine one_ (i := 6) (N := some 20) #[true, true, true, true, true, true, true, true, true, true, true, true, false, false, false, false] rfl rfl (one_of HT_.out (by kernel_rfl)) (by decide) (fun K hK => ?_)
  refine goes_ Try.func23 (by kernel_rfl) rfl #[.int .u64 (IntKind.u64.wrap (a0_1)), .int .i64 4] (by rfl) rfl rfl (by (try simp only [List.map_toArray, List.map_cons, List.map_nil]); first | done | rfl) ?_
  with_reducible refine (field_Cut.calls k (IntKind.u64.wrap (a0_1)) 4 t147 _ A5.out).mono ?_
  rintro e w23 ⟨v148, rfl, ho0, hb⟩
  refine ⟨_, rfl, ?_⟩
  have n0_ := Aside0.mk (Kd.N_elder' (by (with_reducible repeat (first | apply Kd.N_alloc | apply Kd.N_drewN | apply Kd.N_drew)); exact HO143.out) (Kd.R_base ho0) hb)
  have n1_ := Aside0.mk (Kd.R_elder' (by (with_reducible repeat (first | apply Kd.R_alloc | apply Kd.R_drewN | apply Kd.R_drew)); exact HO146.out) (Kd.R_base ho0) hb)
  have n2_ := Aside0.mk (Kd.R_lower (Kd.R_new' ho0 (Kd.R_lt (by (with_reducible repeat (first | apply Kd.R_alloc | apply Kd.R_drewN | apply Kd.R_drew)); exact HO146.out))) (below_size (by repeat first | (with_reducible first | exact HB.out | apply below_alloc | apply pw_below_drewN | apply below_drew1 | refine below_set ?_ GE131.out) | exact HB.out)))
  have n3_ := Aside0.mk (blk_below (g := gb131) (o := .cells #[.int .u32 a0_0, .int .u32 a0_1, .int .u16 a0_2, .int .u16 a0_3, .int .u8 a0_4] 29 (0, 0)) (by (with_reducible repeat first | apply blk_drewN | apply blk_drew | apply blk_alloc); exact BK131.out) hb)
  have n4_ := Aside0.mk (below_step (by repeat first | (with_reducible first | exact HB.out | apply below_alloc | apply pw_below_drewN | apply below_drew1 | refine below_set ?_ GE131.out) | exact HB.out) hb)
  clear HO143
  clear HO146
  clear BK131
  clear HB
  have HO143 := n0_
  have HO146 := n1_
  have HO149 := n2_
  have BK131 := n3_
  have HB := n4_
  clear n0_ n1_ n2_ n3_ n4_
  (try clear hb)
  (try clear hb2)
  (try clear hk)
  (try clear hi)
  (try clear ho0)
  refine hK.out _ _ ⟨(blk_cell BK131.out 0).trans rfl, (blk_cell BK131.out 1).trans rfl, (blk_cell BK131.out 2).trans rfl, (blk_cell BK131.out 3).trans rfl, (blk_cell BK131.out 4).trans rfl⟩ (fun hHeld => ?_)
  clear hK K
  refine norm_ (a' := ?_) ?_ ?_
  rotate_left
  · show Act.put _ (some 20) _ = _
    simp only [Act.put, List.setIfInBounds_toArray, List.set_cons_zero, List.set_cons_succ, i64_w, i32_w]
    rfl
  refine one_ (i := 12) (N := some 26) #[true, true, true, true, true, true, true, true, true, true, true, true, true, false, false, false] rfl rfl (one_of HT_.out (by kernel_rfl)) (by decide) (fun K hK => ?_)
  refine goes_ Try.func23 (by kernel_rfl) rfl #[.int .u64 (IntKind.u64.wrap (a0_3)), .int .i64 2] (by rfl) rfl rfl (by (try simp only [List.map_toArray, List.map_cons, List.map_nil]); first | done | rfl) ?_
  with_reducible refine (field_Cut.calls k (IntKind.u64.wrap (a0_3)) 2 t150 _ A6.out).mono ?_
  rintro e w24 ⟨v151, rfl, ho0, hb⟩
  refine ⟨_, rfl, ?_⟩
  have n0_ := Aside0.mk (Kd.N_elder' (by (with_reducible repeat (first | apply Kd.N_alloc | apply Kd.N_drewN | apply Kd.N_drew)); exact HO143.out) (Kd.R_base ho0) hb)
  have n1_ := Aside0.mk (Kd.R_elder' (by (with_reducible repeat (first | apply Kd.R_alloc | apply Kd.R_drewN | apply Kd.R_drew)); exact HO146.out) (Kd.R_base ho0) hb)
  have n2_ := Aside0.mk (Kd.R_elder' (by (with_reducible repeat (first | apply Kd.R_alloc | apply Kd.R_drewN | apply Kd.R_drew)); exact HO149.out) (Kd.R_base ho0) hb)
  have n3_ := Aside0.mk (Kd.R_lower (Kd.R_new' (Kd.R_new' ho0 (Kd.R_lt (by (with_reducible repeat (first | apply Kd.R_alloc | apply Kd.R_drewN | apply Kd.R_drew)); exact HO146.out))) (Kd.R_lt (by (with_reducible repeat (first | apply Kd.R_alloc | apply Kd.R_drewN | apply Kd.R_drew)); exact HO149.out))) (below_size (by repeat first | (with_reducible first | exact HB.out | apply below_alloc | apply pw_below_drewN | apply below_drew1 | refine below_set ?_ GE131.out) | exact HB.out)))
  have n4_ := Aside0.mk (blk_below (g := gb131) (o := .cells #[.int .u32 a0_0, .int .u32 a0_1, .int .u16 a0_2, .int .u16 a0_3, .int .u8 a0_4] 29 (0, 0)) (by (with_reducible repeat first | apply blk_drewN | apply blk_drew | apply blk_alloc); exact BK131.out) hb)
  have n5_ := Aside0.mk (below_step (by repeat first | (with_reducible first | exact HB.out | apply below_alloc | apply pw_below_drewN | apply below_drew1 | refine below_set ?_ GE131.out) | exact HB.out) hb)
  clear HO143
  clear HO146
  clear HO149
  clear BK131
  clear HB
  have HO143 := n0_
  have HO146 := n1_
  have HO149 := n2_
  have HO152 := n3_
  have BK131 := n4_
  have HB := n5_
  clear n0_ n1_ n2_ n3_ n4_ n5_
  (try clear hb)
  (try clear hb2)
  (try clear hk)
  (try clear hi)
  (try clear ho0)
  obtain ⟨Ao25, co25, eo25⟩ := Kd.R_slice HO146.out
  (first | subst eo25 | (injection eo25 with f1_ f2_ f3_; have f4_ := f1_.symm; have f5_ := f3_.symm; clear f1_ f2_ f3_; subst f4_; subst f5_))
  obtain ⟨Ao26, co26, eo26⟩ := Kd.R_slice HO149.out
  (first | subst eo26 | (injection eo26 with f1_ f2_ f3_; have f4_ := f1_.symm; have f5_ := f3_.symm; clear f1_ f2_ f3_; subst f4_; subst f5_))
  obtain ⟨Ao27, co27, eo27⟩ := Kd.R_slice HO152.out
  (first | subst eo27 | (injection eo27 with f1_ f2_ f3_; have f4_ := f1_.symm; have f5_ := f3_.symm; clear f1_ f2_ f3_; subst f4_; subst f5_))
  refine hK.out _ _ ⟨(blk_cell BK131.out 0).trans rfl, (blk_cell BK131.out 1).trans rfl, (blk_cell BK131.out 2).trans rfl, (blk_cell BK131.out 3).trans rfl, (blk_cell BK131.out 4).trans rfl⟩ (fun hHeld => ?_)
  clear hK K
  refine norm_ (a' := ?_) ?_ ?_
  rotate_left
  · show Act.put _ (some 26) _ = _
    simp only [Act.put, List.setIfInBounds_toArray, List.set_cons_zero, List.set_cons_succ, i64_w, i32_w]
    rfl
  refine one_ (i := 13) (N := some 27) #[true, true, true, true, true, true, true, true, true, true, true, true, true, true, false, false] rfl rfl (one_of HT_.out (by kernel_rfl)) (by decide) (fun K hK => ?_)
  refine Kd.N_lit_step (Kd.slice 5 (Kd.int .u8)) _ 46 ?hg (N' := 27) ?hd (xs := ([t144, t147, t150] : List (List Int))) (inner := [.slice Ao25 t144.length co25, .slice Ao26 t147.length co26, .slice Ao27 t150.length co27]) (ok := (fun k_ => some k_ ≠ (.slice Ao20 y141.length co20 : Value).ownBlock ∧ k_ ≠ gb131)) (okp := (fun k_ => some k_ ≠ (.slice Ao20 y141.length co20 : Value).ownBlock ∧ k_ ≠ gb131)) ?hr ?hp (fun _ hk => hk) ((show ∀ k_, w24.heap.size ≤ k_ → (fun k_ => some k_ ≠ (.slice Ao20 y141.length co20 : Value).ownBlock ∧ k_ ≠ gb131) k_ from fun k_ hk => ⟨Kd.fresh' (Kd.N_lt (by (with_reducible repeat (first | apply Kd.N_alloc | apply Kd.N_drewN | apply Kd.N_drew)); exact HO143.out)) k_ hk, Kd.freshB (g := gb131) (o := .cells #[.int .u32 a0_0, .int .u32 a0_1, .int .u16 a0_2, .int .u16 a0_3, .int .u8 a0_4] 29 (0, 0)) (by (with_reducible repeat first | apply blk_drewN | apply blk_drew | apply blk_alloc); exact BK131.out) k_ hk⟩) _ (Nat.le_refl _)) (Below.refl _ _) (Nat.le_refl _) (by simp) ?_; (case hd => rfl); (case hg => rfl); (case hr => first | (go_simp; done) | (go_simp; rfl)); (case hp => exact (Reps.one (show Kd.FK (Kd.slice 5 (Kd.int .u8)) _ _ t144 [.slice Ao25 t144.length co25] from (Kd.FK_slice_mk (Kd.R_reads' (Kd.R_mono (ok' := (fun k_ => some k_ ≠ (.slice Ao20 y141.length co20 : Value).ownBlock ∧ k_ ≠ gb131)) (Kd.R_types (Kd.R_apart' (HO146.out) (Kd.N_typed HO143.out) (by decide)) BK131.out (by decide)) (fun k_ hk => ⟨hk.1.2, hk.2⟩))).2.1 (Kd.R_F (Kd.R_mono (ok' := (fun k_ => some k_ ≠ (.slice Ao20 y141.length co20 : Value).ownBlock ∧ k_ ≠ gb131)) (Kd.R_types (Kd.R_apart' (HO146.out) (Kd.N_typed HO143.out) (by decide)) BK131.out (by decide)) (fun k_ hk => ⟨hk.1.2, hk.2⟩))))) (Reps.one (show Kd.FK (Kd.slice 5 (Kd.int .u8)) _ _ t147 [.slice Ao26 t147.length co26] from (Kd.FK_slice_mk (Kd.R_reads' (Kd.R_mono (ok' := (fun k_ => some k_ ≠ (.slice Ao20 y141.length co20 : Value).ownBlock ∧ k_ ≠ gb131)) (Kd.R_types (Kd.R_apart' (HO149.out) (Kd.N_typed HO143.out) (by decide)) BK131.out (by decide)) (fun k_ hk => ⟨hk.1.2, hk.2⟩))).2.1 (Kd.R_F (Kd.R_mono (ok' := (fun k_ => some k_ ≠ (.slice Ao20 y141.length co20 : Value).ownBlock ∧ k_ ≠ gb131)) (Kd.R_types (Kd.R_apart' (HO149.out) (Kd.N_typed HO143.out) (by decide)) BK131.out (by decide)) (fun k_ hk => ⟨hk.1.2, hk.2⟩))))) (Reps.one (show Kd.FK (Kd.slice 5 (Kd.int .u8)) _ _ t150 [.slice Ao27 t150.length co27] from (Kd.FK_slice_mk (Kd.R_reads' (Kd.R_mono (ok' := (fun k_ => some k_ ≠ (.slice Ao20 y141.length co20 : Value).ownBlock ∧ k_ ≠ gb131)) (Kd.R_types (Kd.R_apart' (HO152.out) (Kd.N_typed HO143.out) (by decide)) BK131.out (by decide)) (fun k_ hk => ⟨hk.1.2, hk.2⟩))).2.1 (Kd.R_F (Kd.R_mono (ok' := (fun k_ => some k_ ≠ (.slice Ao20 y141.length co20 : Value).ownBlock ∧ k_ ≠ gb131)) (Kd.R_types (Kd.R_apart' (HO152.out) (Kd.N_typed HO143.out) (by decide)) BK131.out (by decide)) (fun k_ hk => ⟨hk.1.2, hk.2⟩))))) (Reps.none _ _)))))
  intro v154 w28 ho29 hb hg_ hnew_
  clear hg_ hnew_
  (first | rw [← Ny153.out] at ho29 | (simp only [Int.reduceToNat] at ho29; rw [← Ny153.out] at ho29))
  have n0_ := Aside0.mk (Kd.N_elder' (by (with_reducible repeat (first | apply Kd.N_alloc | apply Kd.N_drewN | apply Kd.N_drew)); exact HO143.out) (Kd.N_base ho29) hb)
  have n1_ := Aside0.mk (Kd.N_lower ho29 (below_size (by repeat first | (with_reducible first | exact HB.out | apply below_alloc | apply pw_below_drewN | apply below_drew1 | refine below_set ?_ GE131.out) | exact HB.out)))
  have n2_ := Aside0.mk (blk_below (g := gb131) (o := .cells #[.int .u32 a0_0, .int .u32 a0_1, .int .u16 a0_2, .int .u16 a0_3, .int .u8 a0_4] 29 (0, 0)) (by (with_reducible repeat first | apply blk_drewN | apply blk_drew | apply blk_alloc); exact BK131.out) hb)
  have n3_ := Aside0.mk (below_step (by repeat first | (with_reducible first | exact HB.out | apply below_alloc | apply pw_below_drewN | apply below_drew1 | refine below_set ?_ GE131.out) | exact HB.out) hb)
  clear HO143
  clear BK131
  clear HB
  clear HO146
  clear HO149
  clear HO152
  have HO143 := n0_
  have HO155 := n1_
  have BK131 := n2_
  have HB := n3_
  clear n0_ n1_ n2_ n3_
  clear hb ho29
  obtain ⟨Ao30, co30, eo30⟩ := Kd.N_slice HO155.out
  (first | subst eo30 | (injection eo30 with f1_ f2_ f3_; have f4_ := f1_.symm; have f5_ := f3_.symm; clear f1_ f2_ f3_; subst f4_; subst f5_))
  refine hK.out _ _ ⟨(blk_cell BK131.out 0).trans rfl, (blk_cell BK131.out 1).trans rfl, (blk_cell BK131.out 2).trans rfl, (blk_cell BK131.out 3).trans rfl, (blk_cell BK131.out 4).trans rfl⟩ (fun hHeld => ?_)
  clear hK K
  refine norm_ (a' := ?_) ?_ ?_
  rotate_left
  · show Act.put _ (some 27) _ = _
    simp only [Act.put, List.setIfInBounds_toArray, List.set_cons_zero, List.set_cons_succ, i64_w, i32_w]
    rfl
  refine one_ (i := 14) (N := some 28) #[true, true, true, true, true, true, true, true, true, true, true, true, true, true, true, false] rfl rfl (one_of HT_.out (by kernel_rfl)) (by decide) (fun K hK => ?_)
  refine goes_ Try.func22 (by kernel_rfl) rfl #[.slice Ao30 y153.length co30] (by rfl) rfl rfl (by (try simp only [List.map_toArray, List.map_cons, List.map_nil]); first | done | rfl) ?_
  with_reducible refine (slices_Concat_byte_byte.calls k _ _ y153 t156 _ ?side1 ?side2 A7.out).mono ?_
  (case side1 => repeat (first | exact (Kd.N_reads' HO155.out).2.2 | (with_reducible refine Kd.C_alloc ?_ _) | (with_reducible refine Kd.C_drewN ?_ _) | (with_reducible refine Kd.C_drew ?_)))
  (case side2 => exact (Kd.N_reads' HO155.out).2.1)
  rintro e w31 ⟨v157, rfl, ho0, hb⟩
  refine ⟨_, rfl, ?_⟩
  have n0_ := Aside0.mk (Kd.N_elder' (by (with_reducible repeat (first | apply Kd.N_alloc | apply Kd.N_drewN | apply Kd.N_drew)); exact HO143.out) (Kd.R_base ho0) hb)
  have n1_ := Aside0.mk (Kd.N_elder' (by (with_reducible repeat (first | apply Kd.N_alloc | apply Kd.N_drewN | apply Kd.N_drew)); exact HO155.out) (Kd.R_base ho0) hb)
  have n2_ := Aside0.mk (Kd.R_lower ho0 (below_size (by repeat first | (with_reducible first | exact HB.out | apply below_alloc | apply pw_below_drewN | apply below_drew1 | refine below_set ?_ GE131.out) | exact HB.out)))
  have n3_ := Aside0.mk (blk_below (g := gb131) (o := .cells #[.int .u32 a0_0, .int .u32 a0_1, .int .u16 a0_2, .int .u16 a0_3, .int .u8 a0_4] 29 (0, 0)) (by (with_reducible repeat first | apply blk_drewN | apply blk_drew | apply blk_alloc); exact BK131.out) hb)
  have n4_ := Aside0.mk (below_step (by repeat first | (with_reducible first | exact HB.out | apply below_alloc | apply pw_below_drewN | apply below_drew1 | refine below_set ?_ GE131.out) | exact HB.out) hb)
  clear HO143
  clear HO155
  clear BK131
  clear HB
  have HO143 := n0_
  have HO155 := n1_
  have HO158 := n2_
  have BK131 := n3_
  have HB := n4_
  clear n0_ n1_ n2_ n3_ n4_
  (try clear hb)
  (try clear hb2)
  (try clear hk)
  (try clear hi)
  (try clear ho0)
  refine hK.out _ _ ⟨(blk_cell BK131.out 0).trans rfl, (blk_cell BK131.out 1).trans rfl, (blk_cell BK131.out 2).trans rfl, (blk_cell BK131.out 3).trans rfl, (blk_cell BK131.out 4).trans rfl⟩ (fun hHeld => ?_)
  clear hK K
  refine norm_ (a' := ?_) ?_ ?_
  rotate_left
  · show Act.put _ (some 28) _ = _
    simp only [Act.put, List.setIfInBounds_toArray, List.set_cons_zero, List.set_cons_succ, i64_w, i32_w]
    rfl
  refine pure_ (i := 15) (N := some 3) (v := ?_) (a' := ?_) #[true, true, true, true, true, true, true, true, true, true, true, true, true, true, true, true] rfl rfl (any_of HT_.out (by kernel_rfl)) (fun _ _ _ h => h) (Or.inl ⟨by rfl, ?_⟩) ?_ ?_
  rotate_left
  · intro w'
    go_simp
    with_reducible rfl
  rotate_left
  · simp only [Act.put, List.setIfInBounds_toArray, List.set_cons_zero, List.set_cons_succ, i64_w, i32_w]
    rfl
  refine done_ (done_of HT_.out (by kernel_rfl)) ?_
  obtain ⟨Ao32, co32, eo32⟩ := Kd.R_slice HO158.out
  subst eo32
  try go_wp2
  rw [rounds_succ]
  try go_wp2
  go_loopg [5, 32] k (fun kq v5 v32 w' => ∃ (x5_1 : Int) (x32_1 : Int), v5 = .int .u32 x5_1 ∧ v32 = .int .i64 x32_1 ∧ Aside0 (key_Hash.l1 kq x5_1 t156 (t156.length : Int) x32_1 = some r) ∧ Aside0 (kq ≤ k) ∧ Aside0 (Kd.R (Kd.int .u8) 5 w' w.heap.size (fun _ => True) (.slice Ao32 t156.length co32) t156) ∧ Aside0 (w'.heap[gb131]? = some (.cells #[.int .u32 a0_0, .int .u32 a0_1, .int .u16 a0_2, .int .u16 a0_3, .int .u8 a0_4] 29 (0, 0))) ∧ Aside0 (Below w.heap.size w w'))
  case atStart => exact ⟨(2166136261), (0), (by first | rfl | (simp; done) | (simp [*]; done)), (by first | rfl | (simp; done) | (simp [*]; done)), H', ⟨Nat.le_refl _⟩, ⟨by (with_reducible repeat (first | apply Kd.R_alloc | apply Kd.R_drewN | apply Kd.R_drew)); exact HO158.out⟩, ⟨by (with_reducible repeat first | apply blk_drewN | apply blk_drew | apply blk_alloc); exact BK131.out⟩, ⟨by repeat first | (with_reducible first | exact HB.out | apply below_alloc | apply pw_below_drewN | apply below_drew1 | refine below_set ?_ GE131.out) | exact HB.out⟩⟩
  case round =>
    clear H'
    try clear c1
    try clear c2
    try clear p2
    try clear c11
    try clear c22
    try clear c23
    try clear hcz9_0
    try clear hcz9_1
    try clear hcz9_2
    try clear hcz9_3
    try clear hcz9_4
    try clear hfz9_0
    try clear hfz9_1
    try clear hfz9_2
    try clear hfz9_3
    try clear hfz9_4
    obtain ⟨x5_1, x32_1, rfl, rfl, HA, HK1, HO_30, BK131, HB⟩ := hrel
    cases gk with
    | zero => exact absurd HA.out (by simp [key_Hash.l1])
    | succ k1 =>
      have H := HA.out
      clear HA
      simp only [key_Hash.l1] at H
      by_cases c33 : x32_1 < (t156.length : Int)
      · rw [if_pos c33] at H
        have c33b0 : decide (x32_1 < (t156.length : Int)) = true := decide_eq_true c33
        clear c33
        by_cases c34 : 0 ≤ x32_1
        · rw [if_pos c34] at H
          have c34b0 : decide (0 ≤ x32_1) = true := decide_eq_true c34
          clear c34
          by_cases c35 : x32_1 < (t156.length : Int)
          · rw [if_pos c35] at H
            have c35b0 : decide (x32_1 < (t156.length : Int)) = true := decide_eq_true c35
            clear c35
            have H' := Aside0.mk H
            clear H
            have p159 : 0 ≤ (x32_1 : Int) := of_decide_eq_true (by first | (with_reducible assumption) | assumption)
            have q159 : x32_1 < (t156.length : Int) := of_decide_eq_true (by first | (with_reducible assumption) | assumption)
            obtain ⟨ad159, e159, hx159_0⟩ := Kd.at_int (Kd.R_reads' HO_30.out).2.2 x32_1 p159 q159
            cases e159
            replace p159 := eq_true p159
            replace q159 := eq_true q159
            go_wp2
            go_roundg k1
            case measure => have := HK1.out; omega
            case rel => exact ⟨(((Go.bits .xor .u32 x5_1 ((rd t156 x32_1) % 4294967296)) * 16777619) % 4294967296), (wrap64 (x32_1 + 1)), (by first | rfl | (simp; done) | (simp [*]; done)), (by first | rfl | (simp; done) | (simp [*]; done)), H', ⟨by have := HK1.out; omega⟩, ⟨by (with_reducible repeat (first | apply Kd.R_alloc | apply Kd.R_drewN | apply Kd.R_drew)); exact HO_30.out⟩, ⟨by (with_reducible repeat first | apply blk_drewN | apply blk_drew | apply blk_alloc); exact BK131.out⟩, ⟨by repeat first | (with_reducible first | exact HB.out | apply below_alloc | apply pw_below_drewN | apply below_drew1 | refine below_set ?_ GE131.out) | exact HB.out⟩⟩
          · rw [if_neg c35] at H
            exact absurd H (by simp)
        · rw [if_neg c34] at H
          exact absurd H (by simp)
      · rw [if_neg c33] at H
        have c33b0 : decide (x32_1 < (t156.length : Int)) = false := decide_eq_false c33
        clear c33
        obtain rfl := Option.some.inj H
        go_wp2
        go_ret
        exact ⟨by first | rfl | (simp [errW_none, errW_some] <;> rfl) | (simp [*, errW_none, errW_some] <;> rfl), by repeat first | (with_reducible first | exact HB.out | apply below_alloc | apply pw_below_drewN | apply below_drew1 | refine below_set ?_ GE131.out) | exact HB.out⟩

end Go.Proofs.Ytplioggeccoleaa.Key
