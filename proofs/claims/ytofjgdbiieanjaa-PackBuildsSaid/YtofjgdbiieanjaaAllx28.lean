-- Made by a program of this workplace (wip/pr.sh) out of Lean's print of the translation; Lean checks it.
import Derived.Test.YtofjgdbiieanjaaAllx0
import Derived.Test.YtofjgdbiieanjaaAllx53
namespace Go.Proofs.Ytofjgdbiieanjaa.All
open Go.Proofs.Ytofjgdbiieanjaa.Ext
open Go.RowKit Go.Proofs.YtofjgdbiieanjaaW.PrintWords Go.Proofs.YtofjgdbiieanjaaW.PrintLast Go.Proofs.YtofjgdbiieanjaaW.PrintMore
attribute [local go_sem] max2_int min2_int max_two min_two max_three min_three max_four min_four   -- for this text's walks alone
set_option linter.unusedVariables false
set_option linter.unusedSimpArgs false

/-! ### tcp_Pseudo: function 38 -/
def tcp_Pseudo.f (k : Nat) (a0 : Int) (a1 : Int) (a2 : Int) (a3 : Int) : Option (Int) := (field_Cut.f k (IntKind.u64.wrap (a1)) 4).bind fun t264 => ((field_Cut.f k (IntKind.u64.wrap (a2)) 4).bind fun t267 => ((field_Cut.f k (IntKind.u64.wrap (a3)) 2).bind fun t273 => ((slices_Concat_byte_byte.f k (([t264, t267, (([0, a0] : List Int)), t273] : List (List Int)))).bind fun t279 => ((sum_Add.f k 0 t279).bind fun t282 => (some t282)))))
theorem tcp_Pseudo.mono : ∀ a0 a1 a2 a3 k, LeO (tcp_Pseudo.f k a0 a1 a2 a3) (tcp_Pseudo.f (k + 1) a0 a1 a2 a3) := by
  intro a0 a1 a2 a3 k
  unfold tcp_Pseudo.f
  repeat' first
      | (with_reducible exact field_Cut.mono _ _ _)
      | (with_reducible exact slices_Concat_byte_byte.mono _ _)
      | (with_reducible exact sum_Add.mono _ _ _)
      | (with_reducible exact LeO.refl _)
      | (with_reducible exact LeO.none _)
      | (with_reducible refine LeO.ite ?_ ?_)
      | (with_reducible refine LeO.bind ?_ (fun _ => ?_))
      | exact field_Cut.mono _ _ _
      | exact slices_Concat_byte_byte.mono _ _
      | exact sum_Add.mono _ _ _
      | exact LeO.none _
      | refine LeO.ite ?_ ?_
      | refine LeO.bind ?_ (fun _ => ?_)
set_option maxHeartbeats 8000000 in
set_option maxRecDepth 100000 in
theorem tcp_Pseudo.calls (k : Nat) (a0 : Int) (a1 : Int) (a2 : Int) (a3 : Int) (r : Int) (w : World) (h : tcp_Pseudo.f k a0 a1 a2 a3 = some r) :
    Calls Try.prog 38 #[.int .u8 a0, .int .u32 a1, .int .u32 a2, .int .i64 a3] w fun e w' => e = .returned (.int .u16 r) ∧ Below w.heap.size w w' := by
 have HB := aS (Below.refl w.heap.size w)
 have H := h
 unfold tcp_Pseudo.f at H
 clear h
 replace H := Option.bind_eq_some_iff.mp H
 obtain ⟨t264, A50, H⟩ := H
 try dsimp -simprocs only at H
 have A5 := aS A50
 clear A50
 replace H := Option.bind_eq_some_iff.mp H
 obtain ⟨t267, A60, H⟩ := H
 try dsimp -simprocs only at H
 have A6 := aS A60
 clear A60
 obtain ⟨y270, hy270⟩ : ∃ y_ : List Int, y_ = (([0, a0] : List Int)) := ⟨_, rfl⟩
 first | with_reducible replace H := bindY hy270 H | rw [← hy270] at H | skip
 try dsimp -simprocs only at H
 have Ny270 := aS hy270
 clear hy270
 replace H := Option.bind_eq_some_iff.mp H
 obtain ⟨t273, A70, H⟩ := H
 try dsimp -simprocs only at H
 have A7 := aS A70
 clear A70
 obtain ⟨y276, hy276⟩ : ∃ y_ : List (List Int), y_ = (([t264, t267, y270, t273] : List (List Int))) := ⟨_, rfl⟩
 first | with_reducible replace H := bindY hy276 H | rw [← hy276] at H | skip
 try dsimp -simprocs only at H
 have Ny276 := aS hy276
 clear hy276
 replace H := Option.bind_eq_some_iff.mp H
 obtain ⟨t279, A80, H⟩ := H
 try dsimp -simprocs only at H
 have A8 := aS A80
 clear A80
 replace H := Option.bind_eq_some_iff.mp H
 obtain ⟨t282, A90, H⟩ := H
 try dsimp -simprocs only at H
 have A9 := aS A90
 clear A90
 obtain rfl := Option.some.inj H
 go_enter Try.func38, Try.ntmps38
 go_wp2_with (first | ((with_reducible refine gate_callee (f := 68) rfl ?_); refine goesL_ (some 11) rfl rfl Try.func68 (by kernel_rfl) rfl #[.int .u64 (IntKind.u64.wrap (a1)), .int .i64 4] rfl (by (try simp only [List.map_toArray, List.map_cons, List.map_nil]); first | done | rfl) ?_; (with_reducible refine (field_Cut.calls k (IntKind.u64.wrap (a1)) 4 t264 _ A5.out).mono ?_); rintro e w10 ⟨v265, rfl, ho0, hb⟩; refine ⟨_, rfl, ?_⟩; have HO266 := aS (Kd.R_lower ho0 (below_size (tB HB.out))); replace HB := aS (below_step (tB HB.out) hb); (try clear hb); (try clear hb2); (try clear hk); (try clear hi); (try clear ho0)) | ((with_reducible refine gate_callee (f := 68) rfl ?_); refine goesL_ (some 14) rfl rfl Try.func68 (by kernel_rfl) rfl #[.int .u64 (IntKind.u64.wrap (a2)), .int .i64 4] rfl (by (try simp only [List.map_toArray, List.map_cons, List.map_nil]); first | done | rfl) ?_; (with_reducible refine (field_Cut.calls k (IntKind.u64.wrap (a2)) 4 t267 _ A6.out).mono ?_); rintro e w11 ⟨v268, rfl, ho0, hb⟩; refine ⟨_, rfl, ?_⟩; have HO269 := aS (Kd.R_lower (Kd.R_new' ho0 (Kd.R_lt (tR HO266.out))) (below_size (tB HB.out))); replace HO266 := aS (Kd.R_elder' (tR HO266.out) (Kd.R_base ho0) hb); replace HB := aS (below_step (tB HB.out) hb); (try clear hb); (try clear hb2); (try clear hk); (try clear hi); (try clear ho0)) | ((with_reducible refine gate_dst (N := 16) rfl ?_); refine Kd.R_lit (Kd.int .u8) _ 5 ?hg (N := 16) ?hd (xs := ([0, a0] : List Int)) (inner := [.int .u8 0, .int .u8 a0]) (ok := fun _ => True) (okp := fun _ => True) ?hr ?hp (fun _ hk => hk) trivial (Below.refl _ _) (Nat.le_refl _) (by simp) ?_; (case hd => rfl); (case hg => rfl); (case hr => first | (go_simp; done) | (go_simp; rfl)); (case hp => exact (Reps.one (show Kd.M (Kd.int .u8) _ _ _ 0 [.int .u8 0] from rfl) (Reps.one (show Kd.M (Kd.int .u8) _ _ _ a0 [.int .u8 a0] from rfl) (Reps.none _ _)))); intro v271 w12 ho13 hb hg_ hnew_; clear hg_ hnew_; (first | rw [← Ny270.out] at ho13 | (simp only [Int.reduceToNat] at ho13; rw [← Ny270.out] at ho13)); have HO272 := aS (Kd.R_lower (Kd.R_new' (Kd.R_new' ho13 (Kd.R_lt (tR HO266.out))) (Kd.R_lt (tR HO269.out))) (below_size (tB HB.out))); replace HO266 := aS (Kd.R_elder' (tR HO266.out) (Kd.R_base ho13) hb); replace HO269 := aS (Kd.R_elder' (tR HO269.out) (Kd.R_base ho13) hb); replace HB := aS (below_step (tB HB.out) hb); clear hb ho13) | ((with_reducible refine gate_callee (f := 68) rfl ?_); refine goesL_ (some 19) rfl rfl Try.func68 (by kernel_rfl) rfl #[.int .u64 (IntKind.u64.wrap (a3)), .int .i64 2] rfl (by (try simp only [List.map_toArray, List.map_cons, List.map_nil]); first | done | rfl) ?_; (with_reducible refine (field_Cut.calls k (IntKind.u64.wrap (a3)) 2 t273 _ A7.out).mono ?_); rintro e w14 ⟨v274, rfl, ho0, hb⟩; refine ⟨_, rfl, ?_⟩; have HO275 := aS (Kd.R_lower (Kd.R_new' (Kd.R_new' (Kd.R_new' ho0 (Kd.R_lt (tR HO266.out))) (Kd.R_lt (tR HO269.out))) (Kd.R_lt (tR HO272.out))) (below_size (tB HB.out))); replace HO266 := aS (Kd.R_elder' (tR HO266.out) (Kd.R_base ho0) hb); replace HO269 := aS (Kd.R_elder' (tR HO269.out) (Kd.R_base ho0) hb); replace HO272 := aS (Kd.R_elder' (tR HO272.out) (Kd.R_base ho0) hb); replace HB := aS (below_step (tB HB.out) hb); (try clear hb); (try clear hb2); (try clear hk); (try clear hi); (try clear ho0); obtain ⟨Ao15, co15, eo15⟩ := Kd.R_slice HO266.out; subst eo15; obtain ⟨Ao16, co16, eo16⟩ := Kd.R_slice HO269.out; subst eo16; obtain ⟨Ao17, co17, eo17⟩ := Kd.R_slice HO272.out; subst eo17; obtain ⟨Ao18, co18, eo18⟩ := Kd.R_slice HO275.out; subst eo18) | ((with_reducible refine gate_dst (N := 20) rfl ?_); refine Kd.N_lit (Kd.slice 5 (Kd.int .u8)) _ 22 ?hg (N' := 20) ?hd (xs := ([t264, t267, y270, t273] : List (List Int))) (inner := [.slice Ao15 t264.length co15, .slice Ao16 t267.length co16, .slice Ao17 y270.length co17, .slice Ao18 t273.length co18]) (ok := (fun _ => True)) (okp := (fun _ => True)) ?hr ?hp (fun _ hk => hk) ((show ∀ k_, w14.heap.size ≤ k_ → (fun _ => True) k_ from fun k_ hk => trivial) _ (Nat.le_refl _)) (Below.refl _ _) (Nat.le_refl _) (by simp) ?_; (case hd => rfl); (case hg => rfl); (case hr => first | (go_simp; done) | (go_simp; rfl)); (case hp => exact (Reps.one (show Kd.FK (Kd.slice 5 (Kd.int .u8)) _ _ t264 [.slice Ao15 t264.length co15] from (Kd.FK_slice_mk (Kd.R_reads' (Kd.R_mono (ok' := (fun _ => True)) (HO266.out) (fun k_ hk => trivial))).2.1 (Kd.R_F (Kd.R_mono (ok' := (fun _ => True)) (HO266.out) (fun k_ hk => trivial))))) (Reps.one (show Kd.FK (Kd.slice 5 (Kd.int .u8)) _ _ t267 [.slice Ao16 t267.length co16] from (Kd.FK_slice_mk (Kd.R_reads' (Kd.R_mono (ok' := (fun _ => True)) (HO269.out) (fun k_ hk => trivial))).2.1 (Kd.R_F (Kd.R_mono (ok' := (fun _ => True)) (HO269.out) (fun k_ hk => trivial))))) (Reps.one (show Kd.FK (Kd.slice 5 (Kd.int .u8)) _ _ y270 [.slice Ao17 y270.length co17] from (Kd.FK_slice_mk (Kd.R_reads' (Kd.R_mono (ok' := (fun _ => True)) (HO272.out) (fun k_ hk => trivial))).2.1 (Kd.R_F (Kd.R_mono (ok' := (fun _ => True)) (HO272.out) (fun k_ hk => trivial))))) (Reps.one (show Kd.FK (Kd.slice 5 (Kd.int .u8)) _ _ t273 [.slice Ao18 t273.length co18] from (Kd.FK_slice_mk (Kd.R_reads' (Kd.R_mono (ok' := (fun _ => True)) (HO275.out) (fun k_ hk => trivial))).2.1 (Kd.R_F (Kd.R_mono (ok' := (fun _ => True)) (HO275.out) (fun k_ hk => trivial))))) (Reps.none _ _)))))); intro v277 w19 ho20 hb hg_ hnew_; clear hg_ hnew_; (first | rw [← Ny276.out] at ho20 | (simp only [Int.reduceToNat] at ho20; rw [← Ny276.out] at ho20)); have HO278 := aS (Kd.N_lower ho20 (below_size (tB HB.out))); replace HB := aS (below_step (tB HB.out) hb); clear HO266 HO269 HO272 HO275; clear hb ho20; obtain ⟨Ao21, co21, eo21⟩ := Kd.N_slice HO278.out; subst eo21) | ((with_reducible refine gate_callee (f := 67) rfl ?_); refine goesL_ (some 21) rfl rfl Try.func67 (by kernel_rfl) rfl #[.slice Ao21 y276.length co21] rfl (by (try simp only [List.map_toArray, List.map_cons, List.map_nil]); first | done | rfl) ?_; (with_reducible refine (slices_Concat_byte_byte.calls k _ _ y276 t279 _ ?side1 ?side2 A8.out).mono ?_); (case side1 => repeat (first | exact (Kd.N_reads' HO278.out).2.2 | (with_reducible refine Kd.C_alloc ?_ _) | (with_reducible refine Kd.C_drewN ?_ _) | (with_reducible refine Kd.C_drew ?_))); (case side2 => exact (Kd.N_reads' HO278.out).2.1); rintro e w22 ⟨v280, rfl, ho0, hb⟩; refine ⟨_, rfl, ?_⟩; replace HO278 := aS (Kd.N_elder' (by (with_reducible repeat (first | apply Kd.N_alloc | apply Kd.N_drewN | apply Kd.N_drew)); exact HO278.out) (Kd.R_base ho0) hb); have HO281 := aS (Kd.R_lower ho0 (below_size (tB HB.out))); replace HB := aS (below_step (tB HB.out) hb); (try clear hb); (try clear hb2); (try clear hk); (try clear hi); (try clear ho0); obtain ⟨Ao23, co23, eo23⟩ := Kd.R_slice HO281.out; subst eo23) | ((with_reducible refine gate_callee (f := 62) rfl ?_); refine goesL_ (some 22) rfl rfl Try.func62 (by kernel_rfl) rfl #[.int .u16 0, .slice Ao23 t279.length co23] rfl (by (try simp only [List.map_toArray, List.map_cons, List.map_nil]); first | done | rfl) ?_; (with_reducible refine (sum_Add.calls k 0 _ _ t279 t282 _ ?side1 ?side2 A9.out).mono ?_); (case side1 => repeat (first | exact (Kd.R_reads' HO281.out).2.2 | (with_reducible refine Kd.C_alloc ?_ _) | (with_reducible refine Kd.C_drewN ?_ _) | (with_reducible refine Kd.C_drew ?_))); (case side2 => exact (Kd.R_reads' HO281.out).2.1); rintro e w' ⟨rfl, ⟨nd, rfl⟩⟩; refine ⟨_, rfl, ?_⟩))
 go_ret
 exact ⟨by first | rfl | (simp [errW_none, errW_some] <;> rfl) | (simp [*, errW_none, errW_some] <;> rfl), tB HB.out⟩

end Go.Proofs.Ytofjgdbiieanjaa.All

namespace Go.Proofs.Ytofjgdbiieanjaa.All
open Go.Proofs.Ytofjgdbiieanjaa.Ext
open Go.RowKit Go.Proofs.YtofjgdbiieanjaaW.PrintWords Go.Proofs.YtofjgdbiieanjaaW.PrintLast Go.Proofs.YtofjgdbiieanjaaW.PrintMore
attribute [local go_sem] max2_int min2_int max_two min_two max_three min_three max_four min_four   -- for this text's walks alone
set_option linter.unusedVariables false
set_option linter.unusedSimpArgs false

/-! ### mantletref05_Pseudo: function 39 -/
def mantletref05_Pseudo.f (k : Nat) (a0 : Int) (a1 : Int) (a2 : Int) (a3 : Int) : Option (Int) := (mantletref04_Wide.f a1).bind fun t306 => ((mantletref04_Wide.f a2).bind fun t309 => (if t306.length + t309.length < 140737488355328 then ((some (t306 ++ t309 : List Int)).bind fun y312 => ((some (([0, a0] : List Int) : List Int)).bind fun y315 => (if y312.length + y315.length < 140737488355328 then ((some (y312 ++ y315 : List Int)).bind fun y318 => ((some (([(IntKind.u64.wrap (Int.tdiv (IntKind.u64.wrap (a3)) 256)) % 256, (IntKind.u64.wrap (a3)) % 256] : List Int) : List Int)).bind fun y321 => (if y318.length + y321.length < 140737488355328 then ((mantletref02_Add.f k 0 (y318 ++ y321)).bind fun t327 => (some t327)) else (none)))) else (none)))) else (none)))
theorem mantletref05_Pseudo.mono : ∀ a0 a1 a2 a3 k, LeO (mantletref05_Pseudo.f k a0 a1 a2 a3) (mantletref05_Pseudo.f (k + 1) a0 a1 a2 a3) := by
 intro a0 a1 a2 a3 k
 unfold mantletref05_Pseudo.f
 repeat' first
   | (with_reducible exact mantletref02_Add.mono _ _ _)
   | (with_reducible exact LeO.refl _)
   | (with_reducible exact LeO.none _)
   | (with_reducible refine LeO.ite ?_ ?_)
   | (with_reducible refine LeO.bind ?_ (fun _ => ?_))
   | exact mantletref02_Add.mono _ _ _
   | exact LeO.none _
   | refine LeO.ite ?_ ?_
   | refine LeO.bind ?_ (fun _ => ?_)
set_option maxHeartbeats 8000000 in
set_option maxRecDepth 100000 in
theorem mantletref05_Pseudo.calls (k : Nat) (a0 : Int) (a1 : Int) (a2 : Int) (a3 : Int) (r : Int) (w : World) (h : mantletref05_Pseudo.f k a0 a1 a2 a3 = some r) :
    Calls Try.prog 39 #[.int .u8 a0, .int .u32 a1, .int .u32 a2, .int .i64 a3] w fun e w' => e = .returned (.int .i64 r) ∧ Below w.heap.size w w' := by
 have HB := aS (Below.refl w.heap.size w)
 have H := h
 unfold mantletref05_Pseudo.f at H
 clear h
 replace H := Option.bind_eq_some_iff.mp H
 obtain ⟨t306, A50, H⟩ := H
 try dsimp -simprocs only at H
 have A5 := aS A50
 clear A50
 replace H := Option.bind_eq_some_iff.mp H
 obtain ⟨t309, A60, H⟩ := H
 try dsimp -simprocs only at H
 have A6 := aS A60
 clear A60
 by_cases c7 : t306.length + t309.length < 140737488355328
 ·rw [if_pos c7] at H
  have LMc7 := aS c7
  clear c7
  obtain ⟨y312, hy312⟩ : ∃ y_ : List Int, y_ = (t306 ++ t309) := ⟨_, rfl⟩
  first | with_reducible replace H := bindY hy312 H | rw [← hy312] at H | skip
  try dsimp -simprocs only at H
  have Ny312 := aS hy312
  clear hy312
  obtain ⟨y315, hy315⟩ : ∃ y_ : List Int, y_ = (([0, a0] : List Int)) := ⟨_, rfl⟩
  first | with_reducible replace H := bindY hy315 H | rw [← hy315] at H | skip
  try dsimp -simprocs only at H
  have Ny315 := aS hy315
  clear hy315
  by_cases c8 : y312.length + y315.length < 140737488355328
  ·rw [if_pos c8] at H
   have LMc8 := aS c8
   clear c8
   obtain ⟨y318, hy318⟩ : ∃ y_ : List Int, y_ = (y312 ++ y315) := ⟨_, rfl⟩
   first | with_reducible replace H := bindY hy318 H | rw [← hy318] at H | skip
   try dsimp -simprocs only at H
   have Ny318 := aS hy318
   clear hy318
   obtain ⟨y321, hy321⟩ : ∃ y_ : List Int, y_ = (([(IntKind.u64.wrap (Int.tdiv (IntKind.u64.wrap (a3)) 256)) % 256, (IntKind.u64.wrap (a3)) % 256] : List Int)) := ⟨_, rfl⟩
   first | with_reducible replace H := bindY hy321 H | rw [← hy321] at H | skip
   try dsimp -simprocs only at H
   have Ny321 := aS hy321
   clear hy321
   by_cases c9 : y318.length + y321.length < 140737488355328
   ·rw [if_pos c9] at H
    have LMc9 := aS c9
    clear c9
    obtain ⟨y324, hy324⟩ : ∃ y_ : List Int, y_ = (y318 ++ y321) := ⟨_, rfl⟩
    first | with_reducible replace H := bindY hy324 H | rw [← hy324] at H | skip
    try dsimp -simprocs only at H
    have Ny324 := aS hy324
    clear hy324
    replace H := Option.bind_eq_some_iff.mp H
    obtain ⟨t327, A100, H⟩ := H
    try dsimp -simprocs only at H
    have A10 := aS A100
    clear A100
    obtain rfl := Option.some.inj H
    go_enter Try.func39, Try.ntmps39
    go_wp2_with (first | ((with_reducible refine gate_callee (f := 73) rfl ?_); refine goesL_ (some 11) rfl rfl Try.func73 (by kernel_rfl) rfl #[.int .u32 a1] rfl (by (try simp only [List.map_toArray, List.map_cons, List.map_nil]); first | done | rfl) ?_; (with_reducible refine (mantletref04_Wide.calls a1 t306 _ A5.out).mono ?_); rintro e w11 ⟨v307, rfl, ho0, hb⟩; refine ⟨_, rfl, ?_⟩; have HO308 := aS (Kd.R_lower ho0 (below_size (tB HB.out))); replace HB := aS (below_step (tB HB.out) hb); (try clear hb); (try clear hb2); (try clear hk); (try clear hi); (try clear ho0)) | ((with_reducible refine gate_callee (f := 73) rfl ?_); refine goesL_ (some 13) rfl rfl Try.func73 (by kernel_rfl) rfl #[.int .u32 a2] rfl (by (try simp only [List.map_toArray, List.map_cons, List.map_nil]); first | done | rfl) ?_; (with_reducible refine (mantletref04_Wide.calls a2 t309 _ A6.out).mono ?_); rintro e w12 ⟨v310, rfl, ho0, hb⟩; refine ⟨_, rfl, ?_⟩; have HO311 := aS (Kd.R_lower (Kd.R_new' ho0 (Kd.R_lt (tR HO308.out))) (below_size (tB HB.out))); replace HO308 := aS (Kd.R_elder' (tR HO308.out) (Kd.R_base ho0) hb); replace HB := aS (below_step (tB HB.out) hb); (try clear hb); (try clear hb2); (try clear hk); (try clear hi); (try clear ho0); obtain ⟨Ao14, co14, eo14⟩ := Kd.R_slice HO311.out; subst eo14) | ((with_reducible refine gate_builtin (b := .append) (xs := #[.tmp 11, .tmp 13]) rfl ?_); at_builtin; refine Kd.R_append_rows (Kd.int .u8) (w0 := w) w.heap.size rfl (.tmp 11) (.tmp 13) 22 5 (.int .u8 0) 1 rfl Try.underlying22 info5 rfl (by decide) (by omega) v307 t306 t309 _ _ _ (fun k_ => some k_ ≠ (.slice Ao14 t309.length co14 : Value).ownBlock) (fun _ => False) rfl rfl ?aO ?aR (fun _ _ h => h) (fun _ h => h.elim) ?aF ?aB ?aS ?aL ?_; (case aR => repeat (first | exact (Kd.R_reads' HO311.out).2.2 | (with_reducible refine Kd.C_alloc ?_ _) | (with_reducible refine Kd.C_drewN ?_ _) | (with_reducible refine Kd.C_drew ?_))); (case aB => exact (tB HB.out)); (case aF => exact (fun k_ hk => Kd.fresh' (Kd.R_lt (tR HO311.out)) k_ hk)); (case aO => exact (tR (Kd.R_mono HO308.out (fun _ hk => hk.2)))); (case aS => exact (below_size (tB HB.out))); (case aL => have := LMc7.out; omega); intro v313 w13 ho hb hg hat; rw [← Ny312.out] at ho; replace HO311 := aS (Kd.R_after (ok := (fun _ => True)) (tR HO311.out) hg hat); replace HB := aS (hb); have HO314 := aS (ho); clear HO308; clear ho hb hg hat) | ((with_reducible refine gate_dst (N := 16) rfl ?_); refine Kd.R_lit (Kd.int .u8) _ 5 ?hg (N := 16) ?hd (xs := ([0, a0] : List Int)) (inner := [.int .u8 0, .int .u8 a0]) (ok := fun _ => True) (okp := fun _ => True) ?hr ?hp (fun _ hk => hk) trivial (Below.refl _ _) (Nat.le_refl _) (by simp) ?_; (case hd => rfl); (case hg => rfl); (case hr => first | (go_simp; done) | (go_simp; rfl)); (case hp => exact (Reps.one (show Kd.M (Kd.int .u8) _ _ _ 0 [.int .u8 0] from rfl) (Reps.one (show Kd.M (Kd.int .u8) _ _ _ a0 [.int .u8 a0] from rfl) (Reps.none _ _)))); intro v316 w15 ho16 hb hg_ hnew_; clear hg_ hnew_; (first | rw [← Ny315.out] at ho16 | (simp only [Int.reduceToNat] at ho16; rw [← Ny315.out] at ho16)); have HO317 := aS (Kd.R_lower (Kd.R_new' (Kd.R_new' ho16 (Kd.R_lt (tR HO311.out))) (Kd.R_lt (tR HO314.out))) (below_size (tB HB.out))); replace HO311 := aS (Kd.R_elder' (tR HO311.out) (Kd.R_base ho16) hb); replace HO314 := aS (Kd.R_elder' (tR HO314.out) (Kd.R_base ho16) hb); replace HB := aS (below_step (tB HB.out) hb); clear hb ho16; obtain ⟨Ao18, co18, eo18⟩ := Kd.R_slice HO317.out; subst eo18) | ((with_reducible refine gate_builtin (b := .append) (xs := #[.tmp 14, .tmp 16]) rfl ?_); at_builtin; refine Kd.R_append_rows (Kd.int .u8) (w0 := w) w.heap.size rfl (.tmp 14) (.tmp 16) 22 5 (.int .u8 0) 1 rfl Try.underlying22 info5 rfl (by decide) (by omega) v313 y312 y315 _ _ _ (fun k_ => some k_ ≠ (.slice Ao14 t309.length co14 : Value).ownBlock ∧ some k_ ≠ (.slice Ao18 y315.length co18 : Value).ownBlock) (fun _ => False) rfl rfl ?aO ?aR (fun _ _ h => h) (fun _ h => h.elim) ?aF ?aB ?aS ?aL ?_; (case aR => repeat (first | exact (Kd.R_reads' HO317.out).2.2 | (with_reducible refine Kd.C_alloc ?_ _) | (with_reducible refine Kd.C_drewN ?_ _) | (with_reducible refine Kd.C_drew ?_))); (case aB => exact (tB HB.out)); (case aF => exact (fun k_ hk => ⟨Kd.fresh' (Kd.R_lt (tR HO311.out)) k_ hk, Kd.fresh' (Kd.R_lt (tR HO317.out)) k_ hk⟩)); (case aO => exact (tR HO314.out)); (case aS => exact (below_size (tB HB.out))); (case aL => have := LMc8.out; omega); intro v319 w17 ho hb hg hat; rw [← Ny318.out] at ho; replace HO311 := aS (Kd.R_after (ok := (fun k_ => some k_ ≠ (.slice Ao18 y315.length co18 : Value).ownBlock)) (tR (Kd.R_mono HO311.out (fun _ hk => ⟨hk.2, hk.1.2⟩))) hg hat); replace HO317 := aS (Kd.R_after (ok := (fun k_ => some k_ ≠ (.slice Ao14 t309.length co14 : Value).ownBlock)) (tR (Kd.R_mono HO317.out (fun _ hk => ⟨hk.1.2, hk.2⟩))) hg hat); replace HB := aS (hb); have HO320 := aS (ho); clear HO314; clear ho hb hg hat) | ((with_reducible refine gate_dst (N := 26) rfl ?_); refine Kd.R_lit (Kd.int .u8) _ 5 ?hg (N := 26) ?hd (xs := ([(IntKind.u64.wrap (Int.tdiv (IntKind.u64.wrap (a3)) 256)) % 256, (IntKind.u64.wrap (a3)) % 256] : List Int)) (inner := [.int .u8 ((IntKind.u64.wrap (Int.tdiv (IntKind.u64.wrap (a3)) 256)) % 256), .int .u8 ((IntKind.u64.wrap (a3)) % 256)]) (ok := fun _ => True) (okp := fun _ => True) ?hr ?hp (fun _ hk => hk) trivial (Below.refl _ _) (Nat.le_refl _) (by simp) ?_; (case hd => rfl); (case hg => rfl); (case hr => first | (go_simp; done) | (go_simp; rfl)); (case hp => exact (Reps.one (show Kd.M (Kd.int .u8) _ _ _ ((IntKind.u64.wrap (Int.tdiv (IntKind.u64.wrap (a3)) 256)) % 256) [.int .u8 ((IntKind.u64.wrap (Int.tdiv (IntKind.u64.wrap (a3)) 256)) % 256)] from rfl) (Reps.one (show Kd.M (Kd.int .u8) _ _ _ ((IntKind.u64.wrap (a3)) % 256) [.int .u8 ((IntKind.u64.wrap (a3)) % 256)] from rfl) (Reps.none _ _)))); intro v322 w19 ho20 hb hg_ hnew_; clear hg_ hnew_; (first | rw [← Ny321.out] at ho20 | (simp only [Int.reduceToNat] at ho20; rw [← Ny321.out] at ho20)); have HO323 := aS (Kd.R_lower (Kd.R_new' (Kd.R_new' (Kd.R_new' ho20 (Kd.R_lt (tR HO311.out))) (Kd.R_lt (tR HO317.out))) (Kd.R_lt (tR HO320.out))) (below_size (tB HB.out))); replace HO311 := aS (Kd.R_elder' (tR HO311.out) (Kd.R_base ho20) hb); replace HO317 := aS (Kd.R_elder' (tR HO317.out) (Kd.R_base ho20) hb); replace HO320 := aS (Kd.R_elder' (tR HO320.out) (Kd.R_base ho20) hb); replace HB := aS (below_step (tB HB.out) hb); clear hb ho20; obtain ⟨Ao22, co22, eo22⟩ := Kd.R_slice HO323.out; subst eo22) | ((with_reducible refine gate_builtin (b := .append) (xs := #[.tmp 18, .tmp 26]) rfl ?_); at_builtin; refine Kd.R_append_rows (Kd.int .u8) (w0 := w) w.heap.size rfl (.tmp 18) (.tmp 26) 22 5 (.int .u8 0) 1 rfl Try.underlying22 info5 rfl (by decide) (by omega) v319 y318 y321 _ _ _ (fun k_ => some k_ ≠ (.slice Ao14 t309.length co14 : Value).ownBlock ∧ some k_ ≠ (.slice Ao18 y315.length co18 : Value).ownBlock ∧ some k_ ≠ (.slice Ao22 y321.length co22 : Value).ownBlock) (fun _ => False) rfl rfl ?aO ?aR (fun _ _ h => h) (fun _ h => h.elim) ?aF ?aB ?aS ?aL ?_; (case aR => repeat (first | exact (Kd.R_reads' HO323.out).2.2 | (with_reducible refine Kd.C_alloc ?_ _) | (with_reducible refine Kd.C_drewN ?_ _) | (with_reducible refine Kd.C_drew ?_))); (case aB => exact (tB HB.out)); (case aF => exact (fun k_ hk => ⟨Kd.fresh' (Kd.R_lt (tR HO311.out)) k_ hk, Kd.fresh' (Kd.R_lt (tR HO317.out)) k_ hk, Kd.fresh' (Kd.R_lt (tR HO323.out)) k_ hk⟩)); (case aO => exact (tR (Kd.R_mono HO320.out (fun _ hk => ⟨hk.1.1, ⟨hk.1.2, hk.2⟩⟩)))); (case aS => exact (below_size (tB HB.out))); (case aL => have := LMc9.out; omega); intro v325 w21 ho hb hg hat; rw [← Ny324.out] at ho; replace HO311 := aS (Kd.R_after (ok := (fun k_ => some k_ ≠ (.slice Ao18 y315.length co18 : Value).ownBlock ∧ some k_ ≠ (.slice Ao22 y321.length co22 : Value).ownBlock)) (tR (Kd.R_mono HO311.out (fun _ hk => ⟨⟨hk.1.1, hk.2⟩, hk.1.2⟩))) hg hat); replace HO317 := aS (Kd.R_after (ok := (fun k_ => some k_ ≠ (.slice Ao14 t309.length co14 : Value).ownBlock ∧ some k_ ≠ (.slice Ao22 y321.length co22 : Value).ownBlock)) (tR (Kd.R_mono HO317.out (fun _ hk => ⟨⟨hk.1.1, hk.2⟩, hk.1.2⟩))) hg hat); replace HO323 := aS (Kd.R_after (ok := (fun k_ => some k_ ≠ (.slice Ao14 t309.length co14 : Value).ownBlock ∧ some k_ ≠ (.slice Ao18 y315.length co18 : Value).ownBlock)) (tR (Kd.R_mono HO323.out (fun _ hk => ⟨⟨hk.1.1.2, hk.1.2⟩, hk.2⟩))) hg hat); replace HB := aS (hb); have HO326 := aS (ho); clear HO320; clear ho hb hg hat; obtain ⟨Ao23, co23, eo23⟩ := Kd.R_slice HO326.out; subst eo23) | ((with_reducible refine gate_callee (f := 65) rfl ?_); refine goesL_ (some 28) rfl rfl Try.func65 (by kernel_rfl) rfl #[.int .i64 0, .slice Ao23 y324.length co23] rfl (by (try simp only [List.map_toArray, List.map_cons, List.map_nil]); first | done | rfl) ?_; (with_reducible refine (mantletref02_Add.calls k 0 _ _ y324 t327 _ ?side1 ?side2 A10.out).mono ?_); (case side1 => repeat (first | exact (Kd.R_reads' HO326.out).2.2 | (with_reducible refine Kd.C_alloc ?_ _) | (with_reducible refine Kd.C_drewN ?_ _) | (with_reducible refine Kd.C_drew ?_))); (case side2 => exact (Kd.R_reads' HO326.out).2.1); rintro e w' ⟨rfl, ⟨nd, rfl⟩⟩; refine ⟨_, rfl, ?_⟩))
    go_ret
    exact ⟨by first | rfl | (simp [errW_none, errW_some] <;> rfl) | (simp [*, errW_none, errW_some] <;> rfl), tB HB.out⟩
   ·rw [if_neg c9] at H
    exact absurd H (by simp)
  ·rw [if_neg c8] at H
   exact absurd H (by simp)
 ·rw [if_neg c7] at H
  exact absurd H (by simp)

end Go.Proofs.Ytofjgdbiieanjaa.All
