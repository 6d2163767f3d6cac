-- Made by a program of this workplace (wip/pr.sh) out of Lean's print of the translation; Lean checks it.
import Derived.Test.YtofjgdbiieanjaaAllx0
import Derived.Test.YtofjgdbiieanjaaAllx53
import Derived.Test.YtofjgdbiieanjaaAllx28
import Derived.Test.YtofjgdbiieanjaaAllx49
import Derived.Test.YtofjgdbiieanjaaOwn
namespace Go.Proofs.Ytofjgdbiieanjaa.All
open Go.Proofs.Ytofjgdbiieanjaa.Ext
open Go.RowKit Go.Proofs.YtofjgdbiieanjaaW.PrintWords Go.Proofs.YtofjgdbiieanjaaW.PrintLast Go.Proofs.YtofjgdbiieanjaaW.PrintMore
attribute [local go_sem] max2_int min2_int max_two min_two max_three min_three max_four min_four   -- for this text's walks alone
set_option linter.unusedVariables false
set_option linter.unusedSimpArgs false

/-! ### udp_Build: function 44 -/
def udp_Build.f (k : Nat) (a0 : Int) (a1 : Int) (a2 : Int) (a3 : Int) (l4 : List Int) : Option (List Int × Int) := if (wrap64 (8 + (l4.length : Int))) > 1480 then (some (([] : List Int), 2)) else ((field_Cut.f k (Go.bits .or .u64 (Go.bits .or .u64 (IntKind.u64.wrap ((IntKind.u64.wrap (a2)) * 281474976710656)) (IntKind.u64.wrap ((IntKind.u64.wrap (a3)) * 4294967296))) (IntKind.u64.wrap ((IntKind.u64.wrap (wrap64 (8 + (l4.length : Int)))) * 65536))) 8).bind fun t518 => ((slices_Concat_byte_byte.f k (([t518, l4] : List (List Int)))).bind fun t524 => ((tcp_Pseudo.f k 17 a0 a1 (wrap64 (8 + (l4.length : Int)))).bind fun t527 => ((sum_Add.f k t527 t524).bind fun t528 => (if 6 ≤ (t524.length : Int) then ((cmp_Or_uint16.f k (([Go.bits .xor .u16 65535 t528, 65535] : List Int))).bind fun t537 => ((field_Cut.f k (IntKind.u64.wrap (t537)) 2).bind fun t538 => (if t538.length + 6 ≤ t524.length then ((slices_Clip.f (splice t524 ((6 : Int).toNat) t538)).bind fun t544 => (some (t544, 0))) else (none)))) else (none))))))
theorem udp_Build.mono : ∀ a0 a1 a2 a3 a4 k, LeO (udp_Build.f k a0 a1 a2 a3 a4) (udp_Build.f (k + 1) a0 a1 a2 a3 a4) := by
  intro a0 a1 a2 a3 a4 k
  unfold udp_Build.f
  repeat' first
      | (with_reducible exact cmp_Or_uint16.mono _ _)
      | (with_reducible exact field_Cut.mono _ _ _)
      | (with_reducible exact slices_Concat_byte_byte.mono _ _)
      | (with_reducible exact sum_Add.mono _ _ _)
      | (with_reducible exact tcp_Pseudo.mono _ _ _ _ _)
      | (with_reducible exact LeO.refl _)
      | (with_reducible exact LeO.none _)
      | (with_reducible refine LeO.ite ?_ ?_)
      | (with_reducible refine LeO.bind ?_ (fun _ => ?_))
      | exact cmp_Or_uint16.mono _ _
      | exact field_Cut.mono _ _ _
      | exact slices_Concat_byte_byte.mono _ _
      | exact sum_Add.mono _ _ _
      | exact tcp_Pseudo.mono _ _ _ _ _
      | exact LeO.none _
      | refine LeO.ite ?_ ?_
      | refine LeO.bind ?_ (fun _ => ?_)
def udp_Build.T6 : Bool × List (List Nat × List Nat) := (true, [([], []), ([0], [0]), ([], []), ([2], [2]), ([3], [3]), ([4], [4]), ([5, 4], [5]), ([1, 6, 6], [1, 6])])
def udp_Build.B6 : List Nat := [0, 1, 0, 4, 12, 28, 60, 127]
theorem udp_Build.tab6 : rtab .any (opsOf Try.f44 6) = udp_Build.T6 := by kernel_rfl
theorem udp_Build.bits6 : waitsOk udp_Build.T6.2 udp_Build.B6 = true := by kernel_rfl
set_option maxHeartbeats 8000000 in
set_option maxRecDepth 100000 in
theorem udp_Build.strong (k : Nat) (a0 : Int) (a1 : Int) (a2 : Int) (a3 : Int) (P4_ : Nat → Prop) (A4 : Option Addr) (c4 : Nat) (l4 : List Int) (r1 : List Int) (r2 : Int) (w : World) (hs4 : Kd.V (Kd.int .u8) 5 w w.heap.size (fun k_ => P4_ k_) (.slice A4 l4.length c4) l4) (h : udp_Build.f k a0 a1 a2 a3 l4 = some (r1, r2)) :
    Calls Try.prog 44 #[.int .u32 a0, .int .u32 a1, .int .u16 a2, .int .u16 a3, .slice A4 l4.length c4] w fun e w' => ∃ v0_ : Value, e = .returned (.tuple #[v0_, .int .i64 r2]) ∧ Kd.K (Kd.int .u8) 5 w' w.heap.size (fun _ => True) v0_ r1 ∧ Below w.heap.size w w' := by
 have HO4 := aS (show Kd.V (Kd.int .u8) 5 w w.heap.size (fun k_ => (P4_ k_ ∨ w.heap.size ≤ k_)) (.slice A4 l4.length c4) l4 from Kd.V_mono hs4 (fun k_ hk => .inl hk))
 have HB := aS (Below.refl w.heap.size w)
 have H := h
 unfold udp_Build.f at H
 clear h
 by_cases c6 : (wrap64 (8 + (l4.length : Int))) > 1480
 ·rw [if_pos c6] at H
  have c6b0 : decide (1480 < (wrap64 (8 + (l4.length : Int)))) = true := decide_eq_true c6
  clear c6
  simp only [Option.some.injEq, Prod.mk.injEq] at H
  obtain ⟨rfl, rfl⟩ := H
  go_enter Try.func44, Try.ntmps44
  go_wp2
  go_ret2
  exact ⟨_, by first | rfl | (simp [errW_none, errW_some] <;> rfl) | (simp [*, errW_none, errW_some] <;> rfl), Kd.K_nil _ _ _ _ _, tB HB.out⟩
 ·rw [if_neg c6] at H
  have c6b0 : decide (1480 < (wrap64 (8 + (l4.length : Int)))) = false := decide_eq_false c6
  clear c6
  replace H := Option.bind_eq_some_iff.mp H
  obtain ⟨t518, A70, H⟩ := H
  try dsimp -simprocs only at H
  have A7 := aS A70
  clear A70
  obtain ⟨y521, hy521⟩ : ∃ y_ : List (List Int), y_ = (([t518, l4] : List (List Int))) := ⟨_, rfl⟩
  first | with_reducible replace H := bindY hy521 H | rw [← hy521] at H | skip
  try dsimp -simprocs only at H
  have Ny521 := aS hy521
  clear hy521
  replace H := Option.bind_eq_some_iff.mp H
  obtain ⟨t524, A80, H⟩ := H
  try dsimp -simprocs only at H
  have A8 := aS A80
  clear A80
  replace H := Option.bind_eq_some_iff.mp H
  obtain ⟨t527, A90, H⟩ := H
  try dsimp -simprocs only at H
  have A9 := aS A90
  clear A90
  replace H := Option.bind_eq_some_iff.mp H
  obtain ⟨t528, A100, H⟩ := H
  try dsimp -simprocs only at H
  have A10 := aS A100
  clear A100
  by_cases c11 : 6 ≤ (t524.length : Int)
  ·rw [if_pos c11] at H
   have c11b0 := eq_true c11
   have c11b1 : decide (6 ≤ (t524.length : Int)) = true := decide_eq_true c11
   clear c11
   obtain ⟨y529, hy529⟩ : ∃ y_ : List Int, y_ = (t524.drop 6) := ⟨_, rfl⟩
   try dsimp -simprocs only at H
   have Ny529 := aS hy529
   clear hy529
   obtain ⟨y534, hy534⟩ : ∃ y_ : List Int, y_ = (([Go.bits .xor .u16 65535 t528, 65535] : List Int)) := ⟨_, rfl⟩
   first | with_reducible replace H := bindY hy534 H | rw [← hy534] at H | skip
   try dsimp -simprocs only at H
   have Ny534 := aS hy534
   clear hy534
   replace H := Option.bind_eq_some_iff.mp H
   obtain ⟨t537, A120, H⟩ := H
   try dsimp -simprocs only at H
   have A12 := aS A120
   clear A120
   replace H := Option.bind_eq_some_iff.mp H
   obtain ⟨t538, A130, H⟩ := H
   try dsimp -simprocs only at H
   have A13 := aS A130
   clear A130
   by_cases c14 : t538.length + 6 ≤ t524.length
   ·rw [if_pos c14] at H
    have LMc14 := aS c14
    clear c14
    obtain ⟨y541, hy541⟩ : ∃ y_ : List Int, y_ = (splice t524 ((6 : Int).toNat) t538) := ⟨_, rfl⟩
    first | with_reducible replace H := bindY hy541 H | rw [← hy541] at H | skip
    try dsimp -simprocs only at H
    have Ny541 := aS hy541
    clear hy541
    replace H := Option.bind_eq_some_iff.mp H
    obtain ⟨t544, A150, H⟩ := H
    try dsimp -simprocs only at H
    have A15 := aS A150
    clear A150
    simp only [Option.some.injEq, Prod.mk.injEq] at H
    obtain ⟨rfl, rfl⟩ := H
    go_enter Try.func44, Try.ntmps44
    try go_wp2_with (first | ((with_reducible refine gate_callee (f := 68) rfl ?_); refine goesL_ (some 31) rfl rfl Try.func68 (by kernel_rfl) rfl #[.int .u64 (Go.bits .or .u64 (Go.bits .or .u64 (IntKind.u64.wrap ((IntKind.u64.wrap (a2)) * 281474976710656)) (IntKind.u64.wrap ((IntKind.u64.wrap (a3)) * 4294967296))) (IntKind.u64.wrap ((IntKind.u64.wrap (wrap64 (8 + (l4.length : Int)))) * 65536))), .int .i64 8] rfl (by (try simp only [List.map_toArray, List.map_cons, List.map_nil]); first | done | rfl) ?_; (with_reducible refine (field_Cut.calls k (Go.bits .or .u64 (Go.bits .or .u64 (IntKind.u64.wrap ((IntKind.u64.wrap (a2)) * 281474976710656)) (IntKind.u64.wrap ((IntKind.u64.wrap (a3)) * 4294967296))) (IntKind.u64.wrap ((IntKind.u64.wrap (wrap64 (8 + (l4.length : Int)))) * 65536))) 8 t518 _ A7.out).mono ?_); rintro e w16 ⟨v519, rfl, ho0, hb⟩; refine ⟨_, rfl, ?_⟩; replace HO4 := aS (Kd.V_elder' (tV HO4.out) (Kd.R_base ho0) hb); have HO520 := aS (Kd.R_lower (Kd.R_newM (M := fun k_ => (w.heap.size ≤ k_)) ho0 (below_size (tB HB.out)) (fun k_ h_ => h_)) (below_size (tB HB.out))); replace HB := aS (below_step (tB HB.out) hb); (try clear hb); (try clear hb2); (try clear hk); (try clear hi); (try clear ho0); obtain ⟨Ao17, co17, eo17⟩ := Kd.R_slice HO520.out; subst eo17) | ((with_reducible refine gate_dst (N := 33) rfl ?_); refine Kd.N_lit (Kd.slice 5 (Kd.int .u8)) _ 22 ?hg (N' := 33) ?hd (xs := ([t518, l4] : List (List Int))) (inner := [.slice Ao17 t518.length co17, .slice A4 l4.length c4]) (ok := (fun k_ => (P4_ k_ ∨ w.heap.size ≤ k_))) (okp := (fun k_ => (P4_ k_ ∨ w.heap.size ≤ k_))) ?hr ?hp (fun _ hk => hk) ((show ∀ k_, w16.heap.size ≤ k_ → (fun k_ => (P4_ k_ ∨ w.heap.size ≤ k_)) k_ from fun k_ hk => (.inr (Nat.le_trans (below_size (tB HB.out)) hk))) _ (Nat.le_refl _)) (Below.refl _ _) (Nat.le_refl _) (by simp) ?_; (case hd => rfl); (case hg => rfl); (case hr => first | (go_simp; done) | (go_simp; rfl)); (case hp => exact (Reps.one (show Kd.FK (Kd.slice 5 (Kd.int .u8)) _ _ t518 [.slice Ao17 t518.length co17] from (Kd.FK_slice_mk (Kd.R_reads' (Kd.R_mono (ok' := (fun k_ => (P4_ k_ ∨ w.heap.size ≤ k_))) (HO520.out) (fun k_ hk => (.inr (hk.1))))).2.1 (Kd.R_F (Kd.R_mono (ok' := (fun k_ => (P4_ k_ ∨ w.heap.size ≤ k_))) (HO520.out) (fun k_ hk => (.inr (hk.1))))))) (Reps.one (show Kd.FK (Kd.slice 5 (Kd.int .u8)) _ _ l4 [.slice A4 l4.length c4] from (Kd.FK_slice_mk (Kd.V_reads' (Kd.V_mono (ok' := (fun k_ => (P4_ k_ ∨ w.heap.size ≤ k_))) (HO4.out) (fun k_ hk => hk.1))).2.1 (Kd.V_F (Kd.V_mono (ok' := (fun k_ => (P4_ k_ ∨ w.heap.size ≤ k_))) (HO4.out) (fun k_ hk => hk.1))))) (Reps.none _ _)))); intro v522 w18 ho19 hb hg_ hnew_; clear hg_ hnew_; (first | rw [← Ny521.out] at ho19 | (simp only [Int.reduceToNat] at ho19; rw [← Ny521.out] at ho19)); replace HO4 := aS (Kd.V_elder' (tV HO4.out) (Kd.N_base ho19) hb); have HO523 := aS (Kd.N_lower ho19 (below_size (tB HB.out))); replace HB := aS (below_step (tB HB.out) hb); clear HO520; clear hb ho19; obtain ⟨Ao20, co20, eo20⟩ := Kd.N_slice HO523.out; subst eo20) | ((with_reducible refine gate_callee (f := 67) rfl ?_); refine goesL_ (some 34) rfl rfl Try.func67 (by kernel_rfl) rfl #[.slice Ao20 y521.length co20] rfl (by (try simp only [List.map_toArray, List.map_cons, List.map_nil]); first | done | rfl) ?_; (with_reducible refine (slices_Concat_byte_byte.calls k _ _ y521 t524 _ ?side1 ?side2 A8.out).mono ?_); (case side1 => repeat (first | exact (Kd.N_reads' HO523.out).2.2 | (with_reducible refine Kd.C_alloc ?_ _) | (with_reducible refine Kd.C_drewN ?_ _) | (with_reducible refine Kd.C_drew ?_))); (case side2 => exact (Kd.N_reads' HO523.out).2.1); rintro e w21 ⟨v525, rfl, ho0, hb⟩; refine ⟨_, rfl, ?_⟩; replace HO4 := aS (Kd.V_elder' (tV HO4.out) (Kd.R_base ho0) hb); replace HO523 := aS (Kd.N_elder' (by (with_reducible repeat (first | apply Kd.N_alloc | apply Kd.N_drewN | apply Kd.N_drew)); exact HO523.out) (Kd.R_base ho0) hb); have HO526 := aS (Kd.R_lower (Kd.R_newM (M := fun k_ => (w.heap.size ≤ k_)) ho0 (below_size (tB HB.out)) (fun k_ h_ => h_)) (below_size (tB HB.out))); replace HB := aS (below_step (tB HB.out) hb); (try clear hb); (try clear hb2); (try clear hk); (try clear hi); (try clear ho0)) | ((with_reducible refine gate_callee (f := 38) rfl ?_); refine goesL_ (some 38) rfl rfl Try.func38 (by kernel_rfl) rfl #[.int .u8 17, .int .u32 a0, .int .u32 a1, .int .i64 (wrap64 (8 + (l4.length : Int)))] rfl (by (try simp only [List.map_toArray, List.map_cons, List.map_nil]); first | done | rfl) ?_; (with_reducible refine (tcp_Pseudo.calls k 17 a0 a1 (wrap64 (8 + (l4.length : Int))) t527 _ A9.out).mono ?_); rintro e w22 ⟨rfl, hb⟩; refine ⟨_, rfl, ?_⟩; replace HO4 := aS (Kd.V_below (tV HO4.out) hb); replace HO523 := aS (Kd.N_below (by (with_reducible repeat (first | apply Kd.N_alloc | apply Kd.N_drewN | apply Kd.N_drew)); exact HO523.out) hb); replace HO526 := aS (Kd.R_below (tR HO526.out) hb); replace HB := aS (below_step (tB HB.out) hb); (try clear hb); (try clear hb2); (try clear hk); (try clear hi); obtain ⟨Ao23, co23, eo23⟩ := Kd.R_slice HO526.out; subst eo23) | ((with_reducible refine gate_callee (f := 62) rfl ?_); refine goesL_ (some 40) rfl rfl Try.func62 (by kernel_rfl) rfl #[.int .u16 t527, .slice Ao23 t524.length co23] rfl (by (try simp only [List.map_toArray, List.map_cons, List.map_nil]); first | done | rfl) ?_; (with_reducible refine (sum_Add.calls k t527 _ _ t524 t528 _ ?side1 ?side2 A10.out).mono ?_); (case side1 => repeat (first | exact (Kd.R_reads' HO526.out).2.2 | (with_reducible refine Kd.C_alloc ?_ _) | (with_reducible refine Kd.C_drewN ?_ _) | (with_reducible refine Kd.C_drew ?_))); (case side2 => exact (Kd.R_reads' HO526.out).2.1); rintro e w' ⟨rfl, ⟨nd, rfl⟩⟩; refine ⟨_, rfl, ?_⟩))
    (try (first | (rw [drewN_self w22]; generalize hq_ : World.drewN w22 _ = w22; have n0_ := aS (V_hq hq_ HO4.out); have n1_ := aS (Kd.N_at hq_ HO523.out); have n2_ := aS (Kd.R_at hq_ HO526.out); have n3_ := aS (below_at hq_ HB.out); clear hq_ HO4 HO523 HO526 HB; have HO4 := n0_; have HO523 := n1_; have HO526 := n2_; have HB := n3_; clear n0_ n1_ n2_ n3_) | (rw [drewN_self w22]; generalize hq_ : World.drewN w22 _ = w22; have n0_ : Aside0 (Kd.V (Kd.int .u8) 5 w22 w.heap.size (fun k_ => (P4_ k_ ∨ w.heap.size ≤ k_) ∧ some k_ ≠ (.slice Ao20 y521.length co20 : Value).ownBlock ∧ some k_ ≠ (.slice Ao23 t524.length co23 : Value).ownBlock) (.slice A4 l4.length c4) l4) := ⟨by rw [← hq_]; exact (tV (Kd.V_mono HO4.out (fun _ hk => ⟨hk.1.1.1, ⟨hk.1.2, hk.2⟩⟩)))⟩; have n1_ : Aside0 (Kd.N (Kd.slice 5 (Kd.int .u8)) 22 w22 w.heap.size (fun k_ => (P4_ k_ ∨ w.heap.size ≤ k_) ∧ some k_ ≠ (.slice Ao23 t524.length co23 : Value).ownBlock) (.slice Ao20 y521.length co20) y521) := ⟨by rw [← hq_]; exact (by (with_reducible repeat (first | apply Kd.N_alloc | apply Kd.N_drewN | apply Kd.N_drew)); exact HO523.out)⟩; have n2_ : Aside0 (Kd.R (Kd.int .u8) 5 w22 w.heap.size (fun k_ => (w.heap.size ≤ k_)) (.slice Ao23 t524.length co23) t524) := ⟨by rw [← hq_]; exact (tR (Kd.R_mono HO526.out (fun _ hk => hk.1)))⟩; have n3_ : Aside0 (Below w.heap.size w w22) := ⟨by rw [← hq_]; exact (tB HB.out)⟩; clear HO4 HO523 HO526 HB hq_; have HO4 := n0_; have HO523 := n1_; have HO526 := n2_; have HB := n3_; clear n0_ n1_ n2_ n3_)))
    replace HO4 := aS (Kd.V_drew HO4.out)
    replace HO523 := aS (Kd.N_drew HO523.out)
    replace HO526 := aS (Kd.R_drew HO526.out)
    replace HB := aS (below_drew1 HB.out)
    have q25 : (6 : Int) ≤ ((t524.length : Int) : Int) := of_decide_eq_true (by first | (with_reducible assumption) | assumption)
    obtain ⟨i025, hi025, _, hsz25, _⟩ := info_parts info5
    have hroom25 : t524.length ≤ co23 := (Kd.R_reads' HO526.out).2.1
    have hC25 : Kd.F (Kd.int .u8) _ _ Ao23 t524.length t524 := (Kd.V_at (base := w.heap.size) (Kd.V_mono (ok' := (fun k_ => (((P4_ k_ ∨ w.heap.size ≤ k_) ∧ True) ∧ some k_ ≠ (.slice Ao20 y521.length co20 : Value).ownBlock))) (Kd.R_V (Kd.R_apart' (HO526.out) (Kd.N_typed HO523.out) (by decide))) (fun k_ hk => ⟨⟨(.inr (hk.1.1)), trivial⟩, hk.2⟩))).2.2
    have hcut25 := cut_from (P := Try.prog) 22 5 .i64 Try.underlying22 hi025 1 hsz25 Ao23 t524.length co23 6 (by omega) q25
    have hr25 := Kd.F_cut (m := (6 : Int).toNat) (c := co23) hC25 (by omega) hroom25
    obtain ⟨A25, hA25⟩ : ∃ A1, A1 = (if co23 = (6 : Int).toNat then Ao23 else (Ao23 : Option Addr).map (·.add ((6 : Int).toNat * 1))) := ⟨_, rfl⟩
    obtain ⟨c25, hc25⟩ : ∃ c1, c1 = co23 - (6 : Int).toNat := ⟨_, rfl⟩
    have hy25 : y529.length = t524.length - (6 : Int).toNat := (by rw [Ny529.out, List.length_drop] <;> omega)
    rw [show (t524).drop (6 : Int).toNat = y529 from Ny529.out.symm] at hr25
    replace hr25 : Kd.F (Kd.int .u8) _ _ A25 y529.length y529 := (by rw [hA25]; exact hr25)
    rw [← hy25, ← hA25, ← hc25] at hcut25
    have HO533 := aS (show Kd.V (Kd.int .u8) 5 _ w.heap.size _ (.slice A25 y529.length c25) y529 from Kd.V_mk (by rw [hy25, hc25]; exact Nat.sub_le_sub_right hroom25 _) hr25)
    have HC533 := aS (show y529.length ≤ c25 from by rw [hy25, hc25]; exact Nat.sub_le_sub_right hroom25 _)
    clear hr25 hC25 hroom25 hi025 hsz25 hc25
    have KY25 := aS hy25
    have KA25 := aS hA25
    clear hy25 hA25
    replace q25 := eq_true q25
    refine start_ (n := 8) (S := fun w' => True) (ds := []) #[false, false, false, false, false, false, false, false] (by kernel_rfl) rfl rfl trivial (fun hHeld => ?_); refine with_tabW udp_Build.tab6 udp_Build.bits6 (fun HT_ HW_ => ?_)
    generalize w22.drew = w24 at HO4 HO523 HO526 HB HO533 hHeld ⊢
    refine pure_ (i := 0) (N := some 42) (v := ?_) (a' := ?_) (fl 8 1) rfl rfl (any_of HT_.out (by kernel_rfl)) (fun _ _ _ h => h) (Or.inl ⟨by rfl, ?_⟩) ?_ ?_
    rotate_left; (· intro w'; go_simp; with_reducible rfl); rotate_left; (· simp only [Act.put, q1_, q2_, q3_, i64_w, i32_w]; rfl)
    refine pure_ (i := 1) (N := some 43) (v := ?_) (a' := ?_) (fl 8 3) rfl rfl (any_of HT_.out (by kernel_rfl)) (fun _ _ _ h => h) (Or.inl ⟨by rfl, ?_⟩) ?_ ?_
    rotate_left; (· intro w'; go_simp; with_reducible rfl); rotate_left; (· simp only [Act.put, q1_, q2_, q3_, i64_w, i32_w]; rfl)
    refine pure_ (i := 2) (N := some 44) (v := ?_) (a' := ?_) (fl 8 7) rfl rfl (any_of HT_.out (by kernel_rfl)) (fun _ _ _ h => h) (Or.inl ⟨by rfl, ?_⟩) ?_ ?_
    rotate_left; (· intro w'; go_simp; with_reducible rfl); rotate_left; (· simp only [Act.put, q1_, q2_, q3_, i64_w, i32_w]; rfl)
    refine one_ (i := 3) (N := some 45) (fl 8 15) rfl rfl (one_of HT_.out (by kernel_rfl)) (by decide) (fun K hK => ?_)
    refine Kd.R_lit_step (Kd.int .u16) _ 23 ?hg (N := 45) ?hd (xs := ([Go.bits .xor .u16 65535 t528, 65535] : List Int)) (inner := [.int .u16 (Go.bits .xor .u16 65535 t528), .int .u16 65535]) (ok := fun _ => True) (okp := fun _ => True) ?hr ?hp (fun _ hk => hk) trivial (Below.refl _ _) (Nat.le_refl _) (by simp) ?_; (case hd => rfl); (case hg => rfl); (case hr => first | (go_simp; done) | (go_simp; rfl)); (case hp => exact (Reps.one (show Kd.M (Kd.int .u16) _ _ _ (Go.bits .xor .u16 65535 t528) [.int .u16 (Go.bits .xor .u16 65535 t528)] from rfl) (Reps.one (show Kd.M (Kd.int .u16) _ _ _ 65535 [.int .u16 65535] from rfl) (Reps.none _ _))))
    intro v535 w26 ho27 hb hg_ hnew_; clear hg_ hnew_
    (first | rw [← Ny534.out] at ho27 | (simp only [Int.reduceToNat] at ho27; rw [← Ny534.out] at ho27))
    have n0_ := aS (Kd.V_elder' (tV HO4.out) (Kd.R_base ho27) hb)
    have n1_ := aS (Kd.N_elder' (by (with_reducible repeat (first | apply Kd.N_alloc | apply Kd.N_drewN | apply Kd.N_drew)); exact HO523.out) (Kd.R_base ho27) hb)
    have n2_ := aS (Kd.R_below (tR HO526.out) hb)
    have n3_ := aS (Kd.V_elder' (tV HO533.out) (Kd.R_base ho27) hb)
    have n4_ := aS (Kd.R_lower (Kd.R_newM (M := fun k_ => (w.heap.size ≤ k_)) ho27 (below_size (tB HB.out)) (fun k_ h_ => h_)) (below_size (tB HB.out)))
    have n5_ := aS (below_step (tB HB.out) hb)
    clear HO4 HO523 HO526 HO533 HB; have HO4 := n0_; have HO523 := n1_; have HO526 := n2_; have HO533 := n3_; have HO536 := n4_; have HB := n5_; clear n0_ n1_ n2_ n3_ n4_ n5_ hb ho27
    obtain ⟨Ao28, co28, eo28⟩ := Kd.R_slice HO536.out
    (first | subst eo28 | (injection eo28 with f1_ f2_ f3_; have f4_ := f1_.symm; have f5_ := f3_.symm; clear f1_ f2_ f3_; subst f4_; subst f5_))
    refine hK.out _ _ trivial (fun hHeld => ?_)
    clear hK K
    refine norm_ (a' := ?_) ?_ ?_
    rotate_left
    ·show Act.put _ (some 45) _ = _
     simp only [Act.put, q1_, q2_, q3_, i64_w, i32_w]
     rfl
    refine one_ (i := 4) (N := some 46) (fl 8 31) rfl rfl (one_of HT_.out (by kernel_rfl)) (by decide) (fun K hK => ?_)
    refine goes_ Try.func75 (by kernel_rfl) rfl #[.slice Ao28 y534.length co28] (by rfl) rfl rfl (by (try simp only [List.map_toArray, List.map_cons, List.map_nil]); first | done | rfl) ?_
    with_reducible refine (cmp_Or_uint16.calls k _ _ y534 t537 _ ?side1 ?side2 A12.out).mono ?_
    (case side1 => repeat (first | exact (Kd.R_reads' HO536.out).2.2 | (with_reducible refine Kd.C_alloc ?_ _) | (with_reducible refine Kd.C_drewN ?_ _) | (with_reducible refine Kd.C_drew ?_)))
    (case side2 => exact (Kd.R_reads' HO536.out).2.1)
    rintro e w' ⟨rfl, ⟨nd, rfl⟩⟩
    refine ⟨_, rfl, ?_⟩
    refine hK.out _ _ trivial (fun hHeld => ?_)
    clear hK K
    refine norm_ (a' := ?_) ?_ ?_
    rotate_left
    ·show Act.put _ (some 46) _ = _
     simp only [Act.put, q1_, q2_, q3_, i64_w, i32_w]
     rfl
    refine pure_ (i := 5) (N := some 47) (v := ?_) (a' := ?_) (fl 8 63) rfl rfl (any_of HT_.out (by kernel_rfl)) (fun _ _ _ h => h) (Or.inl ⟨by rfl, ?_⟩) ?_ ?_
    rotate_left; (· intro w'; go_simp; with_reducible rfl); rotate_left; (· simp only [Act.put, q1_, q2_, q3_, i64_w, i32_w]; rfl)
    refine one_ (i := 6) (N := some 48) (fl 8 127) rfl rfl (one_of HT_.out (by kernel_rfl)) (by decide) (fun K hK => ?_)
    refine goes_ Try.func68 (by kernel_rfl) rfl #[.int .u64 (IntKind.u64.wrap (t537)), .int .i64 2] (by rfl) rfl rfl (by (try simp only [List.map_toArray, List.map_cons, List.map_nil]); first | done | rfl) ?_
    with_reducible refine (field_Cut.calls k (IntKind.u64.wrap (t537)) 2 t538 _ A13.out).mono ?_
    rintro e w29 ⟨v539, rfl, ho0, hb⟩; refine ⟨_, rfl, ?_⟩
    replace HO4 := aS (Kd.V_elder' (tV HO4.out) (Kd.R_base ho0) hb)
    replace HO523 := aS (Kd.N_elder' (by (with_reducible repeat (first | apply Kd.N_alloc | apply Kd.N_drewN | apply Kd.N_drew)); exact HO523.out) (Kd.R_base ho0) hb)
    replace HO533 := aS (Kd.V_elder' (tV HO533.out) (Kd.R_base ho0) hb)
    replace HO536 := aS (Kd.R_below (tR HO536.out) hb)
    have HO540 := aS (Kd.R_lower (Kd.R_new' (Kd.R_newM (M := fun k_ => (w.heap.size ≤ k_)) ho0 (below_size (tB HB.out)) (fun k_ h_ => h_)) (Kd.R_lt (tR HO526.out))) (below_size (tB HB.out)))
    replace HO526 := aS (Kd.R_elder' (tR HO526.out) (Kd.R_base ho0) hb)
    replace HB := aS (below_step (tB HB.out) hb)
    (try clear hb); (try clear hb2); (try clear hk); (try clear hi); (try clear ho0)
    obtain ⟨Ao31, co31, eo31⟩ := Kd.R_slice HO540.out
    (first | subst eo31 | (injection eo31 with f1_ f2_ f3_; have f4_ := f1_.symm; have f5_ := f3_.symm; clear f1_ f2_ f3_; subst f4_; subst f5_))
    refine hK.out _ _ trivial (fun hHeld => ?_)
    clear hK K
    refine norm_ (a' := ?_) ?_ ?_
    rotate_left
    ·show Act.put _ (some 48) _ = _
     simp only [Act.put, q1_, q2_, q3_, i64_w, i32_w]
     rfl
    refine one_ (i := 7) (N := some 49) (fl 8 255) rfl rfl (one_of HT_.out (by kernel_rfl)) (by decide) (fun K hK => ?_)
    refine R_copy_step (w0 := w) w.heap.size (by rfl) (.tmp 43) (.tmp 48) 22 rfl Try.underlying22 info5 ((6 : Int).toNat) Ao23 A25 _ t524.length co23 y529.length c25 _ _ t524 t538 (fun k_ => (w.heap.size ≤ k_) ∧ some k_ ≠ (.slice Ao31 t538.length co31 : Value).ownBlock) rfl rfl ?aA ?aM ?aL ?aO ?aR ?aB ?_
    (case aA => exact KA25.out)
    (case aM => have h_ := KY25.out; omega)
    (case aR => repeat (first | exact (Kd.R_reads' HO540.out).2.2 | (with_reducible refine Kd.C_alloc ?_ _) | (with_reducible refine Kd.C_drewN ?_ _) | (with_reducible refine Kd.C_drew ?_)))
    (case aB => exact (tB HB.out))
    (case aO => exact (tR (Kd.R_mono HO526.out (fun _ hk => ⟨hk.1.1, hk.2⟩))))
    (case aL => have := LMc14.out; omega)
    intro w30 ho hb hg hat
    rw [← Ny541.out] at ho
    have n0_ := aS (Kd.V_afterv (ok := (fun k_ => (P4_ k_ ∨ w.heap.size ≤ k_) ∧ some k_ ≠ (.slice Ao20 y521.length co20 : Value).ownBlock ∧ some k_ ≠ (.slice Ao28 y534.length co28 : Value).ownBlock ∧ some k_ ≠ (.slice Ao31 t538.length co31 : Value).ownBlock)) (tV (Kd.V_mono HO4.out (fun _ hk => ⟨⟨hk.1.1.1.1.1, ⟨hk.1.1.1.2, ⟨hk.1.2, hk.2⟩⟩⟩, hk.1.1.2⟩))) hg hat)
    have n1_ := aS (Kd.N_afterv (ok := (fun k_ => (P4_ k_ ∨ w.heap.size ≤ k_) ∧ some k_ ≠ (.slice Ao28 y534.length co28 : Value).ownBlock ∧ some k_ ≠ (.slice Ao31 t538.length co31 : Value).ownBlock)) (by (with_reducible repeat (first | apply Kd.N_alloc | apply Kd.N_drewN | apply Kd.N_drew)); exact Kd.N_mono HO523.out (fun _ hk => ⟨⟨hk.1.1.1, ⟨hk.1.2, hk.2⟩⟩, hk.1.1.2⟩)) hg hat)
    have n2_ := aS (Kd.R_over' (tR HO536.out) (Kd.R_typed (tR HO526.out)) (by decide) hg)
    have n3_ := aS (Kd.R_after (ok := (fun k_ => (w.heap.size ≤ k_))) (tR (Kd.R_mono HO540.out (fun _ hk => ⟨hk.1.1, hk.2⟩))) hg hat)
    have n4_ := aS (hb)
    have n5_ := aS (ho)
    clear HO4 HO523 HO536 HO540 HB HO526; have HO4 := n0_; have HO523 := n1_; have HO536 := n2_; have HO540 := n3_; have HB := n4_; have HO543 := n5_; clear n0_ n1_ n2_ n3_ n4_ n5_ ho hb hg hat
    refine hK.out _ _ trivial (fun hHeld => ?_)
    clear hK K
    refine norm_ (a' := ?_) ?_ ?_
    rotate_left
    ·show Act.put _ (some 49) _ = _
     simp only [Act.put, q1_, q2_, q3_, i64_w, i32_w]
     rfl
    refine done_ (done_of HT_.out (by kernel_rfl)) ?_
    try go_wp2_with (first | ((with_reducible refine gate_callee (f := 70) rfl ?_); refine goesL_ (some 51) rfl rfl Try.func70 (by kernel_rfl) rfl #[.slice Ao23 y541.length co23] rfl (by (try simp only [List.map_toArray, List.map_cons, List.map_nil]); first | done | (rw [show y541.length = t524.length from (Kd.R_reads' HO543.out).1.symm] <;> rfl) | rfl | (simp only [List.length_drop, List.length_take]; rfl)) ?_; (refine (slices_Clip.strong (tR HO543.out) A15.out).mono ?_); rintro e w32 ⟨v545, rfl, ho0, hb⟩; refine ⟨_, rfl, ?_⟩; replace HO4 := aS (Kd.V_below (tV HO4.out) hb); replace HO523 := aS (Kd.N_below (by (with_reducible repeat (first | apply Kd.N_alloc | apply Kd.N_drewN | apply Kd.N_drew)); exact HO523.out) hb); replace HO536 := aS (Kd.R_below (tR HO536.out) hb); replace HO540 := aS (Kd.R_below (tR HO540.out) hb); replace HO543 := aS (Kd.R_below (tR HO543.out) hb); have HO546 := aS (Kd.K_mono (ok' := fun _ => True) ho0 (fun _ _ => trivial)); replace HB := aS (below_step (tB HB.out) hb); (try clear hb); (try clear hb2); (try clear hk); (try clear hi); (try clear ho0)))
    go_ret2
    exact ⟨_, by first | rfl | (simp [errW_none, errW_some] <;> rfl) | (simp [*, errW_none, errW_some] <;> rfl), HO546.out, tB HB.out⟩
   ·rw [if_neg c14] at H
    exact absurd H (by simp)
  ·rw [if_neg c11] at H
   exact absurd H (by simp)
theorem udp_Build.calls (k : Nat) (a0 : Int) (a1 : Int) (a2 : Int) (a3 : Int) (P4_ : Nat → Prop) (A4 : Option Addr) (c4 : Nat) (l4 : List Int) (r1 : List Int) (r2 : Int) (w : World) (hs4 : Kd.V (Kd.int .u8) 5 w w.heap.size (fun k_ => P4_ k_) (.slice A4 l4.length c4) l4) (h : udp_Build.f k a0 a1 a2 a3 l4 = some (r1, r2)) :
    Calls Try.prog 44 #[.int .u32 a0, .int .u32 a1, .int .u16 a2, .int .u16 a3, .slice A4 l4.length c4] w fun e w' => ∃ v0_ : Value, e = .returned (.tuple #[v0_, .int .i64 r2]) ∧ Kd.V (Kd.int .u8) 5 w' w.heap.size (fun k_ => (P4_ k_ ∨ w.heap.size ≤ k_)) v0_ r1 ∧ Below w.heap.size w w' :=
  (udp_Build.strong k a0 a1 a2 a3 P4_ A4 c4 l4 r1 r2 w hs4 h).mono fun _ _ ⟨v0_, h1_, hK_, hB_⟩ => ⟨v0_, h1_, Kd.K_Vb hK_ (fun k_ hk_ => by first | exact hk_ | exact .inr hk_), hB_⟩

end Go.Proofs.Ytofjgdbiieanjaa.All
