-- Made by a program of this workplace (wip/pr.sh) out of Lean's print of the translation; Lean checks it.
import Derived.Test.YtofjgdbiieanjaaAllx0
import Derived.Test.YtofjgdbiieanjaaAllx49
import Derived.Test.YtofjgdbiieanjaaAllx53
import Derived.Test.YtofjgdbiieanjaaOwn
namespace Go.Proofs.Ytofjgdbiieanjaa.All
open Go.Proofs.Ytofjgdbiieanjaa.Ext
open Go.RowKit Go.Proofs.YtofjgdbiieanjaaW.PrintWords Go.Proofs.YtofjgdbiieanjaaW.PrintLast Go.Proofs.YtofjgdbiieanjaaW.PrintMore
attribute [local go_sem] max2_int min2_int max_two min_two max_three min_three max_four min_four   -- for this text's walks alone
set_option linter.unusedVariables false
set_option linter.unusedSimpArgs false

/-! ### icmp_Build: function 28 -/
def icmp_Build.f (k : Nat) (a0 : Int) (a1 : Int) (l2 : List Int) : Option (List Int × Int) := (icmp_known.f a0).bind fun t148 => (if t148 = true then (if (l2.length : Int) > 1472 then (some (([] : List Int), 2)) else ((field_Cut.f k (Go.bits .or .u64 (IntKind.u64.wrap ((IntKind.u64.wrap (a0)) * 72057594037927936)) (IntKind.u64.wrap ((IntKind.u64.wrap (a1)) * 65536))) 8).bind fun t149 => ((slices_Concat_byte_byte.f k (([t149, l2] : List (List Int)))).bind fun t155 => (if 2 ≤ (t155.length : Int) then ((sum_Of.f k t155).bind fun t163 => ((field_Cut.f k (IntKind.u64.wrap (t163)) 2).bind fun t164 => (if t164.length + 2 ≤ t155.length then ((slices_Clip.f (splice t155 ((2 : Int).toNat) t164)).bind fun t170 => (some (t170, 0))) else (none)))) else (none))))) else (some (([] : List Int), 10)))
theorem icmp_Build.mono : ∀ a0 a1 a2 k, LeO (icmp_Build.f k a0 a1 a2) (icmp_Build.f (k + 1) a0 a1 a2) := by
  intro a0 a1 a2 k
  unfold icmp_Build.f
  repeat' first
      | (with_reducible exact field_Cut.mono _ _ _)
      | (with_reducible exact slices_Concat_byte_byte.mono _ _)
      | (with_reducible exact sum_Of.mono _ _)
      | (with_reducible exact LeO.refl _)
      | (with_reducible exact LeO.none _)
      | (with_reducible refine LeO.ite ?_ ?_)
      | (with_reducible refine LeO.bind ?_ (fun _ => ?_))
      | exact field_Cut.mono _ _ _
      | exact slices_Concat_byte_byte.mono _ _
      | exact sum_Of.mono _ _
      | exact LeO.none _
      | refine LeO.ite ?_ ?_
      | refine LeO.bind ?_ (fun _ => ?_)
set_option maxHeartbeats 8000000 in
set_option maxRecDepth 100000 in
theorem icmp_Build.strong (k : Nat) (a0 : Int) (a1 : Int) (P2_ : Nat → Prop) (A2 : Option Addr) (c2 : Nat) (l2 : List Int) (r1 : List Int) (r2 : Int) (w : World) (hs2 : Kd.V (Kd.int .u8) 5 w w.heap.size (fun k_ => P2_ k_) (.slice A2 l2.length c2) l2) (h : icmp_Build.f k a0 a1 l2 = some (r1, r2)) :
    Calls Try.prog 28 #[.int .u8 a0, .int .u16 a1, .slice A2 l2.length c2] w fun e w' => ∃ v0_ : Value, e = .returned (.tuple #[v0_, .int .i64 r2]) ∧ Kd.K (Kd.int .u8) 5 w' w.heap.size (fun _ => True) v0_ r1 ∧ Below w.heap.size w w' := by
 have HO2 := aS (show Kd.V (Kd.int .u8) 5 w w.heap.size (fun k_ => (P2_ k_ ∨ w.heap.size ≤ k_)) (.slice A2 l2.length c2) l2 from Kd.V_mono hs2 (fun k_ hk => .inl hk))
 have HB := aS (Below.refl w.heap.size w)
 have H := h
 unfold icmp_Build.f at H
 clear h
 replace H := Option.bind_eq_some_iff.mp H
 obtain ⟨t148, A40, H⟩ := H
 try dsimp -simprocs only at H
 have A4 := aS A40
 clear A40
 by_cases c5 : t148 = true
 ·subst c5
  rw [if_pos rfl] at H
  have H1 := H; clear H; have H := H1; clear H1
  by_cases c6 : (l2.length : Int) > 1472
  ·rw [if_pos c6] at H
   have c6b0 : decide (1472 < (l2.length : Int)) = true := decide_eq_true c6
   have c6b1 : decide (1472 < l2.length) = true := decide_eq_true (by omega)
   clear c6
   simp only [Option.some.injEq, Prod.mk.injEq] at H
   obtain ⟨rfl, rfl⟩ := H
   go_enter Try.func28, Try.ntmps28
   go_wp2_with (first | ((with_reducible refine gate_callee (f := 63) rfl ?_); refine goesL_ (some 11) rfl rfl Try.func63 (by kernel_rfl) rfl #[.int .u8 a0] rfl (by (try simp only [List.map_toArray, List.map_cons, List.map_nil]); first | done | rfl) ?_; (with_reducible refine (icmp_known.calls a0 true _ A4.out).mono ?_); rintro e w' ⟨rfl, ⟨nd, rfl⟩⟩; refine ⟨_, rfl, ?_⟩))
   go_ret2
   exact ⟨_, by first | rfl | (simp [errW_none, errW_some] <;> rfl) | (simp [*, errW_none, errW_some] <;> rfl), Kd.K_nil _ _ _ _ _, tB HB.out⟩
  ·rw [if_neg c6] at H
   have c6b0 : decide (1472 < (l2.length : Int)) = false := decide_eq_false c6
   have c6b1 : decide (1472 < l2.length) = false := decide_eq_false (by omega)
   clear c6
   replace H := Option.bind_eq_some_iff.mp H
   obtain ⟨t149, A70, H⟩ := H
   try dsimp -simprocs only at H
   have A7 := aS A70
   clear A70
   obtain ⟨y152, hy152⟩ : ∃ y_ : List (List Int), y_ = (([t149, l2] : List (List Int))) := ⟨_, rfl⟩
   first | with_reducible replace H := bindY hy152 H | rw [← hy152] at H | skip
   try dsimp -simprocs only at H
   have Ny152 := aS hy152
   clear hy152
   replace H := Option.bind_eq_some_iff.mp H
   obtain ⟨t155, A80, H⟩ := H
   try dsimp -simprocs only at H
   have A8 := aS A80
   clear A80
   by_cases c9 : 2 ≤ (t155.length : Int)
   ·rw [if_pos c9] at H
    have c9b0 := eq_true c9
    have c9b1 : decide (2 ≤ (t155.length : Int)) = true := decide_eq_true c9
    clear c9
    obtain ⟨y158, hy158⟩ : ∃ y_ : List Int, y_ = (t155.drop 2) := ⟨_, rfl⟩
    try dsimp -simprocs only at H
    have Ny158 := aS hy158
    clear hy158
    replace H := Option.bind_eq_some_iff.mp H
    obtain ⟨t163, A100, H⟩ := H
    try dsimp -simprocs only at H
    have A10 := aS A100
    clear A100
    replace H := Option.bind_eq_some_iff.mp H
    obtain ⟨t164, A110, H⟩ := H
    try dsimp -simprocs only at H
    have A11 := aS A110
    clear A110
    by_cases c12 : t164.length + 2 ≤ t155.length
    ·rw [if_pos c12] at H
     have LMc12 := aS c12
     clear c12
     obtain ⟨y167, hy167⟩ : ∃ y_ : List Int, y_ = (splice t155 ((2 : Int).toNat) t164) := ⟨_, rfl⟩
     first | with_reducible replace H := bindY hy167 H | rw [← hy167] at H | skip
     try dsimp -simprocs only at H
     have Ny167 := aS hy167
     clear hy167
     replace H := Option.bind_eq_some_iff.mp H
     obtain ⟨t170, A130, H⟩ := H
     try dsimp -simprocs only at H
     have A13 := aS A130
     clear A130
     simp only [Option.some.injEq, Prod.mk.injEq] at H
     obtain ⟨rfl, rfl⟩ := H
     go_enter Try.func28, Try.ntmps28
     try go_wp2_with (first | ((with_reducible refine gate_callee (f := 63) rfl ?_); refine goesL_ (some 11) rfl rfl Try.func63 (by kernel_rfl) rfl #[.int .u8 a0] rfl (by (try simp only [List.map_toArray, List.map_cons, List.map_nil]); first | done | rfl) ?_; (with_reducible refine (icmp_known.calls a0 true _ A4.out).mono ?_); rintro e w' ⟨rfl, ⟨nd, rfl⟩⟩; refine ⟨_, rfl, ?_⟩) | ((with_reducible refine gate_callee (f := 68) rfl ?_); refine goesL_ (some 24) rfl rfl Try.func68 (by kernel_rfl) rfl #[.int .u64 (Go.bits .or .u64 (IntKind.u64.wrap ((IntKind.u64.wrap (a0)) * 72057594037927936)) (IntKind.u64.wrap ((IntKind.u64.wrap (a1)) * 65536))), .int .i64 8] rfl (by (try simp only [List.map_toArray, List.map_cons, List.map_nil]); first | done | rfl) ?_; (with_reducible refine (field_Cut.calls k (Go.bits .or .u64 (IntKind.u64.wrap ((IntKind.u64.wrap (a0)) * 72057594037927936)) (IntKind.u64.wrap ((IntKind.u64.wrap (a1)) * 65536))) 8 t149 _ A7.out).mono ?_); rintro e w14 ⟨v150, rfl, ho0, hb⟩; refine ⟨_, rfl, ?_⟩; replace HO2 := aS (Kd.V_elder' (tV HO2.out) (Kd.R_base ho0) hb); have HO151 := aS (Kd.R_lower (Kd.R_newM (M := fun k_ => (w.heap.size ≤ k_)) ho0 (below_size (tB HB.out)) (fun k_ h_ => h_)) (below_size (tB HB.out))); replace HB := aS (below_step (tB HB.out) hb); (try clear hb); (try clear hb2); (try clear hk); (try clear hi); (try clear ho0); obtain ⟨Ao15, co15, eo15⟩ := Kd.R_slice HO151.out; subst eo15) | ((with_reducible refine gate_dst (N := 26) rfl ?_); refine Kd.N_lit (Kd.slice 5 (Kd.int .u8)) _ 22 ?hg (N' := 26) ?hd (xs := ([t149, l2] : List (List Int))) (inner := [.slice Ao15 t149.length co15, .slice A2 l2.length c2]) (ok := (fun k_ => (P2_ k_ ∨ w.heap.size ≤ k_))) (okp := (fun k_ => (P2_ k_ ∨ w.heap.size ≤ k_))) ?hr ?hp (fun _ hk => hk) ((show ∀ k_, w14.heap.size ≤ k_ → (fun k_ => (P2_ k_ ∨ w.heap.size ≤ k_)) k_ from fun k_ hk => (.inr (Nat.le_trans (below_size (tB HB.out)) hk))) _ (Nat.le_refl _)) (Below.refl _ _) (Nat.le_refl _) (by simp) ?_; (case hd => rfl); (case hg => rfl); (case hr => first | (go_simp; done) | (go_simp; rfl)); (case hp => exact (Reps.one (show Kd.FK (Kd.slice 5 (Kd.int .u8)) _ _ t149 [.slice Ao15 t149.length co15] from (Kd.FK_slice_mk (Kd.R_reads' (Kd.R_mono (ok' := (fun k_ => (P2_ k_ ∨ w.heap.size ≤ k_))) (HO151.out) (fun k_ hk => (.inr (hk.1))))).2.1 (Kd.R_F (Kd.R_mono (ok' := (fun k_ => (P2_ k_ ∨ w.heap.size ≤ k_))) (HO151.out) (fun k_ hk => (.inr (hk.1))))))) (Reps.one (show Kd.FK (Kd.slice 5 (Kd.int .u8)) _ _ l2 [.slice A2 l2.length c2] from (Kd.FK_slice_mk (Kd.V_reads' (Kd.V_mono (ok' := (fun k_ => (P2_ k_ ∨ w.heap.size ≤ k_))) (HO2.out) (fun k_ hk => hk.1))).2.1 (Kd.V_F (Kd.V_mono (ok' := (fun k_ => (P2_ k_ ∨ w.heap.size ≤ k_))) (HO2.out) (fun k_ hk => hk.1))))) (Reps.none _ _)))); intro v153 w16 ho17 hb hg_ hnew_; clear hg_ hnew_; (first | rw [← Ny152.out] at ho17 | (simp only [Int.reduceToNat] at ho17; rw [← Ny152.out] at ho17)); replace HO2 := aS (Kd.V_elder' (tV HO2.out) (Kd.N_base ho17) hb); have HO154 := aS (Kd.N_lower ho17 (below_size (tB HB.out))); replace HB := aS (below_step (tB HB.out) hb); clear HO151; clear hb ho17; obtain ⟨Ao18, co18, eo18⟩ := Kd.N_slice HO154.out; subst eo18) | ((with_reducible refine gate_callee (f := 67) rfl ?_); refine goesL_ (some 27) rfl rfl Try.func67 (by kernel_rfl) rfl #[.slice Ao18 y152.length co18] rfl (by (try simp only [List.map_toArray, List.map_cons, List.map_nil]); first | done | rfl) ?_; (with_reducible refine (slices_Concat_byte_byte.calls k _ _ y152 t155 _ ?side1 ?side2 A8.out).mono ?_); (case side1 => repeat (first | exact (Kd.N_reads' HO154.out).2.2 | (with_reducible refine Kd.C_alloc ?_ _) | (with_reducible refine Kd.C_drewN ?_ _) | (with_reducible refine Kd.C_drew ?_))); (case side2 => exact (Kd.N_reads' HO154.out).2.1); rintro e w19 ⟨v156, rfl, ho0, hb⟩; refine ⟨_, rfl, ?_⟩; replace HO2 := aS (Kd.V_elder' (tV HO2.out) (Kd.R_base ho0) hb); replace HO154 := aS (Kd.N_elder' (by (with_reducible repeat (first | apply Kd.N_alloc | apply Kd.N_drewN | apply Kd.N_drew)); exact HO154.out) (Kd.R_base ho0) hb); have HO157 := aS (Kd.R_lower (Kd.R_newM (M := fun k_ => (w.heap.size ≤ k_)) ho0 (below_size (tB HB.out)) (fun k_ h_ => h_)) (below_size (tB HB.out))); replace HB := aS (below_step (tB HB.out) hb); (try clear hb); (try clear hb2); (try clear hk); (try clear hi); (try clear ho0)))
     replace HO2 := aS (Kd.V_drew HO2.out)
     replace HO154 := aS (Kd.N_drew HO154.out)
     replace HO157 := aS (Kd.R_drew HO157.out)
     replace HB := aS (below_drew1 HB.out)
     obtain ⟨Ao22, co22, eo22⟩ := Kd.R_slice HO157.out
     (first | subst eo22 | (injection eo22 with f1_ f2_ f3_; have f4_ := f1_.symm; have f5_ := f3_.symm; clear f1_ f2_ f3_; subst f4_; subst f5_))
     have q21 : (2 : Int) ≤ ((t155.length : Int) : Int) := of_decide_eq_true (by first | (with_reducible assumption) | assumption)
     obtain ⟨i021, hi021, _, hsz21, _⟩ := info_parts info5
     have hroom21 : t155.length ≤ co22 := (Kd.R_reads' HO157.out).2.1
     have hC21 : Kd.F (Kd.int .u8) _ _ Ao22 t155.length t155 := (Kd.V_at (base := w.heap.size) (Kd.V_mono (ok' := (fun k_ => (((P2_ k_ ∨ w.heap.size ≤ k_) ∧ True) ∧ some k_ ≠ (.slice Ao18 y152.length co18 : Value).ownBlock))) (Kd.R_V (Kd.R_apart' (HO157.out) (Kd.N_typed HO154.out) (by decide))) (fun k_ hk => ⟨⟨(.inr (hk.1.1)), trivial⟩, hk.2⟩))).2.2
     have hcut21 := cut_from (P := Try.prog) 22 5 .i64 Try.underlying22 hi021 1 hsz21 Ao22 t155.length co22 2 (by omega) q21
     have hr21 := Kd.F_cut (m := (2 : Int).toNat) (c := co22) hC21 (by omega) hroom21
     obtain ⟨A21, hA21⟩ : ∃ A1, A1 = (if co22 = (2 : Int).toNat then Ao22 else (Ao22 : Option Addr).map (·.add ((2 : Int).toNat * 1))) := ⟨_, rfl⟩
     obtain ⟨c21, hc21⟩ : ∃ c1, c1 = co22 - (2 : Int).toNat := ⟨_, rfl⟩
     have hy21 : y158.length = t155.length - (2 : Int).toNat := (by rw [Ny158.out, List.length_drop] <;> omega)
     rw [show (t155).drop (2 : Int).toNat = y158 from Ny158.out.symm] at hr21
     replace hr21 : Kd.F (Kd.int .u8) _ _ A21 y158.length y158 := (by rw [hA21]; exact hr21)
     rw [← hy21, ← hA21, ← hc21] at hcut21
     have HO162 := aS (show Kd.V (Kd.int .u8) 5 _ w.heap.size _ (.slice A21 y158.length c21) y158 from Kd.V_mk (by rw [hy21, hc21]; exact Nat.sub_le_sub_right hroom21 _) hr21)
     have HC162 := aS (show y158.length ≤ c21 from by rw [hy21, hc21]; exact Nat.sub_le_sub_right hroom21 _)
     clear hr21 hC21 hroom21 hi021 hsz21 hc21
     have KY21 := aS hy21
     have KA21 := aS hA21
     clear hy21 hA21
     replace q21 := eq_true q21
     refine start_ (n := 7) (S := fun w' => True) (ds := []) #[false, false, false, false, false, false, false] (by kernel_rfl) rfl rfl trivial (fun hHeld => ?_)
     generalize w19.drew = w20 at HO2 HO154 HO157 HB HO162 hHeld ⊢
     refine pure_ (i := 0) (N := some 28) (v := ?_) (a' := ?_) (fl 7 1) rfl rfl (by kernel_rfl) (fun _ _ _ h => h) (Or.inl ⟨by rfl, ?_⟩) ?_ ?_
     rotate_left; (· intro w'; go_simp; with_reducible rfl); rotate_left; (· simp only [Act.put, q1_, q2_, q3_, i64_w, i32_w]; rfl)
     refine pure_ (i := 1) (N := some 29) (v := ?_) (a' := ?_) (fl 7 3) rfl rfl (by kernel_rfl) (fun _ _ _ h => h) (Or.inl ⟨by rfl, ?_⟩) ?_ ?_
     rotate_left; (· intro w'; go_simp; with_reducible rfl); rotate_left; (· simp only [Act.put, q1_, q2_, q3_, i64_w, i32_w]; rfl)
     refine pure_ (i := 2) (N := some 30) (v := ?_) (a' := ?_) (fl 7 7) rfl rfl (by kernel_rfl) (fun _ _ _ h => h) (Or.inl ⟨by rfl, ?_⟩) ?_ ?_
     rotate_left; (· intro w'; go_simp; with_reducible rfl); rotate_left; (· simp only [Act.put, q1_, q2_, q3_, i64_w, i32_w]; rfl)
     refine one_ (i := 3) (N := some 31) (fl 7 15) rfl rfl (by kernel_rfl) (by decide) (fun K hK => ?_)
     refine goes_ Try.func69 (by kernel_rfl) rfl #[.slice Ao22 t155.length co22] (by rfl) rfl rfl (by (try simp only [List.map_toArray, List.map_cons, List.map_nil]); first | done | rfl) ?_
     with_reducible refine (sum_Of.calls k _ _ t155 t163 _ ?side1 ?side2 A10.out).mono ?_
     (case side1 => repeat (first | exact (Kd.R_reads' HO157.out).2.2 | (with_reducible refine Kd.C_alloc ?_ _) | (with_reducible refine Kd.C_drewN ?_ _) | (with_reducible refine Kd.C_drew ?_)))
     (case side2 => exact (Kd.R_reads' HO157.out).2.1)
     rintro e w' ⟨rfl, ⟨nd, rfl⟩⟩
     refine ⟨_, rfl, ?_⟩
     refine hK.out _ _ trivial (fun hHeld => ?_)
     clear hK K
     refine norm_ (a' := ?_) ?_ ?_
     rotate_left
     ·show Act.put _ (some 31) _ = _
      simp only [Act.put, q1_, q2_, q3_, i64_w, i32_w]
      rfl
     refine pure_ (i := 4) (N := some 32) (v := ?_) (a' := ?_) (fl 7 31) rfl rfl (by kernel_rfl) (fun _ _ _ h => h) (Or.inl ⟨by rfl, ?_⟩) ?_ ?_
     rotate_left; (· intro w'; go_simp; with_reducible rfl); rotate_left; (· simp only [Act.put, q1_, q2_, q3_, i64_w, i32_w]; rfl)
     refine one_ (i := 5) (N := some 33) (fl 7 63) rfl rfl (by kernel_rfl) (by decide) (fun K hK => ?_)
     refine goes_ Try.func68 (by kernel_rfl) rfl #[.int .u64 (IntKind.u64.wrap (t163)), .int .i64 2] (by rfl) rfl rfl (by (try simp only [List.map_toArray, List.map_cons, List.map_nil]); first | done | rfl) ?_
     with_reducible refine (field_Cut.calls k (IntKind.u64.wrap (t163)) 2 t164 _ A11.out).mono ?_
     rintro e w23 ⟨v165, rfl, ho0, hb⟩; refine ⟨_, rfl, ?_⟩
     replace HO2 := aS (Kd.V_elder' (tV HO2.out) (Kd.R_base ho0) hb)
     replace HO154 := aS (Kd.N_elder' (by (with_reducible repeat (first | apply Kd.N_alloc | apply Kd.N_drewN | apply Kd.N_drew)); exact HO154.out) (Kd.R_base ho0) hb)
     replace HO162 := aS (Kd.V_elder' (tV HO162.out) (Kd.R_base ho0) hb)
     have HO166 := aS (Kd.R_lower (Kd.R_new' (Kd.R_newM (M := fun k_ => (w.heap.size ≤ k_)) ho0 (below_size (tB HB.out)) (fun k_ h_ => h_)) (Kd.R_lt (tR HO157.out))) (below_size (tB HB.out)))
     replace HO157 := aS (Kd.R_elder' (tR HO157.out) (Kd.R_base ho0) hb)
     replace HB := aS (below_step (tB HB.out) hb)
     (try clear hb); (try clear hb2); (try clear hk); (try clear hi); (try clear ho0)
     obtain ⟨Ao25, co25, eo25⟩ := Kd.R_slice HO166.out
     (first | subst eo25 | (injection eo25 with f1_ f2_ f3_; have f4_ := f1_.symm; have f5_ := f3_.symm; clear f1_ f2_ f3_; subst f4_; subst f5_))
     refine hK.out _ _ trivial (fun hHeld => ?_)
     clear hK K
     refine norm_ (a' := ?_) ?_ ?_
     rotate_left
     ·show Act.put _ (some 33) _ = _
      simp only [Act.put, q1_, q2_, q3_, i64_w, i32_w]
      rfl
     refine one_ (i := 6) (N := some 34) (fl 7 127) rfl rfl (by kernel_rfl) (by decide) (fun K hK => ?_)
     refine R_copy_step (w0 := w) w.heap.size (by rfl) (.tmp 29) (.tmp 33) 22 rfl Try.underlying22 info5 ((2 : Int).toNat) Ao22 A21 _ t155.length co22 y158.length c21 _ _ t155 t164 (fun k_ => (w.heap.size ≤ k_) ∧ some k_ ≠ (.slice Ao25 t164.length co25 : Value).ownBlock) rfl rfl ?aA ?aM ?aL ?aO ?aR ?aB ?_
     (case aA => exact KA21.out)
     (case aM => have h_ := KY21.out; omega)
     (case aR => repeat (first | exact (Kd.R_reads' HO166.out).2.2 | (with_reducible refine Kd.C_alloc ?_ _) | (with_reducible refine Kd.C_drewN ?_ _) | (with_reducible refine Kd.C_drew ?_)))
     (case aB => exact (tB HB.out))
     (case aO => exact (tR (Kd.R_mono HO157.out (fun _ hk => ⟨hk.1.1, hk.2⟩))))
     (case aL => have := LMc12.out; omega)
     intro w24 ho hb hg hat
     rw [← Ny167.out] at ho
     have n0_ := aS (Kd.V_afterv (ok := (fun k_ => (P2_ k_ ∨ w.heap.size ≤ k_) ∧ some k_ ≠ (.slice Ao18 y152.length co18 : Value).ownBlock ∧ some k_ ≠ (.slice Ao25 t164.length co25 : Value).ownBlock)) (tV (Kd.V_mono HO2.out (fun _ hk => ⟨⟨hk.1.1.1.1, ⟨hk.1.1.2, hk.2⟩⟩, hk.1.2⟩))) hg hat)
     have n1_ := aS (Kd.N_afterv (ok := (fun k_ => (P2_ k_ ∨ w.heap.size ≤ k_) ∧ some k_ ≠ (.slice Ao25 t164.length co25 : Value).ownBlock)) (by (with_reducible repeat (first | apply Kd.N_alloc | apply Kd.N_drewN | apply Kd.N_drew)); exact Kd.N_mono HO154.out (fun _ hk => ⟨⟨hk.1.1, hk.2⟩, hk.1.2⟩)) hg hat)
     have n2_ := aS (Kd.R_after (ok := (fun k_ => (w.heap.size ≤ k_))) (tR (Kd.R_mono HO166.out (fun _ hk => ⟨hk.1.1, hk.2⟩))) hg hat)
     have n3_ := aS (hb)
     have n4_ := aS (ho)
     clear HO2 HO154 HO166 HB HO157; have HO2 := n0_; have HO154 := n1_; have HO166 := n2_; have HB := n3_; have HO169 := n4_; clear n0_ n1_ n2_ n3_ n4_ ho hb hg hat
     refine hK.out _ _ trivial (fun hHeld => ?_)
     clear hK K
     refine norm_ (a' := ?_) ?_ ?_
     rotate_left
     ·show Act.put _ (some 34) _ = _
      simp only [Act.put, q1_, q2_, q3_, i64_w, i32_w]
      rfl
     refine done_ (by kernel_rfl) ?_
     try go_wp2_with (first | ((with_reducible refine gate_callee (f := 70) rfl ?_); refine goesL_ (some 36) rfl rfl Try.func70 (by kernel_rfl) rfl #[.slice Ao22 y167.length co22] rfl (by (try simp only [List.map_toArray, List.map_cons, List.map_nil]); first | done | (rw [show y167.length = t155.length from (Kd.R_reads' HO169.out).1.symm] <;> rfl) | rfl | (simp only [List.length_drop, List.length_take]; rfl)) ?_; (refine (slices_Clip.strong (tR HO169.out) A13.out).mono ?_); rintro e w26 ⟨v171, rfl, ho0, hb⟩; refine ⟨_, rfl, ?_⟩; replace HO2 := aS (Kd.V_below (tV HO2.out) hb); replace HO154 := aS (Kd.N_below (by (with_reducible repeat (first | apply Kd.N_alloc | apply Kd.N_drewN | apply Kd.N_drew)); exact HO154.out) hb); replace HO166 := aS (Kd.R_below (tR HO166.out) hb); replace HO169 := aS (Kd.R_below (tR HO169.out) hb); have HO172 := aS (Kd.K_mono (ok' := fun _ => True) ho0 (fun _ _ => trivial)); replace HB := aS (below_step (tB HB.out) hb); (try clear hb); (try clear hb2); (try clear hk); (try clear hi); (try clear ho0)))
     go_ret2
     exact ⟨_, by first | rfl | (simp [errW_none, errW_some] <;> rfl) | (simp [*, errW_none, errW_some] <;> rfl), HO172.out, tB HB.out⟩
    ·rw [if_neg c12] at H
     exact absurd H (by simp)
   ·rw [if_neg c9] at H
    exact absurd H (by simp)
 ·replace c5 := Bool.eq_false_iff.mpr c5
  subst c5
  rw [if_neg (show ¬ (false = true) by decide)] at H
  have H1 := H; clear H; have H := H1; clear H1
  simp only [Option.some.injEq, Prod.mk.injEq] at H
  obtain ⟨rfl, rfl⟩ := H
  go_enter Try.func28, Try.ntmps28
  go_wp2_with (first | ((with_reducible refine gate_callee (f := 63) rfl ?_); refine goesL_ (some 11) rfl rfl Try.func63 (by kernel_rfl) rfl #[.int .u8 a0] rfl (by (try simp only [List.map_toArray, List.map_cons, List.map_nil]); first | done | rfl) ?_; (with_reducible refine (icmp_known.calls a0 false _ A4.out).mono ?_); rintro e w' ⟨rfl, ⟨nd, rfl⟩⟩; refine ⟨_, rfl, ?_⟩))
  go_ret2
  exact ⟨_, by first | rfl | (simp [errW_none, errW_some] <;> rfl) | (simp [*, errW_none, errW_some] <;> rfl), Kd.K_nil _ _ _ _ _, tB HB.out⟩
theorem icmp_Build.calls (k : Nat) (a0 : Int) (a1 : Int) (P2_ : Nat → Prop) (A2 : Option Addr) (c2 : Nat) (l2 : List Int) (r1 : List Int) (r2 : Int) (w : World) (hs2 : Kd.V (Kd.int .u8) 5 w w.heap.size (fun k_ => P2_ k_) (.slice A2 l2.length c2) l2) (h : icmp_Build.f k a0 a1 l2 = some (r1, r2)) :
    Calls Try.prog 28 #[.int .u8 a0, .int .u16 a1, .slice A2 l2.length c2] w fun e w' => ∃ v0_ : Value, e = .returned (.tuple #[v0_, .int .i64 r2]) ∧ Kd.V (Kd.int .u8) 5 w' w.heap.size (fun k_ => (P2_ k_ ∨ w.heap.size ≤ k_)) v0_ r1 ∧ Below w.heap.size w w' :=
  (icmp_Build.strong k a0 a1 P2_ A2 c2 l2 r1 r2 w hs2 h).mono fun _ _ ⟨v0_, h1_, hK_, hB_⟩ => ⟨v0_, h1_, Kd.K_Vb hK_ (fun k_ hk_ => by first | exact hk_ | exact .inr hk_), hB_⟩

end Go.Proofs.Ytofjgdbiieanjaa.All
