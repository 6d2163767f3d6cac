-- Made by a program of this workplace (wip/pr.sh) out of Lean's print of the translation; Lean checks it.
import Derived.Test.YtofjgdbiieanjaaAllx0
import Derived.Test.YtofjgdbiieanjaaAllx55
import Derived.Test.YtofjgdbiieanjaaAllx69
import Derived.Test.YtofjgdbiieanjaaAllx70
namespace Go.Proofs.Ytofjgdbiieanjaa.All
open Go.Proofs.Ytofjgdbiieanjaa.Ext
open Go.RowKit Go.Proofs.YtofjgdbiieanjaaW.PrintWords Go.Proofs.YtofjgdbiieanjaaW.PrintLast Go.Proofs.YtofjgdbiieanjaaW.PrintMore
attribute [local go_sem] max2_int min2_int max_two min_two max_three min_three max_four min_four   -- for this text's walks alone
set_option linter.unusedVariables false
set_option linter.unusedSimpArgs false

/-! ### pack_Build: function 56 -/
def pack_Build.f (k : Nat) (a0_0 : Int) (a0_1 : Int) (a0_2 : Int) (a0_3 : Int) (a0_4 : Int) (a0_5 : Int) (a0_6 : Int) (l1 : List Int) : Option (List Int × Int) := (pack_Good.f a0_0 a0_1 a0_2 a0_3 a0_4 a0_5 a0_6).bind fun t1095 => (if t1095 = true then ((pack_bears.f k a0_0 a0_1 a0_2 a0_3 a0_4 a0_5 a0_6 l1).bind fun bt1096 => (if bt1096.2 = 0 then ((ip_Build.f k a0_0 a0_1 a0_2 0 0 64 0 bt1096.1).bind fun bt1100 => (some (bt1100.1, bt1100.2))) else (some (([] : List Int), bt1096.2)))) else (some (([] : List Int), 1)))
theorem pack_Build.mono : ∀ a0 a1 a2 a3 a4 a5 a6 a7 k, LeO (pack_Build.f k a0 a1 a2 a3 a4 a5 a6 a7) (pack_Build.f (k + 1) a0 a1 a2 a3 a4 a5 a6 a7) := by
  intro a0 a1 a2 a3 a4 a5 a6 a7 k
  unfold pack_Build.f
  repeat' first
      | (with_reducible exact ip_Build.mono _ _ _ _ _ _ _ _ _)
      | (with_reducible exact pack_bears.mono _ _ _ _ _ _ _ _ _)
      | (with_reducible exact LeO.refl _)
      | (with_reducible exact LeO.none _)
      | (with_reducible refine LeO.ite ?_ ?_)
      | (with_reducible refine LeO.bind ?_ (fun _ => ?_))
      | exact ip_Build.mono _ _ _ _ _ _ _ _ _
      | exact pack_bears.mono _ _ _ _ _ _ _ _ _
      | exact LeO.none _
      | refine LeO.ite ?_ ?_
      | refine LeO.bind ?_ (fun _ => ?_)
set_option maxHeartbeats 8000000 in
set_option maxRecDepth 100000 in
theorem pack_Build.calls (k : Nat) (a0_0 : Int) (a0_1 : Int) (a0_2 : Int) (a0_3 : Int) (a0_4 : Int) (a0_5 : Int) (a0_6 : Int) (P1_ : Nat → Prop) (A1 : Option Addr) (c1 : Nat) (l1 : List Int) (r1 : List Int) (r2 : Int) (w : World) (hs1 : Kd.V (Kd.int .u8) 5 w w.heap.size (fun k_ => P1_ k_) (.slice A1 l1.length c1) l1) (h : pack_Build.f k a0_0 a0_1 a0_2 a0_3 a0_4 a0_5 a0_6 l1 = some (r1, r2)) :
    Calls Try.prog 56 #[.agg #[.int .u8 a0_0, .int .u32 a0_1, .int .u32 a0_2, .int .u16 a0_3, .int .u16 a0_4, .int .u8 a0_5, .int .u8 a0_6], .slice A1 l1.length c1] w fun e w' => ∃ v0_ : Value, e = .returned (.tuple #[v0_, .int .i64 r2]) ∧ Kd.V (Kd.int .u8) 5 w' w.heap.size (fun k_ => (P1_ k_ ∨ w.heap.size ≤ k_)) v0_ r1 ∧ Below w.heap.size w w' := by
 have hu72 := Try.underlying72
 have hu61 := Try.underlying61
 have HO1 := aS (show Kd.V (Kd.int .u8) 5 w w.heap.size (fun k_ => (P1_ k_ ∨ w.heap.size ≤ k_)) (.slice A1 l1.length c1) l1 from Kd.V_mono hs1 (fun k_ hk => .inl hk))
 have HB := aS (Below.refl w.heap.size w)
 have H := h
 unfold pack_Build.f at H
 clear h
 replace H := Option.bind_eq_some_iff.mp H
 obtain ⟨t1095, A30, H⟩ := H
 try dsimp -simprocs only at H
 have A3 := aS A30
 clear A30
 have HH_ := aS H
 clear H
 go_enter Try.func56, Try.ntmps56
 repeat (go_not_at_if 10; (fail_if_success (with_reducible refine gate_callee (f := 60) rfl ?_)); first | ((with_reducible refine gate_dst (N := 2) rfl ?_); refine box_event ?hg (N := 2) ?hd (cs := #[.int .u8 a0_0, .int .u32 a0_1, .int .u32 a0_2, .int .u16 a0_3, .int .u16 a0_4, .int .u8 a0_5, .int .u8 a0_6]) (t := 72) ?hr ?_; (case hd => rfl); (case hg => rfl); (case hr => first | (go_simp; done) | (go_simp; rfl)); intro gb900 hg w901 hbox hb; replace HO1 := aS (Kd.V_below (Kd.V_elderB (tV HO1.out) gb900 (Nat.le_of_eq hg.symm)) hb); have BK902 := aS (hbox); have GW903 := aS ((by rw [hg]; exact (below_size (tB HB.out)) : w.heap.size ≤ gb900)); have GE904 := aS ((by rw [hg]; exact (below_size (tB HB.out)) : w.heap.size ≤ gb900)); replace HB := aS (below_step (tB HB.out) hb); clear hb hbox hg; have hcz905 : w901.cell? ⟨gb900, 0, none⟩ = some (.int .u8 a0_0) := (blk_cell BK902.out 0).trans rfl; have hcz906 : w901.cell? ⟨gb900, 1, none⟩ = some (.int .u32 a0_1) := (blk_cell BK902.out 1).trans rfl; have hcz907 : w901.cell? ⟨gb900, 2, none⟩ = some (.int .u32 a0_2) := (blk_cell BK902.out 2).trans rfl; have hcz908 : w901.cell? ⟨gb900, 3, none⟩ = some (.int .u16 a0_3) := (blk_cell BK902.out 3).trans rfl; have hcz909 : w901.cell? ⟨gb900, 4, none⟩ = some (.int .u16 a0_4) := (blk_cell BK902.out 4).trans rfl; have hcz910 : w901.cell? ⟨gb900, 5, none⟩ = some (.int .u8 a0_5) := (blk_cell BK902.out 5).trans rfl; have hcz911 : w901.cell? ⟨gb900, 6, none⟩ = some (.int .u8 a0_6) := (blk_cell BK902.out 6).trans rfl; have hfz912 := blk_frozen BK902.out 0; have hfz913 := blk_frozen BK902.out 1; have hfz914 := blk_frozen BK902.out 2; have hfz915 := blk_frozen BK902.out 3; have hfz916 := blk_frozen BK902.out 4; have hfz917 := blk_frozen BK902.out 5; have hfz918 := blk_frozen BK902.out 6) | go_values | go_skip | go_guarded | go_step | go_upon | go_back)
 have H := HH_.out
 clear HH_
 by_cases c4 : t1095 = true
 ·subst c4
  rw [if_pos rfl] at H
  have H1 := H; clear H; have H := H1; clear H1
  replace H := Option.bind_eq_some_iff.mp H
  obtain ⟨⟨t1096, t1099⟩, A50, H⟩ := H
  try dsimp -simprocs only at H
  have A5 := aS A50
  clear A50
  have HH_ := aS H
  clear H
  repeat (go_not_at_if 18; (fail_if_success (with_reducible refine gate_callee (f := 50) rfl ?_)); first | ((with_reducible refine gate_callee (f := 60) rfl ?_); refine goesL_ (some 9) rfl rfl Try.func60 (by kernel_rfl) rfl #[.agg #[.int .u8 a0_0, .int .u32 a0_1, .int .u32 a0_2, .int .u16 a0_3, .int .u16 a0_4, .int .u8 a0_5, .int .u8 a0_6]] rfl (by (try simp only [List.map_toArray, List.map_cons, List.map_nil]); first | done | rfl) ?_; (with_reducible refine (pack_Good.calls a0_0 a0_1 a0_2 a0_3 a0_4 a0_5 a0_6 true _ A3.out).mono ?_); rintro e w919 ⟨rfl, hb⟩; refine ⟨_, rfl, ?_⟩; replace HO1 := aS (Kd.V_below (tV HO1.out) hb); replace BK902 := aS (blk_below (g := gb900) (o := .cells #[.int .u8 a0_0, .int .u32 a0_1, .int .u32 a0_2, .int .u16 a0_3, .int .u16 a0_4, .int .u8 a0_5, .int .u8 a0_6] 72 (0, 0)) (tk BK902.out) hb); replace HB := aS (below_step (tB HB.out) hb); (try clear hb); (try clear hb2); (try clear hk); (try clear hi); have hcz920 : w919.cell? ⟨gb900, 0, none⟩ = some (.int .u8 a0_0) := (blk_cell BK902.out 0).trans rfl; have hcz921 : w919.cell? ⟨gb900, 1, none⟩ = some (.int .u32 a0_1) := (blk_cell BK902.out 1).trans rfl; have hcz922 : w919.cell? ⟨gb900, 2, none⟩ = some (.int .u32 a0_2) := (blk_cell BK902.out 2).trans rfl; have hcz923 : w919.cell? ⟨gb900, 3, none⟩ = some (.int .u16 a0_3) := (blk_cell BK902.out 3).trans rfl; have hcz924 : w919.cell? ⟨gb900, 4, none⟩ = some (.int .u16 a0_4) := (blk_cell BK902.out 4).trans rfl; have hcz925 : w919.cell? ⟨gb900, 5, none⟩ = some (.int .u8 a0_5) := (blk_cell BK902.out 5).trans rfl; have hcz926 : w919.cell? ⟨gb900, 6, none⟩ = some (.int .u8 a0_6) := (blk_cell BK902.out 6).trans rfl; have hfz927 := blk_frozen BK902.out 0; have hfz928 := blk_frozen BK902.out 1; have hfz929 := blk_frozen BK902.out 2; have hfz930 := blk_frozen BK902.out 3; have hfz931 := blk_frozen BK902.out 4; have hfz932 := blk_frozen BK902.out 5; have hfz933 := blk_frozen BK902.out 6) | ((with_reducible refine gate_callee (f := 80) rfl ?_); refine goesL_ (some 14) rfl rfl Try.func80 (by kernel_rfl) rfl #[.agg #[.int .u8 a0_0, .int .u32 a0_1, .int .u32 a0_2, .int .u16 a0_3, .int .u16 a0_4, .int .u8 a0_5, .int .u8 a0_6], .slice A1 l1.length c1] rfl (by (try simp only [List.map_toArray, List.map_cons, List.map_nil]); first | done | rfl) ?_; (with_reducible refine (pack_bears.calls k a0_0 a0_1 a0_2 a0_3 a0_4 a0_5 a0_6 (fun k_ => ((P1_ k_ ∨ w.heap.size ≤ k_) ∧ k_ ≠ gb900)) _ _ l1 t1096 t1099 _ ?side934 A5.out).mono ?_); (case side934 => exact HO1.out); rintro e w935 ⟨v936, rfl, ho937, hb⟩; refine ⟨_, rfl, ?_⟩; replace HO1 := aS (Kd.V_below (tV HO1.out) hb); have HO938 := aS (Kd.V_lower (Kd.V_mono (ok' := fun k_ => (P1_ k_ ∨ w.heap.size ≤ k_) ∧ k_ ≠ gb900) ho937 (fun k_ hk_ => ⟨Or.elim hk_ (fun hs_ => hs_.1) (fun hn_ => (.inr (Nat.le_trans (below_size (tB HB.out)) hn_))), Or.elim hk_ (fun hs_ => hs_.2) (fun hn_ => (Kd.freshB (g := gb900) (o := .cells #[.int .u8 a0_0, .int .u32 a0_1, .int .u32 a0_2, .int .u16 a0_3, .int .u16 a0_4, .int .u8 a0_5, .int .u8 a0_6] 72 (0, 0)) (tk BK902.out) k_ hn_))⟩)) (below_size (tB HB.out))); replace BK902 := aS (blk_below (g := gb900) (o := .cells #[.int .u8 a0_0, .int .u32 a0_1, .int .u32 a0_2, .int .u16 a0_3, .int .u16 a0_4, .int .u8 a0_5, .int .u8 a0_6] 72 (0, 0)) (tk BK902.out) hb); replace HB := aS (below_step (tB HB.out) hb); (try clear hb); (try clear hb2); (try clear hk); (try clear hi); (try clear ho937)) | go_values | go_skip | go_guarded | go_step | go_upon | go_back)
  have H := HH_.out
  clear HH_
  by_cases c6 : t1099 = 0
  ·rw [if_pos c6] at H
   have c6b0 : (t1099 == 0) = true := beq_iff_eq.mpr c6
   have c6b1 : (t1099 != 0) = false := bne_eq_false_iff_eq.mpr c6
   clear c6
   replace H := Option.bind_eq_some_iff.mp H
   obtain ⟨⟨t1100, t1103⟩, A70, H⟩ := H
   try dsimp -simprocs only at H
   have A7 := aS A70
   clear A70
   simp only [Option.some.injEq, Prod.mk.injEq] at H
   obtain ⟨rfl, rfl⟩ := H
   have hcz939 : w935.cell? ⟨gb900, 0, none⟩ = some (.int .u8 a0_0) := (blk_cell BK902.out 0).trans rfl
   have hcz940 : w935.cell? ⟨gb900, 1, none⟩ = some (.int .u32 a0_1) := (blk_cell BK902.out 1).trans rfl
   have hcz941 : w935.cell? ⟨gb900, 2, none⟩ = some (.int .u32 a0_2) := (blk_cell BK902.out 2).trans rfl
   have hcz942 : w935.cell? ⟨gb900, 3, none⟩ = some (.int .u16 a0_3) := (blk_cell BK902.out 3).trans rfl
   have hcz943 : w935.cell? ⟨gb900, 4, none⟩ = some (.int .u16 a0_4) := (blk_cell BK902.out 4).trans rfl
   have hcz944 : w935.cell? ⟨gb900, 5, none⟩ = some (.int .u8 a0_5) := (blk_cell BK902.out 5).trans rfl
   have hcz945 : w935.cell? ⟨gb900, 6, none⟩ = some (.int .u8 a0_6) := (blk_cell BK902.out 6).trans rfl
   have hfz946 := blk_frozen BK902.out 0
   have hfz947 := blk_frozen BK902.out 1
   have hfz948 := blk_frozen BK902.out 2
   have hfz949 := blk_frozen BK902.out 3
   have hfz950 := blk_frozen BK902.out 4
   have hfz951 := blk_frozen BK902.out 5
   have hfz952 := blk_frozen BK902.out 6
   obtain ⟨Ao953, co954, eo955⟩ := Kd.V_slice HO938.out
   subst eo955
   go_wp2_with (first | ((with_reducible refine gate_callee (f := 50) rfl ?_); refine goesL_ (some 28) rfl rfl Try.func50 (by kernel_rfl) rfl #[.agg #[.int .u8 a0_0, .int .u32 a0_1, .int .u32 a0_2, .int .i64 0, .int .i64 0, .int .u8 64, .int .u16 0], .slice Ao953 t1096.length co954] rfl (by (try simp only [List.map_toArray, List.map_cons, List.map_nil]); first | done | rfl) ?_; (with_reducible refine (ip_Build.calls k a0_0 a0_1 a0_2 0 0 64 0 _ _ t1096 t1100 t1103 _ ?side934 ?side956 A7.out).mono ?_); (case side934 => repeat (first | exact (Kd.V_reads' HO938.out).2.2 | (with_reducible refine Kd.C_alloc ?_ _) | (with_reducible refine Kd.C_drewN ?_ _) | (with_reducible refine Kd.C_drew ?_))); (case side956 => exact (Kd.V_reads' HO938.out).2.1); rintro e w957 ⟨v958, rfl, ho937, hb⟩; refine ⟨_, rfl, ?_⟩; replace HO1 := aS (Kd.V_below (tV HO1.out) hb); replace HO938 := aS (Kd.V_below (tV HO938.out) hb); have HO959 := aS (Kd.V_lower (Kd.V_mono (ok' := fun k_ => (P1_ k_ ∨ w.heap.size ≤ k_) ∧ k_ ≠ gb900) ho937 (fun k_ hk_ => ⟨(.inr (Nat.le_trans (below_size (tB HB.out)) hk_)), (Kd.freshB (g := gb900) (o := .cells #[.int .u8 a0_0, .int .u32 a0_1, .int .u32 a0_2, .int .u16 a0_3, .int .u16 a0_4, .int .u8 a0_5, .int .u8 a0_6] 72 (0, 0)) (tk BK902.out) k_ hk_)⟩)) (below_size (tB HB.out))); replace BK902 := aS (blk_below (g := gb900) (o := .cells #[.int .u8 a0_0, .int .u32 a0_1, .int .u32 a0_2, .int .u16 a0_3, .int .u16 a0_4, .int .u8 a0_5, .int .u8 a0_6] 72 (0, 0)) (tk BK902.out) hb); replace HB := aS (below_step (tB HB.out) hb); (try clear hb); (try clear hb2); (try clear hk); (try clear hi); (try clear ho937)))
   go_ret2
   exact ⟨_, by first | rfl | (simp [errW_none, errW_some] <;> rfl) | (simp [*, errW_none, errW_some] <;> rfl), by (with_reducible repeat apply mV); exact Kd.V_mono HO959.out (fun _ hk => hk.1), tB HB.out⟩
  ·rw [if_neg c6] at H
   have c6b0 : (t1099 == 0) = false := beq_eq_false_iff_ne.mpr c6
   have c6b1 : (t1099 != 0) = true := bne_iff_ne.mpr c6
   simp only [Option.some.injEq, Prod.mk.injEq] at H
   obtain ⟨rfl, rfl⟩ := H
   go_wp2_with (first | fail)
   go_ret2
   exact ⟨_, by first | rfl | (simp [errW_none, errW_some] <;> rfl) | (simp [*, errW_none, errW_some] <;> rfl), Kd.V_nil _ _ _ _ _, tB HB.out⟩
 ·replace c4 := Bool.eq_false_iff.mpr c4
  subst c4
  rw [if_neg (show ¬ (false = true) by decide)] at H
  have H1 := H; clear H; have H := H1; clear H1
  simp only [Option.some.injEq, Prod.mk.injEq] at H
  obtain ⟨rfl, rfl⟩ := H
  go_wp2_with (first | ((with_reducible refine gate_callee (f := 60) rfl ?_); refine goesL_ (some 9) rfl rfl Try.func60 (by kernel_rfl) rfl #[.agg #[.int .u8 a0_0, .int .u32 a0_1, .int .u32 a0_2, .int .u16 a0_3, .int .u16 a0_4, .int .u8 a0_5, .int .u8 a0_6]] rfl (by (try simp only [List.map_toArray, List.map_cons, List.map_nil]); first | done | rfl) ?_; (with_reducible refine (pack_Good.calls a0_0 a0_1 a0_2 a0_3 a0_4 a0_5 a0_6 false _ A3.out).mono ?_); rintro e w919 ⟨rfl, hb⟩; refine ⟨_, rfl, ?_⟩; replace HO1 := aS (Kd.V_below (tV HO1.out) hb); replace BK902 := aS (blk_below (g := gb900) (o := .cells #[.int .u8 a0_0, .int .u32 a0_1, .int .u32 a0_2, .int .u16 a0_3, .int .u16 a0_4, .int .u8 a0_5, .int .u8 a0_6] 72 (0, 0)) (tk BK902.out) hb); replace HB := aS (below_step (tB HB.out) hb); (try clear hb); (try clear hb2); (try clear hk); (try clear hi)))
  go_ret2
  exact ⟨_, by first | rfl | (simp [errW_none, errW_some] <;> rfl) | (simp [*, errW_none, errW_some] <;> rfl), Kd.V_nil _ _ _ _ _, tB HB.out⟩

end Go.Proofs.Ytofjgdbiieanjaa.All
