-- Made by a program of this workplace (wip/pr.sh) out of Lean's print of the translation; Lean checks it.
import Derived.Test.YtofjgdbiieanjaaAllx0
import Derived.Test.YtofjgdbiieanjaaAllx20
import Derived.Test.YtofjgdbiieanjaaAllx33
import Derived.Test.YtofjgdbiieanjaaAllx45
import Derived.Test.YtofjgdbiieanjaaAllx58
import Derived.Test.YtofjgdbiieanjaaAllx73
namespace Go.Proofs.Ytofjgdbiieanjaa.All
open Go.Proofs.Ytofjgdbiieanjaa.Ext
open Go.RowKit Go.Proofs.YtofjgdbiieanjaaW.PrintWords Go.Proofs.YtofjgdbiieanjaaW.PrintLast Go.Proofs.YtofjgdbiieanjaaW.PrintMore
attribute [local go_sem] max2_int min2_int max_two min_two max_three min_three max_four min_four   -- for this text's walks alone
set_option linter.unusedVariables false
set_option linter.unusedSimpArgs false

/-! ### mantletref09_Build: function 58 -/
def mantletref09_Build.f (k : Nat) (a0_0 : Int) (a0_1 : Int) (a0_2 : Int) (a0_3 : Int) (a0_4 : Int) (a0_5 : Int) (a0_6 : Int) (l1 : List Int) : Option (List Int × Int) := (mantletref09_Good.f a0_0 a0_1 a0_2 a0_3 a0_4 a0_5 a0_6).bind fun t1112 => (if t1112 = true then (if a0_0 = 6 then ((mantletref05_Build.f k a0_1 a0_2 a0_3 a0_4 a0_5 l1).bind fun bt1116 => (if bt1116.2 = 0 then ((mantletref04_Build.f k a0_0 a0_1 a0_2 0 0 64 0 bt1116.1).bind fun bt1120 => (some (bt1120.1, bt1120.2))) else (some (([] : List Int), bt1116.2)))) else (if a0_0 = 17 then ((mantletref06_Build.f k a0_1 a0_2 a0_3 a0_4 l1).bind fun bt1124 => (if bt1124.2 = 0 then ((mantletref04_Build.f k a0_0 a0_1 a0_2 0 0 64 0 bt1124.1).bind fun bt1128 => (some (bt1128.1, bt1128.2))) else (some (([] : List Int), bt1124.2)))) else ((mantletref07_Build.f k a0_6 a0_3 l1).bind fun bt1132 => (if bt1132.2 = 0 then ((mantletref04_Build.f k a0_0 a0_1 a0_2 0 0 64 0 bt1132.1).bind fun bt1136 => (some (bt1136.1, bt1136.2))) else (some (([] : List Int), bt1132.2)))))) else (some (([] : List Int), 1)))
theorem mantletref09_Build.mono : ∀ a0 a1 a2 a3 a4 a5 a6 a7 k, LeO (mantletref09_Build.f k a0 a1 a2 a3 a4 a5 a6 a7) (mantletref09_Build.f (k + 1) a0 a1 a2 a3 a4 a5 a6 a7) := by
  intro a0 a1 a2 a3 a4 a5 a6 a7 k
  unfold mantletref09_Build.f
  repeat' first
      | (with_reducible exact mantletref04_Build.mono _ _ _ _ _ _ _ _ _)
      | (with_reducible exact mantletref05_Build.mono _ _ _ _ _ _ _)
      | (with_reducible exact mantletref06_Build.mono _ _ _ _ _ _)
      | (with_reducible exact mantletref07_Build.mono _ _ _ _)
      | (with_reducible exact LeO.refl _)
      | (with_reducible exact LeO.none _)
      | (with_reducible refine LeO.ite ?_ ?_)
      | (with_reducible refine LeO.bind ?_ (fun _ => ?_))
      | exact mantletref04_Build.mono _ _ _ _ _ _ _ _ _
      | exact mantletref05_Build.mono _ _ _ _ _ _ _
      | exact mantletref06_Build.mono _ _ _ _ _ _
      | exact mantletref07_Build.mono _ _ _ _
      | exact LeO.none _
      | refine LeO.ite ?_ ?_
      | refine LeO.bind ?_ (fun _ => ?_)
set_option maxHeartbeats 8000000 in
set_option maxRecDepth 100000 in
theorem mantletref09_Build.calls (k : Nat) (a0_0 : Int) (a0_1 : Int) (a0_2 : Int) (a0_3 : Int) (a0_4 : Int) (a0_5 : Int) (a0_6 : Int) (A1 : Option Addr) (c1 : Nat) (l1 : List Int) (r1 : List Int) (r2 : Int) (w : World) (hr1 : Kd.C (Kd.int .u8) w A1 l1.length l1) (hc1 : l1.length ≤ c1) (h : mantletref09_Build.f k a0_0 a0_1 a0_2 a0_3 a0_4 a0_5 a0_6 l1 = some (r1, r2)) :
    Calls Try.prog 58 #[.agg #[.int .u8 a0_0, .int .u32 a0_1, .int .u32 a0_2, .int .u16 a0_3, .int .u16 a0_4, .int .u8 a0_5, .int .u8 a0_6], .slice A1 l1.length c1] w fun e w' => ∃ v0_ : Value, e = .returned (.tuple #[v0_, .int .i64 r2]) ∧ Kd.R (Kd.int .u8) 5 w' w.heap.size (fun _ => True) v0_ r1 ∧ Below w.heap.size w w' := by
 have hu72 := Try.underlying72
 have hu61 := Try.underlying61
 have HR1 := aS hr1
 have HC1 := aS hc1
 clear hr1 hc1
 have HB := aS (Below.refl w.heap.size w)
 have H := h
 unfold mantletref09_Build.f at H
 clear h
 replace H := Option.bind_eq_some_iff.mp H
 obtain ⟨t1112, A30, H⟩ := H
 try dsimp -simprocs only at H
 have A3 := aS A30
 clear A30
 have HH_ := aS H
 clear H
 go_enter Try.func58, Try.ntmps58
 repeat (go_not_at_if 10; (fail_if_success (with_reducible refine gate_callee (f := 61) rfl ?_)); first | ((with_reducible refine gate_dst (N := 2) rfl ?_); refine box_event ?hg (N := 2) ?hd (cs := #[.int .u8 a0_0, .int .u32 a0_1, .int .u32 a0_2, .int .u16 a0_3, .int .u16 a0_4, .int .u8 a0_5, .int .u8 a0_6]) (t := 72) ?hr ?_; (case hd => rfl); (case hg => rfl); (case hr => first | (go_simp; done) | (go_simp; rfl)); intro gb900 hg w901 hbox hb; have BK902 := aS (hbox); have GW903 := aS ((by rw [hg]; exact (below_size (tB HB.out)) : w.heap.size ≤ gb900)); have GE904 := aS ((by rw [hg]; exact (below_size (tB HB.out)) : w.heap.size ≤ gb900)); replace HB := aS (below_step (tB HB.out) hb); clear hb hbox hg; have hcz905 : w901.cell? ⟨gb900, 0, none⟩ = some (.int .u8 a0_0) := (blk_cell BK902.out 0).trans rfl; have hcz906 : w901.cell? ⟨gb900, 1, none⟩ = some (.int .u32 a0_1) := (blk_cell BK902.out 1).trans rfl; have hcz907 : w901.cell? ⟨gb900, 2, none⟩ = some (.int .u32 a0_2) := (blk_cell BK902.out 2).trans rfl; have hcz908 : w901.cell? ⟨gb900, 3, none⟩ = some (.int .u16 a0_3) := (blk_cell BK902.out 3).trans rfl; have hcz909 : w901.cell? ⟨gb900, 4, none⟩ = some (.int .u16 a0_4) := (blk_cell BK902.out 4).trans rfl; have hcz910 : w901.cell? ⟨gb900, 5, none⟩ = some (.int .u8 a0_5) := (blk_cell BK902.out 5).trans rfl; have hcz911 : w901.cell? ⟨gb900, 6, none⟩ = some (.int .u8 a0_6) := (blk_cell BK902.out 6).trans rfl; have hfz912 := blk_frozen BK902.out 0; have hfz913 := blk_frozen BK902.out 1; have hfz914 := blk_frozen BK902.out 2; have hfz915 := blk_frozen BK902.out 3; have hfz916 := blk_frozen BK902.out 4; have hfz917 := blk_frozen BK902.out 5; have hfz918 := blk_frozen BK902.out 6) | go_values | go_skip | go_guarded | go_step | go_upon | go_back)
 have H := HH_.out
 clear HH_
 by_cases c4 : t1112 = true
 ·subst c4
  rw [if_pos rfl] at H
  have H1 := H; clear H; have H := H1; clear H1
  obtain ⟨y1113, hy1113⟩ : ∃ y_ : List Int, y_ = (([] : List Int)) := ⟨_, rfl⟩
  try dsimp -simprocs only at H
  have Ny1113 := aS hy1113
  clear hy1113
  have HH_ := aS H
  clear H
  repeat (go_not_at_if 14; (fail_if_success (with_reducible refine gate_callee (f := 29) rfl ?_)); (fail_if_success (with_reducible refine gate_callee (f := 35) rfl ?_)); (fail_if_success (with_reducible refine gate_callee (f := 45) rfl ?_)); first | ((with_reducible refine gate_callee (f := 61) rfl ?_); refine goesL_ (some 9) rfl rfl Try.func61 (by kernel_rfl) rfl #[.agg #[.int .u8 a0_0, .int .u32 a0_1, .int .u32 a0_2, .int .u16 a0_3, .int .u16 a0_4, .int .u8 a0_5, .int .u8 a0_6]] rfl (by (try simp only [List.map_toArray, List.map_cons, List.map_nil]); first | done | rfl) ?_; (with_reducible refine (mantletref09_Good.calls a0_0 a0_1 a0_2 a0_3 a0_4 a0_5 a0_6 true _ A3.out).mono ?_); rintro e w919 ⟨rfl, hb⟩; refine ⟨_, rfl, ?_⟩; replace BK902 := aS (blk_below (g := gb900) (o := .cells #[.int .u8 a0_0, .int .u32 a0_1, .int .u32 a0_2, .int .u16 a0_3, .int .u16 a0_4, .int .u8 a0_5, .int .u8 a0_6] 72 (0, 0)) (tk BK902.out) hb); replace HB := aS (below_step (tB HB.out) hb); (try clear hb); (try clear hb2); (try clear hk); (try clear hi)) | ((with_reducible refine gate_dst (N := 11) rfl ?_); refine Kd.R_lit (Kd.int .u8) _ 5 ?hg (N := 11) ?hd (xs := ([] : List Int)) (inner := []) (ok := fun _ => True) (okp := fun _ => True) ?hr ?hp (fun _ hk => hk) trivial (Below.refl _ _) (Nat.le_refl _) (by simp) ?_; (case hd => rfl); (case hg => rfl); (case hr => first | (go_simp; done) | (go_simp; rfl)); (case hp => exact (Reps.none _ _)); intro v920 w921 ho922 hb hg_ hnew_; clear hg_ hnew_; (first | rw [← Ny1113.out] at ho922 | (simp only [Int.reduceToNat] at ho922; rw [← Ny1113.out] at ho922)); have HO923 := aS (Kd.R_lower ho922 (below_size (tB HB.out))); replace BK902 := aS (blk_below (g := gb900) (o := .cells #[.int .u8 a0_0, .int .u32 a0_1, .int .u32 a0_2, .int .u16 a0_3, .int .u16 a0_4, .int .u8 a0_5, .int .u8 a0_6] 72 (0, 0)) (tk BK902.out) hb); replace HB := aS (below_step (tB HB.out) hb); clear hb ho922; have hcz924 : w921.cell? ⟨gb900, 0, none⟩ = some (.int .u8 a0_0) := (blk_cell BK902.out 0).trans rfl; have hcz925 : w921.cell? ⟨gb900, 1, none⟩ = some (.int .u32 a0_1) := (blk_cell BK902.out 1).trans rfl; have hcz926 : w921.cell? ⟨gb900, 2, none⟩ = some (.int .u32 a0_2) := (blk_cell BK902.out 2).trans rfl; have hcz927 : w921.cell? ⟨gb900, 3, none⟩ = some (.int .u16 a0_3) := (blk_cell BK902.out 3).trans rfl; have hcz928 : w921.cell? ⟨gb900, 4, none⟩ = some (.int .u16 a0_4) := (blk_cell BK902.out 4).trans rfl; have hcz929 : w921.cell? ⟨gb900, 5, none⟩ = some (.int .u8 a0_5) := (blk_cell BK902.out 5).trans rfl; have hcz930 : w921.cell? ⟨gb900, 6, none⟩ = some (.int .u8 a0_6) := (blk_cell BK902.out 6).trans rfl; have hfz931 := blk_frozen BK902.out 0; have hfz932 := blk_frozen BK902.out 1; have hfz933 := blk_frozen BK902.out 2; have hfz934 := blk_frozen BK902.out 3; have hfz935 := blk_frozen BK902.out 4; have hfz936 := blk_frozen BK902.out 5; have hfz937 := blk_frozen BK902.out 6) | go_values | go_skip | go_guarded | go_step | go_upon | go_back)
  have H := HH_.out
  clear HH_
  by_cases c5 : a0_0 = 6
  ·rw [if_pos c5] at H
   have c5b0 : (a0_0 == 6) = true := beq_iff_eq.mpr c5
   have c5b1 : (a0_0 != 6) = false := bne_eq_false_iff_eq.mpr c5
   clear c5
   replace H := Option.bind_eq_some_iff.mp H
   obtain ⟨⟨t1116, t1117⟩, A60, H⟩ := H
   try dsimp -simprocs only at H
   have A6 := aS A60
   clear A60
   have HH_ := aS H
   clear H
   repeat (go_not_at_if 32; go_not_at_if 56; (fail_if_success (with_reducible refine gate_callee (f := 51) rfl ?_)); first | ((with_reducible refine gate_callee (f := 35) rfl ?_); refine goesL_ (some 27) rfl rfl Try.func35 (by kernel_rfl) rfl #[.int .u32 a0_1, .int .u32 a0_2, .int .u16 a0_3, .int .u16 a0_4, .int .u8 a0_5, .slice A1 l1.length c1] rfl (by (try simp only [List.map_toArray, List.map_cons, List.map_nil]); first | done | rfl) ?_; (with_reducible refine (mantletref05_Build.calls k a0_1 a0_2 a0_3 a0_4 a0_5 _ _ l1 t1116 t1117 _ ?side938 ?side939 A6.out).mono ?_); (case side938 => repeat (first | exact (Kd.C_below HR1.out HB.out) | (with_reducible refine Kd.C_alloc ?_ _) | (with_reducible refine Kd.C_drewN ?_ _) | (with_reducible refine Kd.C_drew ?_))); (case side939 => exact HC1.out); rintro e w940 ⟨v941, rfl, ho942, hb⟩; refine ⟨_, rfl, ?_⟩; have HO943 := aS (Kd.R_lower (Kd.R_new' ho942 (Kd.R_lt (tR HO923.out))) (below_size (tB HB.out))); replace HO923 := aS (Kd.R_elder' (tR HO923.out) (Kd.R_base ho942) hb); replace BK902 := aS (blk_below (g := gb900) (o := .cells #[.int .u8 a0_0, .int .u32 a0_1, .int .u32 a0_2, .int .u16 a0_3, .int .u16 a0_4, .int .u8 a0_5, .int .u8 a0_6] 72 (0, 0)) (tk BK902.out) hb); replace HB := aS (below_step (tB HB.out) hb); (try clear hb); (try clear hb2); (try clear hk); (try clear hi); (try clear ho942)) | go_values | go_skip | go_guarded | go_step | go_upon | go_back)
   have H := HH_.out
   clear HH_
   by_cases c7 : t1117 = 0
   ·rw [if_pos c7] at H
    have c7b0 : (t1117 == 0) = true := beq_iff_eq.mpr c7
    have c7b1 : (t1117 != 0) = false := bne_eq_false_iff_eq.mpr c7
    clear c7
    replace H := Option.bind_eq_some_iff.mp H
    obtain ⟨⟨t1120, t1123⟩, A80, H⟩ := H
    try dsimp -simprocs only at H
    have A8 := aS A80
    clear A80
    simp only [Option.some.injEq, Prod.mk.injEq] at H
    obtain ⟨rfl, rfl⟩ := H
    have hcz944 : w940.cell? ⟨gb900, 0, none⟩ = some (.int .u8 a0_0) := (blk_cell BK902.out 0).trans rfl
    have hcz945 : w940.cell? ⟨gb900, 1, none⟩ = some (.int .u32 a0_1) := (blk_cell BK902.out 1).trans rfl
    have hcz946 : w940.cell? ⟨gb900, 2, none⟩ = some (.int .u32 a0_2) := (blk_cell BK902.out 2).trans rfl
    have hcz947 : w940.cell? ⟨gb900, 3, none⟩ = some (.int .u16 a0_3) := (blk_cell BK902.out 3).trans rfl
    have hcz948 : w940.cell? ⟨gb900, 4, none⟩ = some (.int .u16 a0_4) := (blk_cell BK902.out 4).trans rfl
    have hcz949 : w940.cell? ⟨gb900, 5, none⟩ = some (.int .u8 a0_5) := (blk_cell BK902.out 5).trans rfl
    have hcz950 : w940.cell? ⟨gb900, 6, none⟩ = some (.int .u8 a0_6) := (blk_cell BK902.out 6).trans rfl
    have hfz951 := blk_frozen BK902.out 0
    have hfz952 := blk_frozen BK902.out 1
    have hfz953 := blk_frozen BK902.out 2
    have hfz954 := blk_frozen BK902.out 3
    have hfz955 := blk_frozen BK902.out 4
    have hfz956 := blk_frozen BK902.out 5
    have hfz957 := blk_frozen BK902.out 6
    obtain ⟨Ao958, co959, eo960⟩ := Kd.R_slice HO943.out
    subst eo960
    go_wp2_with (first | ((with_reducible refine gate_callee (f := 51) rfl ?_); refine goesL_ (some 66) rfl rfl Try.func51 (by kernel_rfl) rfl #[.agg #[.int .u8 a0_0, .int .u32 a0_1, .int .u32 a0_2, .int .i64 0, .int .i64 0, .int .u8 64, .int .u16 0], .slice Ao958 t1116.length co959] rfl (by (try simp only [List.map_toArray, List.map_cons, List.map_nil]); first | done | rfl) ?_; (with_reducible refine (mantletref04_Build.calls k a0_0 a0_1 a0_2 0 0 64 0 _ _ t1116 t1120 t1123 _ ?side938 ?side939 A8.out).mono ?_); (case side938 => repeat (first | exact (Kd.R_reads' HO943.out).2.2 | (with_reducible refine Kd.C_alloc ?_ _) | (with_reducible refine Kd.C_drewN ?_ _) | (with_reducible refine Kd.C_drew ?_))); (case side939 => exact (Kd.R_reads' HO943.out).2.1); rintro e w961 ⟨v962, rfl, ho942, hb⟩; refine ⟨_, rfl, ?_⟩; have HO963 := aS (Kd.R_lower (Kd.R_new' (Kd.R_new' ho942 (Kd.R_lt (tR HO923.out))) (Kd.R_lt (tR HO943.out))) (below_size (tB HB.out))); replace HO923 := aS (Kd.R_elder' (tR HO923.out) (Kd.R_base ho942) hb); replace HO943 := aS (Kd.R_elder' (tR HO943.out) (Kd.R_base ho942) hb); replace BK902 := aS (blk_below (g := gb900) (o := .cells #[.int .u8 a0_0, .int .u32 a0_1, .int .u32 a0_2, .int .u16 a0_3, .int .u16 a0_4, .int .u8 a0_5, .int .u8 a0_6] 72 (0, 0)) (tk BK902.out) hb); replace HB := aS (below_step (tB HB.out) hb); (try clear hb); (try clear hb2); (try clear hk); (try clear hi); (try clear ho942)))
    go_ret2
    exact ⟨_, by first | rfl | (simp [errW_none, errW_some] <;> rfl) | (simp [*, errW_none, errW_some] <;> rfl), by (with_reducible repeat apply mR); exact Kd.R_mono HO963.out (fun _ hk => trivial), tB HB.out⟩
   ·rw [if_neg c7] at H
    have c7b0 : (t1117 == 0) = false := beq_eq_false_iff_ne.mpr c7
    have c7b1 : (t1117 != 0) = true := bne_iff_ne.mpr c7
    simp only [Option.some.injEq, Prod.mk.injEq] at H
    obtain ⟨rfl, rfl⟩ := H
    go_wp2_with (first | fail)
    go_ret2
    exact ⟨_, by first | rfl | (simp [errW_none, errW_some] <;> rfl) | (simp [*, errW_none, errW_some] <;> rfl), by first | exact Kd.R_nil _ _ _ _ _ | exact Kd.N_nil _ _ _ _ _ | exact Kd.V_nil _ _ _ _ _ | exact Kd.Q_nil _ _ _ _ _ | exact Kd.S_nil _ _ _ _ _, tB HB.out⟩
  ·rw [if_neg c5] at H
   have c5b0 : (a0_0 == 6) = false := beq_eq_false_iff_ne.mpr c5
   have c5b1 : (a0_0 != 6) = true := bne_iff_ne.mpr c5
   by_cases c26 : a0_0 = 17
   ·rw [if_pos c26] at H
    have c26b0 : (a0_0 == 17) = true := beq_iff_eq.mpr c26
    have c26b1 : (a0_0 != 17) = false := bne_eq_false_iff_eq.mpr c26
    clear c26
    replace H := Option.bind_eq_some_iff.mp H
    obtain ⟨⟨t1124, t1125⟩, A270, H⟩ := H
    try dsimp -simprocs only at H
    have A27 := aS A270
    clear A270
    have HH_ := aS H
    clear H
    repeat (go_not_at_if 56; (fail_if_success (with_reducible refine gate_callee (f := 51) rfl ?_)); first | ((with_reducible refine gate_callee (f := 45) rfl ?_); refine goesL_ (some 43) rfl rfl Try.func45 (by kernel_rfl) rfl #[.int .u32 a0_1, .int .u32 a0_2, .int .u16 a0_3, .int .u16 a0_4, .slice A1 l1.length c1] rfl (by (try simp only [List.map_toArray, List.map_cons, List.map_nil]); first | done | rfl) ?_; (with_reducible refine (mantletref06_Build.calls k a0_1 a0_2 a0_3 a0_4 _ _ l1 t1124 t1125 _ ?side938 ?side939 A27.out).mono ?_); (case side938 => repeat (first | exact (Kd.C_below HR1.out HB.out) | (with_reducible refine Kd.C_alloc ?_ _) | (with_reducible refine Kd.C_drewN ?_ _) | (with_reducible refine Kd.C_drew ?_))); (case side939 => exact HC1.out); rintro e w940 ⟨v941, rfl, ho942, hb⟩; refine ⟨_, rfl, ?_⟩; have HO943 := aS (Kd.R_lower (Kd.R_new' ho942 (Kd.R_lt (tR HO923.out))) (below_size (tB HB.out))); replace HO923 := aS (Kd.R_elder' (tR HO923.out) (Kd.R_base ho942) hb); replace BK902 := aS (blk_below (g := gb900) (o := .cells #[.int .u8 a0_0, .int .u32 a0_1, .int .u32 a0_2, .int .u16 a0_3, .int .u16 a0_4, .int .u8 a0_5, .int .u8 a0_6] 72 (0, 0)) (tk BK902.out) hb); replace HB := aS (below_step (tB HB.out) hb); (try clear hb); (try clear hb2); (try clear hk); (try clear hi); (try clear ho942)) | go_values | go_skip | go_guarded | go_step | go_upon | go_back)
    have H := HH_.out
    clear HH_
    by_cases c28 : t1125 = 0
    ·rw [if_pos c28] at H
     have c28b0 : (t1125 == 0) = true := beq_iff_eq.mpr c28
     have c28b1 : (t1125 != 0) = false := bne_eq_false_iff_eq.mpr c28
     clear c28
     replace H := Option.bind_eq_some_iff.mp H
     obtain ⟨⟨t1128, t1131⟩, A290, H⟩ := H
     try dsimp -simprocs only at H
     have A29 := aS A290
     clear A290
     simp only [Option.some.injEq, Prod.mk.injEq] at H
     obtain ⟨rfl, rfl⟩ := H
     have hcz944 : w940.cell? ⟨gb900, 0, none⟩ = some (.int .u8 a0_0) := (blk_cell BK902.out 0).trans rfl
     have hcz945 : w940.cell? ⟨gb900, 1, none⟩ = some (.int .u32 a0_1) := (blk_cell BK902.out 1).trans rfl
     have hcz946 : w940.cell? ⟨gb900, 2, none⟩ = some (.int .u32 a0_2) := (blk_cell BK902.out 2).trans rfl
     have hcz947 : w940.cell? ⟨gb900, 3, none⟩ = some (.int .u16 a0_3) := (blk_cell BK902.out 3).trans rfl
     have hcz948 : w940.cell? ⟨gb900, 4, none⟩ = some (.int .u16 a0_4) := (blk_cell BK902.out 4).trans rfl
     have hcz949 : w940.cell? ⟨gb900, 5, none⟩ = some (.int .u8 a0_5) := (blk_cell BK902.out 5).trans rfl
     have hcz950 : w940.cell? ⟨gb900, 6, none⟩ = some (.int .u8 a0_6) := (blk_cell BK902.out 6).trans rfl
     have hfz951 := blk_frozen BK902.out 0
     have hfz952 := blk_frozen BK902.out 1
     have hfz953 := blk_frozen BK902.out 2
     have hfz954 := blk_frozen BK902.out 3
     have hfz955 := blk_frozen BK902.out 4
     have hfz956 := blk_frozen BK902.out 5
     have hfz957 := blk_frozen BK902.out 6
     obtain ⟨Ao958, co959, eo960⟩ := Kd.R_slice HO943.out
     subst eo960
     go_wp2_with (first | ((with_reducible refine gate_callee (f := 51) rfl ?_); refine goesL_ (some 66) rfl rfl Try.func51 (by kernel_rfl) rfl #[.agg #[.int .u8 a0_0, .int .u32 a0_1, .int .u32 a0_2, .int .i64 0, .int .i64 0, .int .u8 64, .int .u16 0], .slice Ao958 t1124.length co959] rfl (by (try simp only [List.map_toArray, List.map_cons, List.map_nil]); first | done | rfl) ?_; (with_reducible refine (mantletref04_Build.calls k a0_0 a0_1 a0_2 0 0 64 0 _ _ t1124 t1128 t1131 _ ?side938 ?side939 A29.out).mono ?_); (case side938 => repeat (first | exact (Kd.R_reads' HO943.out).2.2 | (with_reducible refine Kd.C_alloc ?_ _) | (with_reducible refine Kd.C_drewN ?_ _) | (with_reducible refine Kd.C_drew ?_))); (case side939 => exact (Kd.R_reads' HO943.out).2.1); rintro e w961 ⟨v962, rfl, ho942, hb⟩; refine ⟨_, rfl, ?_⟩; have HO963 := aS (Kd.R_lower (Kd.R_new' (Kd.R_new' ho942 (Kd.R_lt (tR HO923.out))) (Kd.R_lt (tR HO943.out))) (below_size (tB HB.out))); replace HO923 := aS (Kd.R_elder' (tR HO923.out) (Kd.R_base ho942) hb); replace HO943 := aS (Kd.R_elder' (tR HO943.out) (Kd.R_base ho942) hb); replace BK902 := aS (blk_below (g := gb900) (o := .cells #[.int .u8 a0_0, .int .u32 a0_1, .int .u32 a0_2, .int .u16 a0_3, .int .u16 a0_4, .int .u8 a0_5, .int .u8 a0_6] 72 (0, 0)) (tk BK902.out) hb); replace HB := aS (below_step (tB HB.out) hb); (try clear hb); (try clear hb2); (try clear hk); (try clear hi); (try clear ho942)))
     go_ret2
     exact ⟨_, by first | rfl | (simp [errW_none, errW_some] <;> rfl) | (simp [*, errW_none, errW_some] <;> rfl), by (with_reducible repeat apply mR); exact Kd.R_mono HO963.out (fun _ hk => trivial), tB HB.out⟩
    ·rw [if_neg c28] at H
     have c28b0 : (t1125 == 0) = false := beq_eq_false_iff_ne.mpr c28
     have c28b1 : (t1125 != 0) = true := bne_iff_ne.mpr c28
     simp only [Option.some.injEq, Prod.mk.injEq] at H
     obtain ⟨rfl, rfl⟩ := H
     go_wp2_with (first | fail)
     go_ret2
     exact ⟨_, by first | rfl | (simp [errW_none, errW_some] <;> rfl) | (simp [*, errW_none, errW_some] <;> rfl), by first | exact Kd.R_nil _ _ _ _ _ | exact Kd.N_nil _ _ _ _ _ | exact Kd.V_nil _ _ _ _ _ | exact Kd.Q_nil _ _ _ _ _ | exact Kd.S_nil _ _ _ _ _, tB HB.out⟩
   ·rw [if_neg c26] at H
    have c26b0 : (a0_0 == 17) = false := beq_eq_false_iff_ne.mpr c26
    have c26b1 : (a0_0 != 17) = true := bne_iff_ne.mpr c26
    replace H := Option.bind_eq_some_iff.mp H
    obtain ⟨⟨t1132, t1133⟩, A470, H⟩ := H
    try dsimp -simprocs only at H
    have A47 := aS A470
    clear A470
    have HH_ := aS H
    clear H
    repeat (go_not_at_if 56; (fail_if_success (with_reducible refine gate_callee (f := 51) rfl ?_)); first | ((with_reducible refine gate_callee (f := 29) rfl ?_); refine goesL_ (some 52) rfl rfl Try.func29 (by kernel_rfl) rfl #[.int .u8 a0_6, .int .u16 a0_3, .slice A1 l1.length c1] rfl (by (try simp only [List.map_toArray, List.map_cons, List.map_nil]); first | done | rfl) ?_; (with_reducible refine (mantletref07_Build.calls k a0_6 a0_3 _ _ l1 t1132 t1133 _ ?side938 ?side939 A47.out).mono ?_); (case side938 => repeat (first | exact (Kd.C_below HR1.out HB.out) | (with_reducible refine Kd.C_alloc ?_ _) | (with_reducible refine Kd.C_drewN ?_ _) | (with_reducible refine Kd.C_drew ?_))); (case side939 => exact HC1.out); rintro e w940 ⟨v941, rfl, ho942, hb⟩; refine ⟨_, rfl, ?_⟩; have HO943 := aS (Kd.R_lower (Kd.R_new' ho942 (Kd.R_lt (tR HO923.out))) (below_size (tB HB.out))); replace HO923 := aS (Kd.R_elder' (tR HO923.out) (Kd.R_base ho942) hb); replace BK902 := aS (blk_below (g := gb900) (o := .cells #[.int .u8 a0_0, .int .u32 a0_1, .int .u32 a0_2, .int .u16 a0_3, .int .u16 a0_4, .int .u8 a0_5, .int .u8 a0_6] 72 (0, 0)) (tk BK902.out) hb); replace HB := aS (below_step (tB HB.out) hb); (try clear hb); (try clear hb2); (try clear hk); (try clear hi); (try clear ho942)) | go_values | go_skip | go_guarded | go_step | go_upon | go_back)
    have H := HH_.out
    clear HH_
    by_cases c48 : t1133 = 0
    ·rw [if_pos c48] at H
     have c48b0 : (t1133 == 0) = true := beq_iff_eq.mpr c48
     have c48b1 : (t1133 != 0) = false := bne_eq_false_iff_eq.mpr c48
     clear c48
     replace H := Option.bind_eq_some_iff.mp H
     obtain ⟨⟨t1136, t1139⟩, A490, H⟩ := H
     try dsimp -simprocs only at H
     have A49 := aS A490
     clear A490
     simp only [Option.some.injEq, Prod.mk.injEq] at H
     obtain ⟨rfl, rfl⟩ := H
     have hcz944 : w940.cell? ⟨gb900, 0, none⟩ = some (.int .u8 a0_0) := (blk_cell BK902.out 0).trans rfl
     have hcz945 : w940.cell? ⟨gb900, 1, none⟩ = some (.int .u32 a0_1) := (blk_cell BK902.out 1).trans rfl
     have hcz946 : w940.cell? ⟨gb900, 2, none⟩ = some (.int .u32 a0_2) := (blk_cell BK902.out 2).trans rfl
     have hcz947 : w940.cell? ⟨gb900, 3, none⟩ = some (.int .u16 a0_3) := (blk_cell BK902.out 3).trans rfl
     have hcz948 : w940.cell? ⟨gb900, 4, none⟩ = some (.int .u16 a0_4) := (blk_cell BK902.out 4).trans rfl
     have hcz949 : w940.cell? ⟨gb900, 5, none⟩ = some (.int .u8 a0_5) := (blk_cell BK902.out 5).trans rfl
     have hcz950 : w940.cell? ⟨gb900, 6, none⟩ = some (.int .u8 a0_6) := (blk_cell BK902.out 6).trans rfl
     have hfz951 := blk_frozen BK902.out 0
     have hfz952 := blk_frozen BK902.out 1
     have hfz953 := blk_frozen BK902.out 2
     have hfz954 := blk_frozen BK902.out 3
     have hfz955 := blk_frozen BK902.out 4
     have hfz956 := blk_frozen BK902.out 5
     have hfz957 := blk_frozen BK902.out 6
     obtain ⟨Ao958, co959, eo960⟩ := Kd.R_slice HO943.out
     subst eo960
     go_wp2_with (first | ((with_reducible refine gate_callee (f := 51) rfl ?_); refine goesL_ (some 66) rfl rfl Try.func51 (by kernel_rfl) rfl #[.agg #[.int .u8 a0_0, .int .u32 a0_1, .int .u32 a0_2, .int .i64 0, .int .i64 0, .int .u8 64, .int .u16 0], .slice Ao958 t1132.length co959] rfl (by (try simp only [List.map_toArray, List.map_cons, List.map_nil]); first | done | rfl) ?_; (with_reducible refine (mantletref04_Build.calls k a0_0 a0_1 a0_2 0 0 64 0 _ _ t1132 t1136 t1139 _ ?side938 ?side939 A49.out).mono ?_); (case side938 => repeat (first | exact (Kd.R_reads' HO943.out).2.2 | (with_reducible refine Kd.C_alloc ?_ _) | (with_reducible refine Kd.C_drewN ?_ _) | (with_reducible refine Kd.C_drew ?_))); (case side939 => exact (Kd.R_reads' HO943.out).2.1); rintro e w961 ⟨v962, rfl, ho942, hb⟩; refine ⟨_, rfl, ?_⟩; have HO963 := aS (Kd.R_lower (Kd.R_new' (Kd.R_new' ho942 (Kd.R_lt (tR HO923.out))) (Kd.R_lt (tR HO943.out))) (below_size (tB HB.out))); replace HO923 := aS (Kd.R_elder' (tR HO923.out) (Kd.R_base ho942) hb); replace HO943 := aS (Kd.R_elder' (tR HO943.out) (Kd.R_base ho942) hb); replace BK902 := aS (blk_below (g := gb900) (o := .cells #[.int .u8 a0_0, .int .u32 a0_1, .int .u32 a0_2, .int .u16 a0_3, .int .u16 a0_4, .int .u8 a0_5, .int .u8 a0_6] 72 (0, 0)) (tk BK902.out) hb); replace HB := aS (below_step (tB HB.out) hb); (try clear hb); (try clear hb2); (try clear hk); (try clear hi); (try clear ho942)))
     go_ret2
     exact ⟨_, by first | rfl | (simp [errW_none, errW_some] <;> rfl) | (simp [*, errW_none, errW_some] <;> rfl), by (with_reducible repeat apply mR); exact Kd.R_mono HO963.out (fun _ hk => trivial), tB HB.out⟩
    ·rw [if_neg c48] at H
     have c48b0 : (t1133 == 0) = false := beq_eq_false_iff_ne.mpr c48
     have c48b1 : (t1133 != 0) = true := bne_iff_ne.mpr c48
     simp only [Option.some.injEq, Prod.mk.injEq] at H
     obtain ⟨rfl, rfl⟩ := H
     go_wp2_with (first | fail)
     go_ret2
     exact ⟨_, by first | rfl | (simp [errW_none, errW_some] <;> rfl) | (simp [*, errW_none, errW_some] <;> rfl), by first | exact Kd.R_nil _ _ _ _ _ | exact Kd.N_nil _ _ _ _ _ | exact Kd.V_nil _ _ _ _ _ | exact Kd.Q_nil _ _ _ _ _ | exact Kd.S_nil _ _ _ _ _, tB HB.out⟩
 ·replace c4 := Bool.eq_false_iff.mpr c4
  subst c4
  rw [if_neg (show ¬ (false = true) by decide)] at H
  have H1 := H; clear H; have H := H1; clear H1
  simp only [Option.some.injEq, Prod.mk.injEq] at H
  obtain ⟨rfl, rfl⟩ := H
  go_wp2_with (first | ((with_reducible refine gate_callee (f := 61) rfl ?_); refine goesL_ (some 9) rfl rfl Try.func61 (by kernel_rfl) rfl #[.agg #[.int .u8 a0_0, .int .u32 a0_1, .int .u32 a0_2, .int .u16 a0_3, .int .u16 a0_4, .int .u8 a0_5, .int .u8 a0_6]] rfl (by (try simp only [List.map_toArray, List.map_cons, List.map_nil]); first | done | rfl) ?_; (with_reducible refine (mantletref09_Good.calls a0_0 a0_1 a0_2 a0_3 a0_4 a0_5 a0_6 false _ A3.out).mono ?_); rintro e w919 ⟨rfl, hb⟩; refine ⟨_, rfl, ?_⟩; replace BK902 := aS (blk_below (g := gb900) (o := .cells #[.int .u8 a0_0, .int .u32 a0_1, .int .u32 a0_2, .int .u16 a0_3, .int .u16 a0_4, .int .u8 a0_5, .int .u8 a0_6] 72 (0, 0)) (tk BK902.out) hb); replace HB := aS (below_step (tB HB.out) hb); (try clear hb); (try clear hb2); (try clear hk); (try clear hi)))
  go_ret2
  exact ⟨_, by first | rfl | (simp [errW_none, errW_some] <;> rfl) | (simp [*, errW_none, errW_some] <;> rfl), by first | exact Kd.R_nil _ _ _ _ _ | exact Kd.N_nil _ _ _ _ _ | exact Kd.V_nil _ _ _ _ _ | exact Kd.Q_nil _ _ _ _ _ | exact Kd.S_nil _ _ _ _ _, tB HB.out⟩

end Go.Proofs.Ytofjgdbiieanjaa.All
