-- Made by a program of this workplace (wip/pr.sh) out of Lean's print of the translation; Lean checks it.
import Derived.Test.YtofjgdbiieanjaaAllx0
import Derived.Test.YtofjgdbiieanjaaAllx16
import Derived.Test.YtofjgdbiieanjaaAllx30
import Derived.Test.YtofjgdbiieanjaaAllx42
namespace Go.Proofs.Ytofjgdbiieanjaa.All
open Go.Proofs.Ytofjgdbiieanjaa.Ext
open Go.RowKit Go.Proofs.YtofjgdbiieanjaaW.PrintWords Go.Proofs.YtofjgdbiieanjaaW.PrintLast Go.Proofs.YtofjgdbiieanjaaW.PrintMore
attribute [local go_sem] max2_int min2_int max_two min_two max_three min_three max_four min_four   -- for this text's walks alone
set_option linter.unusedVariables false
set_option linter.unusedSimpArgs false

/-! ### pack_bears: function 80 -/
def pack_bears.f (k : Nat) (a0_0 : Int) (a0_1 : Int) (a0_2 : Int) (a0_3 : Int) (a0_4 : Int) (a0_5 : Int) (a0_6 : Int) (l1 : List Int) : Option (List Int × Int) := if a0_0 = 6 then ((tcp_Build.f k a0_1 a0_2 a0_3 a0_4 a0_5 l1).bind fun bt1082 => (some (bt1082.1, bt1082.2))) else (if a0_0 = 17 then ((udp_Build.f k a0_1 a0_2 a0_3 a0_4 l1).bind fun bt1086 => (some (bt1086.1, bt1086.2))) else ((icmp_Build.f k a0_6 a0_3 l1).bind fun bt1090 => (some (bt1090.1, bt1090.2))))
theorem pack_bears.mono : ∀ a0 a1 a2 a3 a4 a5 a6 a7 k, LeO (pack_bears.f k a0 a1 a2 a3 a4 a5 a6 a7) (pack_bears.f (k + 1) a0 a1 a2 a3 a4 a5 a6 a7) := by
  intro a0 a1 a2 a3 a4 a5 a6 a7 k
  unfold pack_bears.f
  repeat' first
      | (with_reducible exact icmp_Build.mono _ _ _ _)
      | (with_reducible exact tcp_Build.mono _ _ _ _ _ _ _)
      | (with_reducible exact udp_Build.mono _ _ _ _ _ _)
      | (with_reducible exact LeO.refl _)
      | (with_reducible exact LeO.none _)
      | (with_reducible refine LeO.ite ?_ ?_)
      | (with_reducible refine LeO.bind ?_ (fun _ => ?_))
      | exact icmp_Build.mono _ _ _ _
      | exact tcp_Build.mono _ _ _ _ _ _ _
      | exact udp_Build.mono _ _ _ _ _ _
      | exact LeO.none _
      | refine LeO.ite ?_ ?_
      | refine LeO.bind ?_ (fun _ => ?_)
set_option maxHeartbeats 8000000 in
set_option maxRecDepth 100000 in
theorem pack_bears.calls (k : Nat) (a0_0 : Int) (a0_1 : Int) (a0_2 : Int) (a0_3 : Int) (a0_4 : Int) (a0_5 : Int) (a0_6 : Int) (P1_ : Nat → Prop) (A1 : Option Addr) (c1 : Nat) (l1 : List Int) (r1 : List Int) (r2 : Int) (w : World) (hs1 : Kd.V (Kd.int .u8) 5 w w.heap.size (fun k_ => P1_ k_) (.slice A1 l1.length c1) l1) (h : pack_bears.f k a0_0 a0_1 a0_2 a0_3 a0_4 a0_5 a0_6 l1 = some (r1, r2)) :
    Calls Try.prog 80 #[.agg #[.int .u8 a0_0, .int .u32 a0_1, .int .u32 a0_2, .int .u16 a0_3, .int .u16 a0_4, .int .u8 a0_5, .int .u8 a0_6], .slice A1 l1.length c1] w fun e w' => ∃ v0_ : Value, e = .returned (.tuple #[v0_, .int .i64 r2]) ∧ Kd.V (Kd.int .u8) 5 w' w.heap.size (fun k_ => (P1_ k_ ∨ w.heap.size ≤ k_)) v0_ r1 ∧ Below w.heap.size w w' := by
 have hu72 := Try.underlying72
 have HO1 := aS (show Kd.V (Kd.int .u8) 5 w w.heap.size (fun k_ => (P1_ k_ ∨ w.heap.size ≤ k_)) (.slice A1 l1.length c1) l1 from Kd.V_mono hs1 (fun k_ hk => .inl hk))
 have HB := aS (Below.refl w.heap.size w)
 have H := h
 unfold pack_bears.f at H
 clear h
 have HH_ := aS H
 clear H
 go_enter Try.func80, Try.ntmps80
 repeat (go_not_at_if 8; (fail_if_success (with_reducible refine gate_callee (f := 28) rfl ?_)); (fail_if_success (with_reducible refine gate_callee (f := 34) rfl ?_)); (fail_if_success (with_reducible refine gate_callee (f := 44) rfl ?_)); first | ((with_reducible refine gate_dst (N := 2) rfl ?_); refine box_event ?hg (N := 2) ?hd (cs := #[.int .u8 a0_0, .int .u32 a0_1, .int .u32 a0_2, .int .u16 a0_3, .int .u16 a0_4, .int .u8 a0_5, .int .u8 a0_6]) (t := 72) ?hr ?_; (case hd => rfl); (case hg => rfl); (case hr => first | (go_simp; done) | (go_simp; rfl)); intro gb900 hg w901 hbox hb; replace HO1 := aS (Kd.V_below (Kd.V_elderB (tV HO1.out) gb900 (Nat.le_of_eq hg.symm)) hb); have BK902 := aS (hbox); have GW903 := aS ((by rw [hg]; exact (below_size (tB HB.out)) : w.heap.size ≤ gb900)); have GE904 := aS ((by rw [hg]; exact (below_size (tB HB.out)) : w.heap.size ≤ gb900)); replace HB := aS (below_step (tB HB.out) hb); clear hb hbox hg; have hcz905 : w901.cell? ⟨gb900, 0, none⟩ = some (.int .u8 a0_0) := (blk_cell BK902.out 0).trans rfl; have hcz906 : w901.cell? ⟨gb900, 1, none⟩ = some (.int .u32 a0_1) := (blk_cell BK902.out 1).trans rfl; have hcz907 : w901.cell? ⟨gb900, 2, none⟩ = some (.int .u32 a0_2) := (blk_cell BK902.out 2).trans rfl; have hcz908 : w901.cell? ⟨gb900, 3, none⟩ = some (.int .u16 a0_3) := (blk_cell BK902.out 3).trans rfl; have hcz909 : w901.cell? ⟨gb900, 4, none⟩ = some (.int .u16 a0_4) := (blk_cell BK902.out 4).trans rfl; have hcz910 : w901.cell? ⟨gb900, 5, none⟩ = some (.int .u8 a0_5) := (blk_cell BK902.out 5).trans rfl; have hcz911 : w901.cell? ⟨gb900, 6, none⟩ = some (.int .u8 a0_6) := (blk_cell BK902.out 6).trans rfl; have hfz912 := blk_frozen BK902.out 0; have hfz913 := blk_frozen BK902.out 1; have hfz914 := blk_frozen BK902.out 2; have hfz915 := blk_frozen BK902.out 3; have hfz916 := blk_frozen BK902.out 4; have hfz917 := blk_frozen BK902.out 5; have hfz918 := blk_frozen BK902.out 6) | go_values | go_skip | go_guarded | go_step | go_upon | go_back)
 have H := HH_.out
 clear HH_
 by_cases c3 : a0_0 = 6
 ·rw [if_pos c3] at H
  have c3b0 : (a0_0 == 6) = true := beq_iff_eq.mpr c3
  have c3b1 : (a0_0 != 6) = false := bne_eq_false_iff_eq.mpr c3
  clear c3
  replace H := Option.bind_eq_some_iff.mp H
  obtain ⟨⟨t1082, t1085⟩, A40, H⟩ := H
  try dsimp -simprocs only at H
  have A4 := aS A40
  clear A40
  simp only [Option.some.injEq, Prod.mk.injEq] at H
  obtain ⟨rfl, rfl⟩ := H
  go_wp2_with (first | ((with_reducible refine gate_callee (f := 34) rfl ?_); refine goesL_ (some 21) rfl rfl Try.func34 (by kernel_rfl) rfl #[.int .u32 a0_1, .int .u32 a0_2, .int .u16 a0_3, .int .u16 a0_4, .int .u8 a0_5, .slice A1 l1.length c1] rfl (by (try simp only [List.map_toArray, List.map_cons, List.map_nil]); first | done | rfl) ?_; (with_reducible refine (tcp_Build.calls k a0_1 a0_2 a0_3 a0_4 a0_5 (fun k_ => ((P1_ k_ ∨ w.heap.size ≤ k_) ∧ k_ ≠ gb900)) _ _ l1 t1082 t1085 _ ?side919 A4.out).mono ?_); (case side919 => exact HO1.out); rintro e w920 ⟨v921, rfl, ho922, hb⟩; refine ⟨_, rfl, ?_⟩; replace HO1 := aS (Kd.V_below (tV HO1.out) hb); have HO923 := aS (Kd.V_lower (Kd.V_mono (ok' := fun k_ => (P1_ k_ ∨ w.heap.size ≤ k_) ∧ k_ ≠ gb900) ho922 (fun k_ hk_ => ⟨Or.elim hk_ (fun hs_ => hs_.1) (fun hn_ => (.inr (Nat.le_trans (below_size (tB HB.out)) hn_))), Or.elim hk_ (fun hs_ => hs_.2) (fun hn_ => (Kd.freshB (g := gb900) (o := .cells #[.int .u8 a0_0, .int .u32 a0_1, .int .u32 a0_2, .int .u16 a0_3, .int .u16 a0_4, .int .u8 a0_5, .int .u8 a0_6] 72 (0, 0)) (tk BK902.out) k_ hn_))⟩)) (below_size (tB HB.out))); replace BK902 := aS (blk_below (g := gb900) (o := .cells #[.int .u8 a0_0, .int .u32 a0_1, .int .u32 a0_2, .int .u16 a0_3, .int .u16 a0_4, .int .u8 a0_5, .int .u8 a0_6] 72 (0, 0)) (tk BK902.out) hb); replace HB := aS (below_step (tB HB.out) hb); (try clear hb); (try clear hb2); (try clear hk); (try clear hi); (try clear ho922)))
  go_ret2
  exact ⟨_, by first | rfl | (simp [errW_none, errW_some] <;> rfl) | (simp [*, errW_none, errW_some] <;> rfl), by (with_reducible repeat apply mV); exact Kd.V_mono HO923.out (fun _ hk => hk.1), tB HB.out⟩
 ·rw [if_neg c3] at H
  have c3b0 : (a0_0 == 6) = false := beq_eq_false_iff_ne.mpr c3
  have c3b1 : (a0_0 != 6) = true := bne_iff_ne.mpr c3
  by_cases c8 : a0_0 = 17
  ·rw [if_pos c8] at H
   have c8b0 : (a0_0 == 17) = true := beq_iff_eq.mpr c8
   have c8b1 : (a0_0 != 17) = false := bne_eq_false_iff_eq.mpr c8
   clear c8
   replace H := Option.bind_eq_some_iff.mp H
   obtain ⟨⟨t1086, t1089⟩, A90, H⟩ := H
   try dsimp -simprocs only at H
   have A9 := aS A90
   clear A90
   simp only [Option.some.injEq, Prod.mk.injEq] at H
   obtain ⟨rfl, rfl⟩ := H
   go_wp2_with (first | ((with_reducible refine gate_callee (f := 44) rfl ?_); refine goesL_ (some 35) rfl rfl Try.func44 (by kernel_rfl) rfl #[.int .u32 a0_1, .int .u32 a0_2, .int .u16 a0_3, .int .u16 a0_4, .slice A1 l1.length c1] rfl (by (try simp only [List.map_toArray, List.map_cons, List.map_nil]); first | done | rfl) ?_; (with_reducible refine (udp_Build.calls k a0_1 a0_2 a0_3 a0_4 (fun k_ => ((P1_ k_ ∨ w.heap.size ≤ k_) ∧ k_ ≠ gb900)) _ _ l1 t1086 t1089 _ ?side919 A9.out).mono ?_); (case side919 => exact HO1.out); rintro e w920 ⟨v921, rfl, ho922, hb⟩; refine ⟨_, rfl, ?_⟩; replace HO1 := aS (Kd.V_below (tV HO1.out) hb); have HO923 := aS (Kd.V_lower (Kd.V_mono (ok' := fun k_ => (P1_ k_ ∨ w.heap.size ≤ k_) ∧ k_ ≠ gb900) ho922 (fun k_ hk_ => ⟨Or.elim hk_ (fun hs_ => hs_.1) (fun hn_ => (.inr (Nat.le_trans (below_size (tB HB.out)) hn_))), Or.elim hk_ (fun hs_ => hs_.2) (fun hn_ => (Kd.freshB (g := gb900) (o := .cells #[.int .u8 a0_0, .int .u32 a0_1, .int .u32 a0_2, .int .u16 a0_3, .int .u16 a0_4, .int .u8 a0_5, .int .u8 a0_6] 72 (0, 0)) (tk BK902.out) k_ hn_))⟩)) (below_size (tB HB.out))); replace BK902 := aS (blk_below (g := gb900) (o := .cells #[.int .u8 a0_0, .int .u32 a0_1, .int .u32 a0_2, .int .u16 a0_3, .int .u16 a0_4, .int .u8 a0_5, .int .u8 a0_6] 72 (0, 0)) (tk BK902.out) hb); replace HB := aS (below_step (tB HB.out) hb); (try clear hb); (try clear hb2); (try clear hk); (try clear hi); (try clear ho922)))
   go_ret2
   exact ⟨_, by first | rfl | (simp [errW_none, errW_some] <;> rfl) | (simp [*, errW_none, errW_some] <;> rfl), by (with_reducible repeat apply mV); exact Kd.V_mono HO923.out (fun _ hk => hk.1), tB HB.out⟩
  ·rw [if_neg c8] at H
   have c8b0 : (a0_0 == 17) = false := beq_eq_false_iff_ne.mpr c8
   have c8b1 : (a0_0 != 17) = true := bne_iff_ne.mpr c8
   replace H := Option.bind_eq_some_iff.mp H
   obtain ⟨⟨t1090, t1093⟩, A130, H⟩ := H
   try dsimp -simprocs only at H
   have A13 := aS A130
   clear A130
   simp only [Option.some.injEq, Prod.mk.injEq] at H
   obtain ⟨rfl, rfl⟩ := H
   go_wp2_with (first | ((with_reducible refine gate_callee (f := 28) rfl ?_); refine goesL_ (some 43) rfl rfl Try.func28 (by kernel_rfl) rfl #[.int .u8 a0_6, .int .u16 a0_3, .slice A1 l1.length c1] rfl (by (try simp only [List.map_toArray, List.map_cons, List.map_nil]); first | done | rfl) ?_; (with_reducible refine (icmp_Build.calls k a0_6 a0_3 (fun k_ => ((P1_ k_ ∨ w.heap.size ≤ k_) ∧ k_ ≠ gb900)) _ _ l1 t1090 t1093 _ ?side919 A13.out).mono ?_); (case side919 => exact HO1.out); rintro e w920 ⟨v921, rfl, ho922, hb⟩; refine ⟨_, rfl, ?_⟩; replace HO1 := aS (Kd.V_below (tV HO1.out) hb); have HO923 := aS (Kd.V_lower (Kd.V_mono (ok' := fun k_ => (P1_ k_ ∨ w.heap.size ≤ k_) ∧ k_ ≠ gb900) ho922 (fun k_ hk_ => ⟨Or.elim hk_ (fun hs_ => hs_.1) (fun hn_ => (.inr (Nat.le_trans (below_size (tB HB.out)) hn_))), Or.elim hk_ (fun hs_ => hs_.2) (fun hn_ => (Kd.freshB (g := gb900) (o := .cells #[.int .u8 a0_0, .int .u32 a0_1, .int .u32 a0_2, .int .u16 a0_3, .int .u16 a0_4, .int .u8 a0_5, .int .u8 a0_6] 72 (0, 0)) (tk BK902.out) k_ hn_))⟩)) (below_size (tB HB.out))); replace BK902 := aS (blk_below (g := gb900) (o := .cells #[.int .u8 a0_0, .int .u32 a0_1, .int .u32 a0_2, .int .u16 a0_3, .int .u16 a0_4, .int .u8 a0_5, .int .u8 a0_6] 72 (0, 0)) (tk BK902.out) hb); replace HB := aS (below_step (tB HB.out) hb); (try clear hb); (try clear hb2); (try clear hk); (try clear hi); (try clear ho922)))
   go_ret2
   exact ⟨_, by first | rfl | (simp [errW_none, errW_some] <;> rfl) | (simp [*, errW_none, errW_some] <;> rfl), by (with_reducible repeat apply mV); exact Kd.V_mono HO923.out (fun _ hk => hk.1), tB HB.out⟩

end Go.Proofs.Ytofjgdbiieanjaa.All
