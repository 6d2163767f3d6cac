-- Made by a program of this workplace (wip/pr.sh) out of Lean's print of the translation; Lean checks it.
import Derived.Test.YtofjgdbiieanjaaAllx0
namespace Go.Proofs.Ytofjgdbiieanjaa.All
open Go.Proofs.Ytofjgdbiieanjaa.Ext
open Go.RowKit Go.Proofs.YtofjgdbiieanjaaW.PrintWords Go.Proofs.YtofjgdbiieanjaaW.PrintLast Go.Proofs.YtofjgdbiieanjaaW.PrintMore
attribute [local go_sem] max2_int min2_int max_two min_two max_three min_three max_four min_four   -- for this text's walks alone
set_option linter.unusedVariables false
set_option linter.unusedSimpArgs false

/-! ### mantletref09_Good: function 61 -/
def mantletref09_Good.f (a0_0 : Int) (a0_1 : Int) (a0_2 : Int) (a0_3 : Int) (a0_4 : Int) (a0_5 : Int) (a0_6 : Int) : Option (Bool) := if a0_0 = 6 then (if a0_6 = 0 then (if a0_5 < 64 then ((mantletref05_Sane.f a0_5).bind fun t1110 => (some t1110)) else (some false)) else (some false)) else (if a0_5 = 0 then (if a0_0 = 17 then (some (a0_6 == 0)) else (if a0_0 = 1 then (if a0_3 = a0_4 then (if a0_6 = 0 then (some true) else (some (a0_6 == 8))) else (some false)) else (some false))) else (some false))
set_option maxHeartbeats 8000000 in
set_option maxRecDepth 100000 in
theorem mantletref09_Good.calls (a0_0 : Int) (a0_1 : Int) (a0_2 : Int) (a0_3 : Int) (a0_4 : Int) (a0_5 : Int) (a0_6 : Int) (r : Bool) (w : World) (h : mantletref09_Good.f a0_0 a0_1 a0_2 a0_3 a0_4 a0_5 a0_6 = some r) :
    Calls Try.prog 61 #[.agg #[.int .u8 a0_0, .int .u32 a0_1, .int .u32 a0_2, .int .u16 a0_3, .int .u16 a0_4, .int .u8 a0_5, .int .u8 a0_6]] w fun e w' => e = .returned (.bool r) ∧ Below w.heap.size w w' := by
 have hu72 := Try.underlying72
 have HB := aS (Below.refl w.heap.size w)
 have H := h
 unfold mantletref09_Good.f at H
 clear h
 by_cases c2 : a0_0 = 6
 ·rw [if_pos c2] at H
  have c2b0 : (a0_0 == 6) = true := beq_iff_eq.mpr c2
  have c2b1 : (a0_0 != 6) = false := bne_eq_false_iff_eq.mpr c2
  clear c2
  by_cases c3 : a0_6 = 0
  ·rw [if_pos c3] at H
   have c3b0 : (a0_6 == 0) = true := beq_iff_eq.mpr c3
   have c3b1 : (a0_6 != 0) = false := bne_eq_false_iff_eq.mpr c3
   clear c3
   by_cases c4 : a0_5 < 64
   ·rw [if_pos c4] at H
    have c4b0 : decide (a0_5 < 64) = true := decide_eq_true c4
    clear c4
    replace H := Option.bind_eq_some_iff.mp H
    obtain ⟨t1110, A50, H⟩ := H
    try dsimp -simprocs only at H
    have A5 := aS A50
    clear A50
    obtain rfl := Option.some.inj H
    go_enter Try.func61, Try.ntmps61
    go_wp2_with (first | ((with_reducible refine gate_dst (N := 1) rfl ?_); refine box_event ?hg (N := 1) ?hd (cs := #[.int .u8 a0_0, .int .u32 a0_1, .int .u32 a0_2, .int .u16 a0_3, .int .u16 a0_4, .int .u8 a0_5, .int .u8 a0_6]) (t := 72) ?hr ?_; (case hd => rfl); (case hg => rfl); (case hr => first | (go_simp; done) | (go_simp; rfl)); intro gb1109 hg w6 hbox hb; have BK1109 := aS (hbox); have GW1109 := aS ((by rw [hg]; exact (below_size (tB HB.out)) : w.heap.size ≤ gb1109)); have GE1109 := aS ((by rw [hg]; exact (below_size (tB HB.out)) : w.heap.size ≤ gb1109)); replace HB := aS (below_step (tB HB.out) hb); clear hb hbox hg; have hcz7_0 : w6.cell? ⟨gb1109, 0, none⟩ = some (.int .u8 a0_0) := (blk_cell BK1109.out 0).trans rfl; have hcz7_1 : w6.cell? ⟨gb1109, 1, none⟩ = some (.int .u32 a0_1) := (blk_cell BK1109.out 1).trans rfl; have hcz7_2 : w6.cell? ⟨gb1109, 2, none⟩ = some (.int .u32 a0_2) := (blk_cell BK1109.out 2).trans rfl; have hcz7_3 : w6.cell? ⟨gb1109, 3, none⟩ = some (.int .u16 a0_3) := (blk_cell BK1109.out 3).trans rfl; have hcz7_4 : w6.cell? ⟨gb1109, 4, none⟩ = some (.int .u16 a0_4) := (blk_cell BK1109.out 4).trans rfl; have hcz7_5 : w6.cell? ⟨gb1109, 5, none⟩ = some (.int .u8 a0_5) := (blk_cell BK1109.out 5).trans rfl; have hcz7_6 : w6.cell? ⟨gb1109, 6, none⟩ = some (.int .u8 a0_6) := (blk_cell BK1109.out 6).trans rfl; have hfz7_0 := blk_frozen BK1109.out 0; have hfz7_1 := blk_frozen BK1109.out 1; have hfz7_2 := blk_frozen BK1109.out 2; have hfz7_3 := blk_frozen BK1109.out 3; have hfz7_4 := blk_frozen BK1109.out 4; have hfz7_5 := blk_frozen BK1109.out 5; have hfz7_6 := blk_frozen BK1109.out 6) | ((with_reducible refine gate_dst (N := 17) rfl ?_); refine gate_guard (by first | rfl | (go_simp; done)) ?_; dsimp only; (with_reducible refine gate_callee (f := 37) rfl ?_); refine goesL_ (some 17) rfl rfl Try.func37 (by kernel_rfl) rfl #[.int .u8 a0_5] rfl (by (try simp only [List.map_toArray, List.map_cons, List.map_nil]); first | done | rfl) ?_; (with_reducible refine (mantletref05_Sane.calls a0_5 t1110 _ A5.out).mono ?_); rintro e w' ⟨rfl, ⟨nd, rfl⟩⟩; refine ⟨_, rfl, ?_⟩))
    go_ret
    exact ⟨by first | rfl | (simp [errW_none, errW_some] <;> rfl) | (simp [*, errW_none, errW_some] <;> rfl), tB HB.out⟩
   ·rw [if_neg c4] at H
    have c4b0 : decide (a0_5 < 64) = false := decide_eq_false c4
    clear c4
    obtain rfl := Option.some.inj H
    go_enter Try.func61, Try.ntmps61
    go_wp2_with (first | ((with_reducible refine gate_dst (N := 1) rfl ?_); refine box_event ?hg (N := 1) ?hd (cs := #[.int .u8 a0_0, .int .u32 a0_1, .int .u32 a0_2, .int .u16 a0_3, .int .u16 a0_4, .int .u8 a0_5, .int .u8 a0_6]) (t := 72) ?hr ?_; (case hd => rfl); (case hg => rfl); (case hr => first | (go_simp; done) | (go_simp; rfl)); intro gb1109 hg w8 hbox hb; have BK1109 := aS (hbox); have GW1109 := aS ((by rw [hg]; exact (below_size (tB HB.out)) : w.heap.size ≤ gb1109)); have GE1109 := aS ((by rw [hg]; exact (below_size (tB HB.out)) : w.heap.size ≤ gb1109)); replace HB := aS (below_step (tB HB.out) hb); clear hb hbox hg; have hcz9_0 : w8.cell? ⟨gb1109, 0, none⟩ = some (.int .u8 a0_0) := (blk_cell BK1109.out 0).trans rfl; have hcz9_1 : w8.cell? ⟨gb1109, 1, none⟩ = some (.int .u32 a0_1) := (blk_cell BK1109.out 1).trans rfl; have hcz9_2 : w8.cell? ⟨gb1109, 2, none⟩ = some (.int .u32 a0_2) := (blk_cell BK1109.out 2).trans rfl; have hcz9_3 : w8.cell? ⟨gb1109, 3, none⟩ = some (.int .u16 a0_3) := (blk_cell BK1109.out 3).trans rfl; have hcz9_4 : w8.cell? ⟨gb1109, 4, none⟩ = some (.int .u16 a0_4) := (blk_cell BK1109.out 4).trans rfl; have hcz9_5 : w8.cell? ⟨gb1109, 5, none⟩ = some (.int .u8 a0_5) := (blk_cell BK1109.out 5).trans rfl; have hcz9_6 : w8.cell? ⟨gb1109, 6, none⟩ = some (.int .u8 a0_6) := (blk_cell BK1109.out 6).trans rfl; have hfz9_0 := blk_frozen BK1109.out 0; have hfz9_1 := blk_frozen BK1109.out 1; have hfz9_2 := blk_frozen BK1109.out 2; have hfz9_3 := blk_frozen BK1109.out 3; have hfz9_4 := blk_frozen BK1109.out 4; have hfz9_5 := blk_frozen BK1109.out 5; have hfz9_6 := blk_frozen BK1109.out 6))
    go_ret
    exact ⟨by first | rfl | (simp [errW_none, errW_some] <;> rfl) | (simp [*, errW_none, errW_some] <;> rfl), tB HB.out⟩
  ·rw [if_neg c3] at H
   have c3b0 : (a0_6 == 0) = false := beq_eq_false_iff_ne.mpr c3
   have c3b1 : (a0_6 != 0) = true := bne_iff_ne.mpr c3
   obtain rfl := Option.some.inj H
   go_enter Try.func61, Try.ntmps61
   go_wp2_with (first | ((with_reducible refine gate_dst (N := 1) rfl ?_); refine box_event ?hg (N := 1) ?hd (cs := #[.int .u8 a0_0, .int .u32 a0_1, .int .u32 a0_2, .int .u16 a0_3, .int .u16 a0_4, .int .u8 a0_5, .int .u8 a0_6]) (t := 72) ?hr ?_; (case hd => rfl); (case hg => rfl); (case hr => first | (go_simp; done) | (go_simp; rfl)); intro gb1109 hg w10 hbox hb; have BK1109 := aS (hbox); have GW1109 := aS ((by rw [hg]; exact (below_size (tB HB.out)) : w.heap.size ≤ gb1109)); have GE1109 := aS ((by rw [hg]; exact (below_size (tB HB.out)) : w.heap.size ≤ gb1109)); replace HB := aS (below_step (tB HB.out) hb); clear hb hbox hg; have hcz11_0 : w10.cell? ⟨gb1109, 0, none⟩ = some (.int .u8 a0_0) := (blk_cell BK1109.out 0).trans rfl; have hcz11_1 : w10.cell? ⟨gb1109, 1, none⟩ = some (.int .u32 a0_1) := (blk_cell BK1109.out 1).trans rfl; have hcz11_2 : w10.cell? ⟨gb1109, 2, none⟩ = some (.int .u32 a0_2) := (blk_cell BK1109.out 2).trans rfl; have hcz11_3 : w10.cell? ⟨gb1109, 3, none⟩ = some (.int .u16 a0_3) := (blk_cell BK1109.out 3).trans rfl; have hcz11_4 : w10.cell? ⟨gb1109, 4, none⟩ = some (.int .u16 a0_4) := (blk_cell BK1109.out 4).trans rfl; have hcz11_5 : w10.cell? ⟨gb1109, 5, none⟩ = some (.int .u8 a0_5) := (blk_cell BK1109.out 5).trans rfl; have hcz11_6 : w10.cell? ⟨gb1109, 6, none⟩ = some (.int .u8 a0_6) := (blk_cell BK1109.out 6).trans rfl; have hfz11_0 := blk_frozen BK1109.out 0; have hfz11_1 := blk_frozen BK1109.out 1; have hfz11_2 := blk_frozen BK1109.out 2; have hfz11_3 := blk_frozen BK1109.out 3; have hfz11_4 := blk_frozen BK1109.out 4; have hfz11_5 := blk_frozen BK1109.out 5; have hfz11_6 := blk_frozen BK1109.out 6))
   go_ret
   exact ⟨by first | rfl | (simp [errW_none, errW_some] <;> rfl) | (simp [*, errW_none, errW_some] <;> rfl), tB HB.out⟩
 ·rw [if_neg c2] at H
  have c2b0 : (a0_0 == 6) = false := beq_eq_false_iff_ne.mpr c2
  have c2b1 : (a0_0 != 6) = true := bne_iff_ne.mpr c2
  by_cases c12 : a0_5 = 0
  ·rw [if_pos c12] at H
   have c12b0 : (a0_5 == 0) = true := beq_iff_eq.mpr c12
   have c12b1 : (a0_5 != 0) = false := bne_eq_false_iff_eq.mpr c12
   clear c12
   by_cases c13 : a0_0 = 17
   ·rw [if_pos c13] at H
    have c13b0 : (a0_0 == 17) = true := beq_iff_eq.mpr c13
    have c13b1 : (a0_0 != 17) = false := bne_eq_false_iff_eq.mpr c13
    clear c13
    obtain rfl := Option.some.inj H
    go_enter Try.func61, Try.ntmps61
    go_wp2_with (first | ((with_reducible refine gate_dst (N := 1) rfl ?_); refine box_event ?hg (N := 1) ?hd (cs := #[.int .u8 a0_0, .int .u32 a0_1, .int .u32 a0_2, .int .u16 a0_3, .int .u16 a0_4, .int .u8 a0_5, .int .u8 a0_6]) (t := 72) ?hr ?_; (case hd => rfl); (case hg => rfl); (case hr => first | (go_simp; done) | (go_simp; rfl)); intro gb1109 hg w14 hbox hb; have BK1109 := aS (hbox); have GW1109 := aS ((by rw [hg]; exact (below_size (tB HB.out)) : w.heap.size ≤ gb1109)); have GE1109 := aS ((by rw [hg]; exact (below_size (tB HB.out)) : w.heap.size ≤ gb1109)); replace HB := aS (below_step (tB HB.out) hb); clear hb hbox hg; have hcz15_0 : w14.cell? ⟨gb1109, 0, none⟩ = some (.int .u8 a0_0) := (blk_cell BK1109.out 0).trans rfl; have hcz15_1 : w14.cell? ⟨gb1109, 1, none⟩ = some (.int .u32 a0_1) := (blk_cell BK1109.out 1).trans rfl; have hcz15_2 : w14.cell? ⟨gb1109, 2, none⟩ = some (.int .u32 a0_2) := (blk_cell BK1109.out 2).trans rfl; have hcz15_3 : w14.cell? ⟨gb1109, 3, none⟩ = some (.int .u16 a0_3) := (blk_cell BK1109.out 3).trans rfl; have hcz15_4 : w14.cell? ⟨gb1109, 4, none⟩ = some (.int .u16 a0_4) := (blk_cell BK1109.out 4).trans rfl; have hcz15_5 : w14.cell? ⟨gb1109, 5, none⟩ = some (.int .u8 a0_5) := (blk_cell BK1109.out 5).trans rfl; have hcz15_6 : w14.cell? ⟨gb1109, 6, none⟩ = some (.int .u8 a0_6) := (blk_cell BK1109.out 6).trans rfl; have hfz15_0 := blk_frozen BK1109.out 0; have hfz15_1 := blk_frozen BK1109.out 1; have hfz15_2 := blk_frozen BK1109.out 2; have hfz15_3 := blk_frozen BK1109.out 3; have hfz15_4 := blk_frozen BK1109.out 4; have hfz15_5 := blk_frozen BK1109.out 5; have hfz15_6 := blk_frozen BK1109.out 6))
    go_ret
    exact ⟨by first | rfl | (simp [errW_none, errW_some] <;> rfl) | (simp [*, errW_none, errW_some] <;> rfl), tB HB.out⟩
   ·rw [if_neg c13] at H
    have c13b0 : (a0_0 == 17) = false := beq_eq_false_iff_ne.mpr c13
    have c13b1 : (a0_0 != 17) = true := bne_iff_ne.mpr c13
    by_cases c16 : a0_0 = 1
    ·rw [if_pos c16] at H
     have c16b0 : (a0_0 == 1) = true := beq_iff_eq.mpr c16
     have c16b1 : (a0_0 != 1) = false := bne_eq_false_iff_eq.mpr c16
     clear c16
     by_cases c17 : a0_3 = a0_4
     ·rw [if_pos c17] at H
      have c17b0 : (a0_3 == a0_4) = true := beq_iff_eq.mpr c17
      have c17b1 : (a0_3 != a0_4) = false := bne_eq_false_iff_eq.mpr c17
      clear c17
      by_cases c18 : a0_6 = 0
      ·rw [if_pos c18] at H
       have c18b0 : (a0_6 == 0) = true := beq_iff_eq.mpr c18
       have c18b1 : (a0_6 != 0) = false := bne_eq_false_iff_eq.mpr c18
       clear c18
       obtain rfl := Option.some.inj H
       go_enter Try.func61, Try.ntmps61
       go_wp2_with (first | ((with_reducible refine gate_dst (N := 1) rfl ?_); refine box_event ?hg (N := 1) ?hd (cs := #[.int .u8 a0_0, .int .u32 a0_1, .int .u32 a0_2, .int .u16 a0_3, .int .u16 a0_4, .int .u8 a0_5, .int .u8 a0_6]) (t := 72) ?hr ?_; (case hd => rfl); (case hg => rfl); (case hr => first | (go_simp; done) | (go_simp; rfl)); intro gb1109 hg w19 hbox hb; have BK1109 := aS (hbox); have GW1109 := aS ((by rw [hg]; exact (below_size (tB HB.out)) : w.heap.size ≤ gb1109)); have GE1109 := aS ((by rw [hg]; exact (below_size (tB HB.out)) : w.heap.size ≤ gb1109)); replace HB := aS (below_step (tB HB.out) hb); clear hb hbox hg; have hcz20_0 : w19.cell? ⟨gb1109, 0, none⟩ = some (.int .u8 a0_0) := (blk_cell BK1109.out 0).trans rfl; have hcz20_1 : w19.cell? ⟨gb1109, 1, none⟩ = some (.int .u32 a0_1) := (blk_cell BK1109.out 1).trans rfl; have hcz20_2 : w19.cell? ⟨gb1109, 2, none⟩ = some (.int .u32 a0_2) := (blk_cell BK1109.out 2).trans rfl; have hcz20_3 : w19.cell? ⟨gb1109, 3, none⟩ = some (.int .u16 a0_3) := (blk_cell BK1109.out 3).trans rfl; have hcz20_4 : w19.cell? ⟨gb1109, 4, none⟩ = some (.int .u16 a0_4) := (blk_cell BK1109.out 4).trans rfl; have hcz20_5 : w19.cell? ⟨gb1109, 5, none⟩ = some (.int .u8 a0_5) := (blk_cell BK1109.out 5).trans rfl; have hcz20_6 : w19.cell? ⟨gb1109, 6, none⟩ = some (.int .u8 a0_6) := (blk_cell BK1109.out 6).trans rfl; have hfz20_0 := blk_frozen BK1109.out 0; have hfz20_1 := blk_frozen BK1109.out 1; have hfz20_2 := blk_frozen BK1109.out 2; have hfz20_3 := blk_frozen BK1109.out 3; have hfz20_4 := blk_frozen BK1109.out 4; have hfz20_5 := blk_frozen BK1109.out 5; have hfz20_6 := blk_frozen BK1109.out 6))
       go_ret
       exact ⟨by first | rfl | (simp [errW_none, errW_some] <;> rfl) | (simp [*, errW_none, errW_some] <;> rfl), tB HB.out⟩
      ·rw [if_neg c18] at H
       have c18b0 : (a0_6 == 0) = false := beq_eq_false_iff_ne.mpr c18
       have c18b1 : (a0_6 != 0) = true := bne_iff_ne.mpr c18
       obtain rfl := Option.some.inj H
       go_enter Try.func61, Try.ntmps61
       go_wp2_with (first | ((with_reducible refine gate_dst (N := 1) rfl ?_); refine box_event ?hg (N := 1) ?hd (cs := #[.int .u8 a0_0, .int .u32 a0_1, .int .u32 a0_2, .int .u16 a0_3, .int .u16 a0_4, .int .u8 a0_5, .int .u8 a0_6]) (t := 72) ?hr ?_; (case hd => rfl); (case hg => rfl); (case hr => first | (go_simp; done) | (go_simp; rfl)); intro gb1109 hg w21 hbox hb; have BK1109 := aS (hbox); have GW1109 := aS ((by rw [hg]; exact (below_size (tB HB.out)) : w.heap.size ≤ gb1109)); have GE1109 := aS ((by rw [hg]; exact (below_size (tB HB.out)) : w.heap.size ≤ gb1109)); replace HB := aS (below_step (tB HB.out) hb); clear hb hbox hg; have hcz22_0 : w21.cell? ⟨gb1109, 0, none⟩ = some (.int .u8 a0_0) := (blk_cell BK1109.out 0).trans rfl; have hcz22_1 : w21.cell? ⟨gb1109, 1, none⟩ = some (.int .u32 a0_1) := (blk_cell BK1109.out 1).trans rfl; have hcz22_2 : w21.cell? ⟨gb1109, 2, none⟩ = some (.int .u32 a0_2) := (blk_cell BK1109.out 2).trans rfl; have hcz22_3 : w21.cell? ⟨gb1109, 3, none⟩ = some (.int .u16 a0_3) := (blk_cell BK1109.out 3).trans rfl; have hcz22_4 : w21.cell? ⟨gb1109, 4, none⟩ = some (.int .u16 a0_4) := (blk_cell BK1109.out 4).trans rfl; have hcz22_5 : w21.cell? ⟨gb1109, 5, none⟩ = some (.int .u8 a0_5) := (blk_cell BK1109.out 5).trans rfl; have hcz22_6 : w21.cell? ⟨gb1109, 6, none⟩ = some (.int .u8 a0_6) := (blk_cell BK1109.out 6).trans rfl; have hfz22_0 := blk_frozen BK1109.out 0; have hfz22_1 := blk_frozen BK1109.out 1; have hfz22_2 := blk_frozen BK1109.out 2; have hfz22_3 := blk_frozen BK1109.out 3; have hfz22_4 := blk_frozen BK1109.out 4; have hfz22_5 := blk_frozen BK1109.out 5; have hfz22_6 := blk_frozen BK1109.out 6))
       go_ret
       exact ⟨by first | rfl | (simp [errW_none, errW_some] <;> rfl) | (simp [*, errW_none, errW_some] <;> rfl), tB HB.out⟩
     ·rw [if_neg c17] at H
      have c17b0 : (a0_3 == a0_4) = false := beq_eq_false_iff_ne.mpr c17
      have c17b1 : (a0_3 != a0_4) = true := bne_iff_ne.mpr c17
      obtain rfl := Option.some.inj H
      go_enter Try.func61, Try.ntmps61
      go_wp2_with (first | ((with_reducible refine gate_dst (N := 1) rfl ?_); refine box_event ?hg (N := 1) ?hd (cs := #[.int .u8 a0_0, .int .u32 a0_1, .int .u32 a0_2, .int .u16 a0_3, .int .u16 a0_4, .int .u8 a0_5, .int .u8 a0_6]) (t := 72) ?hr ?_; (case hd => rfl); (case hg => rfl); (case hr => first | (go_simp; done) | (go_simp; rfl)); intro gb1109 hg w23 hbox hb; have BK1109 := aS (hbox); have GW1109 := aS ((by rw [hg]; exact (below_size (tB HB.out)) : w.heap.size ≤ gb1109)); have GE1109 := aS ((by rw [hg]; exact (below_size (tB HB.out)) : w.heap.size ≤ gb1109)); replace HB := aS (below_step (tB HB.out) hb); clear hb hbox hg; have hcz24_0 : w23.cell? ⟨gb1109, 0, none⟩ = some (.int .u8 a0_0) := (blk_cell BK1109.out 0).trans rfl; have hcz24_1 : w23.cell? ⟨gb1109, 1, none⟩ = some (.int .u32 a0_1) := (blk_cell BK1109.out 1).trans rfl; have hcz24_2 : w23.cell? ⟨gb1109, 2, none⟩ = some (.int .u32 a0_2) := (blk_cell BK1109.out 2).trans rfl; have hcz24_3 : w23.cell? ⟨gb1109, 3, none⟩ = some (.int .u16 a0_3) := (blk_cell BK1109.out 3).trans rfl; have hcz24_4 : w23.cell? ⟨gb1109, 4, none⟩ = some (.int .u16 a0_4) := (blk_cell BK1109.out 4).trans rfl; have hcz24_5 : w23.cell? ⟨gb1109, 5, none⟩ = some (.int .u8 a0_5) := (blk_cell BK1109.out 5).trans rfl; have hcz24_6 : w23.cell? ⟨gb1109, 6, none⟩ = some (.int .u8 a0_6) := (blk_cell BK1109.out 6).trans rfl; have hfz24_0 := blk_frozen BK1109.out 0; have hfz24_1 := blk_frozen BK1109.out 1; have hfz24_2 := blk_frozen BK1109.out 2; have hfz24_3 := blk_frozen BK1109.out 3; have hfz24_4 := blk_frozen BK1109.out 4; have hfz24_5 := blk_frozen BK1109.out 5; have hfz24_6 := blk_frozen BK1109.out 6))
      go_ret
      exact ⟨by first | rfl | (simp [errW_none, errW_some] <;> rfl) | (simp [*, errW_none, errW_some] <;> rfl), tB HB.out⟩
    ·rw [if_neg c16] at H
     have c16b0 : (a0_0 == 1) = false := beq_eq_false_iff_ne.mpr c16
     have c16b1 : (a0_0 != 1) = true := bne_iff_ne.mpr c16
     obtain rfl := Option.some.inj H
     go_enter Try.func61, Try.ntmps61
     go_wp2_with (first | ((with_reducible refine gate_dst (N := 1) rfl ?_); refine box_event ?hg (N := 1) ?hd (cs := #[.int .u8 a0_0, .int .u32 a0_1, .int .u32 a0_2, .int .u16 a0_3, .int .u16 a0_4, .int .u8 a0_5, .int .u8 a0_6]) (t := 72) ?hr ?_; (case hd => rfl); (case hg => rfl); (case hr => first | (go_simp; done) | (go_simp; rfl)); intro gb1109 hg w25 hbox hb; have BK1109 := aS (hbox); have GW1109 := aS ((by rw [hg]; exact (below_size (tB HB.out)) : w.heap.size ≤ gb1109)); have GE1109 := aS ((by rw [hg]; exact (below_size (tB HB.out)) : w.heap.size ≤ gb1109)); replace HB := aS (below_step (tB HB.out) hb); clear hb hbox hg; have hcz26_0 : w25.cell? ⟨gb1109, 0, none⟩ = some (.int .u8 a0_0) := (blk_cell BK1109.out 0).trans rfl; have hcz26_1 : w25.cell? ⟨gb1109, 1, none⟩ = some (.int .u32 a0_1) := (blk_cell BK1109.out 1).trans rfl; have hcz26_2 : w25.cell? ⟨gb1109, 2, none⟩ = some (.int .u32 a0_2) := (blk_cell BK1109.out 2).trans rfl; have hcz26_3 : w25.cell? ⟨gb1109, 3, none⟩ = some (.int .u16 a0_3) := (blk_cell BK1109.out 3).trans rfl; have hcz26_4 : w25.cell? ⟨gb1109, 4, none⟩ = some (.int .u16 a0_4) := (blk_cell BK1109.out 4).trans rfl; have hcz26_5 : w25.cell? ⟨gb1109, 5, none⟩ = some (.int .u8 a0_5) := (blk_cell BK1109.out 5).trans rfl; have hcz26_6 : w25.cell? ⟨gb1109, 6, none⟩ = some (.int .u8 a0_6) := (blk_cell BK1109.out 6).trans rfl; have hfz26_0 := blk_frozen BK1109.out 0; have hfz26_1 := blk_frozen BK1109.out 1; have hfz26_2 := blk_frozen BK1109.out 2; have hfz26_3 := blk_frozen BK1109.out 3; have hfz26_4 := blk_frozen BK1109.out 4; have hfz26_5 := blk_frozen BK1109.out 5; have hfz26_6 := blk_frozen BK1109.out 6))
     go_ret
     exact ⟨by first | rfl | (simp [errW_none, errW_some] <;> rfl) | (simp [*, errW_none, errW_some] <;> rfl), tB HB.out⟩
  ·rw [if_neg c12] at H
   have c12b0 : (a0_5 == 0) = false := beq_eq_false_iff_ne.mpr c12
   have c12b1 : (a0_5 != 0) = true := bne_iff_ne.mpr c12
   obtain rfl := Option.some.inj H
   go_enter Try.func61, Try.ntmps61
   go_wp2_with (first | ((with_reducible refine gate_dst (N := 1) rfl ?_); refine box_event ?hg (N := 1) ?hd (cs := #[.int .u8 a0_0, .int .u32 a0_1, .int .u32 a0_2, .int .u16 a0_3, .int .u16 a0_4, .int .u8 a0_5, .int .u8 a0_6]) (t := 72) ?hr ?_; (case hd => rfl); (case hg => rfl); (case hr => first | (go_simp; done) | (go_simp; rfl)); intro gb1109 hg w27 hbox hb; have BK1109 := aS (hbox); have GW1109 := aS ((by rw [hg]; exact (below_size (tB HB.out)) : w.heap.size ≤ gb1109)); have GE1109 := aS ((by rw [hg]; exact (below_size (tB HB.out)) : w.heap.size ≤ gb1109)); replace HB := aS (below_step (tB HB.out) hb); clear hb hbox hg; have hcz28_0 : w27.cell? ⟨gb1109, 0, none⟩ = some (.int .u8 a0_0) := (blk_cell BK1109.out 0).trans rfl; have hcz28_1 : w27.cell? ⟨gb1109, 1, none⟩ = some (.int .u32 a0_1) := (blk_cell BK1109.out 1).trans rfl; have hcz28_2 : w27.cell? ⟨gb1109, 2, none⟩ = some (.int .u32 a0_2) := (blk_cell BK1109.out 2).trans rfl; have hcz28_3 : w27.cell? ⟨gb1109, 3, none⟩ = some (.int .u16 a0_3) := (blk_cell BK1109.out 3).trans rfl; have hcz28_4 : w27.cell? ⟨gb1109, 4, none⟩ = some (.int .u16 a0_4) := (blk_cell BK1109.out 4).trans rfl; have hcz28_5 : w27.cell? ⟨gb1109, 5, none⟩ = some (.int .u8 a0_5) := (blk_cell BK1109.out 5).trans rfl; have hcz28_6 : w27.cell? ⟨gb1109, 6, none⟩ = some (.int .u8 a0_6) := (blk_cell BK1109.out 6).trans rfl; have hfz28_0 := blk_frozen BK1109.out 0; have hfz28_1 := blk_frozen BK1109.out 1; have hfz28_2 := blk_frozen BK1109.out 2; have hfz28_3 := blk_frozen BK1109.out 3; have hfz28_4 := blk_frozen BK1109.out 4; have hfz28_5 := blk_frozen BK1109.out 5; have hfz28_6 := blk_frozen BK1109.out 6))
   go_ret
   exact ⟨by first | rfl | (simp [errW_none, errW_some] <;> rfl) | (simp [*, errW_none, errW_some] <;> rfl), tB HB.out⟩

end Go.Proofs.Ytofjgdbiieanjaa.All
