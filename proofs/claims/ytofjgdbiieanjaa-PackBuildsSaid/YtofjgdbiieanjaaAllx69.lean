-- Made by a program of this workplace (wip/pr.sh) out of Lean's print of the translation; Lean checks it.
import Derived.Test.YtofjgdbiieanjaaAllx0
import Derived.Test.YtofjgdbiieanjaaAllx49
namespace Go.Proofs.Ytofjgdbiieanjaa.All
open Go.Proofs.Ytofjgdbiieanjaa.Ext
open Go.RowKit Go.Proofs.YtofjgdbiieanjaaW.PrintWords Go.Proofs.YtofjgdbiieanjaaW.PrintLast Go.Proofs.YtofjgdbiieanjaaW.PrintMore
attribute [local go_sem] max2_int min2_int max_two min_two max_three min_three max_four min_four   -- for this text's walks alone
set_option linter.unusedVariables false
set_option linter.unusedSimpArgs false

/-! ### pack_Good: function 60 -/
def pack_Good.f (a0_0 : Int) (a0_1 : Int) (a0_2 : Int) (a0_3 : Int) (a0_4 : Int) (a0_5 : Int) (a0_6 : Int) : Option (Bool) := if a0_0 = 6 then ((tcp_Sane.f a0_5).bind fun t1080 => (if t1080 = true then (if a0_5 ≤ 63 then (some (a0_6 == 0)) else (some false)) else (some false))) else (if a0_0 = 17 then (if a0_5 = 0 then (some (a0_6 == 0)) else (some false)) else (if a0_0 = 1 then (if a0_5 = 0 then (if a0_6 = 8 then (some (a0_3 == a0_4)) else (if a0_6 = 0 then (some (a0_3 == a0_4)) else (some false))) else (some false)) else (some false)))
set_option maxHeartbeats 8000000 in
set_option maxRecDepth 100000 in
theorem pack_Good.calls (a0_0 : Int) (a0_1 : Int) (a0_2 : Int) (a0_3 : Int) (a0_4 : Int) (a0_5 : Int) (a0_6 : Int) (r : Bool) (w : World) (h : pack_Good.f a0_0 a0_1 a0_2 a0_3 a0_4 a0_5 a0_6 = some r) :
    Calls Try.prog 60 #[.agg #[.int .u8 a0_0, .int .u32 a0_1, .int .u32 a0_2, .int .u16 a0_3, .int .u16 a0_4, .int .u8 a0_5, .int .u8 a0_6]] w fun e w' => e = .returned (.bool r) ∧ Below w.heap.size w w' := by
 have hu72 := Try.underlying72
 have HB := aS (Below.refl w.heap.size w)
 have H := h
 unfold pack_Good.f at H
 clear h
 have HH_ := aS H
 clear H
 go_enter Try.func60, Try.ntmps60
 repeat (go_not_at_if 5; (fail_if_success (with_reducible refine gate_callee (f := 36) rfl ?_)); first | ((with_reducible refine gate_dst (N := 1) rfl ?_); refine box_event ?hg (N := 1) ?hd (cs := #[.int .u8 a0_0, .int .u32 a0_1, .int .u32 a0_2, .int .u16 a0_3, .int .u16 a0_4, .int .u8 a0_5, .int .u8 a0_6]) (t := 72) ?hr ?_; (case hd => rfl); (case hg => rfl); (case hr => first | (go_simp; done) | (go_simp; rfl)); intro gb900 hg w901 hbox hb; have BK902 := aS (hbox); have GW903 := aS ((by rw [hg]; exact (below_size (tB HB.out)) : w.heap.size ≤ gb900)); have GE904 := aS ((by rw [hg]; exact (below_size (tB HB.out)) : w.heap.size ≤ gb900)); replace HB := aS (below_step (tB HB.out) hb); clear hb hbox hg; have hcz905 : w901.cell? ⟨gb900, 0, none⟩ = some (.int .u8 a0_0) := (blk_cell BK902.out 0).trans rfl; have hcz906 : w901.cell? ⟨gb900, 1, none⟩ = some (.int .u32 a0_1) := (blk_cell BK902.out 1).trans rfl; have hcz907 : w901.cell? ⟨gb900, 2, none⟩ = some (.int .u32 a0_2) := (blk_cell BK902.out 2).trans rfl; have hcz908 : w901.cell? ⟨gb900, 3, none⟩ = some (.int .u16 a0_3) := (blk_cell BK902.out 3).trans rfl; have hcz909 : w901.cell? ⟨gb900, 4, none⟩ = some (.int .u16 a0_4) := (blk_cell BK902.out 4).trans rfl; have hcz910 : w901.cell? ⟨gb900, 5, none⟩ = some (.int .u8 a0_5) := (blk_cell BK902.out 5).trans rfl; have hcz911 : w901.cell? ⟨gb900, 6, none⟩ = some (.int .u8 a0_6) := (blk_cell BK902.out 6).trans rfl; have hfz912 := blk_frozen BK902.out 0; have hfz913 := blk_frozen BK902.out 1; have hfz914 := blk_frozen BK902.out 2; have hfz915 := blk_frozen BK902.out 3; have hfz916 := blk_frozen BK902.out 4; have hfz917 := blk_frozen BK902.out 5; have hfz918 := blk_frozen BK902.out 6) | go_values | go_skip | go_guarded | go_step | go_upon | go_back)
 have H := HH_.out
 clear HH_
 by_cases c2 : a0_0 = 6
 ·rw [if_pos c2] at H
  have c2b0 : (a0_0 == 6) = true := beq_iff_eq.mpr c2
  have c2b1 : (a0_0 != 6) = false := bne_eq_false_iff_eq.mpr c2
  clear c2
  replace H := Option.bind_eq_some_iff.mp H
  obtain ⟨t1080, A30, H⟩ := H
  try dsimp -simprocs only at H
  have A3 := aS A30
  clear A30
  by_cases c4 : t1080 = true
  ·subst c4
   rw [if_pos rfl] at H
   have H1 := H; clear H; have H := H1; clear H1
   by_cases c5 : a0_5 ≤ 63
   ·rw [if_pos c5] at H
    have c5b0 : decide (a0_5 ≤ 63) = true := decide_eq_true c5
    clear c5
    obtain rfl := Option.some.inj H
    go_wp2_with (first | ((with_reducible refine gate_callee (f := 36) rfl ?_); refine goesL_ (some 9) rfl rfl Try.func36 (by kernel_rfl) rfl #[.int .u8 a0_5] rfl (by (try simp only [List.map_toArray, List.map_cons, List.map_nil]); first | done | rfl) ?_; (with_reducible refine (tcp_Sane.calls a0_5 true _ A3.out).mono ?_); rintro e w' ⟨rfl, ⟨nd, rfl⟩⟩; refine ⟨_, rfl, ?_⟩))
    go_ret
    exact ⟨by first | rfl | (simp [errW_none, errW_some] <;> rfl) | (simp [*, errW_none, errW_some] <;> rfl), tB HB.out⟩
   ·rw [if_neg c5] at H
    have c5b0 : decide (a0_5 ≤ 63) = false := decide_eq_false c5
    clear c5
    obtain rfl := Option.some.inj H
    go_wp2_with (first | ((with_reducible refine gate_callee (f := 36) rfl ?_); refine goesL_ (some 9) rfl rfl Try.func36 (by kernel_rfl) rfl #[.int .u8 a0_5] rfl (by (try simp only [List.map_toArray, List.map_cons, List.map_nil]); first | done | rfl) ?_; (with_reducible refine (tcp_Sane.calls a0_5 true _ A3.out).mono ?_); rintro e w' ⟨rfl, ⟨nd, rfl⟩⟩; refine ⟨_, rfl, ?_⟩))
    go_ret
    exact ⟨by first | rfl | (simp [errW_none, errW_some] <;> rfl) | (simp [*, errW_none, errW_some] <;> rfl), tB HB.out⟩
  ·replace c4 := Bool.eq_false_iff.mpr c4
   subst c4
   rw [if_neg (show ¬ (false = true) by decide)] at H
   have H1 := H; clear H; have H := H1; clear H1
   obtain rfl := Option.some.inj H
   go_wp2_with (first | ((with_reducible refine gate_callee (f := 36) rfl ?_); refine goesL_ (some 9) rfl rfl Try.func36 (by kernel_rfl) rfl #[.int .u8 a0_5] rfl (by (try simp only [List.map_toArray, List.map_cons, List.map_nil]); first | done | rfl) ?_; (with_reducible refine (tcp_Sane.calls a0_5 false _ A3.out).mono ?_); rintro e w' ⟨rfl, ⟨nd, rfl⟩⟩; refine ⟨_, rfl, ?_⟩))
   go_ret
   exact ⟨by first | rfl | (simp [errW_none, errW_some] <;> rfl) | (simp [*, errW_none, errW_some] <;> rfl), tB HB.out⟩
 ·rw [if_neg c2] at H
  have c2b0 : (a0_0 == 6) = false := beq_eq_false_iff_ne.mpr c2
  have c2b1 : (a0_0 != 6) = true := bne_iff_ne.mpr c2
  by_cases c12 : a0_0 = 17
  ·rw [if_pos c12] at H
   have c12b0 : (a0_0 == 17) = true := beq_iff_eq.mpr c12
   have c12b1 : (a0_0 != 17) = false := bne_eq_false_iff_eq.mpr c12
   clear c12
   by_cases c13 : a0_5 = 0
   ·rw [if_pos c13] at H
    have c13b0 : (a0_5 == 0) = true := beq_iff_eq.mpr c13
    have c13b1 : (a0_5 != 0) = false := bne_eq_false_iff_eq.mpr c13
    clear c13
    obtain rfl := Option.some.inj H
    go_wp2_with (first | fail)
    go_ret
    exact ⟨by first | rfl | (simp [errW_none, errW_some] <;> rfl) | (simp [*, errW_none, errW_some] <;> rfl), tB HB.out⟩
   ·rw [if_neg c13] at H
    have c13b0 : (a0_5 == 0) = false := beq_eq_false_iff_ne.mpr c13
    have c13b1 : (a0_5 != 0) = true := bne_iff_ne.mpr c13
    obtain rfl := Option.some.inj H
    go_wp2_with (first | fail)
    go_ret
    exact ⟨by first | rfl | (simp [errW_none, errW_some] <;> rfl) | (simp [*, errW_none, errW_some] <;> rfl), tB HB.out⟩
  ·rw [if_neg c12] at H
   have c12b0 : (a0_0 == 17) = false := beq_eq_false_iff_ne.mpr c12
   have c12b1 : (a0_0 != 17) = true := bne_iff_ne.mpr c12
   by_cases c18 : a0_0 = 1
   ·rw [if_pos c18] at H
    have c18b0 : (a0_0 == 1) = true := beq_iff_eq.mpr c18
    have c18b1 : (a0_0 != 1) = false := bne_eq_false_iff_eq.mpr c18
    clear c18
    by_cases c19 : a0_5 = 0
    ·rw [if_pos c19] at H
     have c19b0 : (a0_5 == 0) = true := beq_iff_eq.mpr c19
     have c19b1 : (a0_5 != 0) = false := bne_eq_false_iff_eq.mpr c19
     clear c19
     by_cases c20 : a0_6 = 8
     ·rw [if_pos c20] at H
      have c20b0 : (a0_6 == 8) = true := beq_iff_eq.mpr c20
      have c20b1 : (a0_6 != 8) = false := bne_eq_false_iff_eq.mpr c20
      clear c20
      obtain rfl := Option.some.inj H
      go_wp2_with (first | fail)
      go_ret
      exact ⟨by first | rfl | (simp [errW_none, errW_some] <;> rfl) | (simp [*, errW_none, errW_some] <;> rfl), tB HB.out⟩
     ·rw [if_neg c20] at H
      have c20b0 : (a0_6 == 8) = false := beq_eq_false_iff_ne.mpr c20
      have c20b1 : (a0_6 != 8) = true := bne_iff_ne.mpr c20
      by_cases c23 : a0_6 = 0
      ·rw [if_pos c23] at H
       have c23b0 : (a0_6 == 0) = true := beq_iff_eq.mpr c23
       have c23b1 : (a0_6 != 0) = false := bne_eq_false_iff_eq.mpr c23
       clear c23
       obtain rfl := Option.some.inj H
       go_wp2_with (first | fail)
       go_ret
       exact ⟨by first | rfl | (simp [errW_none, errW_some] <;> rfl) | (simp [*, errW_none, errW_some] <;> rfl), tB HB.out⟩
      ·rw [if_neg c23] at H
       have c23b0 : (a0_6 == 0) = false := beq_eq_false_iff_ne.mpr c23
       have c23b1 : (a0_6 != 0) = true := bne_iff_ne.mpr c23
       obtain rfl := Option.some.inj H
       go_wp2_with (first | fail)
       go_ret
       exact ⟨by first | rfl | (simp [errW_none, errW_some] <;> rfl) | (simp [*, errW_none, errW_some] <;> rfl), tB HB.out⟩
    ·rw [if_neg c19] at H
     have c19b0 : (a0_5 == 0) = false := beq_eq_false_iff_ne.mpr c19
     have c19b1 : (a0_5 != 0) = true := bne_iff_ne.mpr c19
     obtain rfl := Option.some.inj H
     go_wp2_with (first | fail)
     go_ret
     exact ⟨by first | rfl | (simp [errW_none, errW_some] <;> rfl) | (simp [*, errW_none, errW_some] <;> rfl), tB HB.out⟩
   ·rw [if_neg c18] at H
    have c18b0 : (a0_0 == 1) = false := beq_eq_false_iff_ne.mpr c18
    have c18b1 : (a0_0 != 1) = true := bne_iff_ne.mpr c18
    obtain rfl := Option.some.inj H
    go_wp2_with (first | fail)
    go_ret
    exact ⟨by first | rfl | (simp [errW_none, errW_some] <;> rfl) | (simp [*, errW_none, errW_some] <;> rfl), tB HB.out⟩

end Go.Proofs.Ytofjgdbiieanjaa.All
