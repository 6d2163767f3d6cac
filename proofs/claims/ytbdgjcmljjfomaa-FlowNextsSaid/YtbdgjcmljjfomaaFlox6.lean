-- Made by a program of this workplace (wip/pr.sh) out of Lean's print of the translation; Lean checks it.
import Derived.Test.YtbdgjcmljjfomaaFlox0
import Derived.Test.YtbdgjcmljjfomaaFlox4
import Derived.Test.YtbdgjcmljjfomaaFlox5
namespace Go.Proofs.Ytbdgjcmljjfomaa.Flo
open Go.RowKit Go.Proofs.YtbdgjcmljjfomaaW.PrintWords Go.Proofs.YtbdgjcmljjfomaaW.PrintLast Go.Proofs.YtbdgjcmljjfomaaW.PrintMore
attribute [local go_sem] max2_int min2_int max_two min_two max_three min_three max_four min_four   -- for this text's walks alone
set_option linter.unusedVariables false
set_option linter.unusedSimpArgs false

/-! ### flow_Next: function 32 -/
def flow_Next.f (a0 : Int) (a1 : Int) (a2 : Int) : Option (Int) := (flow_Unpack.f a0).bind fun bt115 => ((field_Put.f a0 60 4 (IntKind.u64.wrap (a1))).bind fun t119 => ((field_Put.f t119 40 20 (IntKind.u64.wrap (mn (wrap64 (bt115.2.1 + 1)) 1048575))).bind fun t120 => ((field_Put.f t120 0 40 (mx 0 (mn a2 1099511627775))).bind fun t121 => (some t121))))
set_option maxHeartbeats 8000000 in
set_option maxRecDepth 100000 in
theorem flow_Next.calls (a0 : Int) (a1 : Int) (a2 : Int) (r : Int) (w : World) (h : flow_Next.f a0 a1 a2 = some r) :
    Calls Try.prog 32 #[.int .u64 a0, .int .i64 a1, .int .i64 a2] w fun e w' => e = .returned (.int .u64 r) ∧ Below w.heap.size w w' := by
  have hu52 := Try.underlying52
  have HB := Aside0.mk (Below.refl w.heap.size w)
  have H : ((flow_Unpack.f a0).bind fun bt115 => ((field_Put.f a0 60 4 (IntKind.u64.wrap (a1))).bind fun t119 => ((field_Put.f t119 40 20 (IntKind.u64.wrap (mn (wrap64 (bt115.2.1 + 1)) 1048575))).bind fun t120 => ((field_Put.f t120 0 40 (mx 0 (mn a2 1099511627775))).bind fun t121 => (some t121))))) = some r := h
  clear h
  replace H := Option.bind_eq_some_iff.mp H
  obtain ⟨⟨t115, t116, t117⟩, A40, H⟩ := H
  replace H : ((field_Put.f a0 60 4 (IntKind.u64.wrap (a1))).bind fun t119 => ((field_Put.f t119 40 20 (IntKind.u64.wrap (mn (wrap64 (t116 + 1)) 1048575))).bind fun t120 => ((field_Put.f t120 0 40 (mx 0 (mn a2 1099511627775))).bind fun t121 => (some t121)))) = some r := H
  have A4 := Aside0.mk A40
  clear A40
  replace H := Option.bind_eq_some_iff.mp H
  obtain ⟨t119, A50, H⟩ := H
  replace H : ((field_Put.f t119 40 20 (IntKind.u64.wrap (mn (wrap64 (t116 + 1)) 1048575))).bind fun t120 => ((field_Put.f t120 0 40 (mx 0 (mn a2 1099511627775))).bind fun t121 => (some t121))) = some r := H
  have A5 := Aside0.mk A50
  clear A50
  obtain ⟨ji6, hji6⟩ : ∃ j_ : Int, (mn (wrap64 (t116 + 1)) 1048575) = j_ := ⟨_, rfl⟩
  replace H : ((field_Put.f t119 40 20 (IntKind.u64.wrap (ji6))).bind fun t120 => ((field_Put.f t120 0 40 (mx 0 (mn a2 1099511627775))).bind fun t121 => (some t121))) = some r := by first | (rw [hji6] at H; exact H) | (simp only [hji6] at H ⊢; exact H)
  (try rw [hji6] at A4)
  (try rw [hji6] at A5)
  (try (have hji6h : ji6 ≤ 1048575 := by (rw [← hji6]; unfold mn; (repeat' split) <;> omega)))
  (try (have hji6g : ji6 ≤ 64 := by omega))
  have hji6_ : (if 1048575 < (wrap64 (t116 + 1)) then 1048575 else (wrap64 (t116 + 1))) = ji6 := hji6
  replace H := Option.bind_eq_some_iff.mp H
  obtain ⟨t120, A70, H⟩ := H
  replace H : ((field_Put.f t120 0 40 (mx 0 (mn a2 1099511627775))).bind fun t121 => (some t121)) = some r := H
  have A7 := Aside0.mk A70
  clear A70
  obtain ⟨ji8, hji8⟩ : ∃ j_ : Int, (mn a2 1099511627775) = j_ := ⟨_, rfl⟩
  replace H : ((field_Put.f t120 0 40 (mx 0 (ji8))).bind fun t121 => (some t121)) = some r := by first | (rw [hji8] at H; exact H) | (simp only [hji8] at H ⊢; exact H)
  (try rw [hji8] at A4)
  (try rw [hji8] at A5)
  (try rw [hji8] at A7)
  (try (have hji8h : ji8 ≤ 1099511627775 := by (rw [← hji8]; unfold mn; (repeat' split) <;> omega)))
  (try (have hji8g : ji8 ≤ 64 := by omega))
  have hji8_ : (if 1099511627775 < a2 then 1099511627775 else a2) = ji8 := hji8
  obtain ⟨ji9, hji9⟩ : ∃ j_ : Int, (mx 0 (ji8)) = j_ := ⟨_, rfl⟩
  replace H : ((field_Put.f t120 0 40 (ji9)).bind fun t121 => (some t121)) = some r := by first | (rw [hji9] at H; exact H) | (simp only [hji9] at H ⊢; exact H)
  (try rw [hji9] at A4)
  (try rw [hji9] at A5)
  (try rw [hji9] at A7)
  have hji9_ : (if 0 < (ji8) then (ji8) else 0) = ji9 := hji9
  replace H := Option.bind_eq_some_iff.mp H
  obtain ⟨t121, A100, H⟩ := H
  replace H : (some t121) = some r := H
  have A10 := Aside0.mk A100
  clear A100
  obtain rfl := Option.some.inj H
  go_enter Try.func32, Try.ntmps32
  go_wp2_with (first | ((with_reducible refine gate_callee (f := 28) rfl ?_); refine goesL_ (some 9) rfl rfl Try.func28 (by kernel_rfl) rfl #[.int .u64 a0] rfl (by (try simp only [List.map_toArray, List.map_cons, List.map_nil]); first | done | rfl | (simp only [List.length_drop, List.length_take]; rfl)) ?_; (with_reducible refine (flow_Unpack.calls a0 t115 t116 t117 _ A4.out).mono ?_); rintro e w11 ⟨rfl, hb⟩; refine ⟨_, rfl, ?_⟩; have n0_ := Aside0.mk (below_step (by repeat (first | (with_reducible first | exact HB.out | apply below_alloc | apply pw_below_drewN | apply below_drew1) | exact HB.out)) hb); clear HB; have HB := n0_; clear n0_; (try clear hb); (try clear hb2); (try clear hk); (try clear hi)) | ((with_reducible refine gate_dst (N := 7) rfl ?_); refine box_event ?hg (N := 7) ?hd (cs := #[.int .i64 0, .int .i64 0, .int .i64 0]) (t := 52) ?hr ?_; (case hd => rfl); (case hg => rfl); (case hr => first | (go_simp; done) | (go_simp; rfl)); intro gb118 hg w12 hbox hb; have n0_ := Aside0.mk (below_step (by repeat (first | (with_reducible first | exact HB.out | apply below_alloc | apply pw_below_drewN | apply below_drew1) | exact HB.out)) hb); have n1_ := Aside0.mk (hbox); have n2_ := Aside0.mk ((by rw [hg]; exact (below_size (by repeat (first | (with_reducible first | exact HB.out | apply below_alloc | apply pw_below_drewN | apply below_drew1) | exact HB.out))) : w.heap.size ≤ gb118)); have n3_ := Aside0.mk ((by rw [hg]; exact (below_size (by repeat (first | (with_reducible first | exact HB.out | apply below_alloc | apply pw_below_drewN | apply below_drew1) | exact HB.out))) : w.heap.size ≤ gb118)); clear HB; have HB := n0_; have BK118 := n1_; have GW118 := n2_; have GE118 := n3_; clear n0_ n1_ n2_ n3_; clear hb hbox hg; have hcz13_0 : w12.cell? ⟨gb118, 0, none⟩ = some (.int .i64 0) := (blk_cell BK118.out 0).trans rfl; have hcz13_1 : w12.cell? ⟨gb118, 1, none⟩ = some (.int .i64 0) := (blk_cell BK118.out 1).trans rfl; have hcz13_2 : w12.cell? ⟨gb118, 2, none⟩ = some (.int .i64 0) := (blk_cell BK118.out 2).trans rfl; have hfz13_0 := blk_frozen BK118.out 0; have hfz13_1 := blk_frozen BK118.out 1; have hfz13_2 := blk_frozen BK118.out 2) | ((with_reducible refine gate_store (t := 52) (p := 7) rfl ?_); refine store_event (t := 52) (p := 7) (v := ?vo_w14) (w1 := (((w12.setCell ⟨gb118, 0, none⟩ (.int .i64 t115)).setCell ⟨gb118, 1, none⟩ (.int .i64 t116)).setCell ⟨gb118, 2, none⟩ (.int .i64 t117))) ?hg ?ho ?hn ?hr ?_; (case ho => rfl); (case hg => rfl); (case hn => rfl); (case hr => first | (go_simp; done) | (go_simp; rfl)); intro w14 hw; have n0_ : Aside0 (w14.heap[gb118]? = some (.cells #[.int .i64 t115, .int .i64 t116, .int .i64 t117] 52 (0, 0))) := ⟨(by rw [hw]; exact (by (with_reducible repeat (first | refine blk_drewN ?_ _ | refine blk_drew ?_ | refine blk_alloc ?_ _)); refine blk_put (cs := #[.int .i64 t115, .int .i64 t116, .int .i64 0]) ?_ 2 _ rfl; (with_reducible repeat (first | refine blk_drewN ?_ _ | refine blk_drew ?_ | refine blk_alloc ?_ _)); refine blk_put (cs := #[.int .i64 t115, .int .i64 0, .int .i64 0]) ?_ 1 _ rfl; (with_reducible repeat (first | refine blk_drewN ?_ _ | refine blk_drew ?_ | refine blk_alloc ?_ _)); refine blk_put (cs := #[.int .i64 0, .int .i64 0, .int .i64 0]) ?_ 0 _ rfl; (with_reducible repeat (first | refine blk_drewN ?_ _ | refine blk_drew ?_ | refine blk_alloc ?_ _)); exact BK118.out))⟩; have n1_ : Aside0 (Below w.heap.size w w14) := ⟨(by rw [hw]; exact (by repeat (first | (with_reducible first | exact HB.out | apply below_alloc | apply pw_below_drewN | apply below_drew1 | refine below_set ?_ GE118.out) | exact HB.out)))⟩; clear hw; clear BK118; clear HB; have BK118 := n0_; have HB := n1_; clear n0_ n1_) | ((with_reducible refine gate_callee (f := 49) rfl ?_); refine goesL_ (some 13) rfl rfl Try.func49 (by kernel_rfl) rfl #[.int .u64 a0, .int .i64 60, .int .i64 4, .int .u64 (IntKind.u64.wrap (a1))] rfl (by (try simp only [List.map_toArray, List.map_cons, List.map_nil]); first | done | rfl | (simp only [List.length_drop, List.length_take]; rfl)) ?_; (with_reducible refine (field_Put.calls a0 60 4 (IntKind.u64.wrap (a1)) t119 _ A5.out).mono ?_); rintro e w' ⟨rfl, ⟨nd, rfl⟩⟩; refine ⟨_, rfl, ?_⟩; have hcz15_0 : w14.cell? ⟨gb118, 0, none⟩ = some (.int .i64 t115) := (blk_cell BK118.out 0).trans rfl; have hcz15_1 : w14.cell? ⟨gb118, 1, none⟩ = some (.int .i64 t116) := (blk_cell BK118.out 1).trans rfl; have hcz15_2 : w14.cell? ⟨gb118, 2, none⟩ = some (.int .i64 t117) := (blk_cell BK118.out 2).trans rfl; have hfz15_0 := blk_frozen BK118.out 0; have hfz15_1 := blk_frozen BK118.out 1; have hfz15_2 := blk_frozen BK118.out 2) | ((with_reducible refine gate_callee (f := 49) rfl ?_); refine goesL_ (some 20) rfl rfl Try.func49 (by kernel_rfl) rfl #[.int .u64 t119, .int .i64 40, .int .i64 20, .int .u64 (IntKind.u64.wrap (ji6))] rfl (by (try simp only [List.map_toArray, List.map_cons, List.map_nil]); first | done | (simp only [hji6]; rfl) | rfl | (simp only [List.length_drop, List.length_take]; rfl)) ?_; (with_reducible refine (field_Put.calls t119 40 20 (IntKind.u64.wrap (ji6)) t120 _ A7.out).mono ?_); rintro e w' ⟨rfl, ⟨nd, rfl⟩⟩; refine ⟨_, rfl, ?_⟩) | ((with_reducible refine gate_callee (f := 49) rfl ?_); refine goesL_ (some 26) rfl rfl Try.func49 (by kernel_rfl) rfl #[.int .u64 t120, .int .i64 0, .int .i64 40, .int .u64 ji9] rfl (by (try simp only [List.map_toArray, List.map_cons, List.map_nil]); first | done | (simp only [hji9]; rfl) | rfl | (simp only [List.length_drop, List.length_take]; rfl)) ?_; (with_reducible refine (field_Put.calls t120 0 40 ji9 t121 _ A10.out).mono ?_); rintro e w' ⟨rfl, ⟨nd, rfl⟩⟩; refine ⟨_, rfl, ?_⟩))
  go_ret
  exact ⟨by first | rfl | (simp [errW_none, errW_some] <;> rfl) | (simp only [← hji6, ← hji8, ← hji9]; first | rfl | (simp [errW_none, errW_some] <;> rfl)) | (simp [*, errW_none, errW_some] <;> rfl), by repeat (first | (with_reducible first | exact HB.out | apply below_alloc | apply pw_below_drewN | apply below_drew1 | refine below_set ?_ GE118.out) | exact HB.out)⟩

/-! ### flow_Dead: function 48 -/
def flow_Dead.f  : Option (Int) := some 17293822569102704640
set_option maxHeartbeats 8000000 in
set_option maxRecDepth 100000 in
theorem flow_Dead.calls  (r : Int) (w : World) (h : flow_Dead.f  = some r) :
    Calls Try.prog 48 #[] w fun e w' => e = .returned (.int .u64 r) ∧ Drawn0 w w' := by
  have H : (some 17293822569102704640) = some r := h
  clear h
  obtain rfl := Option.some.inj H
  go_enter Try.func48, Try.ntmps48
  go_wp2
  go_ret
  exact ⟨by first | rfl | (simp; done) | (simp [*]; done), by repeat (first | exact Drawn0.refl _ | apply Drawn0.step)⟩

end Go.Proofs.Ytbdgjcmljjfomaa.Flo
