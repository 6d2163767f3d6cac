-- Made by a program of this workplace (wip/pr.sh) out of Lean's print of the translation; Lean checks it.
import Derived.Test.YtofjgdbiieanjaaAllx0
import Derived.Test.YtofjgdbiieanjaaAllx2
import Derived.Test.YtofjgdbiieanjaaAllx62
import Derived.Test.YtofjgdbiieanjaaAllx63
import Derived.Test.YtofjgdbiieanjaaAllx65
namespace Go.Proofs.Ytofjgdbiieanjaa.All
open Go.Proofs.Ytofjgdbiieanjaa.Ext
open Go.RowKit Go.Proofs.YtofjgdbiieanjaaW.PrintWords Go.Proofs.YtofjgdbiieanjaaW.PrintLast Go.Proofs.YtofjgdbiieanjaaW.PrintMore
attribute [local go_sem] max2_int min2_int max_two min_two max_three min_three max_four min_four   -- for this text's walks alone
set_option linter.unusedVariables false
set_option linter.unusedSimpArgs false

attribute [local go_sem high] eqA72
/-! ### mantletlaw08_WireSane: function 19 -/
def mantletlaw08_WireSane.f (k : Nat) (l0 : List Int) : Option (Bool) := (mantletlaw08_short.f l0).bind fun t1028 => ((wire_Parse.f k t1028).bind fun bt1031 => (if bt1031.2.2.2.2.2.2.2 = 0 then (if bt1031.1 = 6 then ((mantletlaw08_awake.f k).bind fun t1041 => (if t1041 = true then (if bt1031.2.2.2.2.2.2.1 = 0 then (if (Go.bits .and .u8 (Go.bits .and .u8 bt1031.2.2.2.2.2.1 7) (((Go.bits .and .u8 bt1031.2.2.2.2.2.1 7) - 1) % 256)) = 0 then (if (Go.bits .and .u8 bt1031.2.2.2.2.2.1 22) = 0 then (some false) else (some (decide (bt1031.2.2.2.2.2.1 < 64)))) else (some false)) else (some false)) else (some false))) else (if bt1031.1 = 17 then ((mantletlaw08_awake.f k).bind fun t1042 => (if t1042 = true then (if bt1031.2.2.2.2.2.2.1 = 0 then (some (bt1031.2.2.2.2.2.1 == 0)) else (some false)) else (some false))) else ((mantletlaw08_awake.f k).bind fun t1043 => (if t1043 = true then (if bt1031.1 = 1 then (if bt1031.2.2.2.2.2.1 = 0 then (if bt1031.2.2.2.1 = bt1031.2.2.2.2.1 then (if bt1031.2.2.2.2.2.2.1 = 8 then (some true) else (some (bt1031.2.2.2.2.2.2.1 == 0))) else (some false)) else (some false)) else (some false)) else (some false))))) else ((mantletlaw08_awake.f k).bind fun t1040 => (if t1040 = true then (some (bt1031.1 == 0 && (bt1031.2.1 == 0 && (bt1031.2.2.1 == 0 && (bt1031.2.2.2.1 == 0 && (bt1031.2.2.2.2.1 == 0 && (bt1031.2.2.2.2.2.1 == 0 && (bt1031.2.2.2.2.2.2.1 == 0)))))))) else (some false)))))
theorem mantletlaw08_WireSane.mono : ∀ a0 k, LeO (mantletlaw08_WireSane.f k a0) (mantletlaw08_WireSane.f (k + 1) a0) := by
  intro a0 k
  unfold mantletlaw08_WireSane.f
  repeat' first
      | (with_reducible exact mantletlaw08_awake.mono _)
      | (with_reducible exact wire_Parse.mono _ _)
      | (with_reducible exact LeO.refl _)
      | (with_reducible exact LeO.none _)
      | (with_reducible refine LeO.ite ?_ ?_)
      | (with_reducible refine LeO.bind ?_ (fun _ => ?_))
      | exact mantletlaw08_awake.mono _
      | exact wire_Parse.mono _ _
      | exact LeO.none _
      | refine LeO.ite ?_ ?_
      | refine LeO.bind ?_ (fun _ => ?_)
set_option maxHeartbeats 8000000 in
set_option maxRecDepth 100000 in
theorem mantletlaw08_WireSane.calls (k : Nat) (A0 : Option Addr) (c0 : Nat) (l0 : List Int) (r : Bool) (w : World) (hr0 : Kd.C (Kd.int .u8) w A0 l0.length l0) (hc0 : l0.length ≤ c0) (h : mantletlaw08_WireSane.f k l0 = some r) :
    Calls Try.prog 19 #[.slice A0 l0.length c0] w fun e w' => e = .returned (.bool r) ∧ Below w.heap.size w w' := by
  have hu72 := Try.underlying72
  have HR0 := Aside0.mk hr0
  have HC0 := Aside0.mk hc0
  clear hr0 hc0
  have HB := Aside0.mk (Below.refl w.heap.size w)
  have H : ((mantletlaw08_short.f l0).bind fun t1028 => ((wire_Parse.f k t1028).bind fun bt1031 => (if bt1031.2.2.2.2.2.2.2 = 0 then (if bt1031.1 = 6 then ((mantletlaw08_awake.f k).bind fun t1041 => (if t1041 = true then (if bt1031.2.2.2.2.2.2.1 = 0 then (if (Go.bits .and .u8 (Go.bits .and .u8 bt1031.2.2.2.2.2.1 7) (((Go.bits .and .u8 bt1031.2.2.2.2.2.1 7) - 1) % 256)) = 0 then (if (Go.bits .and .u8 bt1031.2.2.2.2.2.1 22) = 0 then (some false) else (some (decide (bt1031.2.2.2.2.2.1 < 64)))) else (some false)) else (some false)) else (some false))) else (if bt1031.1 = 17 then ((mantletlaw08_awake.f k).bind fun t1042 => (if t1042 = true then (if bt1031.2.2.2.2.2.2.1 = 0 then (some (bt1031.2.2.2.2.2.1 == 0)) else (some false)) else (some false))) else ((mantletlaw08_awake.f k).bind fun t1043 => (if t1043 = true then (if bt1031.1 = 1 then (if bt1031.2.2.2.2.2.1 = 0 then (if bt1031.2.2.2.1 = bt1031.2.2.2.2.1 then (if bt1031.2.2.2.2.2.2.1 = 8 then (some true) else (some (bt1031.2.2.2.2.2.2.1 == 0))) else (some false)) else (some false)) else (some false)) else (some false))))) else ((mantletlaw08_awake.f k).bind fun t1040 => (if t1040 = true then (some (bt1031.1 == 0 && (bt1031.2.1 == 0 && (bt1031.2.2.1 == 0 && (bt1031.2.2.2.1 == 0 && (bt1031.2.2.2.2.1 == 0 && (bt1031.2.2.2.2.2.1 == 0 && (bt1031.2.2.2.2.2.2.1 == 0)))))))) else (some false)))))) = some r := h
  clear h
  replace H := Option.bind_eq_some_iff.mp H
  obtain ⟨t1028, A20, H⟩ := H
  replace H : ((wire_Parse.f k t1028).bind fun bt1031 => (if bt1031.2.2.2.2.2.2.2 = 0 then (if bt1031.1 = 6 then ((mantletlaw08_awake.f k).bind fun t1041 => (if t1041 = true then (if bt1031.2.2.2.2.2.2.1 = 0 then (if (Go.bits .and .u8 (Go.bits .and .u8 bt1031.2.2.2.2.2.1 7) (((Go.bits .and .u8 bt1031.2.2.2.2.2.1 7) - 1) % 256)) = 0 then (if (Go.bits .and .u8 bt1031.2.2.2.2.2.1 22) = 0 then (some false) else (some (decide (bt1031.2.2.2.2.2.1 < 64)))) else (some false)) else (some false)) else (some false))) else (if bt1031.1 = 17 then ((mantletlaw08_awake.f k).bind fun t1042 => (if t1042 = true then (if bt1031.2.2.2.2.2.2.1 = 0 then (some (bt1031.2.2.2.2.2.1 == 0)) else (some false)) else (some false))) else ((mantletlaw08_awake.f k).bind fun t1043 => (if t1043 = true then (if bt1031.1 = 1 then (if bt1031.2.2.2.2.2.1 = 0 then (if bt1031.2.2.2.1 = bt1031.2.2.2.2.1 then (if bt1031.2.2.2.2.2.2.1 = 8 then (some true) else (some (bt1031.2.2.2.2.2.2.1 == 0))) else (some false)) else (some false)) else (some false)) else (some false))))) else ((mantletlaw08_awake.f k).bind fun t1040 => (if t1040 = true then (some (bt1031.1 == 0 && (bt1031.2.1 == 0 && (bt1031.2.2.1 == 0 && (bt1031.2.2.2.1 == 0 && (bt1031.2.2.2.2.1 == 0 && (bt1031.2.2.2.2.2.1 == 0 && (bt1031.2.2.2.2.2.2.1 == 0)))))))) else (some false))))) = some r := H
  have A2 := Aside0.mk A20
  clear A20
  replace H := Option.bind_eq_some_iff.mp H
  obtain ⟨⟨t1031, t1032, t1033, t1034, t1035, t1036, t1037, t1038⟩, A30, H⟩ := H
  replace H : (if t1038 = 0 then (if t1031 = 6 then ((mantletlaw08_awake.f k).bind fun t1041 => (if t1041 = true then (if t1037 = 0 then (if (Go.bits .and .u8 (Go.bits .and .u8 t1036 7) (((Go.bits .and .u8 t1036 7) - 1) % 256)) = 0 then (if (Go.bits .and .u8 t1036 22) = 0 then (some false) else (some (decide (t1036 < 64)))) else (some false)) else (some false)) else (some false))) else (if t1031 = 17 then ((mantletlaw08_awake.f k).bind fun t1042 => (if t1042 = true then (if t1037 = 0 then (some (t1036 == 0)) else (some false)) else (some false))) else ((mantletlaw08_awake.f k).bind fun t1043 => (if t1043 = true then (if t1031 = 1 then (if t1036 = 0 then (if t1034 = t1035 then (if t1037 = 8 then (some true) else (some (t1037 == 0))) else (some false)) else (some false)) else (some false)) else (some false))))) else ((mantletlaw08_awake.f k).bind fun t1040 => (if t1040 = true then (some (t1031 == 0 && (t1032 == 0 && (t1033 == 0 && (t1034 == 0 && (t1035 == 0 && (t1036 == 0 && (t1037 == 0)))))))) else (some false)))) = some r := H
  have A3 := Aside0.mk A30
  clear A30
  have HH_ := Aside0.mk H
  clear H
  go_enter Try.func19, Try.ntmps19
  repeat (go_not_at_if 13; first | ((with_reducible refine gate_callee (f := 53) rfl ?_); refine goesL_ (some 8) rfl rfl Try.func53 (by kernel_rfl) rfl #[.slice A0 l0.length c0] rfl (by (try simp only [List.map_toArray, List.map_cons, List.map_nil]); first | done | rfl) ?_; (with_reducible refine (mantletlaw08_short.calls (fun k_ => k_ < w.heap.size) _ _ l0 t1028 _ ?side900 A2.out).mono ?_); (case side900 => exact Kd.V_mk HC0.out (Kd.F_below (Kd.C_F (Kd.heap_int .u8) HR0.out) (by repeat first | (with_reducible first | exact HB.out | apply below_alloc | apply pw_below_drewN | apply below_drew1) | exact HB.out))); rintro e w901 ⟨v902, rfl, ho903, hb⟩; refine ⟨_, rfl, ?_⟩; have n0_ := Aside0.mk (Kd.V_lower (Kd.V_mono (ok' := fun k_ => True) ho903 (fun k_ hk_ => trivial)) (below_size (by repeat first | (with_reducible first | exact HB.out | apply below_alloc | apply pw_below_drewN | apply below_drew1) | exact HB.out))); have n1_ := Aside0.mk (below_step (by repeat first | (with_reducible first | exact HB.out | apply below_alloc | apply pw_below_drewN | apply below_drew1) | exact HB.out) hb); clear HB; have HO904 := n0_; have HB := n1_; clear n0_ n1_; (try clear hb); (try clear hb2); (try clear hk); (try clear hi); (try clear ho903); obtain ⟨Ao905, co906, eo907⟩ := Kd.V_slice HO904.out; subst eo907) | ((with_reducible refine gate_callee (f := 52) rfl ?_); refine goesL_ (some 9) rfl rfl Try.func52 (by kernel_rfl) rfl #[.slice Ao905 t1028.length co906] rfl (by (try simp only [List.map_toArray, List.map_cons, List.map_nil]); first | done | rfl) ?_; (with_reducible refine (wire_Parse.calls k _ _ t1028 t1031 t1032 t1033 t1034 t1035 t1036 t1037 t1038 _ ?side900 ?side908 A3.out).mono ?_); (case side900 => repeat (first | exact (Kd.V_reads' HO904.out).2.2 | (with_reducible refine Kd.C_alloc ?_ _) | (with_reducible refine Kd.C_drewN ?_ _) | (with_reducible refine Kd.C_drew ?_))); (case side908 => exact (Kd.V_reads' HO904.out).2.1); rintro e w909 ⟨rfl, hb⟩; refine ⟨_, rfl, ?_⟩; have n0_ := Aside0.mk (Kd.V_below (by (with_reducible repeat (first | apply Kd.V_alloc | apply Kd.V_drewN | apply Kd.V_drew)); exact HO904.out) hb); have n1_ := Aside0.mk (below_step (by repeat first | (with_reducible first | exact HB.out | apply below_alloc | apply pw_below_drewN | apply below_drew1) | exact HB.out) hb); clear HO904; clear HB; have HO904 := n0_; have HB := n1_; clear n0_ n1_; (try clear hb); (try clear hb2); (try clear hk); (try clear hi)) | ((with_reducible refine gate_dst (N := 3) rfl ?_); refine box_event ?hg (N := 3) ?hd (cs := #[.int .u8 0, .int .u32 0, .int .u32 0, .int .u16 0, .int .u16 0, .int .u8 0, .int .u8 0]) (t := 72) ?hr ?_; (case hd => rfl); (case hg => rfl); (case hr => first | (go_simp; done) | (go_simp; rfl)); intro gb910 hg w911 hbox hb; have n0_ := Aside0.mk (Kd.V_below (Kd.V_elderB (by (with_reducible repeat (first | apply Kd.V_alloc | apply Kd.V_drewN | apply Kd.V_drew)); exact HO904.out) gb910 (Nat.le_of_eq hg.symm)) hb); have n1_ := Aside0.mk (below_step (by repeat first | (with_reducible first | exact HB.out | apply below_alloc | apply pw_below_drewN | apply below_drew1) | exact HB.out) hb); have n2_ := Aside0.mk (hbox); have n3_ := Aside0.mk ((by rw [hg]; exact (below_size (by repeat first | (with_reducible first | exact HB.out | apply below_alloc | apply pw_below_drewN | apply below_drew1) | exact HB.out)) : w.heap.size ≤ gb910)); have n4_ := Aside0.mk ((by rw [hg]; exact (below_size (by repeat first | (with_reducible first | exact HB.out | apply below_alloc | apply pw_below_drewN | apply below_drew1) | exact HB.out)) : w.heap.size ≤ gb910)); clear HO904; clear HB; have HO904 := n0_; have HB := n1_; have BK912 := n2_; have GW913 := n3_; have GE914 := n4_; clear n0_ n1_ n2_ n3_ n4_; clear hb hbox hg; have hcz915 : w911.cell? ⟨gb910, 0, none⟩ = some (.int .u8 0) := (blk_cell BK912.out 0).trans rfl; have hcz916 : w911.cell? ⟨gb910, 1, none⟩ = some (.int .u32 0) := (blk_cell BK912.out 1).trans rfl; have hcz917 : w911.cell? ⟨gb910, 2, none⟩ = some (.int .u32 0) := (blk_cell BK912.out 2).trans rfl; have hcz918 : w911.cell? ⟨gb910, 3, none⟩ = some (.int .u16 0) := (blk_cell BK912.out 3).trans rfl; have hcz919 : w911.cell? ⟨gb910, 4, none⟩ = some (.int .u16 0) := (blk_cell BK912.out 4).trans rfl; have hcz920 : w911.cell? ⟨gb910, 5, none⟩ = some (.int .u8 0) := (blk_cell BK912.out 5).trans rfl; have hcz921 : w911.cell? ⟨gb910, 6, none⟩ = some (.int .u8 0) := (blk_cell BK912.out 6).trans rfl; have hfz922 := blk_frozen BK912.out 0; have hfz923 := blk_frozen BK912.out 1; have hfz924 := blk_frozen BK912.out 2; have hfz925 := blk_frozen BK912.out 3; have hfz926 := blk_frozen BK912.out 4; have hfz927 := blk_frozen BK912.out 5; have hfz928 := blk_frozen BK912.out 6) | ((with_reducible refine gate_store (t := 72) (p := 3) rfl ?_); refine store_event (t := 72) (p := 3) (v := ?vo_w929_1) (w1 := (((((((w911.setCell ⟨gb910, 0, none⟩ (.int .u8 t1031)).setCell ⟨gb910, 1, none⟩ (.int .u32 t1032)).setCell ⟨gb910, 2, none⟩ (.int .u32 t1033)).setCell ⟨gb910, 3, none⟩ (.int .u16 t1034)).setCell ⟨gb910, 4, none⟩ (.int .u16 t1035)).setCell ⟨gb910, 5, none⟩ (.int .u8 t1036)).setCell ⟨gb910, 6, none⟩ (.int .u8 t1037))) ?hg ?ho ?hn ?hr ?_; (case ho => rfl); (case hg => rfl); (case hn => rfl); (case hr => first | (go_simp; done) | (go_simp; rfl)); intro w930 hw; have n0_ : Aside0 (Kd.V (Kd.int .u8) 5 w930 w.heap.size (fun k_ => k_ ≠ gb910) (.slice Ao905 t1028.length co906) t1028) := ⟨(by rw [hw]; exact (by (with_reducible repeat (first | apply Kd.V_alloc | apply Kd.V_drewN | apply Kd.V_drew)); exact Kd.V_mono (Kd.V_far (p := ⟨gb910, 6, none⟩) (Kd.V_far (p := ⟨gb910, 5, none⟩) (Kd.V_far (p := ⟨gb910, 4, none⟩) (Kd.V_far (p := ⟨gb910, 3, none⟩) (Kd.V_far (p := ⟨gb910, 2, none⟩) (Kd.V_far (p := ⟨gb910, 1, none⟩) (Kd.V_far (p := ⟨gb910, 0, none⟩) (Kd.V_mono HO904.out (fun k_ hk => (⟨hk, hk.2⟩ : _ ∧ k_ ≠ gb910))) (fun _ hk => hk.2) (.int .u8 t1031)) (fun _ hk => hk.2) (.int .u32 t1032)) (fun _ hk => hk.2) (.int .u32 t1033)) (fun _ hk => hk.2) (.int .u16 t1034)) (fun _ hk => hk.2) (.int .u16 t1035)) (fun _ hk => hk.2) (.int .u8 t1036)) (fun _ hk => hk.2) (.int .u8 t1037)) (fun _ hk => hk.1.2)))⟩; have n1_ : Aside0 (w930.heap[gb910]? = some (.cells #[.int .u8 t1031, .int .u32 t1032, .int .u32 t1033, .int .u16 t1034, .int .u16 t1035, .int .u8 t1036, .int .u8 t1037] 72 (0, 0))) := ⟨(by rw [hw]; exact (by (with_reducible repeat first | apply blk_drewN | apply blk_drew | apply blk_alloc); refine blk_put (cs := #[.int .u8 t1031, .int .u32 t1032, .int .u32 t1033, .int .u16 t1034, .int .u16 t1035, .int .u8 t1036, .int .u8 0]) ?_ 6 _ rfl; (with_reducible repeat first | apply blk_drewN | apply blk_drew | apply blk_alloc); refine blk_put (cs := #[.int .u8 t1031, .int .u32 t1032, .int .u32 t1033, .int .u16 t1034, .int .u16 t1035, .int .u8 0, .int .u8 0]) ?_ 5 _ rfl; (with_reducible repeat first | apply blk_drewN | apply blk_drew | apply blk_alloc); refine blk_put (cs := #[.int .u8 t1031, .int .u32 t1032, .int .u32 t1033, .int .u16 t1034, .int .u16 0, .int .u8 0, .int .u8 0]) ?_ 4 _ rfl; (with_reducible repeat first | apply blk_drewN | apply blk_drew | apply blk_alloc); refine blk_put (cs := #[.int .u8 t1031, .int .u32 t1032, .int .u32 t1033, .int .u16 0, .int .u16 0, .int .u8 0, .int .u8 0]) ?_ 3 _ rfl; (with_reducible repeat first | apply blk_drewN | apply blk_drew | apply blk_alloc); refine blk_put (cs := #[.int .u8 t1031, .int .u32 t1032, .int .u32 0, .int .u16 0, .int .u16 0, .int .u8 0, .int .u8 0]) ?_ 2 _ rfl; (with_reducible repeat first | apply blk_drewN | apply blk_drew | apply blk_alloc); refine blk_put (cs := #[.int .u8 t1031, .int .u32 0, .int .u32 0, .int .u16 0, .int .u16 0, .int .u8 0, .int .u8 0]) ?_ 1 _ rfl; (with_reducible repeat first | apply blk_drewN | apply blk_drew | apply blk_alloc); refine blk_put (cs := #[.int .u8 0, .int .u32 0, .int .u32 0, .int .u16 0, .int .u16 0, .int .u8 0, .int .u8 0]) ?_ 0 _ rfl; (with_reducible repeat first | apply blk_drewN | apply blk_drew | apply blk_alloc); exact BK912.out))⟩; have n2_ : Aside0 (Below w.heap.size w w930) := ⟨(by rw [hw]; exact (by repeat first | (with_reducible first | exact HB.out | apply below_alloc | apply pw_below_drewN | apply below_drew1 | refine below_set ?_ GE914.out) | exact HB.out))⟩; clear hw; clear HO904; clear BK912; clear HB; have HO904 := n0_; have BK912 := n1_; have HB := n2_; clear n0_ n1_ n2_) | go_values | go_skip | go_guarded | go_step | go_upon | go_back)
  have H := HH_.out
  clear HH_
  by_cases c4 : t1038 = 0
  · rw [if_pos c4] at H
    have c4b0 : (t1038 == 0) = true := beq_iff_eq.mpr c4
    have c4b1 : (t1038 != 0) = false := bne_eq_false_iff_eq.mpr c4
    clear c4
    by_cases c5 : t1031 = 6
    · rw [if_pos c5] at H
      have c5b0 : (t1031 == 6) = true := beq_iff_eq.mpr c5
      have c5b1 : (t1031 != 6) = false := bne_eq_false_iff_eq.mpr c5
      clear c5
      replace H := Option.bind_eq_some_iff.mp H
      obtain ⟨t1041, A60, H⟩ := H
      replace H : (if t1041 = true then (if t1037 = 0 then (if (Go.bits .and .u8 (Go.bits .and .u8 t1036 7) (((Go.bits .and .u8 t1036 7) - 1) % 256)) = 0 then (if (Go.bits .and .u8 t1036 22) = 0 then (some false) else (some (decide (t1036 < 64)))) else (some false)) else (some false)) else (some false)) = some r := H
      have A6 := Aside0.mk A60
      clear A60
      by_cases c7 : t1041 = true
      · subst c7
        have H1 : (if t1037 = 0 then (if (Go.bits .and .u8 (Go.bits .and .u8 t1036 7) (((Go.bits .and .u8 t1036 7) - 1) % 256)) = 0 then (if (Go.bits .and .u8 t1036 22) = 0 then (some false) else (some (decide (t1036 < 64)))) else (some false)) else (some false)) = some r := by rw [if_pos rfl] at H; exact H
        clear H
        have H := H1
        clear H1
        by_cases c8 : t1037 = 0
        · rw [if_pos c8] at H
          have c8b0 : (t1037 == 0) = true := beq_iff_eq.mpr c8
          have c8b1 : (t1037 != 0) = false := bne_eq_false_iff_eq.mpr c8
          clear c8
          by_cases c9 : (Go.bits .and .u8 (Go.bits .and .u8 t1036 7) (((Go.bits .and .u8 t1036 7) - 1) % 256)) = 0
          · rw [if_pos c9] at H
            have c9b0 : ((Go.bits .and .u8 (Go.bits .and .u8 t1036 7) (((Go.bits .and .u8 t1036 7) - 1) % 256)) == 0) = true := beq_iff_eq.mpr c9
            have c9b1 : ((Go.bits .and .u8 (Go.bits .and .u8 t1036 7) (((Go.bits .and .u8 t1036 7) - 1) % 256)) != 0) = false := bne_eq_false_iff_eq.mpr c9
            clear c9
            by_cases c10 : (Go.bits .and .u8 t1036 22) = 0
            · rw [if_pos c10] at H
              have c10b0 : ((Go.bits .and .u8 t1036 22) == 0) = true := beq_iff_eq.mpr c10
              have c10b1 : ((Go.bits .and .u8 t1036 22) != 0) = false := bne_eq_false_iff_eq.mpr c10
              clear c10
              obtain rfl := Option.some.inj H
              have hcz931 : w930.cell? ⟨gb910, 0, none⟩ = some (.int .u8 t1031) := (blk_cell BK912.out 0).trans rfl
              have hcz932 : w930.cell? ⟨gb910, 1, none⟩ = some (.int .u32 t1032) := (blk_cell BK912.out 1).trans rfl
              have hcz933 : w930.cell? ⟨gb910, 2, none⟩ = some (.int .u32 t1033) := (blk_cell BK912.out 2).trans rfl
              have hcz934 : w930.cell? ⟨gb910, 3, none⟩ = some (.int .u16 t1034) := (blk_cell BK912.out 3).trans rfl
              have hcz935 : w930.cell? ⟨gb910, 4, none⟩ = some (.int .u16 t1035) := (blk_cell BK912.out 4).trans rfl
              have hcz936 : w930.cell? ⟨gb910, 5, none⟩ = some (.int .u8 t1036) := (blk_cell BK912.out 5).trans rfl
              have hcz937 : w930.cell? ⟨gb910, 6, none⟩ = some (.int .u8 t1037) := (blk_cell BK912.out 6).trans rfl
              have hfz938 := blk_frozen BK912.out 0
              have hfz939 := blk_frozen BK912.out 1
              have hfz940 := blk_frozen BK912.out 2
              have hfz941 := blk_frozen BK912.out 3
              have hfz942 := blk_frozen BK912.out 4
              have hfz943 := blk_frozen BK912.out 5
              have hfz944 := blk_frozen BK912.out 6
              go_wp2_with (first | ((with_reducible refine gate_callee (f := 55) rfl ?_); refine goesL_ (some 27) rfl rfl Try.func55 (by kernel_rfl) rfl #[] rfl (by (try simp only [List.map_toArray, List.map_cons, List.map_nil]); first | done | rfl) ?_; (with_reducible refine (mantletlaw08_awake.calls k  true _ A6.out).mono ?_); rintro e w945 ⟨rfl, hb⟩; refine ⟨_, rfl, ?_⟩; have n0_ := Aside0.mk (Kd.V_below (by (with_reducible repeat (first | apply Kd.V_alloc | apply Kd.V_drewN | apply Kd.V_drew)); exact HO904.out) hb); have n1_ := Aside0.mk (blk_below (g := gb910) (o := .cells #[.int .u8 t1031, .int .u32 t1032, .int .u32 t1033, .int .u16 t1034, .int .u16 t1035, .int .u8 t1036, .int .u8 t1037] 72 (0, 0)) (by (with_reducible repeat first | apply blk_drewN | apply blk_drew | apply blk_alloc); exact BK912.out) hb); have n2_ := Aside0.mk (below_step (by repeat first | (with_reducible first | exact HB.out | apply below_alloc | apply pw_below_drewN | apply below_drew1 | refine below_set ?_ GE914.out) | exact HB.out) hb); clear HO904; clear BK912; clear HB; have HO904 := n0_; have BK912 := n1_; have HB := n2_; clear n0_ n1_ n2_; (try clear hb); (try clear hb2); (try clear hk); (try clear hi); have hcz946 : w945.cell? ⟨gb910, 0, none⟩ = some (.int .u8 t1031) := (blk_cell BK912.out 0).trans rfl; have hcz947 : w945.cell? ⟨gb910, 1, none⟩ = some (.int .u32 t1032) := (blk_cell BK912.out 1).trans rfl; have hcz948 : w945.cell? ⟨gb910, 2, none⟩ = some (.int .u32 t1033) := (blk_cell BK912.out 2).trans rfl; have hcz949 : w945.cell? ⟨gb910, 3, none⟩ = some (.int .u16 t1034) := (blk_cell BK912.out 3).trans rfl; have hcz950 : w945.cell? ⟨gb910, 4, none⟩ = some (.int .u16 t1035) := (blk_cell BK912.out 4).trans rfl; have hcz951 : w945.cell? ⟨gb910, 5, none⟩ = some (.int .u8 t1036) := (blk_cell BK912.out 5).trans rfl; have hcz952 : w945.cell? ⟨gb910, 6, none⟩ = some (.int .u8 t1037) := (blk_cell BK912.out 6).trans rfl; have hfz953 := blk_frozen BK912.out 0; have hfz954 := blk_frozen BK912.out 1; have hfz955 := blk_frozen BK912.out 2; have hfz956 := blk_frozen BK912.out 3; have hfz957 := blk_frozen BK912.out 4; have hfz958 := blk_frozen BK912.out 5; have hfz959 := blk_frozen BK912.out 6))
              go_ret
              exact ⟨by first | rfl | (simp [errW_none, errW_some] <;> rfl) | (simp [*, errW_none, errW_some] <;> rfl), by repeat first | (with_reducible first | exact HB.out | apply below_alloc | apply pw_below_drewN | apply below_drew1 | refine below_set ?_ GE914.out) | exact HB.out⟩
            · rw [if_neg c10] at H
              have c10b0 : ((Go.bits .and .u8 t1036 22) == 0) = false := beq_eq_false_iff_ne.mpr c10
              have c10b1 : ((Go.bits .and .u8 t1036 22) != 0) = true := bne_iff_ne.mpr c10
              obtain rfl := Option.some.inj H
              have hcz931 : w930.cell? ⟨gb910, 0, none⟩ = some (.int .u8 t1031) := (blk_cell BK912.out 0).trans rfl
              have hcz932 : w930.cell? ⟨gb910, 1, none⟩ = some (.int .u32 t1032) := (blk_cell BK912.out 1).trans rfl
              have hcz933 : w930.cell? ⟨gb910, 2, none⟩ = some (.int .u32 t1033) := (blk_cell BK912.out 2).trans rfl
              have hcz934 : w930.cell? ⟨gb910, 3, none⟩ = some (.int .u16 t1034) := (blk_cell BK912.out 3).trans rfl
              have hcz935 : w930.cell? ⟨gb910, 4, none⟩ = some (.int .u16 t1035) := (blk_cell BK912.out 4).trans rfl
              have hcz936 : w930.cell? ⟨gb910, 5, none⟩ = some (.int .u8 t1036) := (blk_cell BK912.out 5).trans rfl
              have hcz937 : w930.cell? ⟨gb910, 6, none⟩ = some (.int .u8 t1037) := (blk_cell BK912.out 6).trans rfl
              have hfz938 := blk_frozen BK912.out 0
              have hfz939 := blk_frozen BK912.out 1
              have hfz940 := blk_frozen BK912.out 2
              have hfz941 := blk_frozen BK912.out 3
              have hfz942 := blk_frozen BK912.out 4
              have hfz943 := blk_frozen BK912.out 5
              have hfz944 := blk_frozen BK912.out 6
              go_wp2_with (first | ((with_reducible refine gate_callee (f := 55) rfl ?_); refine goesL_ (some 27) rfl rfl Try.func55 (by kernel_rfl) rfl #[] rfl (by (try simp only [List.map_toArray, List.map_cons, List.map_nil]); first | done | rfl) ?_; (with_reducible refine (mantletlaw08_awake.calls k  true _ A6.out).mono ?_); rintro e w945 ⟨rfl, hb⟩; refine ⟨_, rfl, ?_⟩; have n0_ := Aside0.mk (Kd.V_below (by (with_reducible repeat (first | apply Kd.V_alloc | apply Kd.V_drewN | apply Kd.V_drew)); exact HO904.out) hb); have n1_ := Aside0.mk (blk_below (g := gb910) (o := .cells #[.int .u8 t1031, .int .u32 t1032, .int .u32 t1033, .int .u16 t1034, .int .u16 t1035, .int .u8 t1036, .int .u8 t1037] 72 (0, 0)) (by (with_reducible repeat first | apply blk_drewN | apply blk_drew | apply blk_alloc); exact BK912.out) hb); have n2_ := Aside0.mk (below_step (by repeat first | (with_reducible first | exact HB.out | apply below_alloc | apply pw_below_drewN | apply below_drew1 | refine below_set ?_ GE914.out) | exact HB.out) hb); clear HO904; clear BK912; clear HB; have HO904 := n0_; have BK912 := n1_; have HB := n2_; clear n0_ n1_ n2_; (try clear hb); (try clear hb2); (try clear hk); (try clear hi); have hcz946 : w945.cell? ⟨gb910, 0, none⟩ = some (.int .u8 t1031) := (blk_cell BK912.out 0).trans rfl; have hcz947 : w945.cell? ⟨gb910, 1, none⟩ = some (.int .u32 t1032) := (blk_cell BK912.out 1).trans rfl; have hcz948 : w945.cell? ⟨gb910, 2, none⟩ = some (.int .u32 t1033) := (blk_cell BK912.out 2).trans rfl; have hcz949 : w945.cell? ⟨gb910, 3, none⟩ = some (.int .u16 t1034) := (blk_cell BK912.out 3).trans rfl; have hcz950 : w945.cell? ⟨gb910, 4, none⟩ = some (.int .u16 t1035) := (blk_cell BK912.out 4).trans rfl; have hcz951 : w945.cell? ⟨gb910, 5, none⟩ = some (.int .u8 t1036) := (blk_cell BK912.out 5).trans rfl; have hcz952 : w945.cell? ⟨gb910, 6, none⟩ = some (.int .u8 t1037) := (blk_cell BK912.out 6).trans rfl; have hfz953 := blk_frozen BK912.out 0; have hfz954 := blk_frozen BK912.out 1; have hfz955 := blk_frozen BK912.out 2; have hfz956 := blk_frozen BK912.out 3; have hfz957 := blk_frozen BK912.out 4; have hfz958 := blk_frozen BK912.out 5; have hfz959 := blk_frozen BK912.out 6))
              go_ret
              exact ⟨by first | rfl | (simp [errW_none, errW_some] <;> rfl) | (simp [*, errW_none, errW_some] <;> rfl), by repeat first | (with_reducible first | exact HB.out | apply below_alloc | apply pw_below_drewN | apply below_drew1 | refine below_set ?_ GE914.out) | exact HB.out⟩
          · rw [if_neg c9] at H
            have c9b0 : ((Go.bits .and .u8 (Go.bits .and .u8 t1036 7) (((Go.bits .and .u8 t1036 7) - 1) % 256)) == 0) = false := beq_eq_false_iff_ne.mpr c9
            have c9b1 : ((Go.bits .and .u8 (Go.bits .and .u8 t1036 7) (((Go.bits .and .u8 t1036 7) - 1) % 256)) != 0) = true := bne_iff_ne.mpr c9
            obtain rfl := Option.some.inj H
            have hcz931 : w930.cell? ⟨gb910, 0, none⟩ = some (.int .u8 t1031) := (blk_cell BK912.out 0).trans rfl
            have hcz932 : w930.cell? ⟨gb910, 1, none⟩ = some (.int .u32 t1032) := (blk_cell BK912.out 1).trans rfl
            have hcz933 : w930.cell? ⟨gb910, 2, none⟩ = some (.int .u32 t1033) := (blk_cell BK912.out 2).trans rfl
            have hcz934 : w930.cell? ⟨gb910, 3, none⟩ = some (.int .u16 t1034) := (blk_cell BK912.out 3).trans rfl
            have hcz935 : w930.cell? ⟨gb910, 4, none⟩ = some (.int .u16 t1035) := (blk_cell BK912.out 4).trans rfl
            have hcz936 : w930.cell? ⟨gb910, 5, none⟩ = some (.int .u8 t1036) := (blk_cell BK912.out 5).trans rfl
            have hcz937 : w930.cell? ⟨gb910, 6, none⟩ = some (.int .u8 t1037) := (blk_cell BK912.out 6).trans rfl
            have hfz938 := blk_frozen BK912.out 0
            have hfz939 := blk_frozen BK912.out 1
            have hfz940 := blk_frozen BK912.out 2
            have hfz941 := blk_frozen BK912.out 3
            have hfz942 := blk_frozen BK912.out 4
            have hfz943 := blk_frozen BK912.out 5
            have hfz944 := blk_frozen BK912.out 6
            go_wp2_with (first | ((with_reducible refine gate_callee (f := 55) rfl ?_); refine goesL_ (some 27) rfl rfl Try.func55 (by kernel_rfl) rfl #[] rfl (by (try simp only [List.map_toArray, List.map_cons, List.map_nil]); first | done | rfl) ?_; (with_reducible refine (mantletlaw08_awake.calls k  true _ A6.out).mono ?_); rintro e w945 ⟨rfl, hb⟩; refine ⟨_, rfl, ?_⟩; have n0_ := Aside0.mk (Kd.V_below (by (with_reducible repeat (first | apply Kd.V_alloc | apply Kd.V_drewN | apply Kd.V_drew)); exact HO904.out) hb); have n1_ := Aside0.mk (blk_below (g := gb910) (o := .cells #[.int .u8 t1031, .int .u32 t1032, .int .u32 t1033, .int .u16 t1034, .int .u16 t1035, .int .u8 t1036, .int .u8 t1037] 72 (0, 0)) (by (with_reducible repeat first | apply blk_drewN | apply blk_drew | apply blk_alloc); exact BK912.out) hb); have n2_ := Aside0.mk (below_step (by repeat first | (with_reducible first | exact HB.out | apply below_alloc | apply pw_below_drewN | apply below_drew1 | refine below_set ?_ GE914.out) | exact HB.out) hb); clear HO904; clear BK912; clear HB; have HO904 := n0_; have BK912 := n1_; have HB := n2_; clear n0_ n1_ n2_; (try clear hb); (try clear hb2); (try clear hk); (try clear hi); have hcz946 : w945.cell? ⟨gb910, 0, none⟩ = some (.int .u8 t1031) := (blk_cell BK912.out 0).trans rfl; have hcz947 : w945.cell? ⟨gb910, 1, none⟩ = some (.int .u32 t1032) := (blk_cell BK912.out 1).trans rfl; have hcz948 : w945.cell? ⟨gb910, 2, none⟩ = some (.int .u32 t1033) := (blk_cell BK912.out 2).trans rfl; have hcz949 : w945.cell? ⟨gb910, 3, none⟩ = some (.int .u16 t1034) := (blk_cell BK912.out 3).trans rfl; have hcz950 : w945.cell? ⟨gb910, 4, none⟩ = some (.int .u16 t1035) := (blk_cell BK912.out 4).trans rfl; have hcz951 : w945.cell? ⟨gb910, 5, none⟩ = some (.int .u8 t1036) := (blk_cell BK912.out 5).trans rfl; have hcz952 : w945.cell? ⟨gb910, 6, none⟩ = some (.int .u8 t1037) := (blk_cell BK912.out 6).trans rfl; have hfz953 := blk_frozen BK912.out 0; have hfz954 := blk_frozen BK912.out 1; have hfz955 := blk_frozen BK912.out 2; have hfz956 := blk_frozen BK912.out 3; have hfz957 := blk_frozen BK912.out 4; have hfz958 := blk_frozen BK912.out 5; have hfz959 := blk_frozen BK912.out 6))
            go_ret
            exact ⟨by first | rfl | (simp [errW_none, errW_some] <;> rfl) | (simp [*, errW_none, errW_some] <;> rfl), by repeat first | (with_reducible first | exact HB.out | apply below_alloc | apply pw_below_drewN | apply below_drew1 | refine below_set ?_ GE914.out) | exact HB.out⟩
        · rw [if_neg c8] at H
          have c8b0 : (t1037 == 0) = false := beq_eq_false_iff_ne.mpr c8
          have c8b1 : (t1037 != 0) = true := bne_iff_ne.mpr c8
          obtain rfl := Option.some.inj H
          have hcz931 : w930.cell? ⟨gb910, 0, none⟩ = some (.int .u8 t1031) := (blk_cell BK912.out 0).trans rfl
          have hcz932 : w930.cell? ⟨gb910, 1, none⟩ = some (.int .u32 t1032) := (blk_cell BK912.out 1).trans rfl
          have hcz933 : w930.cell? ⟨gb910, 2, none⟩ = some (.int .u32 t1033) := (blk_cell BK912.out 2).trans rfl
          have hcz934 : w930.cell? ⟨gb910, 3, none⟩ = some (.int .u16 t1034) := (blk_cell BK912.out 3).trans rfl
          have hcz935 : w930.cell? ⟨gb910, 4, none⟩ = some (.int .u16 t1035) := (blk_cell BK912.out 4).trans rfl
          have hcz936 : w930.cell? ⟨gb910, 5, none⟩ = some (.int .u8 t1036) := (blk_cell BK912.out 5).trans rfl
          have hcz937 : w930.cell? ⟨gb910, 6, none⟩ = some (.int .u8 t1037) := (blk_cell BK912.out 6).trans rfl
          have hfz938 := blk_frozen BK912.out 0
          have hfz939 := blk_frozen BK912.out 1
          have hfz940 := blk_frozen BK912.out 2
          have hfz941 := blk_frozen BK912.out 3
          have hfz942 := blk_frozen BK912.out 4
          have hfz943 := blk_frozen BK912.out 5
          have hfz944 := blk_frozen BK912.out 6
          go_wp2_with (first | ((with_reducible refine gate_callee (f := 55) rfl ?_); refine goesL_ (some 27) rfl rfl Try.func55 (by kernel_rfl) rfl #[] rfl (by (try simp only [List.map_toArray, List.map_cons, List.map_nil]); first | done | rfl) ?_; (with_reducible refine (mantletlaw08_awake.calls k  true _ A6.out).mono ?_); rintro e w945 ⟨rfl, hb⟩; refine ⟨_, rfl, ?_⟩; have n0_ := Aside0.mk (Kd.V_below (by (with_reducible repeat (first | apply Kd.V_alloc | apply Kd.V_drewN | apply Kd.V_drew)); exact HO904.out) hb); have n1_ := Aside0.mk (blk_below (g := gb910) (o := .cells #[.int .u8 t1031, .int .u32 t1032, .int .u32 t1033, .int .u16 t1034, .int .u16 t1035, .int .u8 t1036, .int .u8 t1037] 72 (0, 0)) (by (with_reducible repeat first | apply blk_drewN | apply blk_drew | apply blk_alloc); exact BK912.out) hb); have n2_ := Aside0.mk (below_step (by repeat first | (with_reducible first | exact HB.out | apply below_alloc | apply pw_below_drewN | apply below_drew1 | refine below_set ?_ GE914.out) | exact HB.out) hb); clear HO904; clear BK912; clear HB; have HO904 := n0_; have BK912 := n1_; have HB := n2_; clear n0_ n1_ n2_; (try clear hb); (try clear hb2); (try clear hk); (try clear hi); have hcz946 : w945.cell? ⟨gb910, 0, none⟩ = some (.int .u8 t1031) := (blk_cell BK912.out 0).trans rfl; have hcz947 : w945.cell? ⟨gb910, 1, none⟩ = some (.int .u32 t1032) := (blk_cell BK912.out 1).trans rfl; have hcz948 : w945.cell? ⟨gb910, 2, none⟩ = some (.int .u32 t1033) := (blk_cell BK912.out 2).trans rfl; have hcz949 : w945.cell? ⟨gb910, 3, none⟩ = some (.int .u16 t1034) := (blk_cell BK912.out 3).trans rfl; have hcz950 : w945.cell? ⟨gb910, 4, none⟩ = some (.int .u16 t1035) := (blk_cell BK912.out 4).trans rfl; have hcz951 : w945.cell? ⟨gb910, 5, none⟩ = some (.int .u8 t1036) := (blk_cell BK912.out 5).trans rfl; have hcz952 : w945.cell? ⟨gb910, 6, none⟩ = some (.int .u8 t1037) := (blk_cell BK912.out 6).trans rfl; have hfz953 := blk_frozen BK912.out 0; have hfz954 := blk_frozen BK912.out 1; have hfz955 := blk_frozen BK912.out 2; have hfz956 := blk_frozen BK912.out 3; have hfz957 := blk_frozen BK912.out 4; have hfz958 := blk_frozen BK912.out 5; have hfz959 := blk_frozen BK912.out 6))
          go_ret
          exact ⟨by first | rfl | (simp [errW_none, errW_some] <;> rfl) | (simp [*, errW_none, errW_some] <;> rfl), by repeat first | (with_reducible first | exact HB.out | apply below_alloc | apply pw_below_drewN | apply below_drew1 | refine below_set ?_ GE914.out) | exact HB.out⟩
      · replace c7 := Bool.eq_false_iff.mpr c7
        subst c7
        have H1 : (some false) = some r := by rw [if_neg (show ¬ (false = true) by decide)] at H; exact H
        clear H
        have H := H1
        clear H1
        obtain rfl := Option.some.inj H
        have hcz931 : w930.cell? ⟨gb910, 0, none⟩ = some (.int .u8 t1031) := (blk_cell BK912.out 0).trans rfl
        have hcz932 : w930.cell? ⟨gb910, 1, none⟩ = some (.int .u32 t1032) := (blk_cell BK912.out 1).trans rfl
        have hcz933 : w930.cell? ⟨gb910, 2, none⟩ = some (.int .u32 t1033) := (blk_cell BK912.out 2).trans rfl
        have hcz934 : w930.cell? ⟨gb910, 3, none⟩ = some (.int .u16 t1034) := (blk_cell BK912.out 3).trans rfl
        have hcz935 : w930.cell? ⟨gb910, 4, none⟩ = some (.int .u16 t1035) := (blk_cell BK912.out 4).trans rfl
        have hcz936 : w930.cell? ⟨gb910, 5, none⟩ = some (.int .u8 t1036) := (blk_cell BK912.out 5).trans rfl
        have hcz937 : w930.cell? ⟨gb910, 6, none⟩ = some (.int .u8 t1037) := (blk_cell BK912.out 6).trans rfl
        have hfz938 := blk_frozen BK912.out 0
        have hfz939 := blk_frozen BK912.out 1
        have hfz940 := blk_frozen BK912.out 2
        have hfz941 := blk_frozen BK912.out 3
        have hfz942 := blk_frozen BK912.out 4
        have hfz943 := blk_frozen BK912.out 5
        have hfz944 := blk_frozen BK912.out 6
        go_wp2_with (first | ((with_reducible refine gate_callee (f := 55) rfl ?_); refine goesL_ (some 27) rfl rfl Try.func55 (by kernel_rfl) rfl #[] rfl (by (try simp only [List.map_toArray, List.map_cons, List.map_nil]); first | done | rfl) ?_; (with_reducible refine (mantletlaw08_awake.calls k  false _ A6.out).mono ?_); rintro e w945 ⟨rfl, hb⟩; refine ⟨_, rfl, ?_⟩; have n0_ := Aside0.mk (Kd.V_below (by (with_reducible repeat (first | apply Kd.V_alloc | apply Kd.V_drewN | apply Kd.V_drew)); exact HO904.out) hb); have n1_ := Aside0.mk (blk_below (g := gb910) (o := .cells #[.int .u8 t1031, .int .u32 t1032, .int .u32 t1033, .int .u16 t1034, .int .u16 t1035, .int .u8 t1036, .int .u8 t1037] 72 (0, 0)) (by (with_reducible repeat first | apply blk_drewN | apply blk_drew | apply blk_alloc); exact BK912.out) hb); have n2_ := Aside0.mk (below_step (by repeat first | (with_reducible first | exact HB.out | apply below_alloc | apply pw_below_drewN | apply below_drew1 | refine below_set ?_ GE914.out) | exact HB.out) hb); clear HO904; clear BK912; clear HB; have HO904 := n0_; have BK912 := n1_; have HB := n2_; clear n0_ n1_ n2_; (try clear hb); (try clear hb2); (try clear hk); (try clear hi)))
        go_ret
        exact ⟨by first | rfl | (simp [errW_none, errW_some] <;> rfl) | (simp [*, errW_none, errW_some] <;> rfl), by repeat first | (with_reducible first | exact HB.out | apply below_alloc | apply pw_below_drewN | apply below_drew1 | refine below_set ?_ GE914.out) | exact HB.out⟩
    · rw [if_neg c5] at H
      have c5b0 : (t1031 == 6) = false := beq_eq_false_iff_ne.mpr c5
      have c5b1 : (t1031 != 6) = true := bne_iff_ne.mpr c5
      by_cases c55 : t1031 = 17
      · rw [if_pos c55] at H
        have c55b0 : (t1031 == 17) = true := beq_iff_eq.mpr c55
        have c55b1 : (t1031 != 17) = false := bne_eq_false_iff_eq.mpr c55
        clear c55
        replace H := Option.bind_eq_some_iff.mp H
        obtain ⟨t1042, A560, H⟩ := H
        replace H : (if t1042 = true then (if t1037 = 0 then (some (t1036 == 0)) else (some false)) else (some false)) = some r := H
        have A56 := Aside0.mk A560
        clear A560
        by_cases c57 : t1042 = true
        · subst c57
          have H1 : (if t1037 = 0 then (some (t1036 == 0)) else (some false)) = some r := by rw [if_pos rfl] at H; exact H
          clear H
          have H := H1
          clear H1
          by_cases c58 : t1037 = 0
          · rw [if_pos c58] at H
            have c58b0 : (t1037 == 0) = true := beq_iff_eq.mpr c58
            have c58b1 : (t1037 != 0) = false := bne_eq_false_iff_eq.mpr c58
            clear c58
            obtain rfl := Option.some.inj H
            have hcz931 : w930.cell? ⟨gb910, 0, none⟩ = some (.int .u8 t1031) := (blk_cell BK912.out 0).trans rfl
            have hcz932 : w930.cell? ⟨gb910, 1, none⟩ = some (.int .u32 t1032) := (blk_cell BK912.out 1).trans rfl
            have hcz933 : w930.cell? ⟨gb910, 2, none⟩ = some (.int .u32 t1033) := (blk_cell BK912.out 2).trans rfl
            have hcz934 : w930.cell? ⟨gb910, 3, none⟩ = some (.int .u16 t1034) := (blk_cell BK912.out 3).trans rfl
            have hcz935 : w930.cell? ⟨gb910, 4, none⟩ = some (.int .u16 t1035) := (blk_cell BK912.out 4).trans rfl
            have hcz936 : w930.cell? ⟨gb910, 5, none⟩ = some (.int .u8 t1036) := (blk_cell BK912.out 5).trans rfl
            have hcz937 : w930.cell? ⟨gb910, 6, none⟩ = some (.int .u8 t1037) := (blk_cell BK912.out 6).trans rfl
            have hfz938 := blk_frozen BK912.out 0
            have hfz939 := blk_frozen BK912.out 1
            have hfz940 := blk_frozen BK912.out 2
            have hfz941 := blk_frozen BK912.out 3
            have hfz942 := blk_frozen BK912.out 4
            have hfz943 := blk_frozen BK912.out 5
            have hfz944 := blk_frozen BK912.out 6
            go_wp2_with (first | ((with_reducible refine gate_callee (f := 55) rfl ?_); refine goesL_ (some 53) rfl rfl Try.func55 (by kernel_rfl) rfl #[] rfl (by (try simp only [List.map_toArray, List.map_cons, List.map_nil]); first | done | rfl) ?_; (with_reducible refine (mantletlaw08_awake.calls k  true _ A56.out).mono ?_); rintro e w945 ⟨rfl, hb⟩; refine ⟨_, rfl, ?_⟩; have n0_ := Aside0.mk (Kd.V_below (by (with_reducible repeat (first | apply Kd.V_alloc | apply Kd.V_drewN | apply Kd.V_drew)); exact HO904.out) hb); have n1_ := Aside0.mk (blk_below (g := gb910) (o := .cells #[.int .u8 t1031, .int .u32 t1032, .int .u32 t1033, .int .u16 t1034, .int .u16 t1035, .int .u8 t1036, .int .u8 t1037] 72 (0, 0)) (by (with_reducible repeat first | apply blk_drewN | apply blk_drew | apply blk_alloc); exact BK912.out) hb); have n2_ := Aside0.mk (below_step (by repeat first | (with_reducible first | exact HB.out | apply below_alloc | apply pw_below_drewN | apply below_drew1 | refine below_set ?_ GE914.out) | exact HB.out) hb); clear HO904; clear BK912; clear HB; have HO904 := n0_; have BK912 := n1_; have HB := n2_; clear n0_ n1_ n2_; (try clear hb); (try clear hb2); (try clear hk); (try clear hi); have hcz946 : w945.cell? ⟨gb910, 0, none⟩ = some (.int .u8 t1031) := (blk_cell BK912.out 0).trans rfl; have hcz947 : w945.cell? ⟨gb910, 1, none⟩ = some (.int .u32 t1032) := (blk_cell BK912.out 1).trans rfl; have hcz948 : w945.cell? ⟨gb910, 2, none⟩ = some (.int .u32 t1033) := (blk_cell BK912.out 2).trans rfl; have hcz949 : w945.cell? ⟨gb910, 3, none⟩ = some (.int .u16 t1034) := (blk_cell BK912.out 3).trans rfl; have hcz950 : w945.cell? ⟨gb910, 4, none⟩ = some (.int .u16 t1035) := (blk_cell BK912.out 4).trans rfl; have hcz951 : w945.cell? ⟨gb910, 5, none⟩ = some (.int .u8 t1036) := (blk_cell BK912.out 5).trans rfl; have hcz952 : w945.cell? ⟨gb910, 6, none⟩ = some (.int .u8 t1037) := (blk_cell BK912.out 6).trans rfl; have hfz953 := blk_frozen BK912.out 0; have hfz954 := blk_frozen BK912.out 1; have hfz955 := blk_frozen BK912.out 2; have hfz956 := blk_frozen BK912.out 3; have hfz957 := blk_frozen BK912.out 4; have hfz958 := blk_frozen BK912.out 5; have hfz959 := blk_frozen BK912.out 6))
            go_ret
            exact ⟨by first | rfl | (simp [errW_none, errW_some] <;> rfl) | (simp [*, errW_none, errW_some] <;> rfl), by repeat first | (with_reducible first | exact HB.out | apply below_alloc | apply pw_below_drewN | apply below_drew1 | refine below_set ?_ GE914.out) | exact HB.out⟩
          · rw [if_neg c58] at H
            have c58b0 : (t1037 == 0) = false := beq_eq_false_iff_ne.mpr c58
            have c58b1 : (t1037 != 0) = true := bne_iff_ne.mpr c58
            obtain rfl := Option.some.inj H
            have hcz931 : w930.cell? ⟨gb910, 0, none⟩ = some (.int .u8 t1031) := (blk_cell BK912.out 0).trans rfl
            have hcz932 : w930.cell? ⟨gb910, 1, none⟩ = some (.int .u32 t1032) := (blk_cell BK912.out 1).trans rfl
            have hcz933 : w930.cell? ⟨gb910, 2, none⟩ = some (.int .u32 t1033) := (blk_cell BK912.out 2).trans rfl
            have hcz934 : w930.cell? ⟨gb910, 3, none⟩ = some (.int .u16 t1034) := (blk_cell BK912.out 3).trans rfl
            have hcz935 : w930.cell? ⟨gb910, 4, none⟩ = some (.int .u16 t1035) := (blk_cell BK912.out 4).trans rfl
            have hcz936 : w930.cell? ⟨gb910, 5, none⟩ = some (.int .u8 t1036) := (blk_cell BK912.out 5).trans rfl
            have hcz937 : w930.cell? ⟨gb910, 6, none⟩ = some (.int .u8 t1037) := (blk_cell BK912.out 6).trans rfl
            have hfz938 := blk_frozen BK912.out 0
            have hfz939 := blk_frozen BK912.out 1
            have hfz940 := blk_frozen BK912.out 2
            have hfz941 := blk_frozen BK912.out 3
            have hfz942 := blk_frozen BK912.out 4
            have hfz943 := blk_frozen BK912.out 5
            have hfz944 := blk_frozen BK912.out 6
            go_wp2_with (first | ((with_reducible refine gate_callee (f := 55) rfl ?_); refine goesL_ (some 53) rfl rfl Try.func55 (by kernel_rfl) rfl #[] rfl (by (try simp only [List.map_toArray, List.map_cons, List.map_nil]); first | done | rfl) ?_; (with_reducible refine (mantletlaw08_awake.calls k  true _ A56.out).mono ?_); rintro e w945 ⟨rfl, hb⟩; refine ⟨_, rfl, ?_⟩; have n0_ := Aside0.mk (Kd.V_below (by (with_reducible repeat (first | apply Kd.V_alloc | apply Kd.V_drewN | apply Kd.V_drew)); exact HO904.out) hb); have n1_ := Aside0.mk (blk_below (g := gb910) (o := .cells #[.int .u8 t1031, .int .u32 t1032, .int .u32 t1033, .int .u16 t1034, .int .u16 t1035, .int .u8 t1036, .int .u8 t1037] 72 (0, 0)) (by (with_reducible repeat first | apply blk_drewN | apply blk_drew | apply blk_alloc); exact BK912.out) hb); have n2_ := Aside0.mk (below_step (by repeat first | (with_reducible first | exact HB.out | apply below_alloc | apply pw_below_drewN | apply below_drew1 | refine below_set ?_ GE914.out) | exact HB.out) hb); clear HO904; clear BK912; clear HB; have HO904 := n0_; have BK912 := n1_; have HB := n2_; clear n0_ n1_ n2_; (try clear hb); (try clear hb2); (try clear hk); (try clear hi); have hcz946 : w945.cell? ⟨gb910, 0, none⟩ = some (.int .u8 t1031) := (blk_cell BK912.out 0).trans rfl; have hcz947 : w945.cell? ⟨gb910, 1, none⟩ = some (.int .u32 t1032) := (blk_cell BK912.out 1).trans rfl; have hcz948 : w945.cell? ⟨gb910, 2, none⟩ = some (.int .u32 t1033) := (blk_cell BK912.out 2).trans rfl; have hcz949 : w945.cell? ⟨gb910, 3, none⟩ = some (.int .u16 t1034) := (blk_cell BK912.out 3).trans rfl; have hcz950 : w945.cell? ⟨gb910, 4, none⟩ = some (.int .u16 t1035) := (blk_cell BK912.out 4).trans rfl; have hcz951 : w945.cell? ⟨gb910, 5, none⟩ = some (.int .u8 t1036) := (blk_cell BK912.out 5).trans rfl; have hcz952 : w945.cell? ⟨gb910, 6, none⟩ = some (.int .u8 t1037) := (blk_cell BK912.out 6).trans rfl; have hfz953 := blk_frozen BK912.out 0; have hfz954 := blk_frozen BK912.out 1; have hfz955 := blk_frozen BK912.out 2; have hfz956 := blk_frozen BK912.out 3; have hfz957 := blk_frozen BK912.out 4; have hfz958 := blk_frozen BK912.out 5; have hfz959 := blk_frozen BK912.out 6))
            go_ret
            exact ⟨by first | rfl | (simp [errW_none, errW_some] <;> rfl) | (simp [*, errW_none, errW_some] <;> rfl), by repeat first | (with_reducible first | exact HB.out | apply below_alloc | apply pw_below_drewN | apply below_drew1 | refine below_set ?_ GE914.out) | exact HB.out⟩
        · replace c57 := Bool.eq_false_iff.mpr c57
          subst c57
          have H1 : (some false) = some r := by rw [if_neg (show ¬ (false = true) by decide)] at H; exact H
          clear H
          have H := H1
          clear H1
          obtain rfl := Option.some.inj H
          have hcz931 : w930.cell? ⟨gb910, 0, none⟩ = some (.int .u8 t1031) := (blk_cell BK912.out 0).trans rfl
          have hcz932 : w930.cell? ⟨gb910, 1, none⟩ = some (.int .u32 t1032) := (blk_cell BK912.out 1).trans rfl
          have hcz933 : w930.cell? ⟨gb910, 2, none⟩ = some (.int .u32 t1033) := (blk_cell BK912.out 2).trans rfl
          have hcz934 : w930.cell? ⟨gb910, 3, none⟩ = some (.int .u16 t1034) := (blk_cell BK912.out 3).trans rfl
          have hcz935 : w930.cell? ⟨gb910, 4, none⟩ = some (.int .u16 t1035) := (blk_cell BK912.out 4).trans rfl
          have hcz936 : w930.cell? ⟨gb910, 5, none⟩ = some (.int .u8 t1036) := (blk_cell BK912.out 5).trans rfl
          have hcz937 : w930.cell? ⟨gb910, 6, none⟩ = some (.int .u8 t1037) := (blk_cell BK912.out 6).trans rfl
          have hfz938 := blk_frozen BK912.out 0
          have hfz939 := blk_frozen BK912.out 1
          have hfz940 := blk_frozen BK912.out 2
          have hfz941 := blk_frozen BK912.out 3
          have hfz942 := blk_frozen BK912.out 4
          have hfz943 := blk_frozen BK912.out 5
          have hfz944 := blk_frozen BK912.out 6
          go_wp2_with (first | ((with_reducible refine gate_callee (f := 55) rfl ?_); refine goesL_ (some 53) rfl rfl Try.func55 (by kernel_rfl) rfl #[] rfl (by (try simp only [List.map_toArray, List.map_cons, List.map_nil]); first | done | rfl) ?_; (with_reducible refine (mantletlaw08_awake.calls k  false _ A56.out).mono ?_); rintro e w945 ⟨rfl, hb⟩; refine ⟨_, rfl, ?_⟩; have n0_ := Aside0.mk (Kd.V_below (by (with_reducible repeat (first | apply Kd.V_alloc | apply Kd.V_drewN | apply Kd.V_drew)); exact HO904.out) hb); have n1_ := Aside0.mk (blk_below (g := gb910) (o := .cells #[.int .u8 t1031, .int .u32 t1032, .int .u32 t1033, .int .u16 t1034, .int .u16 t1035, .int .u8 t1036, .int .u8 t1037] 72 (0, 0)) (by (with_reducible repeat first | apply blk_drewN | apply blk_drew | apply blk_alloc); exact BK912.out) hb); have n2_ := Aside0.mk (below_step (by repeat first | (with_reducible first | exact HB.out | apply below_alloc | apply pw_below_drewN | apply below_drew1 | refine below_set ?_ GE914.out) | exact HB.out) hb); clear HO904; clear BK912; clear HB; have HO904 := n0_; have BK912 := n1_; have HB := n2_; clear n0_ n1_ n2_; (try clear hb); (try clear hb2); (try clear hk); (try clear hi)))
          go_ret
          exact ⟨by first | rfl | (simp [errW_none, errW_some] <;> rfl) | (simp [*, errW_none, errW_some] <;> rfl), by repeat first | (with_reducible first | exact HB.out | apply below_alloc | apply pw_below_drewN | apply below_drew1 | refine below_set ?_ GE914.out) | exact HB.out⟩
      · rw [if_neg c55] at H
        have c55b0 : (t1031 == 17) = false := beq_eq_false_iff_ne.mpr c55
        have c55b1 : (t1031 != 17) = true := bne_iff_ne.mpr c55
        replace H := Option.bind_eq_some_iff.mp H
        obtain ⟨t1043, A850, H⟩ := H
        replace H : (if t1043 = true then (if t1031 = 1 then (if t1036 = 0 then (if t1034 = t1035 then (if t1037 = 8 then (some true) else (some (t1037 == 0))) else (some false)) else (some false)) else (some false)) else (some false)) = some r := H
        have A85 := Aside0.mk A850
        clear A850
        by_cases c86 : t1043 = true
        · subst c86
          have H1 : (if t1031 = 1 then (if t1036 = 0 then (if t1034 = t1035 then (if t1037 = 8 then (some true) else (some (t1037 == 0))) else (some false)) else (some false)) else (some false)) = some r := by rw [if_pos rfl] at H; exact H
          clear H
          have H := H1
          clear H1
          by_cases c87 : t1031 = 1
          · rw [if_pos c87] at H
            have c87b0 : (t1031 == 1) = true := beq_iff_eq.mpr c87
            have c87b1 : (t1031 != 1) = false := bne_eq_false_iff_eq.mpr c87
            clear c87
            by_cases c88 : t1036 = 0
            · rw [if_pos c88] at H
              have c88b0 : (t1036 == 0) = true := beq_iff_eq.mpr c88
              have c88b1 : (t1036 != 0) = false := bne_eq_false_iff_eq.mpr c88
              clear c88
              by_cases c89 : t1034 = t1035
              · rw [if_pos c89] at H
                have c89b0 : (t1034 == t1035) = true := beq_iff_eq.mpr c89
                have c89b1 : (t1034 != t1035) = false := bne_eq_false_iff_eq.mpr c89
                clear c89
                by_cases c90 : t1037 = 8
                · rw [if_pos c90] at H
                  have c90b0 : (t1037 == 8) = true := beq_iff_eq.mpr c90
                  have c90b1 : (t1037 != 8) = false := bne_eq_false_iff_eq.mpr c90
                  clear c90
                  obtain rfl := Option.some.inj H
                  have hcz931 : w930.cell? ⟨gb910, 0, none⟩ = some (.int .u8 t1031) := (blk_cell BK912.out 0).trans rfl
                  have hcz932 : w930.cell? ⟨gb910, 1, none⟩ = some (.int .u32 t1032) := (blk_cell BK912.out 1).trans rfl
                  have hcz933 : w930.cell? ⟨gb910, 2, none⟩ = some (.int .u32 t1033) := (blk_cell BK912.out 2).trans rfl
                  have hcz934 : w930.cell? ⟨gb910, 3, none⟩ = some (.int .u16 t1034) := (blk_cell BK912.out 3).trans rfl
                  have hcz935 : w930.cell? ⟨gb910, 4, none⟩ = some (.int .u16 t1035) := (blk_cell BK912.out 4).trans rfl
                  have hcz936 : w930.cell? ⟨gb910, 5, none⟩ = some (.int .u8 t1036) := (blk_cell BK912.out 5).trans rfl
                  have hcz937 : w930.cell? ⟨gb910, 6, none⟩ = some (.int .u8 t1037) := (blk_cell BK912.out 6).trans rfl
                  have hfz938 := blk_frozen BK912.out 0
                  have hfz939 := blk_frozen BK912.out 1
                  have hfz940 := blk_frozen BK912.out 2
                  have hfz941 := blk_frozen BK912.out 3
                  have hfz942 := blk_frozen BK912.out 4
                  have hfz943 := blk_frozen BK912.out 5
                  have hfz944 := blk_frozen BK912.out 6
                  go_wp2_with (first | ((with_reducible refine gate_callee (f := 55) rfl ?_); refine goesL_ (some 64) rfl rfl Try.func55 (by kernel_rfl) rfl #[] rfl (by (try simp only [List.map_toArray, List.map_cons, List.map_nil]); first | done | rfl) ?_; (with_reducible refine (mantletlaw08_awake.calls k  true _ A85.out).mono ?_); rintro e w945 ⟨rfl, hb⟩; refine ⟨_, rfl, ?_⟩; have n0_ := Aside0.mk (Kd.V_below (by (with_reducible repeat (first | apply Kd.V_alloc | apply Kd.V_drewN | apply Kd.V_drew)); exact HO904.out) hb); have n1_ := Aside0.mk (blk_below (g := gb910) (o := .cells #[.int .u8 t1031, .int .u32 t1032, .int .u32 t1033, .int .u16 t1034, .int .u16 t1035, .int .u8 t1036, .int .u8 t1037] 72 (0, 0)) (by (with_reducible repeat first | apply blk_drewN | apply blk_drew | apply blk_alloc); exact BK912.out) hb); have n2_ := Aside0.mk (below_step (by repeat first | (with_reducible first | exact HB.out | apply below_alloc | apply pw_below_drewN | apply below_drew1 | refine below_set ?_ GE914.out) | exact HB.out) hb); clear HO904; clear BK912; clear HB; have HO904 := n0_; have BK912 := n1_; have HB := n2_; clear n0_ n1_ n2_; (try clear hb); (try clear hb2); (try clear hk); (try clear hi); have hcz946 : w945.cell? ⟨gb910, 0, none⟩ = some (.int .u8 t1031) := (blk_cell BK912.out 0).trans rfl; have hcz947 : w945.cell? ⟨gb910, 1, none⟩ = some (.int .u32 t1032) := (blk_cell BK912.out 1).trans rfl; have hcz948 : w945.cell? ⟨gb910, 2, none⟩ = some (.int .u32 t1033) := (blk_cell BK912.out 2).trans rfl; have hcz949 : w945.cell? ⟨gb910, 3, none⟩ = some (.int .u16 t1034) := (blk_cell BK912.out 3).trans rfl; have hcz950 : w945.cell? ⟨gb910, 4, none⟩ = some (.int .u16 t1035) := (blk_cell BK912.out 4).trans rfl; have hcz951 : w945.cell? ⟨gb910, 5, none⟩ = some (.int .u8 t1036) := (blk_cell BK912.out 5).trans rfl; have hcz952 : w945.cell? ⟨gb910, 6, none⟩ = some (.int .u8 t1037) := (blk_cell BK912.out 6).trans rfl; have hfz953 := blk_frozen BK912.out 0; have hfz954 := blk_frozen BK912.out 1; have hfz955 := blk_frozen BK912.out 2; have hfz956 := blk_frozen BK912.out 3; have hfz957 := blk_frozen BK912.out 4; have hfz958 := blk_frozen BK912.out 5; have hfz959 := blk_frozen BK912.out 6))
                  go_ret
                  exact ⟨by first | rfl | (simp [errW_none, errW_some] <;> rfl) | (simp [*, errW_none, errW_some] <;> rfl), by repeat first | (with_reducible first | exact HB.out | apply below_alloc | apply pw_below_drewN | apply below_drew1 | refine below_set ?_ GE914.out) | exact HB.out⟩
                · rw [if_neg c90] at H
                  have c90b0 : (t1037 == 8) = false := beq_eq_false_iff_ne.mpr c90
                  have c90b1 : (t1037 != 8) = true := bne_iff_ne.mpr c90
                  obtain rfl := Option.some.inj H
                  have hcz931 : w930.cell? ⟨gb910, 0, none⟩ = some (.int .u8 t1031) := (blk_cell BK912.out 0).trans rfl
                  have hcz932 : w930.cell? ⟨gb910, 1, none⟩ = some (.int .u32 t1032) := (blk_cell BK912.out 1).trans rfl
                  have hcz933 : w930.cell? ⟨gb910, 2, none⟩ = some (.int .u32 t1033) := (blk_cell BK912.out 2).trans rfl
                  have hcz934 : w930.cell? ⟨gb910, 3, none⟩ = some (.int .u16 t1034) := (blk_cell BK912.out 3).trans rfl
                  have hcz935 : w930.cell? ⟨gb910, 4, none⟩ = some (.int .u16 t1035) := (blk_cell BK912.out 4).trans rfl
                  have hcz936 : w930.cell? ⟨gb910, 5, none⟩ = some (.int .u8 t1036) := (blk_cell BK912.out 5).trans rfl
                  have hcz937 : w930.cell? ⟨gb910, 6, none⟩ = some (.int .u8 t1037) := (blk_cell BK912.out 6).trans rfl
                  have hfz938 := blk_frozen BK912.out 0
                  have hfz939 := blk_frozen BK912.out 1
                  have hfz940 := blk_frozen BK912.out 2
                  have hfz941 := blk_frozen BK912.out 3
                  have hfz942 := blk_frozen BK912.out 4
                  have hfz943 := blk_frozen BK912.out 5
                  have hfz944 := blk_frozen BK912.out 6
                  go_wp2_with (first | ((with_reducible refine gate_callee (f := 55) rfl ?_); refine goesL_ (some 64) rfl rfl Try.func55 (by kernel_rfl) rfl #[] rfl (by (try simp only [List.map_toArray, List.map_cons, List.map_nil]); first | done | rfl) ?_; (with_reducible refine (mantletlaw08_awake.calls k  true _ A85.out).mono ?_); rintro e w945 ⟨rfl, hb⟩; refine ⟨_, rfl, ?_⟩; have n0_ := Aside0.mk (Kd.V_below (by (with_reducible repeat (first | apply Kd.V_alloc | apply Kd.V_drewN | apply Kd.V_drew)); exact HO904.out) hb); have n1_ := Aside0.mk (blk_below (g := gb910) (o := .cells #[.int .u8 t1031, .int .u32 t1032, .int .u32 t1033, .int .u16 t1034, .int .u16 t1035, .int .u8 t1036, .int .u8 t1037] 72 (0, 0)) (by (with_reducible repeat first | apply blk_drewN | apply blk_drew | apply blk_alloc); exact BK912.out) hb); have n2_ := Aside0.mk (below_step (by repeat first | (with_reducible first | exact HB.out | apply below_alloc | apply pw_below_drewN | apply below_drew1 | refine below_set ?_ GE914.out) | exact HB.out) hb); clear HO904; clear BK912; clear HB; have HO904 := n0_; have BK912 := n1_; have HB := n2_; clear n0_ n1_ n2_; (try clear hb); (try clear hb2); (try clear hk); (try clear hi); have hcz946 : w945.cell? ⟨gb910, 0, none⟩ = some (.int .u8 t1031) := (blk_cell BK912.out 0).trans rfl; have hcz947 : w945.cell? ⟨gb910, 1, none⟩ = some (.int .u32 t1032) := (blk_cell BK912.out 1).trans rfl; have hcz948 : w945.cell? ⟨gb910, 2, none⟩ = some (.int .u32 t1033) := (blk_cell BK912.out 2).trans rfl; have hcz949 : w945.cell? ⟨gb910, 3, none⟩ = some (.int .u16 t1034) := (blk_cell BK912.out 3).trans rfl; have hcz950 : w945.cell? ⟨gb910, 4, none⟩ = some (.int .u16 t1035) := (blk_cell BK912.out 4).trans rfl; have hcz951 : w945.cell? ⟨gb910, 5, none⟩ = some (.int .u8 t1036) := (blk_cell BK912.out 5).trans rfl; have hcz952 : w945.cell? ⟨gb910, 6, none⟩ = some (.int .u8 t1037) := (blk_cell BK912.out 6).trans rfl; have hfz953 := blk_frozen BK912.out 0; have hfz954 := blk_frozen BK912.out 1; have hfz955 := blk_frozen BK912.out 2; have hfz956 := blk_frozen BK912.out 3; have hfz957 := blk_frozen BK912.out 4; have hfz958 := blk_frozen BK912.out 5; have hfz959 := blk_frozen BK912.out 6))
                  go_ret
                  exact ⟨by first | rfl | (simp [errW_none, errW_some] <;> rfl) | (simp [*, errW_none, errW_some] <;> rfl), by repeat first | (with_reducible first | exact HB.out | apply below_alloc | apply pw_below_drewN | apply below_drew1 | refine below_set ?_ GE914.out) | exact HB.out⟩
              · rw [if_neg c89] at H
                have c89b0 : (t1034 == t1035) = false := beq_eq_false_iff_ne.mpr c89
                have c89b1 : (t1034 != t1035) = true := bne_iff_ne.mpr c89
                obtain rfl := Option.some.inj H
                have hcz931 : w930.cell? ⟨gb910, 0, none⟩ = some (.int .u8 t1031) := (blk_cell BK912.out 0).trans rfl
                have hcz932 : w930.cell? ⟨gb910, 1, none⟩ = some (.int .u32 t1032) := (blk_cell BK912.out 1).trans rfl
                have hcz933 : w930.cell? ⟨gb910, 2, none⟩ = some (.int .u32 t1033) := (blk_cell BK912.out 2).trans rfl
                have hcz934 : w930.cell? ⟨gb910, 3, none⟩ = some (.int .u16 t1034) := (blk_cell BK912.out 3).trans rfl
                have hcz935 : w930.cell? ⟨gb910, 4, none⟩ = some (.int .u16 t1035) := (blk_cell BK912.out 4).trans rfl
                have hcz936 : w930.cell? ⟨gb910, 5, none⟩ = some (.int .u8 t1036) := (blk_cell BK912.out 5).trans rfl
                have hcz937 : w930.cell? ⟨gb910, 6, none⟩ = some (.int .u8 t1037) := (blk_cell BK912.out 6).trans rfl
                have hfz938 := blk_frozen BK912.out 0
                have hfz939 := blk_frozen BK912.out 1
                have hfz940 := blk_frozen BK912.out 2
                have hfz941 := blk_frozen BK912.out 3
                have hfz942 := blk_frozen BK912.out 4
                have hfz943 := blk_frozen BK912.out 5
                have hfz944 := blk_frozen BK912.out 6
                go_wp2_with (first | ((with_reducible refine gate_callee (f := 55) rfl ?_); refine goesL_ (some 64) rfl rfl Try.func55 (by kernel_rfl) rfl #[] rfl (by (try simp only [List.map_toArray, List.map_cons, List.map_nil]); first | done | rfl) ?_; (with_reducible refine (mantletlaw08_awake.calls k  true _ A85.out).mono ?_); rintro e w945 ⟨rfl, hb⟩; refine ⟨_, rfl, ?_⟩; have n0_ := Aside0.mk (Kd.V_below (by (with_reducible repeat (first | apply Kd.V_alloc | apply Kd.V_drewN | apply Kd.V_drew)); exact HO904.out) hb); have n1_ := Aside0.mk (blk_below (g := gb910) (o := .cells #[.int .u8 t1031, .int .u32 t1032, .int .u32 t1033, .int .u16 t1034, .int .u16 t1035, .int .u8 t1036, .int .u8 t1037] 72 (0, 0)) (by (with_reducible repeat first | apply blk_drewN | apply blk_drew | apply blk_alloc); exact BK912.out) hb); have n2_ := Aside0.mk (below_step (by repeat first | (with_reducible first | exact HB.out | apply below_alloc | apply pw_below_drewN | apply below_drew1 | refine below_set ?_ GE914.out) | exact HB.out) hb); clear HO904; clear BK912; clear HB; have HO904 := n0_; have BK912 := n1_; have HB := n2_; clear n0_ n1_ n2_; (try clear hb); (try clear hb2); (try clear hk); (try clear hi); have hcz946 : w945.cell? ⟨gb910, 0, none⟩ = some (.int .u8 t1031) := (blk_cell BK912.out 0).trans rfl; have hcz947 : w945.cell? ⟨gb910, 1, none⟩ = some (.int .u32 t1032) := (blk_cell BK912.out 1).trans rfl; have hcz948 : w945.cell? ⟨gb910, 2, none⟩ = some (.int .u32 t1033) := (blk_cell BK912.out 2).trans rfl; have hcz949 : w945.cell? ⟨gb910, 3, none⟩ = some (.int .u16 t1034) := (blk_cell BK912.out 3).trans rfl; have hcz950 : w945.cell? ⟨gb910, 4, none⟩ = some (.int .u16 t1035) := (blk_cell BK912.out 4).trans rfl; have hcz951 : w945.cell? ⟨gb910, 5, none⟩ = some (.int .u8 t1036) := (blk_cell BK912.out 5).trans rfl; have hcz952 : w945.cell? ⟨gb910, 6, none⟩ = some (.int .u8 t1037) := (blk_cell BK912.out 6).trans rfl; have hfz953 := blk_frozen BK912.out 0; have hfz954 := blk_frozen BK912.out 1; have hfz955 := blk_frozen BK912.out 2; have hfz956 := blk_frozen BK912.out 3; have hfz957 := blk_frozen BK912.out 4; have hfz958 := blk_frozen BK912.out 5; have hfz959 := blk_frozen BK912.out 6))
                go_ret
                exact ⟨by first | rfl | (simp [errW_none, errW_some] <;> rfl) | (simp [*, errW_none, errW_some] <;> rfl), by repeat first | (with_reducible first | exact HB.out | apply below_alloc | apply pw_below_drewN | apply below_drew1 | refine below_set ?_ GE914.out) | exact HB.out⟩
            · rw [if_neg c88] at H
              have c88b0 : (t1036 == 0) = false := beq_eq_false_iff_ne.mpr c88
              have c88b1 : (t1036 != 0) = true := bne_iff_ne.mpr c88
              obtain rfl := Option.some.inj H
              have hcz931 : w930.cell? ⟨gb910, 0, none⟩ = some (.int .u8 t1031) := (blk_cell BK912.out 0).trans rfl
              have hcz932 : w930.cell? ⟨gb910, 1, none⟩ = some (.int .u32 t1032) := (blk_cell BK912.out 1).trans rfl
              have hcz933 : w930.cell? ⟨gb910, 2, none⟩ = some (.int .u32 t1033) := (blk_cell BK912.out 2).trans rfl
              have hcz934 : w930.cell? ⟨gb910, 3, none⟩ = some (.int .u16 t1034) := (blk_cell BK912.out 3).trans rfl
              have hcz935 : w930.cell? ⟨gb910, 4, none⟩ = some (.int .u16 t1035) := (blk_cell BK912.out 4).trans rfl
              have hcz936 : w930.cell? ⟨gb910, 5, none⟩ = some (.int .u8 t1036) := (blk_cell BK912.out 5).trans rfl
              have hcz937 : w930.cell? ⟨gb910, 6, none⟩ = some (.int .u8 t1037) := (blk_cell BK912.out 6).trans rfl
              have hfz938 := blk_frozen BK912.out 0
              have hfz939 := blk_frozen BK912.out 1
              have hfz940 := blk_frozen BK912.out 2
              have hfz941 := blk_frozen BK912.out 3
              have hfz942 := blk_frozen BK912.out 4
              have hfz943 := blk_frozen BK912.out 5
              have hfz944 := blk_frozen BK912.out 6
              go_wp2_with (first | ((with_reducible refine gate_callee (f := 55) rfl ?_); refine goesL_ (some 64) rfl rfl Try.func55 (by kernel_rfl) rfl #[] rfl (by (try simp only [List.map_toArray, List.map_cons, List.map_nil]); first | done | rfl) ?_; (with_reducible refine (mantletlaw08_awake.calls k  true _ A85.out).mono ?_); rintro e w945 ⟨rfl, hb⟩; refine ⟨_, rfl, ?_⟩; have n0_ := Aside0.mk (Kd.V_below (by (with_reducible repeat (first | apply Kd.V_alloc | apply Kd.V_drewN | apply Kd.V_drew)); exact HO904.out) hb); have n1_ := Aside0.mk (blk_below (g := gb910) (o := .cells #[.int .u8 t1031, .int .u32 t1032, .int .u32 t1033, .int .u16 t1034, .int .u16 t1035, .int .u8 t1036, .int .u8 t1037] 72 (0, 0)) (by (with_reducible repeat first | apply blk_drewN | apply blk_drew | apply blk_alloc); exact BK912.out) hb); have n2_ := Aside0.mk (below_step (by repeat first | (with_reducible first | exact HB.out | apply below_alloc | apply pw_below_drewN | apply below_drew1 | refine below_set ?_ GE914.out) | exact HB.out) hb); clear HO904; clear BK912; clear HB; have HO904 := n0_; have BK912 := n1_; have HB := n2_; clear n0_ n1_ n2_; (try clear hb); (try clear hb2); (try clear hk); (try clear hi); have hcz946 : w945.cell? ⟨gb910, 0, none⟩ = some (.int .u8 t1031) := (blk_cell BK912.out 0).trans rfl; have hcz947 : w945.cell? ⟨gb910, 1, none⟩ = some (.int .u32 t1032) := (blk_cell BK912.out 1).trans rfl; have hcz948 : w945.cell? ⟨gb910, 2, none⟩ = some (.int .u32 t1033) := (blk_cell BK912.out 2).trans rfl; have hcz949 : w945.cell? ⟨gb910, 3, none⟩ = some (.int .u16 t1034) := (blk_cell BK912.out 3).trans rfl; have hcz950 : w945.cell? ⟨gb910, 4, none⟩ = some (.int .u16 t1035) := (blk_cell BK912.out 4).trans rfl; have hcz951 : w945.cell? ⟨gb910, 5, none⟩ = some (.int .u8 t1036) := (blk_cell BK912.out 5).trans rfl; have hcz952 : w945.cell? ⟨gb910, 6, none⟩ = some (.int .u8 t1037) := (blk_cell BK912.out 6).trans rfl; have hfz953 := blk_frozen BK912.out 0; have hfz954 := blk_frozen BK912.out 1; have hfz955 := blk_frozen BK912.out 2; have hfz956 := blk_frozen BK912.out 3; have hfz957 := blk_frozen BK912.out 4; have hfz958 := blk_frozen BK912.out 5; have hfz959 := blk_frozen BK912.out 6))
              go_ret
              exact ⟨by first | rfl | (simp [errW_none, errW_some] <;> rfl) | (simp [*, errW_none, errW_some] <;> rfl), by repeat first | (with_reducible first | exact HB.out | apply below_alloc | apply pw_below_drewN | apply below_drew1 | refine below_set ?_ GE914.out) | exact HB.out⟩
          · rw [if_neg c87] at H
            have c87b0 : (t1031 == 1) = false := beq_eq_false_iff_ne.mpr c87
            have c87b1 : (t1031 != 1) = true := bne_iff_ne.mpr c87
            obtain rfl := Option.some.inj H
            have hcz931 : w930.cell? ⟨gb910, 0, none⟩ = some (.int .u8 t1031) := (blk_cell BK912.out 0).trans rfl
            have hcz932 : w930.cell? ⟨gb910, 1, none⟩ = some (.int .u32 t1032) := (blk_cell BK912.out 1).trans rfl
            have hcz933 : w930.cell? ⟨gb910, 2, none⟩ = some (.int .u32 t1033) := (blk_cell BK912.out 2).trans rfl
            have hcz934 : w930.cell? ⟨gb910, 3, none⟩ = some (.int .u16 t1034) := (blk_cell BK912.out 3).trans rfl
            have hcz935 : w930.cell? ⟨gb910, 4, none⟩ = some (.int .u16 t1035) := (blk_cell BK912.out 4).trans rfl
            have hcz936 : w930.cell? ⟨gb910, 5, none⟩ = some (.int .u8 t1036) := (blk_cell BK912.out 5).trans rfl
            have hcz937 : w930.cell? ⟨gb910, 6, none⟩ = some (.int .u8 t1037) := (blk_cell BK912.out 6).trans rfl
            have hfz938 := blk_frozen BK912.out 0
            have hfz939 := blk_frozen BK912.out 1
            have hfz940 := blk_frozen BK912.out 2
            have hfz941 := blk_frozen BK912.out 3
            have hfz942 := blk_frozen BK912.out 4
            have hfz943 := blk_frozen BK912.out 5
            have hfz944 := blk_frozen BK912.out 6
            go_wp2_with (first | ((with_reducible refine gate_callee (f := 55) rfl ?_); refine goesL_ (some 64) rfl rfl Try.func55 (by kernel_rfl) rfl #[] rfl (by (try simp only [List.map_toArray, List.map_cons, List.map_nil]); first | done | rfl) ?_; (with_reducible refine (mantletlaw08_awake.calls k  true _ A85.out).mono ?_); rintro e w945 ⟨rfl, hb⟩; refine ⟨_, rfl, ?_⟩; have n0_ := Aside0.mk (Kd.V_below (by (with_reducible repeat (first | apply Kd.V_alloc | apply Kd.V_drewN | apply Kd.V_drew)); exact HO904.out) hb); have n1_ := Aside0.mk (blk_below (g := gb910) (o := .cells #[.int .u8 t1031, .int .u32 t1032, .int .u32 t1033, .int .u16 t1034, .int .u16 t1035, .int .u8 t1036, .int .u8 t1037] 72 (0, 0)) (by (with_reducible repeat first | apply blk_drewN | apply blk_drew | apply blk_alloc); exact BK912.out) hb); have n2_ := Aside0.mk (below_step (by repeat first | (with_reducible first | exact HB.out | apply below_alloc | apply pw_below_drewN | apply below_drew1 | refine below_set ?_ GE914.out) | exact HB.out) hb); clear HO904; clear BK912; clear HB; have HO904 := n0_; have BK912 := n1_; have HB := n2_; clear n0_ n1_ n2_; (try clear hb); (try clear hb2); (try clear hk); (try clear hi); have hcz946 : w945.cell? ⟨gb910, 0, none⟩ = some (.int .u8 t1031) := (blk_cell BK912.out 0).trans rfl; have hcz947 : w945.cell? ⟨gb910, 1, none⟩ = some (.int .u32 t1032) := (blk_cell BK912.out 1).trans rfl; have hcz948 : w945.cell? ⟨gb910, 2, none⟩ = some (.int .u32 t1033) := (blk_cell BK912.out 2).trans rfl; have hcz949 : w945.cell? ⟨gb910, 3, none⟩ = some (.int .u16 t1034) := (blk_cell BK912.out 3).trans rfl; have hcz950 : w945.cell? ⟨gb910, 4, none⟩ = some (.int .u16 t1035) := (blk_cell BK912.out 4).trans rfl; have hcz951 : w945.cell? ⟨gb910, 5, none⟩ = some (.int .u8 t1036) := (blk_cell BK912.out 5).trans rfl; have hcz952 : w945.cell? ⟨gb910, 6, none⟩ = some (.int .u8 t1037) := (blk_cell BK912.out 6).trans rfl; have hfz953 := blk_frozen BK912.out 0; have hfz954 := blk_frozen BK912.out 1; have hfz955 := blk_frozen BK912.out 2; have hfz956 := blk_frozen BK912.out 3; have hfz957 := blk_frozen BK912.out 4; have hfz958 := blk_frozen BK912.out 5; have hfz959 := blk_frozen BK912.out 6))
            go_ret
            exact ⟨by first | rfl | (simp [errW_none, errW_some] <;> rfl) | (simp [*, errW_none, errW_some] <;> rfl), by repeat first | (with_reducible first | exact HB.out | apply below_alloc | apply pw_below_drewN | apply below_drew1 | refine below_set ?_ GE914.out) | exact HB.out⟩
        · replace c86 := Bool.eq_false_iff.mpr c86
          subst c86
          have H1 : (some false) = some r := by rw [if_neg (show ¬ (false = true) by decide)] at H; exact H
          clear H
          have H := H1
          clear H1
          obtain rfl := Option.some.inj H
          have hcz931 : w930.cell? ⟨gb910, 0, none⟩ = some (.int .u8 t1031) := (blk_cell BK912.out 0).trans rfl
          have hcz932 : w930.cell? ⟨gb910, 1, none⟩ = some (.int .u32 t1032) := (blk_cell BK912.out 1).trans rfl
          have hcz933 : w930.cell? ⟨gb910, 2, none⟩ = some (.int .u32 t1033) := (blk_cell BK912.out 2).trans rfl
          have hcz934 : w930.cell? ⟨gb910, 3, none⟩ = some (.int .u16 t1034) := (blk_cell BK912.out 3).trans rfl
          have hcz935 : w930.cell? ⟨gb910, 4, none⟩ = some (.int .u16 t1035) := (blk_cell BK912.out 4).trans rfl
          have hcz936 : w930.cell? ⟨gb910, 5, none⟩ = some (.int .u8 t1036) := (blk_cell BK912.out 5).trans rfl
          have hcz937 : w930.cell? ⟨gb910, 6, none⟩ = some (.int .u8 t1037) := (blk_cell BK912.out 6).trans rfl
          have hfz938 := blk_frozen BK912.out 0
          have hfz939 := blk_frozen BK912.out 1
          have hfz940 := blk_frozen BK912.out 2
          have hfz941 := blk_frozen BK912.out 3
          have hfz942 := blk_frozen BK912.out 4
          have hfz943 := blk_frozen BK912.out 5
          have hfz944 := blk_frozen BK912.out 6
          go_wp2_with (first | ((with_reducible refine gate_callee (f := 55) rfl ?_); refine goesL_ (some 64) rfl rfl Try.func55 (by kernel_rfl) rfl #[] rfl (by (try simp only [List.map_toArray, List.map_cons, List.map_nil]); first | done | rfl) ?_; (with_reducible refine (mantletlaw08_awake.calls k  false _ A85.out).mono ?_); rintro e w945 ⟨rfl, hb⟩; refine ⟨_, rfl, ?_⟩; have n0_ := Aside0.mk (Kd.V_below (by (with_reducible repeat (first | apply Kd.V_alloc | apply Kd.V_drewN | apply Kd.V_drew)); exact HO904.out) hb); have n1_ := Aside0.mk (blk_below (g := gb910) (o := .cells #[.int .u8 t1031, .int .u32 t1032, .int .u32 t1033, .int .u16 t1034, .int .u16 t1035, .int .u8 t1036, .int .u8 t1037] 72 (0, 0)) (by (with_reducible repeat first | apply blk_drewN | apply blk_drew | apply blk_alloc); exact BK912.out) hb); have n2_ := Aside0.mk (below_step (by repeat first | (with_reducible first | exact HB.out | apply below_alloc | apply pw_below_drewN | apply below_drew1 | refine below_set ?_ GE914.out) | exact HB.out) hb); clear HO904; clear BK912; clear HB; have HO904 := n0_; have BK912 := n1_; have HB := n2_; clear n0_ n1_ n2_; (try clear hb); (try clear hb2); (try clear hk); (try clear hi)))
          go_ret
          exact ⟨by first | rfl | (simp [errW_none, errW_some] <;> rfl) | (simp [*, errW_none, errW_some] <;> rfl), by repeat first | (with_reducible first | exact HB.out | apply below_alloc | apply pw_below_drewN | apply below_drew1 | refine below_set ?_ GE914.out) | exact HB.out⟩
  · rw [if_neg c4] at H
    have c4b0 : (t1038 == 0) = false := beq_eq_false_iff_ne.mpr c4
    have c4b1 : (t1038 != 0) = true := bne_iff_ne.mpr c4
    replace H := Option.bind_eq_some_iff.mp H
    obtain ⟨t1040, A1440, H⟩ := H
    replace H : (if t1040 = true then (some (t1031 == 0 && (t1032 == 0 && (t1033 == 0 && (t1034 == 0 && (t1035 == 0 && (t1036 == 0 && (t1037 == 0)))))))) else (some false)) = some r := H
    have A144 := Aside0.mk A1440
    clear A1440
    by_cases c145 : t1040 = true
    · subst c145
      have H1 : (some (t1031 == 0 && (t1032 == 0 && (t1033 == 0 && (t1034 == 0 && (t1035 == 0 && (t1036 == 0 && (t1037 == 0)))))))) = some r := by rw [if_pos rfl] at H; exact H
      clear H
      have H := H1
      clear H1
      obtain rfl := Option.some.inj H
      go_wp2_with (first | ((with_reducible refine gate_callee (f := 55) rfl ?_); refine goesL_ (some 14) rfl rfl Try.func55 (by kernel_rfl) rfl #[] rfl (by (try simp only [List.map_toArray, List.map_cons, List.map_nil]); first | done | rfl) ?_; (with_reducible refine (mantletlaw08_awake.calls k  true _ A144.out).mono ?_); rintro e w931 ⟨rfl, hb⟩; refine ⟨_, rfl, ?_⟩; have n0_ := Aside0.mk (Kd.V_below (by (with_reducible repeat (first | apply Kd.V_alloc | apply Kd.V_drewN | apply Kd.V_drew)); exact HO904.out) hb); have n1_ := Aside0.mk (blk_below (g := gb910) (o := .cells #[.int .u8 t1031, .int .u32 t1032, .int .u32 t1033, .int .u16 t1034, .int .u16 t1035, .int .u8 t1036, .int .u8 t1037] 72 (0, 0)) (by (with_reducible repeat first | apply blk_drewN | apply blk_drew | apply blk_alloc); exact BK912.out) hb); have n2_ := Aside0.mk (below_step (by repeat first | (with_reducible first | exact HB.out | apply below_alloc | apply pw_below_drewN | apply below_drew1 | refine below_set ?_ GE914.out) | exact HB.out) hb); clear HO904; clear BK912; clear HB; have HO904 := n0_; have BK912 := n1_; have HB := n2_; clear n0_ n1_ n2_; (try clear hb); (try clear hb2); (try clear hk); (try clear hi); have hcz932 : w931.cell? ⟨gb910, 0, none⟩ = some (.int .u8 t1031) := (blk_cell BK912.out 0).trans rfl; have hcz933 : w931.cell? ⟨gb910, 1, none⟩ = some (.int .u32 t1032) := (blk_cell BK912.out 1).trans rfl; have hcz934 : w931.cell? ⟨gb910, 2, none⟩ = some (.int .u32 t1033) := (blk_cell BK912.out 2).trans rfl; have hcz935 : w931.cell? ⟨gb910, 3, none⟩ = some (.int .u16 t1034) := (blk_cell BK912.out 3).trans rfl; have hcz936 : w931.cell? ⟨gb910, 4, none⟩ = some (.int .u16 t1035) := (blk_cell BK912.out 4).trans rfl; have hcz937 : w931.cell? ⟨gb910, 5, none⟩ = some (.int .u8 t1036) := (blk_cell BK912.out 5).trans rfl; have hcz938 : w931.cell? ⟨gb910, 6, none⟩ = some (.int .u8 t1037) := (blk_cell BK912.out 6).trans rfl; have hfz939 := blk_frozen BK912.out 0; have hfz940 := blk_frozen BK912.out 1; have hfz941 := blk_frozen BK912.out 2; have hfz942 := blk_frozen BK912.out 3; have hfz943 := blk_frozen BK912.out 4; have hfz944 := blk_frozen BK912.out 5; have hfz945 := blk_frozen BK912.out 6))
      go_ret
      exact ⟨by first | rfl | (simp [errW_none, errW_some] <;> rfl) | (simp [*, errW_none, errW_some] <;> rfl), by repeat first | (with_reducible first | exact HB.out | apply below_alloc | apply pw_below_drewN | apply below_drew1 | refine below_set ?_ GE914.out) | exact HB.out⟩
    · replace c145 := Bool.eq_false_iff.mpr c145
      subst c145
      have H1 : (some false) = some r := by rw [if_neg (show ¬ (false = true) by decide)] at H; exact H
      clear H
      have H := H1
      clear H1
      obtain rfl := Option.some.inj H
      go_wp2_with (first | ((with_reducible refine gate_callee (f := 55) rfl ?_); refine goesL_ (some 14) rfl rfl Try.func55 (by kernel_rfl) rfl #[] rfl (by (try simp only [List.map_toArray, List.map_cons, List.map_nil]); first | done | rfl) ?_; (with_reducible refine (mantletlaw08_awake.calls k  false _ A144.out).mono ?_); rintro e w931 ⟨rfl, hb⟩; refine ⟨_, rfl, ?_⟩; have n0_ := Aside0.mk (Kd.V_below (by (with_reducible repeat (first | apply Kd.V_alloc | apply Kd.V_drewN | apply Kd.V_drew)); exact HO904.out) hb); have n1_ := Aside0.mk (blk_below (g := gb910) (o := .cells #[.int .u8 t1031, .int .u32 t1032, .int .u32 t1033, .int .u16 t1034, .int .u16 t1035, .int .u8 t1036, .int .u8 t1037] 72 (0, 0)) (by (with_reducible repeat first | apply blk_drewN | apply blk_drew | apply blk_alloc); exact BK912.out) hb); have n2_ := Aside0.mk (below_step (by repeat first | (with_reducible first | exact HB.out | apply below_alloc | apply pw_below_drewN | apply below_drew1 | refine below_set ?_ GE914.out) | exact HB.out) hb); clear HO904; clear BK912; clear HB; have HO904 := n0_; have BK912 := n1_; have HB := n2_; clear n0_ n1_ n2_; (try clear hb); (try clear hb2); (try clear hk); (try clear hi)))
      go_ret
      exact ⟨by first | rfl | (simp [errW_none, errW_some] <;> rfl) | (simp [*, errW_none, errW_some] <;> rfl), by repeat first | (with_reducible first | exact HB.out | apply below_alloc | apply pw_below_drewN | apply below_drew1 | refine below_set ?_ GE914.out) | exact HB.out⟩

/-- THE ONE PURE STATEMENT of mantletlaw08_WireSane: yours. -/
def mantletlaw08_WireSane.Pure : Prop := ∀ (l0 : List Int), l0.length ≤ maxLen → l0.length * 1 ≤ 140737488351232 → (∀ x ∈ l0, (Lit.int .u8 x).wf = true) → ∃ k, mantletlaw08_WireSane.f k l0 = some true
theorem mantletlaw08_WireSane.walk (P : mantletlaw08_WireSane.Pure) (a0 : Option Addr) (len0 cap0 : Nat) (z0 : List Int) (w : World) (w0 : (a0 = none ∧ len0 = 0 ∧ cap0 = 0 ∧ z0 = []) ∨ ∃ x, a0 = some x ∧ len0 ≤ cap0 ∧ cap0 ≤ maxLen ∧ z0.length = cap0 ∧ (∀ i, i < z0.length → w.cell? (x.add i) = some (.int .u8 (z0.getD i 0))) ∧ ∀ n ∈ z0, (Lit.int .u8 n).wf = true) (y0 : len0 * 1 ≤ 140737488351232) :
    Calls Try.prog 19 #[.slice a0 len0 cap0] w fun e w' => e = .returned (.bool true) ∧ Below w.heap.size w w' := by
  obtain ⟨l0, rfl, hr0, hm0, hw0, hc0⟩ := ReadsInt.ofRowC w0
  obtain ⟨k, h⟩ := P l0 hm0 y0 hw0
  refine (mantletlaw08_WireSane.calls k _ _ l0 true w (Kd.C_of_reads (d := (0 : Int)) (h1 := fun _ => rfl) hr0) hc0 h).mono ?_
  rintro e w' ⟨rfl, hd⟩
  exact ⟨rfl, hd⟩

end Go.Proofs.Ytofjgdbiieanjaa.All
