-- Made by a program of this workplace (wip/pr.sh) out of Lean's print of the translation; Lean checks it.
import Derived.Test.YtplioggeccoleaaKeyx0
import Derived.Test.YtplioggeccoleaaKeyx9
namespace Go.Proofs.Ytplioggeccoleaa.Key
open Go.Proofs.Ytplioggeccoleaa.Ext
open Go.RowKit Go.Proofs.YtplioggeccoleaaW.PrintWords Go.Proofs.YtplioggeccoleaaW.PrintLast Go.Proofs.YtplioggeccoleaaW.PrintMore
attribute [local go_sem] max2_int min2_int max_two min_two max_three min_three max_four min_four   -- for this text's walks alone
set_option linter.unusedVariables false
set_option linter.unusedSimpArgs false

/-! ### mantletref10_Hash: function 12 -/
def mantletref10_Hash.f (a0_0 : Int) (a0_1 : Int) (a0_2 : Int) (a0_3 : Int) (a0_4 : Int) : Option (Int) := (mantletref10_end.f a0_0 a0_2).bind fun t222 => ((mantletref10_end.f a0_1 a0_3).bind fun t223 => (some ((Int.tmod (IntKind.u64.wrap ((Go.bits .xor .u64 (Int.tmod (IntKind.u64.wrap ((Go.bits .xor .u64 (Int.tmod (IntKind.u64.wrap ((Go.bits .xor .u64 (Int.tmod (IntKind.u64.wrap ((Go.bits .xor .u64 (Int.tmod (IntKind.u64.wrap ((Go.bits .xor .u64 (Int.tmod (IntKind.u64.wrap ((Go.bits .xor .u64 (Int.tmod (IntKind.u64.wrap ((Go.bits .xor .u64 (Int.tmod (IntKind.u64.wrap ((Go.bits .xor .u64 (Int.tmod (IntKind.u64.wrap ((Go.bits .xor .u64 (Int.tmod (IntKind.u64.wrap ((Go.bits .xor .u64 (Int.tmod (IntKind.u64.wrap ((Go.bits .xor .u64 (Int.tmod (IntKind.u64.wrap ((Go.bits .xor .u64 (Int.tmod (IntKind.u64.wrap ((Go.bits .xor .u64 2166136261 (IntKind.u64.wrap (a0_4))) * 16777619)) 4294967296) (Int.tmod (t222 / 1099511627776) 256)) * 16777619)) 4294967296) (Int.tmod (t222 / 4294967296) 256)) * 16777619)) 4294967296) (Int.tmod (t222 / 16777216) 256)) * 16777619)) 4294967296) (Int.tmod (t222 / 65536) 256)) * 16777619)) 4294967296) (Int.tmod (t222 / 256) 256)) * 16777619)) 4294967296) (Int.tmod t222 256)) * 16777619)) 4294967296) (Int.tmod (t223 / 1099511627776) 256)) * 16777619)) 4294967296) (Int.tmod (t223 / 4294967296) 256)) * 16777619)) 4294967296) (Int.tmod (t223 / 16777216) 256)) * 16777619)) 4294967296) (Int.tmod (t223 / 65536) 256)) * 16777619)) 4294967296) (Int.tmod (t223 / 256) 256)) * 16777619)) 4294967296) (Int.tmod t223 256)) * 16777619)) 4294967296) % 4294967296)))
set_option maxHeartbeats 8000000 in
set_option maxRecDepth 100000 in
theorem mantletref10_Hash.calls (a0_0 : Int) (a0_1 : Int) (a0_2 : Int) (a0_3 : Int) (a0_4 : Int) (r : Int) (w : World) (h : mantletref10_Hash.f a0_0 a0_1 a0_2 a0_3 a0_4 = some r) :
    Calls Try.prog 12 #[.agg #[.int .u32 a0_0, .int .u32 a0_1, .int .u16 a0_2, .int .u16 a0_3, .int .u8 a0_4]] w fun e w' => e = .returned (.int .u32 r) ∧ Below w.heap.size w w' := by
  have hu29 := Try.underlying29
  have HB := Aside0.mk (Below.refl w.heap.size w)
  have H : ((mantletref10_end.f a0_0 a0_2).bind fun t222 => ((mantletref10_end.f a0_1 a0_3).bind fun t223 => (some ((Int.tmod (IntKind.u64.wrap ((Go.bits .xor .u64 (Int.tmod (IntKind.u64.wrap ((Go.bits .xor .u64 (Int.tmod (IntKind.u64.wrap ((Go.bits .xor .u64 (Int.tmod (IntKind.u64.wrap ((Go.bits .xor .u64 (Int.tmod (IntKind.u64.wrap ((Go.bits .xor .u64 (Int.tmod (IntKind.u64.wrap ((Go.bits .xor .u64 (Int.tmod (IntKind.u64.wrap ((Go.bits .xor .u64 (Int.tmod (IntKind.u64.wrap ((Go.bits .xor .u64 (Int.tmod (IntKind.u64.wrap ((Go.bits .xor .u64 (Int.tmod (IntKind.u64.wrap ((Go.bits .xor .u64 (Int.tmod (IntKind.u64.wrap ((Go.bits .xor .u64 (Int.tmod (IntKind.u64.wrap ((Go.bits .xor .u64 (Int.tmod (IntKind.u64.wrap ((Go.bits .xor .u64 2166136261 (IntKind.u64.wrap (a0_4))) * 16777619)) 4294967296) (Int.tmod (t222 / 1099511627776) 256)) * 16777619)) 4294967296) (Int.tmod (t222 / 4294967296) 256)) * 16777619)) 4294967296) (Int.tmod (t222 / 16777216) 256)) * 16777619)) 4294967296) (Int.tmod (t222 / 65536) 256)) * 16777619)) 4294967296) (Int.tmod (t222 / 256) 256)) * 16777619)) 4294967296) (Int.tmod t222 256)) * 16777619)) 4294967296) (Int.tmod (t223 / 1099511627776) 256)) * 16777619)) 4294967296) (Int.tmod (t223 / 4294967296) 256)) * 16777619)) 4294967296) (Int.tmod (t223 / 16777216) 256)) * 16777619)) 4294967296) (Int.tmod (t223 / 65536) 256)) * 16777619)) 4294967296) (Int.tmod (t223 / 256) 256)) * 16777619)) 4294967296) (Int.tmod t223 256)) * 16777619)) 4294967296) % 4294967296)))) = some r := h
  clear h
  replace H := Option.bind_eq_some_iff.mp H
  obtain ⟨t222, A20, H⟩ := H
  replace H : ((mantletref10_end.f a0_1 a0_3).bind fun t223 => (some ((Int.tmod (IntKind.u64.wrap ((Go.bits .xor .u64 (Int.tmod (IntKind.u64.wrap ((Go.bits .xor .u64 (Int.tmod (IntKind.u64.wrap ((Go.bits .xor .u64 (Int.tmod (IntKind.u64.wrap ((Go.bits .xor .u64 (Int.tmod (IntKind.u64.wrap ((Go.bits .xor .u64 (Int.tmod (IntKind.u64.wrap ((Go.bits .xor .u64 (Int.tmod (IntKind.u64.wrap ((Go.bits .xor .u64 (Int.tmod (IntKind.u64.wrap ((Go.bits .xor .u64 (Int.tmod (IntKind.u64.wrap ((Go.bits .xor .u64 (Int.tmod (IntKind.u64.wrap ((Go.bits .xor .u64 (Int.tmod (IntKind.u64.wrap ((Go.bits .xor .u64 (Int.tmod (IntKind.u64.wrap ((Go.bits .xor .u64 (Int.tmod (IntKind.u64.wrap ((Go.bits .xor .u64 2166136261 (IntKind.u64.wrap (a0_4))) * 16777619)) 4294967296) (Int.tmod (t222 / 1099511627776) 256)) * 16777619)) 4294967296) (Int.tmod (t222 / 4294967296) 256)) * 16777619)) 4294967296) (Int.tmod (t222 / 16777216) 256)) * 16777619)) 4294967296) (Int.tmod (t222 / 65536) 256)) * 16777619)) 4294967296) (Int.tmod (t222 / 256) 256)) * 16777619)) 4294967296) (Int.tmod t222 256)) * 16777619)) 4294967296) (Int.tmod (t223 / 1099511627776) 256)) * 16777619)) 4294967296) (Int.tmod (t223 / 4294967296) 256)) * 16777619)) 4294967296) (Int.tmod (t223 / 16777216) 256)) * 16777619)) 4294967296) (Int.tmod (t223 / 65536) 256)) * 16777619)) 4294967296) (Int.tmod (t223 / 256) 256)) * 16777619)) 4294967296) (Int.tmod t223 256)) * 16777619)) 4294967296) % 4294967296))) = some r := H
  have A2 := Aside0.mk A20
  clear A20
  replace H := Option.bind_eq_some_iff.mp H
  obtain ⟨t223, A30, H⟩ := H
  replace H : (some ((Int.tmod (IntKind.u64.wrap ((Go.bits .xor .u64 (Int.tmod (IntKind.u64.wrap ((Go.bits .xor .u64 (Int.tmod (IntKind.u64.wrap ((Go.bits .xor .u64 (Int.tmod (IntKind.u64.wrap ((Go.bits .xor .u64 (Int.tmod (IntKind.u64.wrap ((Go.bits .xor .u64 (Int.tmod (IntKind.u64.wrap ((Go.bits .xor .u64 (Int.tmod (IntKind.u64.wrap ((Go.bits .xor .u64 (Int.tmod (IntKind.u64.wrap ((Go.bits .xor .u64 (Int.tmod (IntKind.u64.wrap ((Go.bits .xor .u64 (Int.tmod (IntKind.u64.wrap ((Go.bits .xor .u64 (Int.tmod (IntKind.u64.wrap ((Go.bits .xor .u64 (Int.tmod (IntKind.u64.wrap ((Go.bits .xor .u64 (Int.tmod (IntKind.u64.wrap ((Go.bits .xor .u64 2166136261 (IntKind.u64.wrap (a0_4))) * 16777619)) 4294967296) (Int.tmod (t222 / 1099511627776) 256)) * 16777619)) 4294967296) (Int.tmod (t222 / 4294967296) 256)) * 16777619)) 4294967296) (Int.tmod (t222 / 16777216) 256)) * 16777619)) 4294967296) (Int.tmod (t222 / 65536) 256)) * 16777619)) 4294967296) (Int.tmod (t222 / 256) 256)) * 16777619)) 4294967296) (Int.tmod t222 256)) * 16777619)) 4294967296) (Int.tmod (t223 / 1099511627776) 256)) * 16777619)) 4294967296) (Int.tmod (t223 / 4294967296) 256)) * 16777619)) 4294967296) (Int.tmod (t223 / 16777216) 256)) * 16777619)) 4294967296) (Int.tmod (t223 / 65536) 256)) * 16777619)) 4294967296) (Int.tmod (t223 / 256) 256)) * 16777619)) 4294967296) (Int.tmod t223 256)) * 16777619)) 4294967296) % 4294967296)) = some r := H
  have A3 := Aside0.mk A30
  clear A30
  obtain rfl := Option.some.inj H
  go_enter Try.func12, Try.ntmps12
  go_wp2_with (first | ((with_reducible refine gate_dst (N := 1) rfl ?_); refine box_event ?hg (N := 1) ?hd (cs := #[.int .u32 a0_0, .int .u32 a0_1, .int .u16 a0_2, .int .u16 a0_3, .int .u8 a0_4]) (t := 29) ?hr ?_; (case hd => rfl); (case hg => rfl); (case hr => first | (go_simp; done) | (go_simp; rfl)); intro gb221 hg w4 hbox hb; have n0_ := Aside0.mk (below_step (by repeat first | (with_reducible first | exact HB.out | apply below_alloc | apply pw_below_drewN | apply below_drew1) | exact HB.out) hb); have n1_ := Aside0.mk (hbox); have n2_ := Aside0.mk ((by rw [hg]; exact (below_size (by repeat first | (with_reducible first | exact HB.out | apply below_alloc | apply pw_below_drewN | apply below_drew1) | exact HB.out)) : w.heap.size ≤ gb221)); have n3_ := Aside0.mk ((by rw [hg]; exact (below_size (by repeat first | (with_reducible first | exact HB.out | apply below_alloc | apply pw_below_drewN | apply below_drew1) | exact HB.out)) : w.heap.size ≤ gb221)); clear HB; have HB := n0_; have BK221 := n1_; have GW221 := n2_; have GE221 := n3_; clear n0_ n1_ n2_ n3_; clear hb hbox hg; have hcz5_0 : w4.cell? ⟨gb221, 0, none⟩ = some (.int .u32 a0_0) := (blk_cell BK221.out 0).trans rfl; have hcz5_1 : w4.cell? ⟨gb221, 1, none⟩ = some (.int .u32 a0_1) := (blk_cell BK221.out 1).trans rfl; have hcz5_2 : w4.cell? ⟨gb221, 2, none⟩ = some (.int .u16 a0_2) := (blk_cell BK221.out 2).trans rfl; have hcz5_3 : w4.cell? ⟨gb221, 3, none⟩ = some (.int .u16 a0_3) := (blk_cell BK221.out 3).trans rfl; have hcz5_4 : w4.cell? ⟨gb221, 4, none⟩ = some (.int .u8 a0_4) := (blk_cell BK221.out 4).trans rfl; have hfz5_0 := blk_frozen BK221.out 0; have hfz5_1 := blk_frozen BK221.out 1; have hfz5_2 := blk_frozen BK221.out 2; have hfz5_3 := blk_frozen BK221.out 3; have hfz5_4 := blk_frozen BK221.out 4))
  repeat (go_quiet (first | ((with_reducible refine gate_dst (N := 1) rfl ?_); refine box_event ?hg (N := 1) ?hd (cs := #[.int .u32 a0_0, .int .u32 a0_1, .int .u16 a0_2, .int .u16 a0_3, .int .u8 a0_4]) (t := 29) ?hr ?_; (case hd => rfl); (case hg => rfl); (case hr => first | (go_simp; done) | (go_simp; rfl)); intro gb221 hg w4 hbox hb; have n0_ := Aside0.mk (below_step (by repeat first | (with_reducible first | exact HB.out | apply below_alloc | apply pw_below_drewN | apply below_drew1) | exact HB.out) hb); have n1_ := Aside0.mk (hbox); have n2_ := Aside0.mk ((by rw [hg]; exact (below_size (by repeat first | (with_reducible first | exact HB.out | apply below_alloc | apply pw_below_drewN | apply below_drew1) | exact HB.out)) : w.heap.size ≤ gb221)); have n3_ := Aside0.mk ((by rw [hg]; exact (below_size (by repeat first | (with_reducible first | exact HB.out | apply below_alloc | apply pw_below_drewN | apply below_drew1) | exact HB.out)) : w.heap.size ≤ gb221)); clear HB; have HB := n0_; have BK221 := n1_; have GW221 := n2_; have GE221 := n3_; clear n0_ n1_ n2_ n3_; clear hb hbox hg; have hcz5_0 : w4.cell? ⟨gb221, 0, none⟩ = some (.int .u32 a0_0) := (blk_cell BK221.out 0).trans rfl; have hcz5_1 : w4.cell? ⟨gb221, 1, none⟩ = some (.int .u32 a0_1) := (blk_cell BK221.out 1).trans rfl; have hcz5_2 : w4.cell? ⟨gb221, 2, none⟩ = some (.int .u16 a0_2) := (blk_cell BK221.out 2).trans rfl; have hcz5_3 : w4.cell? ⟨gb221, 3, none⟩ = some (.int .u16 a0_3) := (blk_cell BK221.out 3).trans rfl; have hcz5_4 : w4.cell? ⟨gb221, 4, none⟩ = some (.int .u8 a0_4) := (blk_cell BK221.out 4).trans rfl; have hfz5_0 := blk_frozen BK221.out 0; have hfz5_1 := blk_frozen BK221.out 1; have hfz5_2 := blk_frozen BK221.out 2; have hfz5_3 := blk_frozen BK221.out 3; have hfz5_4 := blk_frozen BK221.out 4)); try go_wp2_with (first | ((with_reducible refine gate_dst (N := 1) rfl ?_); refine box_event ?hg (N := 1) ?hd (cs := #[.int .u32 a0_0, .int .u32 a0_1, .int .u16 a0_2, .int .u16 a0_3, .int .u8 a0_4]) (t := 29) ?hr ?_; (case hd => rfl); (case hg => rfl); (case hr => first | (go_simp; done) | (go_simp; rfl)); intro gb221 hg w4 hbox hb; have n0_ := Aside0.mk (below_step (by repeat first | (with_reducible first | exact HB.out | apply below_alloc | apply pw_below_drewN | apply below_drew1) | exact HB.out) hb); have n1_ := Aside0.mk (hbox); have n2_ := Aside0.mk ((by rw [hg]; exact (below_size (by repeat first | (with_reducible first | exact HB.out | apply below_alloc | apply pw_below_drewN | apply below_drew1) | exact HB.out)) : w.heap.size ≤ gb221)); have n3_ := Aside0.mk ((by rw [hg]; exact (below_size (by repeat first | (with_reducible first | exact HB.out | apply below_alloc | apply pw_below_drewN | apply below_drew1) | exact HB.out)) : w.heap.size ≤ gb221)); clear HB; have HB := n0_; have BK221 := n1_; have GW221 := n2_; have GE221 := n3_; clear n0_ n1_ n2_ n3_; clear hb hbox hg; have hcz5_0 : w4.cell? ⟨gb221, 0, none⟩ = some (.int .u32 a0_0) := (blk_cell BK221.out 0).trans rfl; have hcz5_1 : w4.cell? ⟨gb221, 1, none⟩ = some (.int .u32 a0_1) := (blk_cell BK221.out 1).trans rfl; have hcz5_2 : w4.cell? ⟨gb221, 2, none⟩ = some (.int .u16 a0_2) := (blk_cell BK221.out 2).trans rfl; have hcz5_3 : w4.cell? ⟨gb221, 3, none⟩ = some (.int .u16 a0_3) := (blk_cell BK221.out 3).trans rfl; have hcz5_4 : w4.cell? ⟨gb221, 4, none⟩ = some (.int .u8 a0_4) := (blk_cell BK221.out 4).trans rfl; have hfz5_0 := blk_frozen BK221.out 0; have hfz5_1 := blk_frozen BK221.out 1; have hfz5_2 := blk_frozen BK221.out 2; have hfz5_3 := blk_frozen BK221.out 3; have hfz5_4 := blk_frozen BK221.out 4)))
  refine wp_loop_rounds 16 ?_
  rw [rounds_succ]
  go_wp2_with (first | (go_at_call 21; (with_reducible refine (mantletref10_end.calls a0_0 a0_2 t222 _ A2.out).mono ?_); rintro e w' ⟨rfl, ⟨nd, rfl⟩⟩; (try first | exact ⟨rfl, _, World.drewN_drewN _ _ _⟩ | exact ⟨rfl, _, Eq.trans (World.drewN_drewN _ _ _) (congrArg (World.drewN _) (Nat.add_assoc _ _ _))⟩)))
  repeat (go_quiet (first | (go_at_call 21; (with_reducible refine (mantletref10_end.calls a0_0 a0_2 t222 _ A2.out).mono ?_); rintro e w' ⟨rfl, ⟨nd, rfl⟩⟩; (try first | exact ⟨rfl, _, World.drewN_drewN _ _ _⟩ | exact ⟨rfl, _, Eq.trans (World.drewN_drewN _ _ _) (congrArg (World.drewN _) (Nat.add_assoc _ _ _))⟩))); try go_wp2_with (first | (go_at_call 21; (with_reducible refine (mantletref10_end.calls a0_0 a0_2 t222 _ A2.out).mono ?_); rintro e w' ⟨rfl, ⟨nd, rfl⟩⟩; (try first | exact ⟨rfl, _, World.drewN_drewN _ _ _⟩ | exact ⟨rfl, _, Eq.trans (World.drewN_drewN _ _ _) (congrArg (World.drewN _) (Nat.add_assoc _ _ _))⟩))))
  refine wp_loop_rounds 16 ?_
  rw [rounds_succ]
  go_wp2
  repeat (go_quiet (fail); try go_wp2)
  rw [rounds_succ]
  go_wp2
  repeat (go_quiet (fail); try go_wp2)
  rw [rounds_succ]
  go_wp2
  repeat (go_quiet (fail); try go_wp2)
  rw [rounds_succ]
  go_wp2
  repeat (go_quiet (fail); try go_wp2)
  rw [rounds_succ]
  go_wp2
  repeat (go_quiet (fail); try go_wp2)
  rw [rounds_succ]
  go_wp2
  repeat (go_quiet (fail); try go_wp2)
  rw [rounds_succ]
  go_wp2
  repeat (go_quiet (fail); try go_wp2)
  rw [rounds_succ]
  go_wp2_with (first | (go_at_call 21; (with_reducible refine (mantletref10_end.calls a0_1 a0_3 t223 _ A3.out).mono ?_); rintro e w' ⟨rfl, ⟨nd, rfl⟩⟩; (try first | exact ⟨rfl, _, World.drewN_drewN _ _ _⟩ | exact ⟨rfl, _, Eq.trans (World.drewN_drewN _ _ _) (congrArg (World.drewN _) (Nat.add_assoc _ _ _))⟩)))
  repeat (go_quiet (first | (go_at_call 21; (with_reducible refine (mantletref10_end.calls a0_1 a0_3 t223 _ A3.out).mono ?_); rintro e w' ⟨rfl, ⟨nd, rfl⟩⟩; (try first | exact ⟨rfl, _, World.drewN_drewN _ _ _⟩ | exact ⟨rfl, _, Eq.trans (World.drewN_drewN _ _ _) (congrArg (World.drewN _) (Nat.add_assoc _ _ _))⟩))); try go_wp2_with (first | (go_at_call 21; (with_reducible refine (mantletref10_end.calls a0_1 a0_3 t223 _ A3.out).mono ?_); rintro e w' ⟨rfl, ⟨nd, rfl⟩⟩; (try first | exact ⟨rfl, _, World.drewN_drewN _ _ _⟩ | exact ⟨rfl, _, Eq.trans (World.drewN_drewN _ _ _) (congrArg (World.drewN _) (Nat.add_assoc _ _ _))⟩))))
  refine wp_loop_rounds 16 ?_
  rw [rounds_succ]
  go_wp2
  repeat (go_quiet (fail); try go_wp2)
  rw [rounds_succ]
  go_wp2
  repeat (go_quiet (fail); try go_wp2)
  rw [rounds_succ]
  go_wp2
  repeat (go_quiet (fail); try go_wp2)
  rw [rounds_succ]
  go_wp2
  repeat (go_quiet (fail); try go_wp2)
  rw [rounds_succ]
  go_wp2
  repeat (go_quiet (fail); try go_wp2)
  rw [rounds_succ]
  go_wp2
  repeat (go_quiet (fail); try go_wp2)
  rw [rounds_succ]
  go_wp2
  repeat (go_quiet (fail); try go_wp2)
  rw [rounds_succ]
  go_wp2
  repeat (go_quiet (fail); try go_wp2)
  go_ret
  exact ⟨by first | rfl | (simp [errW_none, errW_some] <;> rfl) | (simp [*, errW_none, errW_some] <;> rfl), by repeat first | (with_reducible first | exact HB.out | apply below_alloc | apply pw_below_drewN | apply below_drew1 | refine below_set ?_ GE221.out) | exact HB.out⟩

end Go.Proofs.Ytplioggeccoleaa.Key
