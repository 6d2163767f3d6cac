-- Made by a program of this workplace (wip/pr.sh) out of Lean's print of the translation; Lean checks it.
import Derived.Test.YtofjgdbiieanjaaAllx0
import Derived.Test.YtofjgdbiieanjaaAllx1
import Derived.Test.YtofjgdbiieanjaaAllx51
import Derived.Test.YtofjgdbiieanjaaAllx52
import Derived.Test.YtofjgdbiieanjaaAllx56
namespace Go.Proofs.Ytofjgdbiieanjaa.All
open Go.Proofs.Ytofjgdbiieanjaa.Ext
open Go.RowKit Go.Proofs.YtofjgdbiieanjaaW.PrintWords Go.Proofs.YtofjgdbiieanjaaW.PrintLast Go.Proofs.YtofjgdbiieanjaaW.PrintMore
attribute [local go_sem] max2_int min2_int max_two min_two max_three min_three max_four min_four   -- for this text's walks alone
set_option linter.unusedVariables false
set_option linter.unusedSimpArgs false

attribute [local go_sem high] eqA61
/-! ### mantletlaw04_IpCuts: function 17 -/
def mantletlaw04_IpCuts.j0 : Nat → List Int → Int → Int → Bool → Int → Int → Int → Int → Int → Int → Int → Option (Bool)
  | 0, _, _, _, _, _, _, _, _, _, _, _ => none
  | k + 1, x0, x1, x7, x32, x908000, x908001, x908002, x908003, x908004, x908005, x908006 => if x32 = true then ((mantletlaw04_awake.f k).bind fun t911 => (if t911 = true then (some (x7 != 0)) else (some false))) else (if x908004 = 0 then (none) else (if 0 ≤ (Int.tmod (wrap64 (x1)) x908004) then (if (Int.tmod (wrap64 (x1)) x908004) ≤ (x0.length : Int) then ((ip_Parse.f k (x0.take ((Int.tmod (wrap64 (x1)) x908004) : Int).toNat)).bind fun bt913 => ((mantletlaw04_awake.f k).bind fun t925 => (if t925 = true then (if bt913.2.2.2.2.2.2.2.2 = 4 then (if (bt913.1 == 0 && (bt913.2.1 == 0 && (bt913.2.2.1 == 0 && (bt913.2.2.2.1 == 0 && (bt913.2.2.2.2.1 == 0 && (bt913.2.2.2.2.2.1 == 0 && (bt913.2.2.2.2.2.2.1 == 0))))))) = true then (some ((bt913.2.2.2.2.2.2.2.1.length : Int) == 0)) else (some false)) else (some false)) else (some false)))) else (none)) else (none)))
def mantletlaw04_IpCuts.f (k : Nat) (l0 : List Int) (a1 : Int) : Option (Bool) := (mantletlaw04_short.f l0).bind fun t893 => ((ip_Parse.f k t893).bind fun bt896 => (if bt896.2.2.2.2.2.2.2.2 = 0 then (if bt896.2.2.2.2.1 < 1 then (mantletlaw04_IpCuts.j0 k l0 a1 bt896.2.2.2.2.2.2.2.2 true bt896.1 bt896.2.1 bt896.2.2.1 bt896.2.2.2.1 bt896.2.2.2.2.1 bt896.2.2.2.2.2.1 bt896.2.2.2.2.2.2.1) else ((mantletlaw04_short.f l0).bind fun t908 => (mantletlaw04_IpCuts.j0 k l0 a1 bt896.2.2.2.2.2.2.2.2 (decide (bt896.2.2.2.2.1 > (t908.length : Int))) bt896.1 bt896.2.1 bt896.2.2.1 bt896.2.2.2.1 bt896.2.2.2.2.1 bt896.2.2.2.2.2.1 bt896.2.2.2.2.2.2.1))) else (mantletlaw04_IpCuts.j0 k l0 a1 bt896.2.2.2.2.2.2.2.2 true bt896.1 bt896.2.1 bt896.2.2.1 bt896.2.2.2.1 bt896.2.2.2.2.1 bt896.2.2.2.2.2.1 bt896.2.2.2.2.2.2.1)))
theorem mantletlaw04_IpCuts.mono_l : ∀ k, (∀ y0 y1 y2 y3 y4 y5 y6 y7 y8 y9 y10, LeO (mantletlaw04_IpCuts.j0 k y0 y1 y2 y3 y4 y5 y6 y7 y8 y9 y10) (mantletlaw04_IpCuts.j0 (k + 1) y0 y1 y2 y3 y4 y5 y6 y7 y8 y9 y10))
  | 0 => fun _ _ _ _ _ _ _ _ _ _ _ r h => by simp [mantletlaw04_IpCuts.j0] at h
  | k + 1 => by
    have ih0 := mantletlaw04_IpCuts.mono_l k
    · intro y0 y1 y2 y3 y4 y5 y6 y7 y8 y9 y10
      unfold mantletlaw04_IpCuts.j0
      repeat' first
      | (with_reducible exact ih0 _ _ _ _ _ _ _ _ _ _ _)
      | (with_reducible exact ip_Parse.mono _ _)
      | (with_reducible exact mantletlaw04_awake.mono _)
      | (with_reducible exact LeO.refl _)
      | (with_reducible exact LeO.none _)
      | (with_reducible refine LeO.ite ?_ ?_)
      | (with_reducible refine LeO.bind ?_ (fun _ => ?_))
      | exact ih0 _ _ _ _ _ _ _ _ _ _ _
      | exact ip_Parse.mono _ _
      | exact mantletlaw04_awake.mono _
      | exact LeO.none _
      | refine LeO.ite ?_ ?_
      | refine LeO.bind ?_ (fun _ => ?_)
theorem mantletlaw04_IpCuts.mono : ∀ a0 a1 k, LeO (mantletlaw04_IpCuts.f k a0 a1) (mantletlaw04_IpCuts.f (k + 1) a0 a1) := by
  intro a0 a1 k
  have ih0 := mantletlaw04_IpCuts.mono_l k
  unfold mantletlaw04_IpCuts.f
  repeat' first
      | (with_reducible exact ih0 _ _ _ _ _ _ _ _ _ _ _)
      | (with_reducible exact ip_Parse.mono _ _)
      | (with_reducible exact mantletlaw04_awake.mono _)
      | (with_reducible exact LeO.refl _)
      | (with_reducible exact LeO.none _)
      | (with_reducible refine LeO.ite ?_ ?_)
      | (with_reducible refine LeO.bind ?_ (fun _ => ?_))
      | exact ih0 _ _ _ _ _ _ _ _ _ _ _
      | exact ip_Parse.mono _ _
      | exact mantletlaw04_awake.mono _
      | exact LeO.none _
      | refine LeO.ite ?_ ?_
      | refine LeO.bind ?_ (fun _ => ?_)
def mantletlaw04_IpCuts.T2 : Bool × List (List Nat × List Nat) := (true, [([], []), ([0], [0]), ([1], [1]), ([2], [2]), ([3, 2], [2, 3]), ([4, 2], [2, 4]), ([2, 5], [2, 5]), ([6, 2], [6]), ([7], [7]), ([8, 7], [7, 8]), ([7], [7]), ([10, 7, 7], [7, 10]), ([11, 7], [7, 11]), ([9, 12, 7], [7, 9, 12]), ([7, 13], [7, 13])])
def mantletlaw04_IpCuts.B2 : List Nat := [0, 1, 3, 7, 15, 31, 63, 127, 255, 511, 255, 1279, 3327, 8191, 16383]
theorem mantletlaw04_IpCuts.tab2 : rtab .any (opsOf Try.f17 2) = mantletlaw04_IpCuts.T2 := by kernel_rfl
theorem mantletlaw04_IpCuts.bits2 : waitsOk mantletlaw04_IpCuts.T2.2 mantletlaw04_IpCuts.B2 = true := by kernel_rfl
set_option maxHeartbeats 8000000 in
set_option maxRecDepth 100000 in
theorem mantletlaw04_IpCuts.calls (k : Nat) (A0 : Option Addr) (c0 : Nat) (l0 : List Int) (a1 : Int) (r : Bool) (w : World) (hr0 : Kd.C (Kd.int .u8) w A0 l0.length l0) (hc0 : l0.length ≤ c0) (h : mantletlaw04_IpCuts.f k l0 a1 = some r) :
    Calls Try.prog 17 #[.slice A0 l0.length c0, .int .u16 a1] w fun e w' => e = .returned (.bool r) ∧ Below w.heap.size w w' := by
  have hu61 := Try.underlying61
  have HR0 := Aside0.mk hr0
  have HC0 := Aside0.mk hc0
  clear hr0 hc0
  have HB := Aside0.mk (Below.refl w.heap.size w)
  have H : ((mantletlaw04_short.f l0).bind fun t893 => ((ip_Parse.f k t893).bind fun bt896 => (if bt896.2.2.2.2.2.2.2.2 = 0 then (if bt896.2.2.2.2.1 < 1 then (mantletlaw04_IpCuts.j0 k l0 a1 bt896.2.2.2.2.2.2.2.2 true bt896.1 bt896.2.1 bt896.2.2.1 bt896.2.2.2.1 bt896.2.2.2.2.1 bt896.2.2.2.2.2.1 bt896.2.2.2.2.2.2.1) else ((mantletlaw04_short.f l0).bind fun t908 => (mantletlaw04_IpCuts.j0 k l0 a1 bt896.2.2.2.2.2.2.2.2 (decide (bt896.2.2.2.2.1 > (t908.length : Int))) bt896.1 bt896.2.1 bt896.2.2.1 bt896.2.2.2.1 bt896.2.2.2.2.1 bt896.2.2.2.2.2.1 bt896.2.2.2.2.2.2.1))) else (mantletlaw04_IpCuts.j0 k l0 a1 bt896.2.2.2.2.2.2.2.2 true bt896.1 bt896.2.1 bt896.2.2.1 bt896.2.2.2.1 bt896.2.2.2.2.1 bt896.2.2.2.2.2.1 bt896.2.2.2.2.2.2.1)))) = some r := h
  clear h
  replace H := Option.bind_eq_some_iff.mp H
  obtain ⟨t893, A30, H⟩ := H
  replace H : ((ip_Parse.f k t893).bind fun bt896 => (if bt896.2.2.2.2.2.2.2.2 = 0 then (if bt896.2.2.2.2.1 < 1 then (mantletlaw04_IpCuts.j0 k l0 a1 bt896.2.2.2.2.2.2.2.2 true bt896.1 bt896.2.1 bt896.2.2.1 bt896.2.2.2.1 bt896.2.2.2.2.1 bt896.2.2.2.2.2.1 bt896.2.2.2.2.2.2.1) else ((mantletlaw04_short.f l0).bind fun t908 => (mantletlaw04_IpCuts.j0 k l0 a1 bt896.2.2.2.2.2.2.2.2 (decide (bt896.2.2.2.2.1 > (t908.length : Int))) bt896.1 bt896.2.1 bt896.2.2.1 bt896.2.2.2.1 bt896.2.2.2.2.1 bt896.2.2.2.2.2.1 bt896.2.2.2.2.2.2.1))) else (mantletlaw04_IpCuts.j0 k l0 a1 bt896.2.2.2.2.2.2.2.2 true bt896.1 bt896.2.1 bt896.2.2.1 bt896.2.2.2.1 bt896.2.2.2.2.1 bt896.2.2.2.2.2.1 bt896.2.2.2.2.2.2.1))) = some r := H
  have A3 := Aside0.mk A30
  clear A30
  replace H := Option.bind_eq_some_iff.mp H
  obtain ⟨⟨t896, t897, t898, t899, t900, t901, t902, t903, t906⟩, A40, H⟩ := H
  replace H : (if t906 = 0 then (if t900 < 1 then (mantletlaw04_IpCuts.j0 k l0 a1 t906 true t896 t897 t898 t899 t900 t901 t902) else ((mantletlaw04_short.f l0).bind fun t908 => (mantletlaw04_IpCuts.j0 k l0 a1 t906 (decide (t900 > (t908.length : Int))) t896 t897 t898 t899 t900 t901 t902))) else (mantletlaw04_IpCuts.j0 k l0 a1 t906 true t896 t897 t898 t899 t900 t901 t902)) = some r := H
  have A4 := Aside0.mk A40
  clear A40
  have HC5 := Aside0.mk H
  clear H
  go_enter Try.func17, Try.ntmps17
  go_upto_region 2 with (first | ((with_reducible refine gate_callee (f := 47) rfl ?_); refine goesL_ (some 13) rfl rfl Try.func47 (by kernel_rfl) rfl #[.slice A0 l0.length c0] rfl (by (try simp only [List.map_toArray, List.map_cons, List.map_nil]); first | done | rfl) ?_; (with_reducible refine (mantletlaw04_short.calls (fun k_ => k_ < w.heap.size) _ _ l0 t893 _ ?side1 A3.out).mono ?_); (case side1 => exact Kd.V_mk HC0.out (Kd.F_below (Kd.C_F (Kd.heap_int .u8) HR0.out) (by repeat first | (with_reducible first | exact HB.out | apply below_alloc | apply pw_below_drewN | apply below_drew1) | exact HB.out))); rintro e w6 ⟨v894, rfl, ho0, hb⟩; refine ⟨_, rfl, ?_⟩; have n0_ := Aside0.mk (Kd.V_lower (Kd.V_mono (ok' := fun k_ => True) ho0 (fun k_ hk_ => trivial)) (below_size (by repeat first | (with_reducible first | exact HB.out | apply below_alloc | apply pw_below_drewN | apply below_drew1) | exact HB.out))); have n1_ := Aside0.mk (below_step (by repeat first | (with_reducible first | exact HB.out | apply below_alloc | apply pw_below_drewN | apply below_drew1) | exact HB.out) hb); clear HB; have HO895 := n0_; have HB := n1_; clear n0_ n1_; (try clear hb); (try clear hb2); (try clear hk); (try clear hi); (try clear ho0); obtain ⟨Ao7, co7, eo7⟩ := Kd.V_slice HO895.out; subst eo7) | ((with_reducible refine gate_callee (f := 46) rfl ?_); refine goesL_ (some 14) rfl rfl Try.func46 (by kernel_rfl) rfl #[.slice Ao7 t893.length co7] rfl (by (try simp only [List.map_toArray, List.map_cons, List.map_nil]); first | done | rfl) ?_; (with_reducible refine (ip_Parse.calls k _ _ t893 t896 t897 t898 t899 t900 t901 t902 t903 t906 _ ?side1 ?side2 A4.out).mono ?_); (case side1 => repeat (first | exact (Kd.V_reads' HO895.out).2.2 | (with_reducible refine Kd.C_alloc ?_ _) | (with_reducible refine Kd.C_drewN ?_ _) | (with_reducible refine Kd.C_drew ?_))); (case side2 => exact (Kd.V_reads' HO895.out).2.1); rintro e w8 ⟨v904, rfl, ho0, hb⟩; refine ⟨_, rfl, ?_⟩; have n0_ := Aside0.mk (Kd.V_below (by (with_reducible repeat (first | apply Kd.V_alloc | apply Kd.V_drewN | apply Kd.V_drew)); exact HO895.out) hb); have n1_ := Aside0.mk (Kd.V_lower (Kd.V_mono (ok' := fun k_ => True) ho0 (fun k_ hk_ => trivial)) (below_size (by repeat first | (with_reducible first | exact HB.out | apply below_alloc | apply pw_below_drewN | apply below_drew1) | exact HB.out))); have n2_ := Aside0.mk (below_step (by repeat first | (with_reducible first | exact HB.out | apply below_alloc | apply pw_below_drewN | apply below_drew1) | exact HB.out) hb); clear HO895; clear HB; have HO895 := n0_; have HO905 := n1_; have HB := n2_; clear n0_ n1_ n2_; (try clear hb); (try clear hb2); (try clear hk); (try clear hi); (try clear ho0)) | ((with_reducible refine gate_dst (N := 5) rfl ?_); (try (refine gate_guard (by rfl) ?_; dsimp only)); refine box_event ?hg (N := 5) ?hd (cs := #[.int .u8 0, .int .u32 0, .int .u32 0, .int .i64 0, .int .i64 0, .int .u8 0, .int .u16 0]) (t := 61) ?hr ?_; (case hd => rfl); (case hg => rfl); (case hr => first | (go_simp; done) | (go_simp; rfl)); intro gb907 hg w9 hbox hb; have n0_ := Aside0.mk (Kd.V_below (Kd.V_elderB (by (with_reducible repeat (first | apply Kd.V_alloc | apply Kd.V_drewN | apply Kd.V_drew)); exact HO895.out) gb907 (Nat.le_of_eq hg.symm)) hb); have n1_ := Aside0.mk (Kd.V_below (Kd.V_elderB (by (with_reducible repeat (first | apply Kd.V_alloc | apply Kd.V_drewN | apply Kd.V_drew)); exact HO905.out) gb907 (Nat.le_of_eq hg.symm)) hb); have n2_ := Aside0.mk (below_step (by repeat first | (with_reducible first | exact HB.out | apply below_alloc | apply pw_below_drewN | apply below_drew1) | exact HB.out) hb); have n3_ := Aside0.mk (hbox); have n4_ := Aside0.mk ((by rw [hg]; exact (below_size (by repeat first | (with_reducible first | exact HB.out | apply below_alloc | apply pw_below_drewN | apply below_drew1) | exact HB.out)) : w.heap.size ≤ gb907)); have n5_ := Aside0.mk ((by rw [hg]; exact (below_size (by repeat first | (with_reducible first | exact HB.out | apply below_alloc | apply pw_below_drewN | apply below_drew1) | exact HB.out)) : w.heap.size ≤ gb907)); clear HO895; clear HO905; clear HB; have HO895 := n0_; have HO905 := n1_; have HB := n2_; have BK907 := n3_; have GW907 := n4_; have GE907 := n5_; clear n0_ n1_ n2_ n3_ n4_ n5_; clear hb hbox hg; have hcz10_0 : w9.cell? ⟨gb907, 0, none⟩ = some (.int .u8 0) := (blk_cell BK907.out 0).trans rfl; have hcz10_1 : w9.cell? ⟨gb907, 1, none⟩ = some (.int .u32 0) := (blk_cell BK907.out 1).trans rfl; have hcz10_2 : w9.cell? ⟨gb907, 2, none⟩ = some (.int .u32 0) := (blk_cell BK907.out 2).trans rfl; have hcz10_3 : w9.cell? ⟨gb907, 3, none⟩ = some (.int .i64 0) := (blk_cell BK907.out 3).trans rfl; have hcz10_4 : w9.cell? ⟨gb907, 4, none⟩ = some (.int .i64 0) := (blk_cell BK907.out 4).trans rfl; have hcz10_5 : w9.cell? ⟨gb907, 5, none⟩ = some (.int .u8 0) := (blk_cell BK907.out 5).trans rfl; have hcz10_6 : w9.cell? ⟨gb907, 6, none⟩ = some (.int .u16 0) := (blk_cell BK907.out 6).trans rfl; have hfz10_0 := blk_frozen BK907.out 0; have hfz10_1 := blk_frozen BK907.out 1; have hfz10_2 := blk_frozen BK907.out 2; have hfz10_3 := blk_frozen BK907.out 3; have hfz10_4 := blk_frozen BK907.out 4; have hfz10_5 := blk_frozen BK907.out 5; have hfz10_6 := blk_frozen BK907.out 6) | ((with_reducible refine gate_store (t := 61) (p := 5) rfl ?_); refine store_event (t := 61) (p := 5) (v := ?vo_w11) (w1 := (((((((w9.setCell ⟨gb907, 0, none⟩ (.int .u8 t896)).setCell ⟨gb907, 1, none⟩ (.int .u32 t897)).setCell ⟨gb907, 2, none⟩ (.int .u32 t898)).setCell ⟨gb907, 3, none⟩ (.int .i64 t899)).setCell ⟨gb907, 4, none⟩ (.int .i64 t900)).setCell ⟨gb907, 5, none⟩ (.int .u8 t901)).setCell ⟨gb907, 6, none⟩ (.int .u16 t902))) ?hg ?ho ?hn ?hr ?_; (case ho => rfl); (case hg => rfl); (case hn => rfl); (case hr => first | (go_simp; done) | (go_simp; rfl)); intro w11 hw; have n0_ : Aside0 (Kd.V (Kd.int .u8) 5 w11 w.heap.size (fun k_ => k_ ≠ gb907) (.slice Ao7 t893.length co7) t893) := ⟨(by rw [hw]; exact (by (with_reducible repeat (first | apply Kd.V_alloc | apply Kd.V_drewN | apply Kd.V_drew)); exact Kd.V_mono (Kd.V_far (p := ⟨gb907, 6, none⟩) (Kd.V_far (p := ⟨gb907, 5, none⟩) (Kd.V_far (p := ⟨gb907, 4, none⟩) (Kd.V_far (p := ⟨gb907, 3, none⟩) (Kd.V_far (p := ⟨gb907, 2, none⟩) (Kd.V_far (p := ⟨gb907, 1, none⟩) (Kd.V_far (p := ⟨gb907, 0, none⟩) (Kd.V_mono HO895.out (fun k_ hk => (⟨hk, hk.2⟩ : _ ∧ k_ ≠ gb907))) (fun _ hk => hk.2) (.int .u8 t896)) (fun _ hk => hk.2) (.int .u32 t897)) (fun _ hk => hk.2) (.int .u32 t898)) (fun _ hk => hk.2) (.int .i64 t899)) (fun _ hk => hk.2) (.int .i64 t900)) (fun _ hk => hk.2) (.int .u8 t901)) (fun _ hk => hk.2) (.int .u16 t902)) (fun _ hk => hk.1.2)))⟩; have n1_ : Aside0 (Kd.V (Kd.int .u8) 5 w11 w.heap.size (fun k_ => k_ ≠ gb907) v904 t903) := ⟨(by rw [hw]; exact (by (with_reducible repeat (first | apply Kd.V_alloc | apply Kd.V_drewN | apply Kd.V_drew)); exact Kd.V_mono (Kd.V_far (p := ⟨gb907, 6, none⟩) (Kd.V_far (p := ⟨gb907, 5, none⟩) (Kd.V_far (p := ⟨gb907, 4, none⟩) (Kd.V_far (p := ⟨gb907, 3, none⟩) (Kd.V_far (p := ⟨gb907, 2, none⟩) (Kd.V_far (p := ⟨gb907, 1, none⟩) (Kd.V_far (p := ⟨gb907, 0, none⟩) (Kd.V_mono HO905.out (fun k_ hk => (⟨hk, hk.2⟩ : _ ∧ k_ ≠ gb907))) (fun _ hk => hk.2) (.int .u8 t896)) (fun _ hk => hk.2) (.int .u32 t897)) (fun _ hk => hk.2) (.int .u32 t898)) (fun _ hk => hk.2) (.int .i64 t899)) (fun _ hk => hk.2) (.int .i64 t900)) (fun _ hk => hk.2) (.int .u8 t901)) (fun _ hk => hk.2) (.int .u16 t902)) (fun _ hk => hk.1.2)))⟩; have n2_ : Aside0 (w11.heap[gb907]? = some (.cells #[.int .u8 t896, .int .u32 t897, .int .u32 t898, .int .i64 t899, .int .i64 t900, .int .u8 t901, .int .u16 t902] 61 (0, 0))) := ⟨(by rw [hw]; exact (by (with_reducible repeat first | apply blk_drewN | apply blk_drew | apply blk_alloc); refine blk_put (cs := #[.int .u8 t896, .int .u32 t897, .int .u32 t898, .int .i64 t899, .int .i64 t900, .int .u8 t901, .int .u16 0]) ?_ 6 _ rfl; (with_reducible repeat first | apply blk_drewN | apply blk_drew | apply blk_alloc); refine blk_put (cs := #[.int .u8 t896, .int .u32 t897, .int .u32 t898, .int .i64 t899, .int .i64 t900, .int .u8 0, .int .u16 0]) ?_ 5 _ rfl; (with_reducible repeat first | apply blk_drewN | apply blk_drew | apply blk_alloc); refine blk_put (cs := #[.int .u8 t896, .int .u32 t897, .int .u32 t898, .int .i64 t899, .int .i64 0, .int .u8 0, .int .u16 0]) ?_ 4 _ rfl; (with_reducible repeat first | apply blk_drewN | apply blk_drew | apply blk_alloc); refine blk_put (cs := #[.int .u8 t896, .int .u32 t897, .int .u32 t898, .int .i64 0, .int .i64 0, .int .u8 0, .int .u16 0]) ?_ 3 _ rfl; (with_reducible repeat first | apply blk_drewN | apply blk_drew | apply blk_alloc); refine blk_put (cs := #[.int .u8 t896, .int .u32 t897, .int .u32 0, .int .i64 0, .int .i64 0, .int .u8 0, .int .u16 0]) ?_ 2 _ rfl; (with_reducible repeat first | apply blk_drewN | apply blk_drew | apply blk_alloc); refine blk_put (cs := #[.int .u8 t896, .int .u32 0, .int .u32 0, .int .i64 0, .int .i64 0, .int .u8 0, .int .u16 0]) ?_ 1 _ rfl; (with_reducible repeat first | apply blk_drewN | apply blk_drew | apply blk_alloc); refine blk_put (cs := #[.int .u8 0, .int .u32 0, .int .u32 0, .int .i64 0, .int .i64 0, .int .u8 0, .int .u16 0]) ?_ 0 _ rfl; (with_reducible repeat first | apply blk_drewN | apply blk_drew | apply blk_alloc); exact BK907.out))⟩; have n3_ : Aside0 (Below w.heap.size w w11) := ⟨(by rw [hw]; exact (by repeat first | (with_reducible first | exact HB.out | apply below_alloc | apply pw_below_drewN | apply below_drew1 | refine below_set ?_ GE907.out) | exact HB.out))⟩; clear hw; clear HO895; clear HO905; clear BK907; clear HB; have HO895 := n0_; have HO905 := n1_; have BK907 := n2_; have HB := n3_; clear n0_ n1_ n2_ n3_))
  (try simp only [Act.put, List.setIfInBounds_toArray, List.set_cons_zero, List.set_cons_succ])
  go_cut [32] (fun v32 wc => ∃ (kq : Nat) (x32_4 : Bool), v32 = .bool x32_4 ∧ Aside0 (mantletlaw04_IpCuts.j0 kq l0 a1 t906 x32_4 t896 t897 t898 t899 t900 t901 t902 = some r) ∧ Aside0 (kq ≤ k) ∧ Aside0 (wc.heap[gb907]? = some (.cells #[.int .u8 t896, .int .u32 t897, .int .u32 t898, .int .i64 t899, .int .i64 t900, .int .u8 t901, .int .u16 t902] 61 (0, 0))) ∧ Aside0 (Below w.heap.size w wc))
  case first =>
    have H := HC5.out
    clear HC5
    by_cases c12 : t906 = 0
    · rw [if_pos c12] at H
      have c12b0 : (t906 == 0) = true := beq_iff_eq.mpr c12
      have c12b1 : (t906 != 0) = false := bne_eq_false_iff_eq.mpr c12
      clear c12
      (first | rw [c12b0] | (simp only [i64_w, i32_w]; rw [c12b0]) | skip)
      by_cases c13 : t900 < 1
      · rw [if_pos c13] at H
        have c13b0 : decide (t900 < 1) = true := decide_eq_true c13
        clear c13
        have H' := Aside0.mk H
        clear H
        try go_wp2
        have n0_ := Aside0.mk (Kd.V_drew HO895.out)
        have n1_ := Aside0.mk (Kd.V_drew HO905.out)
        have n2_ := Aside0.mk (blk_drew BK907.out)
        have n3_ := Aside0.mk (below_drew1 HB.out)
        clear HO895
        clear HO905
        clear BK907
        clear HB
        have HO895 := n0_
        have HO905 := n1_
        have BK907 := n2_
        have HB := n3_
        clear n0_ n1_ n2_ n3_
        refine start_ (n := 15) (S := fun w' => w'.cell? ⟨gb907, 0, none⟩ = some (.int .u8 t896) ∧ w'.cell? ⟨gb907, 1, none⟩ = some (.int .u32 t897) ∧ w'.cell? ⟨gb907, 2, none⟩ = some (.int .u32 t898) ∧ w'.cell? ⟨gb907, 3, none⟩ = some (.int .i64 t899) ∧ w'.cell? ⟨gb907, 4, none⟩ = some (.int .i64 t900) ∧ w'.cell? ⟨gb907, 5, none⟩ = some (.int .u8 t901) ∧ w'.cell? ⟨gb907, 6, none⟩ = some (.int .u16 t902)) (ds := []) #[false, false, false, false, false, false, false, false, false, false, false, false, false, false, false] (by kernel_rfl) rfl rfl ⟨(blk_cell BK907.out 0).trans rfl, (blk_cell BK907.out 1).trans rfl, (blk_cell BK907.out 2).trans rfl, (blk_cell BK907.out 3).trans rfl, (blk_cell BK907.out 4).trans rfl, (blk_cell BK907.out 5).trans rfl, (blk_cell BK907.out 6).trans rfl⟩ (fun hHeld => ?_); refine with_tabW mantletlaw04_IpCuts.tab2 mantletlaw04_IpCuts.bits2 (fun HT_ HW_ => ?_)
        generalize w11.drew = w14 at HO895 HO905 BK907 HB hHeld ⊢
        refine pure_ (i := 0) (N := some 18) (v := ?_) (a' := ?_) #[true, false, false, false, false, false, false, false, false, false, false, false, false, false, false] rfl rfl (any_of HT_.out (by kernel_rfl)) (fun _ _ _ h => h) (Or.inl ⟨by rfl, ?_⟩) ?_ ?_
        rotate_left
        · intro w'
          go_simp
          with_reducible rfl
        rotate_left
        · simp only [Act.put, List.setIfInBounds_toArray, List.set_cons_zero, List.set_cons_succ, i64_w, i32_w]
          rfl
        refine pure_ (i := 1) (N := some 19) (v := ?_) (a' := ?_) #[true, true, false, false, false, false, false, false, false, false, false, false, false, false, false] rfl rfl (any_of HT_.out (by kernel_rfl)) (fun _ _ _ h => h) (Or.inl ⟨by rfl, ?_⟩) ?_ ?_
        rotate_left
        · intro w'
          go_simp
          with_reducible rfl
        rotate_left
        · simp only [Act.put, List.setIfInBounds_toArray, List.set_cons_zero, List.set_cons_succ, i64_w, i32_w]
          rfl
        refine pure_ (i := 2) (N := some 20) (v := ?_) (a' := ?_) #[true, true, true, false, false, false, false, false, false, false, false, false, false, false, false] rfl rfl (any_of HT_.out (by kernel_rfl)) (fun _ _ _ h => h) (Or.inl ⟨by rfl, ?_⟩) ?_ ?_
        rotate_left
        · intro w'
          go_simp
          with_reducible rfl
        rotate_left
        · simp only [Act.put, List.setIfInBounds_toArray, List.set_cons_zero, List.set_cons_succ, i64_w, i32_w]
          rfl
        refine pure_ (i := 3) (N := some 21) (v := ?_) (a' := ?_) #[true, true, true, true, false, false, false, false, false, false, false, false, false, false, false] rfl rfl (any_of HT_.out (by kernel_rfl)) (fun _ _ _ h => h) (Or.inl ⟨by rfl, ?_⟩) ?_ ?_
        rotate_left
        · intro w'
          go_simp
          with_reducible rfl
        rotate_left
        · simp only [Act.put, List.setIfInBounds_toArray, List.set_cons_zero, List.set_cons_succ, i64_w, i32_w]
          rfl
        refine take_ (i := 4) (N := some 22) (v := ?_) (a' := ?_) #[true, true, true, true, true, false, false, false, false, false, false, false, false, false, false] rfl rfl (take_ofW HT_.out HW_.out (by kernel_rfl)) (fun _ _ _ h => h) (Or.inl ⟨by rfl, ?_⟩) hHeld ?_ ?_
        rotate_left
        · rintro w' ⟨s0, s1, s2, s3, s4, s5, s6⟩
          go_simp
          with_reducible rfl
        rotate_left
        · simp only [Act.put, List.setIfInBounds_toArray, List.set_cons_zero, List.set_cons_succ, i64_w, i32_w]
          rfl
        refine pure_ (i := 5) (N := some 23) (v := ?_) (a' := ?_) #[true, true, true, true, true, true, false, false, false, false, false, false, false, false, false] rfl rfl (any_of HT_.out (by kernel_rfl)) (fun _ _ _ h => h) (Or.inl ⟨by rfl, ?_⟩) ?_ ?_
        rotate_left
        · intro w'
          go_simp
          with_reducible rfl
        rotate_left
        · simp only [Act.put, List.setIfInBounds_toArray, List.set_cons_zero, List.set_cons_succ, i64_w, i32_w]
          rfl
        refine pure_ (i := 6) (N := some 24) (v := ?_) (a' := ?_) #[true, true, true, true, true, true, true, false, false, false, false, false, false, false, false] rfl rfl (any_of HT_.out (by kernel_rfl)) (fun _ _ _ h => h) (Or.inl ⟨by rfl, ?_⟩) ?_ ?_
        rotate_left
        · intro w'
          go_simp
          with_reducible rfl
        rotate_left
        · simp only [Act.put, List.setIfInBounds_toArray, List.set_cons_zero, List.set_cons_succ, i64_w, i32_w]
          rfl
        refine pure_ (i := 7) (N := some 25) (v := ?_) (a' := ?_) #[true, true, true, true, true, true, true, true, false, false, false, false, false, false, false] rfl rfl (any_of HT_.out (by kernel_rfl)) (fun _ _ _ h => h) (Or.inl ⟨by rfl, ?_⟩) ?_ ?_
        rotate_left
        · intro w'
          go_simp
          with_reducible rfl
        rotate_left
        · simp only [Act.put, List.setIfInBounds_toArray, List.set_cons_zero, List.set_cons_succ, i64_w, i32_w]
          rfl
        refine pure_ (i := 8) (N := some 26) (v := undef) (a' := ?_) #[true, true, true, true, true, true, true, true, true, false, false, false, false, false, false] rfl rfl (any_of HT_.out (by kernel_rfl)) (fun _ _ _ h => h) (Or.inr ⟨by rfl, rfl⟩) ?_ ?_
        rotate_left
        · simp only [Act.put, List.setIfInBounds_toArray, List.set_cons_zero, List.set_cons_succ, i64_w, i32_w]
          rfl
        refine pure_ (i := 9) (N := some 27) (v := undef) (a' := ?_) #[true, true, true, true, true, true, true, true, true, true, false, false, false, false, false] rfl rfl (any_of HT_.out (by kernel_rfl)) (fun _ _ _ h => h) (Or.inr ⟨by rfl, rfl⟩) ?_ ?_
        rotate_left
        · simp only [Act.put, List.setIfInBounds_toArray, List.set_cons_zero, List.set_cons_succ, i64_w, i32_w]
          rfl
        refine pure_ (i := 10) (N := some 28) (v := undef) (a' := ?_) #[true, true, true, true, true, true, true, true, true, true, true, false, false, false, false] rfl rfl (any_of HT_.out (by kernel_rfl)) (fun _ _ _ h => h) (Or.inr ⟨by rfl, rfl⟩) ?_ ?_
        rotate_left
        · simp only [Act.put, List.setIfInBounds_toArray, List.set_cons_zero, List.set_cons_succ, i64_w, i32_w]
          rfl
        refine pure_ (i := 11) (N := some 29) (v := undef) (a' := ?_) #[true, true, true, true, true, true, true, true, true, true, true, true, false, false, false] rfl rfl (any_of HT_.out (by kernel_rfl)) (fun _ _ _ h => h) (Or.inr ⟨by rfl, rfl⟩) ?_ ?_
        rotate_left
        · simp only [Act.put, List.setIfInBounds_toArray, List.set_cons_zero, List.set_cons_succ, i64_w, i32_w]
          rfl
        refine pure_ (i := 12) (N := some 30) (v := undef) (a' := ?_) #[true, true, true, true, true, true, true, true, true, true, true, true, true, false, false] rfl rfl (any_of HT_.out (by kernel_rfl)) (fun _ _ _ h => h) (Or.inr ⟨by rfl, rfl⟩) ?_ ?_
        rotate_left
        · simp only [Act.put, List.setIfInBounds_toArray, List.set_cons_zero, List.set_cons_succ, i64_w, i32_w]
          rfl
        refine pure_ (i := 13) (N := some 31) (v := undef) (a' := ?_) #[true, true, true, true, true, true, true, true, true, true, true, true, true, true, false] rfl rfl (any_of HT_.out (by kernel_rfl)) (fun _ _ _ h => h) (Or.inr ⟨by rfl, rfl⟩) ?_ ?_
        rotate_left
        · simp only [Act.put, List.setIfInBounds_toArray, List.set_cons_zero, List.set_cons_succ, i64_w, i32_w]
          rfl
        refine pure_ (i := 14) (N := some 32) (v := ?_) (a' := ?_) #[true, true, true, true, true, true, true, true, true, true, true, true, true, true, true] rfl rfl (any_of HT_.out (by kernel_rfl)) (fun _ _ _ h => h) (Or.inl ⟨by rfl, ?_⟩) ?_ ?_
        rotate_left
        · intro w'
          go_simp
          with_reducible rfl
        rotate_left
        · simp only [Act.put, List.setIfInBounds_toArray, List.set_cons_zero, List.set_cons_succ, i64_w, i32_w]
          rfl
        refine done_ (done_of HT_.out (by kernel_rfl)) ?_
        try go_wp2
        go_meet
        case rel => exact ⟨_, (true), (by first | rfl | (simp; done) | (simp [*]; done)), H', ⟨by first | omega | exact Nat.le_refl _⟩, ⟨by (with_reducible repeat first | apply blk_drewN | apply blk_drew | apply blk_alloc); exact BK907.out⟩, ⟨by repeat first | (with_reducible first | exact HB.out | apply below_alloc | apply pw_below_drewN | apply below_drew1 | refine below_set ?_ GE907.out) | exact HB.out⟩⟩
      · rw [if_neg c13] at H
        have c13b0 : decide (t900 < 1) = false := decide_eq_false c13
        clear c13
        replace H := Option.bind_eq_some_iff.mp H
        obtain ⟨t908, A150, H⟩ := H
        replace H : (mantletlaw04_IpCuts.j0 k l0 a1 t906 (decide (t900 > (t908.length : Int))) t896 t897 t898 t899 t900 t901 t902) = some r := H
        have A15 := Aside0.mk A150
        clear A150
        have H' := Aside0.mk H
        clear H
        try go_wp2
        have n0_ := Aside0.mk (Kd.V_drew HO895.out)
        have n1_ := Aside0.mk (Kd.V_drew HO905.out)
        have n2_ := Aside0.mk (blk_drew BK907.out)
        have n3_ := Aside0.mk (below_drew1 HB.out)
        clear HO895
        clear HO905
        clear BK907
        clear HB
        have HO895 := n0_
        have HO905 := n1_
        have BK907 := n2_
        have HB := n3_
        clear n0_ n1_ n2_ n3_
        refine start_ (n := 15) (S := fun w' => w'.cell? ⟨gb907, 0, none⟩ = some (.int .u8 t896) ∧ w'.cell? ⟨gb907, 1, none⟩ = some (.int .u32 t897) ∧ w'.cell? ⟨gb907, 2, none⟩ = some (.int .u32 t898) ∧ w'.cell? ⟨gb907, 3, none⟩ = some (.int .i64 t899) ∧ w'.cell? ⟨gb907, 4, none⟩ = some (.int .i64 t900) ∧ w'.cell? ⟨gb907, 5, none⟩ = some (.int .u8 t901) ∧ w'.cell? ⟨gb907, 6, none⟩ = some (.int .u16 t902)) (ds := []) #[false, false, false, false, false, false, false, false, false, false, false, false, false, false, false] (by kernel_rfl) rfl rfl ⟨(blk_cell BK907.out 0).trans rfl, (blk_cell BK907.out 1).trans rfl, (blk_cell BK907.out 2).trans rfl, (blk_cell BK907.out 3).trans rfl, (blk_cell BK907.out 4).trans rfl, (blk_cell BK907.out 5).trans rfl, (blk_cell BK907.out 6).trans rfl⟩ (fun hHeld => ?_); refine with_tabW mantletlaw04_IpCuts.tab2 mantletlaw04_IpCuts.bits2 (fun HT_ HW_ => ?_)
        generalize w11.drew = w16 at HO895 HO905 BK907 HB hHeld ⊢
        refine pure_ (i := 0) (N := some 18) (v := ?_) (a' := ?_) #[true, false, false, false, false, false, false, false, false, false, false, false, false, false, false] rfl rfl (any_of HT_.out (by kernel_rfl)) (fun _ _ _ h => h) (Or.inl ⟨by rfl, ?_⟩) ?_ ?_
        rotate_left
        · intro w'
          go_simp
          with_reducible rfl
        rotate_left
        · simp only [Act.put, List.setIfInBounds_toArray, List.set_cons_zero, List.set_cons_succ, i64_w, i32_w]
          rfl
        refine pure_ (i := 1) (N := some 19) (v := ?_) (a' := ?_) #[true, true, false, false, false, false, false, false, false, false, false, false, false, false, false] rfl rfl (any_of HT_.out (by kernel_rfl)) (fun _ _ _ h => h) (Or.inl ⟨by rfl, ?_⟩) ?_ ?_
        rotate_left
        · intro w'
          go_simp
          with_reducible rfl
        rotate_left
        · simp only [Act.put, List.setIfInBounds_toArray, List.set_cons_zero, List.set_cons_succ, i64_w, i32_w]
          rfl
        refine pure_ (i := 2) (N := some 20) (v := ?_) (a' := ?_) #[true, true, true, false, false, false, false, false, false, false, false, false, false, false, false] rfl rfl (any_of HT_.out (by kernel_rfl)) (fun _ _ _ h => h) (Or.inl ⟨by rfl, ?_⟩) ?_ ?_
        rotate_left
        · intro w'
          go_simp
          with_reducible rfl
        rotate_left
        · simp only [Act.put, List.setIfInBounds_toArray, List.set_cons_zero, List.set_cons_succ, i64_w, i32_w]
          rfl
        refine pure_ (i := 3) (N := some 21) (v := ?_) (a' := ?_) #[true, true, true, true, false, false, false, false, false, false, false, false, false, false, false] rfl rfl (any_of HT_.out (by kernel_rfl)) (fun _ _ _ h => h) (Or.inl ⟨by rfl, ?_⟩) ?_ ?_
        rotate_left
        · intro w'
          go_simp
          with_reducible rfl
        rotate_left
        · simp only [Act.put, List.setIfInBounds_toArray, List.set_cons_zero, List.set_cons_succ, i64_w, i32_w]
          rfl
        refine take_ (i := 4) (N := some 22) (v := ?_) (a' := ?_) #[true, true, true, true, true, false, false, false, false, false, false, false, false, false, false] rfl rfl (take_ofW HT_.out HW_.out (by kernel_rfl)) (fun _ _ _ h => h) (Or.inl ⟨by rfl, ?_⟩) hHeld ?_ ?_
        rotate_left
        · rintro w' ⟨s0, s1, s2, s3, s4, s5, s6⟩
          go_simp
          with_reducible rfl
        rotate_left
        · simp only [Act.put, List.setIfInBounds_toArray, List.set_cons_zero, List.set_cons_succ, i64_w, i32_w]
          rfl
        refine pure_ (i := 5) (N := some 23) (v := ?_) (a' := ?_) #[true, true, true, true, true, true, false, false, false, false, false, false, false, false, false] rfl rfl (any_of HT_.out (by kernel_rfl)) (fun _ _ _ h => h) (Or.inl ⟨by rfl, ?_⟩) ?_ ?_
        rotate_left
        · intro w'
          go_simp
          with_reducible rfl
        rotate_left
        · simp only [Act.put, List.setIfInBounds_toArray, List.set_cons_zero, List.set_cons_succ, i64_w, i32_w]
          rfl
        refine pure_ (i := 6) (N := some 24) (v := ?_) (a' := ?_) #[true, true, true, true, true, true, true, false, false, false, false, false, false, false, false] rfl rfl (any_of HT_.out (by kernel_rfl)) (fun _ _ _ h => h) (Or.inl ⟨by rfl, ?_⟩) ?_ ?_
        rotate_left
        · intro w'
          go_simp
          with_reducible rfl
        rotate_left
        · simp only [Act.put, List.setIfInBounds_toArray, List.set_cons_zero, List.set_cons_succ, i64_w, i32_w]
          rfl
        refine pure_ (i := 7) (N := some 25) (v := ?_) (a' := ?_) #[true, true, true, true, true, true, true, true, false, false, false, false, false, false, false] rfl rfl (any_of HT_.out (by kernel_rfl)) (fun _ _ _ h => h) (Or.inl ⟨by rfl, ?_⟩) ?_ ?_
        rotate_left
        · intro w'
          go_simp
          with_reducible rfl
        rotate_left
        · simp only [Act.put, List.setIfInBounds_toArray, List.set_cons_zero, List.set_cons_succ, i64_w, i32_w]
          rfl
        refine pure_ (i := 8) (N := some 26) (v := ?_) (a' := ?_) #[true, true, true, true, true, true, true, true, true, false, false, false, false, false, false] rfl rfl (any_of HT_.out (by kernel_rfl)) (fun _ _ _ h => h) (Or.inl ⟨by rfl, ?_⟩) ?_ ?_
        rotate_left
        · intro w'
          go_simp
          with_reducible rfl
        rotate_left
        · simp only [Act.put, List.setIfInBounds_toArray, List.set_cons_zero, List.set_cons_succ, i64_w, i32_w]
          rfl
        refine pure_ (i := 10) (N := some 28) (v := ?_) (a' := ?_) #[true, true, true, true, true, true, true, true, true, false, true, false, false, false, false] rfl rfl (any_of HT_.out (by kernel_rfl)) (fun _ _ _ h => h) (Or.inl ⟨by rfl, ?_⟩) ?_ ?_
        rotate_left
        · intro w'
          go_simp
          with_reducible rfl
        rotate_left
        · simp only [Act.put, List.setIfInBounds_toArray, List.set_cons_zero, List.set_cons_succ, i64_w, i32_w]
          rfl
        refine take_ (i := 9) (N := some 27) (v := ?_) (a' := ?_) #[true, true, true, true, true, true, true, true, true, true, true, false, false, false, false] rfl rfl (take_ofW HT_.out HW_.out (by kernel_rfl)) (fun _ _ _ h => h) (Or.inl ⟨by rfl, ?_⟩) hHeld ?_ ?_
        rotate_left
        · rintro w' ⟨s0, s1, s2, s3, s4, s5, s6⟩
          go_simp
          with_reducible rfl
        rotate_left
        · simp only [Act.put, List.setIfInBounds_toArray, List.set_cons_zero, List.set_cons_succ, i64_w, i32_w]
          rfl
        refine one_ (i := 11) (N := some 29) #[true, true, true, true, true, true, true, true, true, true, true, true, false, false, false] rfl rfl (one_of HT_.out (by kernel_rfl)) (by decide) (fun K hK => ?_)
        refine goes_ Try.func47 (by kernel_rfl) rfl #[.slice A0 l0.length c0] (by rfl) rfl rfl (by (try simp only [List.map_toArray, List.map_cons, List.map_nil]); first | done | rfl) ?_
        with_reducible refine (mantletlaw04_short.calls (fun k_ => k_ < w.heap.size) _ _ l0 t908 _ ?side1 A15.out).mono ?_
        (case side1 => exact Kd.V_mk HC0.out (Kd.F_below (Kd.C_F (Kd.heap_int .u8) HR0.out) (by repeat first | (with_reducible first | exact HB.out | apply below_alloc | apply pw_below_drewN | apply below_drew1 | refine below_set ?_ GE907.out) | exact HB.out)))
        rintro e w17 ⟨v909, rfl, ho0, hb⟩
        refine ⟨_, rfl, ?_⟩
        have n0_ := Aside0.mk (Kd.V_below (by (with_reducible repeat (first | apply Kd.V_alloc | apply Kd.V_drewN | apply Kd.V_drew)); exact HO895.out) hb)
        have n1_ := Aside0.mk (Kd.V_below (by (with_reducible repeat (first | apply Kd.V_alloc | apply Kd.V_drewN | apply Kd.V_drew)); exact HO905.out) hb)
        have n2_ := Aside0.mk (Kd.V_lower (Kd.V_mono (ok' := fun k_ => k_ ≠ gb907) ho0 (fun k_ hk_ => Or.elim hk_ (fun hs_ => fun e_ => Nat.not_le.2 hs_ (by rw [e_]; exact GW907.out)) (fun hn_ => (Kd.freshB (g := gb907) (o := .cells #[.int .u8 t896, .int .u32 t897, .int .u32 t898, .int .i64 t899, .int .i64 t900, .int .u8 t901, .int .u16 t902] 61 (0, 0)) (by (with_reducible repeat first | apply blk_drewN | apply blk_drew | apply blk_alloc); exact BK907.out) k_ hn_)))) (below_size (by repeat first | (with_reducible first | exact HB.out | apply below_alloc | apply pw_below_drewN | apply below_drew1 | refine below_set ?_ GE907.out) | exact HB.out)))
        have n3_ := Aside0.mk (blk_below (g := gb907) (o := .cells #[.int .u8 t896, .int .u32 t897, .int .u32 t898, .int .i64 t899, .int .i64 t900, .int .u8 t901, .int .u16 t902] 61 (0, 0)) (by (with_reducible repeat first | apply blk_drewN | apply blk_drew | apply blk_alloc); exact BK907.out) hb)
        have n4_ := Aside0.mk (below_step (by repeat first | (with_reducible first | exact HB.out | apply below_alloc | apply pw_below_drewN | apply below_drew1 | refine below_set ?_ GE907.out) | exact HB.out) hb)
        clear HO895
        clear HO905
        clear BK907
        clear HB
        have HO895 := n0_
        have HO905 := n1_
        have HO910 := n2_
        have BK907 := n3_
        have HB := n4_
        clear n0_ n1_ n2_ n3_ n4_
        (try clear hb)
        (try clear hb2)
        (try clear hk)
        (try clear hi)
        (try clear ho0)
        obtain ⟨Ao18, co18, eo18⟩ := Kd.V_slice HO910.out
        (first | subst eo18 | (injection eo18 with f1_ f2_ f3_; have f4_ := f1_.symm; have f5_ := f3_.symm; clear f1_ f2_ f3_; subst f4_; subst f5_))
        refine hK.out _ _ ⟨(blk_cell BK907.out 0).trans rfl, (blk_cell BK907.out 1).trans rfl, (blk_cell BK907.out 2).trans rfl, (blk_cell BK907.out 3).trans rfl, (blk_cell BK907.out 4).trans rfl, (blk_cell BK907.out 5).trans rfl, (blk_cell BK907.out 6).trans rfl⟩ (fun hHeld => ?_)
        clear hK K
        refine norm_ (a' := ?_) ?_ ?_
        rotate_left
        · show Act.put _ (some 29) _ = _
          simp only [Act.put, List.setIfInBounds_toArray, List.set_cons_zero, List.set_cons_succ, i64_w, i32_w]
          rfl
        refine pure_ (i := 12) (N := some 30) (v := ?_) (a' := ?_) #[true, true, true, true, true, true, true, true, true, true, true, true, true, false, false] rfl rfl (any_of HT_.out (by kernel_rfl)) (fun _ _ _ h => h) (Or.inl ⟨by rfl, ?_⟩) ?_ ?_
        rotate_left
        · intro w'
          go_simp
          with_reducible rfl
        rotate_left
        · simp only [Act.put, List.setIfInBounds_toArray, List.set_cons_zero, List.set_cons_succ, i64_w, i32_w]
          rfl
        refine pure_ (i := 13) (N := some 31) (v := ?_) (a' := ?_) #[true, true, true, true, true, true, true, true, true, true, true, true, true, true, false] rfl rfl (any_of HT_.out (by kernel_rfl)) (fun _ _ _ h => h) (Or.inl ⟨by rfl, ?_⟩) ?_ ?_
        rotate_left
        · intro w'
          go_simp
          with_reducible rfl
        rotate_left
        · simp only [Act.put, List.setIfInBounds_toArray, List.set_cons_zero, List.set_cons_succ, i64_w, i32_w]
          rfl
        refine pure_ (i := 14) (N := some 32) (v := ?_) (a' := ?_) #[true, true, true, true, true, true, true, true, true, true, true, true, true, true, true] rfl rfl (any_of HT_.out (by kernel_rfl)) (fun _ _ _ h => h) (Or.inl ⟨by rfl, ?_⟩) ?_ ?_
        rotate_left
        · intro w'
          go_simp
          with_reducible rfl
        rotate_left
        · simp only [Act.put, List.setIfInBounds_toArray, List.set_cons_zero, List.set_cons_succ, i64_w, i32_w]
          rfl
        refine done_ (done_of HT_.out (by kernel_rfl)) ?_
        try go_wp2
        go_meet
        case rel => exact ⟨_, (decide (t900 > (t908.length : Int))), (by first | rfl | (simp; done) | (simp [*]; done)), H', ⟨by first | omega | exact Nat.le_refl _⟩, ⟨by (with_reducible repeat first | apply blk_drewN | apply blk_drew | apply blk_alloc); exact BK907.out⟩, ⟨by repeat first | (with_reducible first | exact HB.out | apply below_alloc | apply pw_below_drewN | apply below_drew1 | refine below_set ?_ GE907.out) | exact HB.out⟩⟩
    · rw [if_neg c12] at H
      have c12b0 : (t906 == 0) = false := beq_eq_false_iff_ne.mpr c12
      have c12b1 : (t906 != 0) = true := bne_iff_ne.mpr c12
      (first | rw [c12b0] | (simp only [i64_w, i32_w]; rw [c12b0]) | skip)
      have H' := Aside0.mk H
      clear H
      try go_wp2
      have n0_ := Aside0.mk (Kd.V_drew HO895.out)
      have n1_ := Aside0.mk (Kd.V_drew HO905.out)
      have n2_ := Aside0.mk (blk_drew BK907.out)
      have n3_ := Aside0.mk (below_drew1 HB.out)
      clear HO895
      clear HO905
      clear BK907
      clear HB
      have HO895 := n0_
      have HO905 := n1_
      have BK907 := n2_
      have HB := n3_
      clear n0_ n1_ n2_ n3_
      refine start_ (n := 15) (S := fun w' => True) (ds := []) #[false, false, false, false, false, false, false, false, false, false, false, false, false, false, false] (by kernel_rfl) rfl rfl trivial (fun hHeld => ?_); refine with_tabW mantletlaw04_IpCuts.tab2 mantletlaw04_IpCuts.bits2 (fun HT_ HW_ => ?_)
      generalize w11.drew = w19 at HO895 HO905 BK907 HB hHeld ⊢
      refine pure_ (i := 0) (N := some 18) (v := ?_) (a' := ?_) #[true, false, false, false, false, false, false, false, false, false, false, false, false, false, false] rfl rfl (any_of HT_.out (by kernel_rfl)) (fun _ _ _ h => h) (Or.inl ⟨by rfl, ?_⟩) ?_ ?_
      rotate_left
      · intro w'
        go_simp
        with_reducible rfl
      rotate_left
      · simp only [Act.put, List.setIfInBounds_toArray, List.set_cons_zero, List.set_cons_succ, i64_w, i32_w]
        rfl
      refine pure_ (i := 1) (N := some 19) (v := ?_) (a' := ?_) #[true, true, false, false, false, false, false, false, false, false, false, false, false, false, false] rfl rfl (any_of HT_.out (by kernel_rfl)) (fun _ _ _ h => h) (Or.inl ⟨by rfl, ?_⟩) ?_ ?_
      rotate_left
      · intro w'
        go_simp
        with_reducible rfl
      rotate_left
      · simp only [Act.put, List.setIfInBounds_toArray, List.set_cons_zero, List.set_cons_succ, i64_w, i32_w]
        rfl
      refine pure_ (i := 2) (N := some 20) (v := ?_) (a' := ?_) #[true, true, true, false, false, false, false, false, false, false, false, false, false, false, false] rfl rfl (any_of HT_.out (by kernel_rfl)) (fun _ _ _ h => h) (Or.inl ⟨by rfl, ?_⟩) ?_ ?_
      rotate_left
      · intro w'
        go_simp
        with_reducible rfl
      rotate_left
      · simp only [Act.put, List.setIfInBounds_toArray, List.set_cons_zero, List.set_cons_succ, i64_w, i32_w]
        rfl
      refine pure_ (i := 3) (N := some 21) (v := undef) (a' := ?_) #[true, true, true, true, false, false, false, false, false, false, false, false, false, false, false] rfl rfl (any_of HT_.out (by kernel_rfl)) (fun _ _ _ h => h) (Or.inr ⟨by rfl, rfl⟩) ?_ ?_
      rotate_left
      · simp only [Act.put, List.setIfInBounds_toArray, List.set_cons_zero, List.set_cons_succ, i64_w, i32_w]
        rfl
      refine pure_ (i := 4) (N := some 22) (v := undef) (a' := ?_) #[true, true, true, true, true, false, false, false, false, false, false, false, false, false, false] rfl rfl (any_of HT_.out (by kernel_rfl)) (fun _ _ _ h => h) (Or.inr ⟨by rfl, rfl⟩) ?_ ?_
      rotate_left
      · simp only [Act.put, List.setIfInBounds_toArray, List.set_cons_zero, List.set_cons_succ, i64_w, i32_w]
        rfl
      refine pure_ (i := 5) (N := some 23) (v := undef) (a' := ?_) #[true, true, true, true, true, true, false, false, false, false, false, false, false, false, false] rfl rfl (any_of HT_.out (by kernel_rfl)) (fun _ _ _ h => h) (Or.inr ⟨by rfl, rfl⟩) ?_ ?_
      rotate_left
      · simp only [Act.put, List.setIfInBounds_toArray, List.set_cons_zero, List.set_cons_succ, i64_w, i32_w]
        rfl
      refine pure_ (i := 6) (N := some 24) (v := ?_) (a' := ?_) #[true, true, true, true, true, true, true, false, false, false, false, false, false, false, false] rfl rfl (any_of HT_.out (by kernel_rfl)) (fun _ _ _ h => h) (Or.inl ⟨by rfl, ?_⟩) ?_ ?_
      rotate_left
      · intro w'
        go_simp
        with_reducible rfl
      rotate_left
      · simp only [Act.put, List.setIfInBounds_toArray, List.set_cons_zero, List.set_cons_succ, i64_w, i32_w]
        rfl
      refine pure_ (i := 7) (N := some 25) (v := ?_) (a' := ?_) #[true, true, true, true, true, true, true, true, false, false, false, false, false, false, false] rfl rfl (any_of HT_.out (by kernel_rfl)) (fun _ _ _ h => h) (Or.inl ⟨by rfl, ?_⟩) ?_ ?_
      rotate_left
      · intro w'
        go_simp
        with_reducible rfl
      rotate_left
      · simp only [Act.put, List.setIfInBounds_toArray, List.set_cons_zero, List.set_cons_succ, i64_w, i32_w]
        rfl
      refine pure_ (i := 8) (N := some 26) (v := undef) (a' := ?_) #[true, true, true, true, true, true, true, true, true, false, false, false, false, false, false] rfl rfl (any_of HT_.out (by kernel_rfl)) (fun _ _ _ h => h) (Or.inr ⟨by rfl, rfl⟩) ?_ ?_
      rotate_left
      · simp only [Act.put, List.setIfInBounds_toArray, List.set_cons_zero, List.set_cons_succ, i64_w, i32_w]
        rfl
      refine pure_ (i := 9) (N := some 27) (v := undef) (a' := ?_) #[true, true, true, true, true, true, true, true, true, true, false, false, false, false, false] rfl rfl (any_of HT_.out (by kernel_rfl)) (fun _ _ _ h => h) (Or.inr ⟨by rfl, rfl⟩) ?_ ?_
      rotate_left
      · simp only [Act.put, List.setIfInBounds_toArray, List.set_cons_zero, List.set_cons_succ, i64_w, i32_w]
        rfl
      refine pure_ (i := 10) (N := some 28) (v := undef) (a' := ?_) #[true, true, true, true, true, true, true, true, true, true, true, false, false, false, false] rfl rfl (any_of HT_.out (by kernel_rfl)) (fun _ _ _ h => h) (Or.inr ⟨by rfl, rfl⟩) ?_ ?_
      rotate_left
      · simp only [Act.put, List.setIfInBounds_toArray, List.set_cons_zero, List.set_cons_succ, i64_w, i32_w]
        rfl
      refine pure_ (i := 11) (N := some 29) (v := undef) (a' := ?_) #[true, true, true, true, true, true, true, true, true, true, true, true, false, false, false] rfl rfl (any_of HT_.out (by kernel_rfl)) (fun _ _ _ h => h) (Or.inr ⟨by rfl, rfl⟩) ?_ ?_
      rotate_left
      · simp only [Act.put, List.setIfInBounds_toArray, List.set_cons_zero, List.set_cons_succ, i64_w, i32_w]
        rfl
      refine pure_ (i := 12) (N := some 30) (v := undef) (a' := ?_) #[true, true, true, true, true, true, true, true, true, true, true, true, true, false, false] rfl rfl (any_of HT_.out (by kernel_rfl)) (fun _ _ _ h => h) (Or.inr ⟨by rfl, rfl⟩) ?_ ?_
      rotate_left
      · simp only [Act.put, List.setIfInBounds_toArray, List.set_cons_zero, List.set_cons_succ, i64_w, i32_w]
        rfl
      refine pure_ (i := 13) (N := some 31) (v := undef) (a' := ?_) #[true, true, true, true, true, true, true, true, true, true, true, true, true, true, false] rfl rfl (any_of HT_.out (by kernel_rfl)) (fun _ _ _ h => h) (Or.inr ⟨by rfl, rfl⟩) ?_ ?_
      rotate_left
      · simp only [Act.put, List.setIfInBounds_toArray, List.set_cons_zero, List.set_cons_succ, i64_w, i32_w]
        rfl
      refine pure_ (i := 14) (N := some 32) (v := ?_) (a' := ?_) #[true, true, true, true, true, true, true, true, true, true, true, true, true, true, true] rfl rfl (any_of HT_.out (by kernel_rfl)) (fun _ _ _ h => h) (Or.inl ⟨by rfl, ?_⟩) ?_ ?_
      rotate_left
      · intro w'
        go_simp
        with_reducible rfl
      rotate_left
      · simp only [Act.put, List.setIfInBounds_toArray, List.set_cons_zero, List.set_cons_succ, i64_w, i32_w]
        rfl
      refine done_ (done_of HT_.out (by kernel_rfl)) ?_
      try go_wp2
      go_meet
      case rel => exact ⟨_, (true), (by first | rfl | (simp; done) | (simp [*]; done)), H', ⟨by first | omega | exact Nat.le_refl _⟩, ⟨by (with_reducible repeat first | apply blk_drewN | apply blk_drew | apply blk_alloc); exact BK907.out⟩, ⟨by repeat first | (with_reducible first | exact HB.out | apply below_alloc | apply pw_below_drewN | apply below_drew1 | refine below_set ?_ GE907.out) | exact HB.out⟩⟩
  case rest =>
    clear HC5
    try clear c1
    try clear p2
    try clear c4
    try clear c12
    try clear c12b0
    try clear c12b1
    try clear c13
    try clear c13b0
    try clear c17
    try clear hcz10_0
    try clear hcz10_1
    try clear hcz10_2
    try clear hcz10_3
    try clear hcz10_4
    try clear hcz10_5
    try clear hcz10_6
    try clear hfz10_0
    try clear hfz10_1
    try clear hfz10_2
    try clear hfz10_3
    try clear hfz10_4
    try clear hfz10_5
    try clear hfz10_6
    obtain ⟨kq, x32_4, rfl, HA, HJ4, BK907, HB⟩ := hcut
    cases kq with
    | zero => exact absurd HA.out (by simp [mantletlaw04_IpCuts.j0])
    | succ kj4 =>
      have H := HA.out
      clear HA
      simp only [mantletlaw04_IpCuts.j0] at H
      by_cases c20 : x32_4 = true
      · subst c20
        have H1 : ((mantletlaw04_awake.f kj4).bind fun t911 => (if t911 = true then (some (t906 != 0)) else (some false))) = some r := by rw [if_pos rfl] at H; exact H
        clear H
        have H := H1
        clear H1
        replace H := Option.bind_eq_some_iff.mp H
        obtain ⟨t911, A210, H⟩ := H
        replace H : (if t911 = true then (some (t906 != 0)) else (some false)) = some r := H
        have A21 := Aside0.mk A210
        clear A210
        by_cases c22 : t911 = true
        · subst c22
          have H1 : (some (t906 != 0)) = some r := by rw [if_pos rfl] at H; exact H
          clear H
          have H := H1
          clear H1
          obtain rfl := Option.some.inj H
          go_wp2_with (first | ((with_reducible refine gate_callee (f := 49) rfl ?_); refine goesL_ (some 33) rfl rfl Try.func49 (by kernel_rfl) rfl #[] rfl (by (try simp only [List.map_toArray, List.map_cons, List.map_nil]); first | done | rfl) ?_; (with_reducible refine (mantletlaw04_awake.calls kj4  true _ A21.out).mono ?_); rintro e w23 ⟨rfl, hb⟩; refine ⟨_, rfl, ?_⟩; have n0_ := Aside0.mk (blk_below (g := gb907) (o := .cells #[.int .u8 t896, .int .u32 t897, .int .u32 t898, .int .i64 t899, .int .i64 t900, .int .u8 t901, .int .u16 t902] 61 (0, 0)) (by (with_reducible repeat first | apply blk_drewN | apply blk_drew | apply blk_alloc); exact BK907.out) hb); have n1_ := Aside0.mk (below_step (by repeat first | (with_reducible first | exact HB.out | apply below_alloc | apply pw_below_drewN | apply below_drew1 | refine below_set ?_ GE907.out) | exact HB.out) hb); clear BK907; clear HB; have BK907 := n0_; have HB := n1_; clear n0_ n1_; (try clear hb); (try clear hb2); (try clear hk); (try clear hi)))
          go_ret
          exact ⟨by first | rfl | (simp [errW_none, errW_some] <;> rfl) | (simp [*, errW_none, errW_some] <;> rfl), by repeat first | (with_reducible first | exact HB.out | apply below_alloc | apply pw_below_drewN | apply below_drew1 | refine below_set ?_ GE907.out) | exact HB.out⟩
        · replace c22 := Bool.eq_false_iff.mpr c22
          subst c22
          have H1 : (some false) = some r := by rw [if_neg (show ¬ (false = true) by decide)] at H; exact H
          clear H
          have H := H1
          clear H1
          obtain rfl := Option.some.inj H
          go_wp2_with (first | ((with_reducible refine gate_callee (f := 49) rfl ?_); refine goesL_ (some 33) rfl rfl Try.func49 (by kernel_rfl) rfl #[] rfl (by (try simp only [List.map_toArray, List.map_cons, List.map_nil]); first | done | rfl) ?_; (with_reducible refine (mantletlaw04_awake.calls kj4  false _ A21.out).mono ?_); rintro e w24 ⟨rfl, hb⟩; refine ⟨_, rfl, ?_⟩; have n0_ := Aside0.mk (blk_below (g := gb907) (o := .cells #[.int .u8 t896, .int .u32 t897, .int .u32 t898, .int .i64 t899, .int .i64 t900, .int .u8 t901, .int .u16 t902] 61 (0, 0)) (by (with_reducible repeat first | apply blk_drewN | apply blk_drew | apply blk_alloc); exact BK907.out) hb); have n1_ := Aside0.mk (below_step (by repeat first | (with_reducible first | exact HB.out | apply below_alloc | apply pw_below_drewN | apply below_drew1 | refine below_set ?_ GE907.out) | exact HB.out) hb); clear BK907; clear HB; have BK907 := n0_; have HB := n1_; clear n0_ n1_; (try clear hb); (try clear hb2); (try clear hk); (try clear hi)))
          go_ret
          exact ⟨by first | rfl | (simp [errW_none, errW_some] <;> rfl) | (simp [*, errW_none, errW_some] <;> rfl), by repeat first | (with_reducible first | exact HB.out | apply below_alloc | apply pw_below_drewN | apply below_drew1 | refine below_set ?_ GE907.out) | exact HB.out⟩
      · replace c20 := Bool.eq_false_iff.mpr c20
        subst c20
        have H1 : (if t900 = 0 then (none) else (if 0 ≤ (Int.tmod (wrap64 (a1)) t900) then (if (Int.tmod (wrap64 (a1)) t900) ≤ (l0.length : Int) then ((ip_Parse.f kj4 (l0.take ((Int.tmod (wrap64 (a1)) t900) : Int).toNat)).bind fun bt913 => ((mantletlaw04_awake.f kj4).bind fun t925 => (if t925 = true then (if bt913.2.2.2.2.2.2.2.2 = 4 then (if (bt913.1 == 0 && (bt913.2.1 == 0 && (bt913.2.2.1 == 0 && (bt913.2.2.2.1 == 0 && (bt913.2.2.2.2.1 == 0 && (bt913.2.2.2.2.2.1 == 0 && (bt913.2.2.2.2.2.2.1 == 0))))))) = true then (some ((bt913.2.2.2.2.2.2.2.1.length : Int) == 0)) else (some false)) else (some false)) else (some false)))) else (none)) else (none))) = some r := by rw [if_neg (show ¬ (false = true) by decide)] at H; exact H
        clear H
        have H := H1
        clear H1
        by_cases c25 : t900 = 0
        · rw [if_pos c25] at H
          exact absurd H (by simp)
        · rw [if_neg c25] at H
          have c25b0 : (t900 == 0) = false := beq_eq_false_iff_ne.mpr c25
          have c25b1 : (t900 != 0) = true := bne_iff_ne.mpr c25
          obtain ⟨ji26, hji26⟩ : ∃ j_ : Int, (Int.tmod (wrap64 (a1)) t900) = j_ := ⟨_, rfl⟩
          replace H : (if 0 ≤ (ji26) then (if (ji26) ≤ (l0.length : Int) then ((ip_Parse.f kj4 (l0.take ((ji26) : Int).toNat)).bind fun bt913 => ((mantletlaw04_awake.f kj4).bind fun t925 => (if t925 = true then (if bt913.2.2.2.2.2.2.2.2 = 4 then (if (bt913.1 == 0 && (bt913.2.1 == 0 && (bt913.2.2.1 == 0 && (bt913.2.2.2.1 == 0 && (bt913.2.2.2.2.1 == 0 && (bt913.2.2.2.2.2.1 == 0 && (bt913.2.2.2.2.2.2.1 == 0))))))) = true then (some ((bt913.2.2.2.2.2.2.2.1.length : Int) == 0)) else (some false)) else (some false)) else (some false)))) else (none)) else (none)) = some r := by first | (rw [hji26] at H; exact H) | (simp only [hji26] at H ⊢; exact H)
          by_cases c27 : 0 ≤ (ji26)
          · rw [if_pos c27] at H
            have c27b0 := eq_true c27
            have c27b1 : decide (0 ≤ (ji26)) = true := decide_eq_true c27
            clear c27
            by_cases c28 : (ji26) ≤ (l0.length : Int)
            · rw [if_pos c28] at H
              have c28b0 := eq_true c28
              have c28b1 : decide ((ji26) ≤ (l0.length : Int)) = true := decide_eq_true c28
              (try have c28b4 : ((ji26) ≤ (c0 : Int)) = True := eq_true (by have h_ := HC0.out; have h2_ := c28; omega))
              clear c28
              replace H := Option.bind_eq_some_iff.mp H
              obtain ⟨⟨t913, t914, t915, t916, t917, t918, t919, t920, t923⟩, A290, H⟩ := H
              replace H : ((mantletlaw04_awake.f kj4).bind fun t925 => (if t925 = true then (if t923 = 4 then (if (t913 == 0 && (t914 == 0 && (t915 == 0 && (t916 == 0 && (t917 == 0 && (t918 == 0 && (t919 == 0))))))) = true then (some ((t920.length : Int) == 0)) else (some false)) else (some false)) else (some false))) = some r := H
              have A29 := Aside0.mk A290
              clear A290
              replace H := Option.bind_eq_some_iff.mp H
              obtain ⟨t925, A300, H⟩ := H
              replace H : (if t925 = true then (if t923 = 4 then (if (t913 == 0 && (t914 == 0 && (t915 == 0 && (t916 == 0 && (t917 == 0 && (t918 == 0 && (t919 == 0))))))) = true then (some ((t920.length : Int) == 0)) else (some false)) else (some false)) else (some false)) = some r := H
              have A30 := Aside0.mk A300
              clear A300
              by_cases c31 : t925 = true
              · subst c31
                have H1 : (if t923 = 4 then (if (t913 == 0 && (t914 == 0 && (t915 == 0 && (t916 == 0 && (t917 == 0 && (t918 == 0 && (t919 == 0))))))) = true then (some ((t920.length : Int) == 0)) else (some false)) else (some false)) = some r := by rw [if_pos rfl] at H; exact H
                clear H
                have H := H1
                clear H1
                by_cases c32 : t923 = 4
                · rw [if_pos c32] at H
                  have c32b0 : (t923 == 4) = true := beq_iff_eq.mpr c32
                  have c32b1 : (t923 != 4) = false := bne_eq_false_iff_eq.mpr c32
                  clear c32
                  by_cases c33 : (t913 == 0 && (t914 == 0 && (t915 == 0 && (t916 == 0 && (t917 == 0 && (t918 == 0 && (t919 == 0))))))) = true
                  · rw [if_pos c33] at H
                    have c33b0 : (t913 == 0 && (t914 == 0 && (t915 == 0 && (t916 == 0 && (t917 == 0 && (t918 == 0 && (t919 == 0))))))) = true := c33
                    (try (have c33b1 : decide (t913 = 0 && (t914 == 0 && (t915 == 0 && (t916 == 0 && (t917 == 0 && (t918 == 0 && (t919 == 0))))))) = true := by simpa using c33))
                    (try (have c33b2 : (t913 == 0 && (t914 == 0 && (t915 == 0 && (t916 == 0 && (t917 == 0 && (t918 == 0 && (t919 == 0))))))) = true := by simpa using c33))
                    clear c33
                    obtain rfl := Option.some.inj H
                    have hcz34_0 : wc.cell? ⟨gb907, 0, none⟩ = some (.int .u8 t896) := (blk_cell BK907.out 0).trans rfl
                    have hcz34_1 : wc.cell? ⟨gb907, 1, none⟩ = some (.int .u32 t897) := (blk_cell BK907.out 1).trans rfl
                    have hcz34_2 : wc.cell? ⟨gb907, 2, none⟩ = some (.int .u32 t898) := (blk_cell BK907.out 2).trans rfl
                    have hcz34_3 : wc.cell? ⟨gb907, 3, none⟩ = some (.int .i64 t899) := (blk_cell BK907.out 3).trans rfl
                    have hcz34_4 : wc.cell? ⟨gb907, 4, none⟩ = some (.int .i64 t900) := (blk_cell BK907.out 4).trans rfl
                    have hcz34_5 : wc.cell? ⟨gb907, 5, none⟩ = some (.int .u8 t901) := (blk_cell BK907.out 5).trans rfl
                    have hcz34_6 : wc.cell? ⟨gb907, 6, none⟩ = some (.int .u16 t902) := (blk_cell BK907.out 6).trans rfl
                    have hfz34_0 := blk_frozen BK907.out 0
                    have hfz34_1 := blk_frozen BK907.out 1
                    have hfz34_2 := blk_frozen BK907.out 2
                    have hfz34_3 := blk_frozen BK907.out 3
                    have hfz34_4 := blk_frozen BK907.out 4
                    have hfz34_5 := blk_frozen BK907.out 5
                    have hfz34_6 := blk_frozen BK907.out 6
                    obtain ⟨i035, hi035, _, hsz35, _⟩ := info_parts info5
                    obtain ⟨hcut35, hA35, hC35⟩ := print_take_of (P := Try.prog) (Value.int .u8) 0 22 5 .i64 Try.underlying22 hi035 hsz35 A0 c0 l0 (ji26) (of_decide_eq_true (by first | (with_reducible assumption) | assumption)) (of_decide_eq_true (by first | (with_reducible assumption) | assumption)) HC0.out
                    have HR912 := Aside0.mk (Kd.C_of_reads (h1 := fun _ => rfl) (hA35 _ (Kd.reads_of_C HR0.out)))
                    have HC912 := Aside0.mk hC35
                    clear hA35 hC35 hi035 hsz35
                    go_wp2_with (first | ((with_reducible refine gate_callee (f := 46) rfl ?_); refine goesL_ (some 46) rfl rfl Try.func46 (by kernel_rfl) rfl #[.slice A0 (l0.take ((ji26) : Int).toNat).length c0] rfl (by (try simp only [List.map_toArray, List.map_cons, List.map_nil]); first | done | (rw [show (l0.take ((ji26) : Int).toNat).length = (ji26).toNat from (by rw [List.length_take]; have h_ : ((ji26) : Int) ≤ (l0.length : Int) := of_decide_eq_true (by first | (with_reducible assumption) | assumption); omega)] <;> rfl) | (simp only [hji26]; rfl) | rfl | (simp only [List.length_drop, List.length_take]; rfl)) ?_; (with_reducible refine (ip_Parse.calls kj4 _ _ (l0.take ((ji26) : Int).toNat) t913 t914 t915 t916 t917 t918 t919 t920 t923 _ ?side1 ?side2 A29.out).mono ?_); (case side1 => repeat (first | exact (Kd.C_below HR912.out HB.out) | (with_reducible refine Kd.C_alloc ?_ _) | (with_reducible refine Kd.C_drewN ?_ _) | (with_reducible refine Kd.C_drew ?_))); (case side2 => exact HC912.out); rintro e w36 ⟨v921, rfl, ho0, hb⟩; refine ⟨_, rfl, ?_⟩; have n0_ := Aside0.mk (Kd.V_lower (Kd.V_mono (ok' := fun k_ => k_ ≠ gb907) ho0 (fun k_ hk_ => (Kd.freshB (g := gb907) (o := .cells #[.int .u8 t896, .int .u32 t897, .int .u32 t898, .int .i64 t899, .int .i64 t900, .int .u8 t901, .int .u16 t902] 61 (0, 0)) (by (with_reducible repeat first | apply blk_drewN | apply blk_drew | apply blk_alloc); exact BK907.out) k_ hk_))) (below_size (by repeat first | (with_reducible first | exact HB.out | apply below_alloc | apply pw_below_drewN | apply below_drew1 | refine below_set ?_ GE907.out) | exact HB.out))); have n1_ := Aside0.mk (blk_below (g := gb907) (o := .cells #[.int .u8 t896, .int .u32 t897, .int .u32 t898, .int .i64 t899, .int .i64 t900, .int .u8 t901, .int .u16 t902] 61 (0, 0)) (by (with_reducible repeat first | apply blk_drewN | apply blk_drew | apply blk_alloc); exact BK907.out) hb); have n2_ := Aside0.mk (below_step (by repeat first | (with_reducible first | exact HB.out | apply below_alloc | apply pw_below_drewN | apply below_drew1 | refine below_set ?_ GE907.out) | exact HB.out) hb); clear BK907; clear HB; have HO922 := n0_; have BK907 := n1_; have HB := n2_; clear n0_ n1_ n2_; (try clear hb); (try clear hb2); (try clear hk); (try clear hi); (try clear ho0)) | ((with_reducible refine gate_dst (N := 8) rfl ?_); (try (refine gate_guard (by rfl) ?_; dsimp only)); refine box_event ?hg (N := 8) ?hd (cs := #[.int .u8 0, .int .u32 0, .int .u32 0, .int .i64 0, .int .i64 0, .int .u8 0, .int .u16 0]) (t := 61) ?hr ?_; (case hd => rfl); (case hg => rfl); (case hr => first | (go_simp; done) | (go_simp; rfl)); intro gb924 hg w37 hbox hb; have n0_ := Aside0.mk (Kd.V_below (Kd.V_elderB (by (with_reducible repeat (first | apply Kd.V_alloc | apply Kd.V_drewN | apply Kd.V_drew)); exact HO922.out) gb924 (Nat.le_of_eq hg.symm)) hb); have n1_ := Aside0.mk (blk_below (g := gb907) (o := .cells #[.int .u8 t896, .int .u32 t897, .int .u32 t898, .int .i64 t899, .int .i64 t900, .int .u8 t901, .int .u16 t902] 61 (0, 0)) (by (with_reducible repeat first | apply blk_drewN | apply blk_drew | apply blk_alloc); exact BK907.out) hb); have n2_ := Aside0.mk (below_step (by repeat first | (with_reducible first | exact HB.out | apply below_alloc | apply pw_below_drewN | apply below_drew1 | refine below_set ?_ GE907.out) | exact HB.out) hb); have n3_ := Aside0.mk (hbox); have n4_ := Aside0.mk ((by rw [hg]; exact (below_size (by repeat first | (with_reducible first | exact HB.out | apply below_alloc | apply pw_below_drewN | apply below_drew1 | refine below_set ?_ GE907.out) | exact HB.out)) : w.heap.size ≤ gb924)); have n5_ := Aside0.mk ((by rw [hg]; exact (below_size (by repeat first | (with_reducible first | exact HB.out | apply below_alloc | apply pw_below_drewN | apply below_drew1 | refine below_set ?_ GE907.out) | exact HB.out)) : w.heap.size ≤ gb924)); have n6_ := Aside0.mk ((by rw [hg]; exact Nat.ne_of_lt (blk_lt (g := gb907) (o := .cells #[.int .u8 t896, .int .u32 t897, .int .u32 t898, .int .i64 t899, .int .i64 t900, .int .u8 t901, .int .u16 t902] 61 (0, 0)) (by (with_reducible repeat first | apply blk_drewN | apply blk_drew | apply blk_alloc); exact BK907.out)) : gb907 ≠ gb924)); have n7_ := Aside0.mk ((by rw [hg]; exact Nat.ne_of_gt (blk_lt (g := gb907) (o := .cells #[.int .u8 t896, .int .u32 t897, .int .u32 t898, .int .i64 t899, .int .i64 t900, .int .u8 t901, .int .u16 t902] 61 (0, 0)) (by (with_reducible repeat first | apply blk_drewN | apply blk_drew | apply blk_alloc); exact BK907.out)) : gb924 ≠ gb907)); clear HO922; clear BK907; clear HB; have HO922 := n0_; have BK907 := n1_; have HB := n2_; have BK924 := n3_; have GW924 := n4_; have GE924 := n5_; have NB907_924 := n6_; have NB924_907 := n7_; clear n0_ n1_ n2_ n3_ n4_ n5_ n6_ n7_; clear hb hbox hg; have hnb38 := NB924_907.out; have hnc38 := NB907_924.out; have hcz39_0 : w37.cell? ⟨gb924, 0, none⟩ = some (.int .u8 0) := (blk_cell BK924.out 0).trans rfl; have hcz39_1 : w37.cell? ⟨gb924, 1, none⟩ = some (.int .u32 0) := (blk_cell BK924.out 1).trans rfl; have hcz39_2 : w37.cell? ⟨gb924, 2, none⟩ = some (.int .u32 0) := (blk_cell BK924.out 2).trans rfl; have hcz39_3 : w37.cell? ⟨gb924, 3, none⟩ = some (.int .i64 0) := (blk_cell BK924.out 3).trans rfl; have hcz39_4 : w37.cell? ⟨gb924, 4, none⟩ = some (.int .i64 0) := (blk_cell BK924.out 4).trans rfl; have hcz39_5 : w37.cell? ⟨gb924, 5, none⟩ = some (.int .u8 0) := (blk_cell BK924.out 5).trans rfl; have hcz39_6 : w37.cell? ⟨gb924, 6, none⟩ = some (.int .u16 0) := (blk_cell BK924.out 6).trans rfl; have hfz39_0 := blk_frozen BK924.out 0; have hfz39_1 := blk_frozen BK924.out 1; have hfz39_2 := blk_frozen BK924.out 2; have hfz39_3 := blk_frozen BK924.out 3; have hfz39_4 := blk_frozen BK924.out 4; have hfz39_5 := blk_frozen BK924.out 5; have hfz39_6 := blk_frozen BK924.out 6) | ((with_reducible refine gate_store (t := 61) (p := 8) rfl ?_); refine store_event (t := 61) (p := 8) (v := ?vo_w40) (w1 := (((((((w37.setCell ⟨gb924, 0, none⟩ (.int .u8 t913)).setCell ⟨gb924, 1, none⟩ (.int .u32 t914)).setCell ⟨gb924, 2, none⟩ (.int .u32 t915)).setCell ⟨gb924, 3, none⟩ (.int .i64 t916)).setCell ⟨gb924, 4, none⟩ (.int .i64 t917)).setCell ⟨gb924, 5, none⟩ (.int .u8 t918)).setCell ⟨gb924, 6, none⟩ (.int .u16 t919))) ?hg ?ho ?hn ?hr ?_; (case ho => rfl); (case hg => rfl); (case hn => rfl); (case hr => first | (go_simp; done) | (go_simp; rfl)); intro w40 hw; have n0_ : Aside0 (Kd.V (Kd.int .u8) 5 w40 w.heap.size (fun k_ => k_ ≠ gb907 ∧ k_ ≠ gb924) v921 t920) := ⟨(by rw [hw]; exact (by (with_reducible repeat (first | apply Kd.V_alloc | apply Kd.V_drewN | apply Kd.V_drew)); exact Kd.V_mono (Kd.V_far (p := ⟨gb924, 6, none⟩) (Kd.V_far (p := ⟨gb924, 5, none⟩) (Kd.V_far (p := ⟨gb924, 4, none⟩) (Kd.V_far (p := ⟨gb924, 3, none⟩) (Kd.V_far (p := ⟨gb924, 2, none⟩) (Kd.V_far (p := ⟨gb924, 1, none⟩) (Kd.V_far (p := ⟨gb924, 0, none⟩) (Kd.V_mono HO922.out (fun k_ hk => (⟨hk, hk.2⟩ : _ ∧ k_ ≠ gb924))) (fun _ hk => hk.2) (.int .u8 t913)) (fun _ hk => hk.2) (.int .u32 t914)) (fun _ hk => hk.2) (.int .u32 t915)) (fun _ hk => hk.2) (.int .i64 t916)) (fun _ hk => hk.2) (.int .i64 t917)) (fun _ hk => hk.2) (.int .u8 t918)) (fun _ hk => hk.2) (.int .u16 t919)) (fun _ hk => ⟨hk.1.1, hk.1.2⟩)))⟩; have n1_ : Aside0 (w40.heap[gb907]? = some (.cells #[.int .u8 t896, .int .u32 t897, .int .u32 t898, .int .i64 t899, .int .i64 t900, .int .u8 t901, .int .u16 t902] 61 (0, 0))) := ⟨(by rw [hw]; exact (by (with_reducible repeat first | apply blk_drewN | apply blk_drew | apply blk_alloc); refine blk_far ?_ NB907_924.out _; (with_reducible repeat first | apply blk_drewN | apply blk_drew | apply blk_alloc); refine blk_far ?_ NB907_924.out _; (with_reducible repeat first | apply blk_drewN | apply blk_drew | apply blk_alloc); refine blk_far ?_ NB907_924.out _; (with_reducible repeat first | apply blk_drewN | apply blk_drew | apply blk_alloc); refine blk_far ?_ NB907_924.out _; (with_reducible repeat first | apply blk_drewN | apply blk_drew | apply blk_alloc); refine blk_far ?_ NB907_924.out _; (with_reducible repeat first | apply blk_drewN | apply blk_drew | apply blk_alloc); refine blk_far ?_ NB907_924.out _; (with_reducible repeat first | apply blk_drewN | apply blk_drew | apply blk_alloc); refine blk_far ?_ NB907_924.out _; (with_reducible repeat first | apply blk_drewN | apply blk_drew | apply blk_alloc); exact BK907.out))⟩; have n2_ : Aside0 (w40.heap[gb924]? = some (.cells #[.int .u8 t913, .int .u32 t914, .int .u32 t915, .int .i64 t916, .int .i64 t917, .int .u8 t918, .int .u16 t919] 61 (0, 0))) := ⟨(by rw [hw]; exact (by (with_reducible repeat first | apply blk_drewN | apply blk_drew | apply blk_alloc); refine blk_put (cs := #[.int .u8 t913, .int .u32 t914, .int .u32 t915, .int .i64 t916, .int .i64 t917, .int .u8 t918, .int .u16 0]) ?_ 6 _ rfl; (with_reducible repeat first | apply blk_drewN | apply blk_drew | apply blk_alloc); refine blk_put (cs := #[.int .u8 t913, .int .u32 t914, .int .u32 t915, .int .i64 t916, .int .i64 t917, .int .u8 0, .int .u16 0]) ?_ 5 _ rfl; (with_reducible repeat first | apply blk_drewN | apply blk_drew | apply blk_alloc); refine blk_put (cs := #[.int .u8 t913, .int .u32 t914, .int .u32 t915, .int .i64 t916, .int .i64 0, .int .u8 0, .int .u16 0]) ?_ 4 _ rfl; (with_reducible repeat first | apply blk_drewN | apply blk_drew | apply blk_alloc); refine blk_put (cs := #[.int .u8 t913, .int .u32 t914, .int .u32 t915, .int .i64 0, .int .i64 0, .int .u8 0, .int .u16 0]) ?_ 3 _ rfl; (with_reducible repeat first | apply blk_drewN | apply blk_drew | apply blk_alloc); refine blk_put (cs := #[.int .u8 t913, .int .u32 t914, .int .u32 0, .int .i64 0, .int .i64 0, .int .u8 0, .int .u16 0]) ?_ 2 _ rfl; (with_reducible repeat first | apply blk_drewN | apply blk_drew | apply blk_alloc); refine blk_put (cs := #[.int .u8 t913, .int .u32 0, .int .u32 0, .int .i64 0, .int .i64 0, .int .u8 0, .int .u16 0]) ?_ 1 _ rfl; (with_reducible repeat first | apply blk_drewN | apply blk_drew | apply blk_alloc); refine blk_put (cs := #[.int .u8 0, .int .u32 0, .int .u32 0, .int .i64 0, .int .i64 0, .int .u8 0, .int .u16 0]) ?_ 0 _ rfl; (with_reducible repeat first | apply blk_drewN | apply blk_drew | apply blk_alloc); exact BK924.out))⟩; have n3_ : Aside0 (Below w.heap.size w w40) := ⟨(by rw [hw]; exact (by repeat first | (with_reducible first | exact HB.out | apply below_alloc | apply pw_below_drewN | apply below_drew1 | refine below_set ?_ GE907.out | refine below_set ?_ GE924.out) | exact HB.out))⟩; clear hw; clear HO922; clear BK907; clear BK924; clear HB; have HO922 := n0_; have BK907 := n1_; have BK924 := n2_; have HB := n3_; clear n0_ n1_ n2_ n3_) | ((with_reducible refine gate_callee (f := 49) rfl ?_); refine goesL_ (some 50) rfl rfl Try.func49 (by kernel_rfl) rfl #[] rfl (by (try simp only [List.map_toArray, List.map_cons, List.map_nil]); first | done | rfl) ?_; (with_reducible refine (mantletlaw04_awake.calls kj4  true _ A30.out).mono ?_); rintro e w41 ⟨rfl, hb⟩; refine ⟨_, rfl, ?_⟩; have n0_ := Aside0.mk (Kd.V_below (by (with_reducible repeat (first | apply Kd.V_alloc | apply Kd.V_drewN | apply Kd.V_drew)); exact HO922.out) hb); have n1_ := Aside0.mk (blk_below (g := gb907) (o := .cells #[.int .u8 t896, .int .u32 t897, .int .u32 t898, .int .i64 t899, .int .i64 t900, .int .u8 t901, .int .u16 t902] 61 (0, 0)) (by (with_reducible repeat first | apply blk_drewN | apply blk_drew | apply blk_alloc); exact BK907.out) hb); have n2_ := Aside0.mk (blk_below (g := gb924) (o := .cells #[.int .u8 t913, .int .u32 t914, .int .u32 t915, .int .i64 t916, .int .i64 t917, .int .u8 t918, .int .u16 t919] 61 (0, 0)) (by (with_reducible repeat first | apply blk_drewN | apply blk_drew | apply blk_alloc); exact BK924.out) hb); have n3_ := Aside0.mk (below_step (by repeat first | (with_reducible first | exact HB.out | apply below_alloc | apply pw_below_drewN | apply below_drew1 | refine below_set ?_ GE907.out | refine below_set ?_ GE924.out) | exact HB.out) hb); clear HO922; clear BK907; clear BK924; clear HB; have HO922 := n0_; have BK907 := n1_; have BK924 := n2_; have HB := n3_; clear n0_ n1_ n2_ n3_; (try clear hb); (try clear hb2); (try clear hk); (try clear hi); have hcz42_0 : w41.cell? ⟨gb924, 0, none⟩ = some (.int .u8 t913) := (blk_cell BK924.out 0).trans rfl; have hcz42_1 : w41.cell? ⟨gb924, 1, none⟩ = some (.int .u32 t914) := (blk_cell BK924.out 1).trans rfl; have hcz42_2 : w41.cell? ⟨gb924, 2, none⟩ = some (.int .u32 t915) := (blk_cell BK924.out 2).trans rfl; have hcz42_3 : w41.cell? ⟨gb924, 3, none⟩ = some (.int .i64 t916) := (blk_cell BK924.out 3).trans rfl; have hcz42_4 : w41.cell? ⟨gb924, 4, none⟩ = some (.int .i64 t917) := (blk_cell BK924.out 4).trans rfl; have hcz42_5 : w41.cell? ⟨gb924, 5, none⟩ = some (.int .u8 t918) := (blk_cell BK924.out 5).trans rfl; have hcz42_6 : w41.cell? ⟨gb924, 6, none⟩ = some (.int .u16 t919) := (blk_cell BK924.out 6).trans rfl; have hfz42_0 := blk_frozen BK924.out 0; have hfz42_1 := blk_frozen BK924.out 1; have hfz42_2 := blk_frozen BK924.out 2; have hfz42_3 := blk_frozen BK924.out 3; have hfz42_4 := blk_frozen BK924.out 4; have hfz42_5 := blk_frozen BK924.out 5; have hfz42_6 := blk_frozen BK924.out 6; obtain ⟨Ao43, co43, eo43⟩ := Kd.V_slice HO922.out; subst eo43))
                    go_ret
                    exact ⟨by first | rfl | (simp [errW_none, errW_some] <;> rfl) | (simp only [← hji26]; first | rfl | (simp [errW_none, errW_some] <;> rfl)) | (simp [*, errW_none, errW_some] <;> rfl), by repeat first | (with_reducible first | exact HB.out | apply below_alloc | apply pw_below_drewN | apply below_drew1 | refine below_set ?_ GE907.out | refine below_set ?_ GE924.out) | exact HB.out⟩
                  · rw [if_neg c33] at H
                    have c33b0 : (t913 == 0 && (t914 == 0 && (t915 == 0 && (t916 == 0 && (t917 == 0 && (t918 == 0 && (t919 == 0))))))) = false := by simpa using c33
                    (try (have c33b1 : decide (t913 = 0 && (t914 == 0 && (t915 == 0 && (t916 == 0 && (t917 == 0 && (t918 == 0 && (t919 == 0))))))) = false := by simpa using c33))
                    (try (have c33b2 : (t913 == 0 && (t914 == 0 && (t915 == 0 && (t916 == 0 && (t917 == 0 && (t918 == 0 && (t919 == 0))))))) = false := by simpa using c33))
                    (try (have c33b3 : ¬ (t913 = 0 && (t914 == 0 && (t915 == 0 && (t916 == 0 && (t917 == 0 && (t918 == 0 && (t919 == 0))))))) := by simpa using c33))
                    clear c33
                    obtain rfl := Option.some.inj H
                    have hcz44_0 : wc.cell? ⟨gb907, 0, none⟩ = some (.int .u8 t896) := (blk_cell BK907.out 0).trans rfl
                    have hcz44_1 : wc.cell? ⟨gb907, 1, none⟩ = some (.int .u32 t897) := (blk_cell BK907.out 1).trans rfl
                    have hcz44_2 : wc.cell? ⟨gb907, 2, none⟩ = some (.int .u32 t898) := (blk_cell BK907.out 2).trans rfl
                    have hcz44_3 : wc.cell? ⟨gb907, 3, none⟩ = some (.int .i64 t899) := (blk_cell BK907.out 3).trans rfl
                    have hcz44_4 : wc.cell? ⟨gb907, 4, none⟩ = some (.int .i64 t900) := (blk_cell BK907.out 4).trans rfl
                    have hcz44_5 : wc.cell? ⟨gb907, 5, none⟩ = some (.int .u8 t901) := (blk_cell BK907.out 5).trans rfl
                    have hcz44_6 : wc.cell? ⟨gb907, 6, none⟩ = some (.int .u16 t902) := (blk_cell BK907.out 6).trans rfl
                    have hfz44_0 := blk_frozen BK907.out 0
                    have hfz44_1 := blk_frozen BK907.out 1
                    have hfz44_2 := blk_frozen BK907.out 2
                    have hfz44_3 := blk_frozen BK907.out 3
                    have hfz44_4 := blk_frozen BK907.out 4
                    have hfz44_5 := blk_frozen BK907.out 5
                    have hfz44_6 := blk_frozen BK907.out 6
                    obtain ⟨i045, hi045, _, hsz45, _⟩ := info_parts info5
                    obtain ⟨hcut45, hA45, hC45⟩ := print_take_of (P := Try.prog) (Value.int .u8) 0 22 5 .i64 Try.underlying22 hi045 hsz45 A0 c0 l0 (ji26) (of_decide_eq_true (by first | (with_reducible assumption) | assumption)) (of_decide_eq_true (by first | (with_reducible assumption) | assumption)) HC0.out
                    have HR912 := Aside0.mk (Kd.C_of_reads (h1 := fun _ => rfl) (hA45 _ (Kd.reads_of_C HR0.out)))
                    have HC912 := Aside0.mk hC45
                    clear hA45 hC45 hi045 hsz45
                    go_wp2_with (first | ((with_reducible refine gate_callee (f := 46) rfl ?_); refine goesL_ (some 46) rfl rfl Try.func46 (by kernel_rfl) rfl #[.slice A0 (l0.take ((ji26) : Int).toNat).length c0] rfl (by (try simp only [List.map_toArray, List.map_cons, List.map_nil]); first | done | (rw [show (l0.take ((ji26) : Int).toNat).length = (ji26).toNat from (by rw [List.length_take]; have h_ : ((ji26) : Int) ≤ (l0.length : Int) := of_decide_eq_true (by first | (with_reducible assumption) | assumption); omega)] <;> rfl) | (simp only [hji26]; rfl) | rfl | (simp only [List.length_drop, List.length_take]; rfl)) ?_; (with_reducible refine (ip_Parse.calls kj4 _ _ (l0.take ((ji26) : Int).toNat) t913 t914 t915 t916 t917 t918 t919 t920 t923 _ ?side1 ?side2 A29.out).mono ?_); (case side1 => repeat (first | exact (Kd.C_below HR912.out HB.out) | (with_reducible refine Kd.C_alloc ?_ _) | (with_reducible refine Kd.C_drewN ?_ _) | (with_reducible refine Kd.C_drew ?_))); (case side2 => exact HC912.out); rintro e w46 ⟨v921, rfl, ho0, hb⟩; refine ⟨_, rfl, ?_⟩; have n0_ := Aside0.mk (Kd.V_lower (Kd.V_mono (ok' := fun k_ => k_ ≠ gb907) ho0 (fun k_ hk_ => (Kd.freshB (g := gb907) (o := .cells #[.int .u8 t896, .int .u32 t897, .int .u32 t898, .int .i64 t899, .int .i64 t900, .int .u8 t901, .int .u16 t902] 61 (0, 0)) (by (with_reducible repeat first | apply blk_drewN | apply blk_drew | apply blk_alloc); exact BK907.out) k_ hk_))) (below_size (by repeat first | (with_reducible first | exact HB.out | apply below_alloc | apply pw_below_drewN | apply below_drew1 | refine below_set ?_ GE907.out) | exact HB.out))); have n1_ := Aside0.mk (blk_below (g := gb907) (o := .cells #[.int .u8 t896, .int .u32 t897, .int .u32 t898, .int .i64 t899, .int .i64 t900, .int .u8 t901, .int .u16 t902] 61 (0, 0)) (by (with_reducible repeat first | apply blk_drewN | apply blk_drew | apply blk_alloc); exact BK907.out) hb); have n2_ := Aside0.mk (below_step (by repeat first | (with_reducible first | exact HB.out | apply below_alloc | apply pw_below_drewN | apply below_drew1 | refine below_set ?_ GE907.out) | exact HB.out) hb); clear BK907; clear HB; have HO922 := n0_; have BK907 := n1_; have HB := n2_; clear n0_ n1_ n2_; (try clear hb); (try clear hb2); (try clear hk); (try clear hi); (try clear ho0)) | ((with_reducible refine gate_dst (N := 8) rfl ?_); (try (refine gate_guard (by rfl) ?_; dsimp only)); refine box_event ?hg (N := 8) ?hd (cs := #[.int .u8 0, .int .u32 0, .int .u32 0, .int .i64 0, .int .i64 0, .int .u8 0, .int .u16 0]) (t := 61) ?hr ?_; (case hd => rfl); (case hg => rfl); (case hr => first | (go_simp; done) | (go_simp; rfl)); intro gb924 hg w47 hbox hb; have n0_ := Aside0.mk (Kd.V_below (Kd.V_elderB (by (with_reducible repeat (first | apply Kd.V_alloc | apply Kd.V_drewN | apply Kd.V_drew)); exact HO922.out) gb924 (Nat.le_of_eq hg.symm)) hb); have n1_ := Aside0.mk (blk_below (g := gb907) (o := .cells #[.int .u8 t896, .int .u32 t897, .int .u32 t898, .int .i64 t899, .int .i64 t900, .int .u8 t901, .int .u16 t902] 61 (0, 0)) (by (with_reducible repeat first | apply blk_drewN | apply blk_drew | apply blk_alloc); exact BK907.out) hb); have n2_ := Aside0.mk (below_step (by repeat first | (with_reducible first | exact HB.out | apply below_alloc | apply pw_below_drewN | apply below_drew1 | refine below_set ?_ GE907.out) | exact HB.out) hb); have n3_ := Aside0.mk (hbox); have n4_ := Aside0.mk ((by rw [hg]; exact (below_size (by repeat first | (with_reducible first | exact HB.out | apply below_alloc | apply pw_below_drewN | apply below_drew1 | refine below_set ?_ GE907.out) | exact HB.out)) : w.heap.size ≤ gb924)); have n5_ := Aside0.mk ((by rw [hg]; exact (below_size (by repeat first | (with_reducible first | exact HB.out | apply below_alloc | apply pw_below_drewN | apply below_drew1 | refine below_set ?_ GE907.out) | exact HB.out)) : w.heap.size ≤ gb924)); have n6_ := Aside0.mk ((by rw [hg]; exact Nat.ne_of_lt (blk_lt (g := gb907) (o := .cells #[.int .u8 t896, .int .u32 t897, .int .u32 t898, .int .i64 t899, .int .i64 t900, .int .u8 t901, .int .u16 t902] 61 (0, 0)) (by (with_reducible repeat first | apply blk_drewN | apply blk_drew | apply blk_alloc); exact BK907.out)) : gb907 ≠ gb924)); have n7_ := Aside0.mk ((by rw [hg]; exact Nat.ne_of_gt (blk_lt (g := gb907) (o := .cells #[.int .u8 t896, .int .u32 t897, .int .u32 t898, .int .i64 t899, .int .i64 t900, .int .u8 t901, .int .u16 t902] 61 (0, 0)) (by (with_reducible repeat first | apply blk_drewN | apply blk_drew | apply blk_alloc); exact BK907.out)) : gb924 ≠ gb907)); clear HO922; clear BK907; clear HB; have HO922 := n0_; have BK907 := n1_; have HB := n2_; have BK924 := n3_; have GW924 := n4_; have GE924 := n5_; have NB907_924 := n6_; have NB924_907 := n7_; clear n0_ n1_ n2_ n3_ n4_ n5_ n6_ n7_; clear hb hbox hg; have hnb48 := NB924_907.out; have hnc48 := NB907_924.out; have hcz49_0 : w47.cell? ⟨gb924, 0, none⟩ = some (.int .u8 0) := (blk_cell BK924.out 0).trans rfl; have hcz49_1 : w47.cell? ⟨gb924, 1, none⟩ = some (.int .u32 0) := (blk_cell BK924.out 1).trans rfl; have hcz49_2 : w47.cell? ⟨gb924, 2, none⟩ = some (.int .u32 0) := (blk_cell BK924.out 2).trans rfl; have hcz49_3 : w47.cell? ⟨gb924, 3, none⟩ = some (.int .i64 0) := (blk_cell BK924.out 3).trans rfl; have hcz49_4 : w47.cell? ⟨gb924, 4, none⟩ = some (.int .i64 0) := (blk_cell BK924.out 4).trans rfl; have hcz49_5 : w47.cell? ⟨gb924, 5, none⟩ = some (.int .u8 0) := (blk_cell BK924.out 5).trans rfl; have hcz49_6 : w47.cell? ⟨gb924, 6, none⟩ = some (.int .u16 0) := (blk_cell BK924.out 6).trans rfl; have hfz49_0 := blk_frozen BK924.out 0; have hfz49_1 := blk_frozen BK924.out 1; have hfz49_2 := blk_frozen BK924.out 2; have hfz49_3 := blk_frozen BK924.out 3; have hfz49_4 := blk_frozen BK924.out 4; have hfz49_5 := blk_frozen BK924.out 5; have hfz49_6 := blk_frozen BK924.out 6) | ((with_reducible refine gate_store (t := 61) (p := 8) rfl ?_); refine store_event (t := 61) (p := 8) (v := ?vo_w50) (w1 := (((((((w47.setCell ⟨gb924, 0, none⟩ (.int .u8 t913)).setCell ⟨gb924, 1, none⟩ (.int .u32 t914)).setCell ⟨gb924, 2, none⟩ (.int .u32 t915)).setCell ⟨gb924, 3, none⟩ (.int .i64 t916)).setCell ⟨gb924, 4, none⟩ (.int .i64 t917)).setCell ⟨gb924, 5, none⟩ (.int .u8 t918)).setCell ⟨gb924, 6, none⟩ (.int .u16 t919))) ?hg ?ho ?hn ?hr ?_; (case ho => rfl); (case hg => rfl); (case hn => rfl); (case hr => first | (go_simp; done) | (go_simp; rfl)); intro w50 hw; have n0_ : Aside0 (Kd.V (Kd.int .u8) 5 w50 w.heap.size (fun k_ => k_ ≠ gb907 ∧ k_ ≠ gb924) v921 t920) := ⟨(by rw [hw]; exact (by (with_reducible repeat (first | apply Kd.V_alloc | apply Kd.V_drewN | apply Kd.V_drew)); exact Kd.V_mono (Kd.V_far (p := ⟨gb924, 6, none⟩) (Kd.V_far (p := ⟨gb924, 5, none⟩) (Kd.V_far (p := ⟨gb924, 4, none⟩) (Kd.V_far (p := ⟨gb924, 3, none⟩) (Kd.V_far (p := ⟨gb924, 2, none⟩) (Kd.V_far (p := ⟨gb924, 1, none⟩) (Kd.V_far (p := ⟨gb924, 0, none⟩) (Kd.V_mono HO922.out (fun k_ hk => (⟨hk, hk.2⟩ : _ ∧ k_ ≠ gb924))) (fun _ hk => hk.2) (.int .u8 t913)) (fun _ hk => hk.2) (.int .u32 t914)) (fun _ hk => hk.2) (.int .u32 t915)) (fun _ hk => hk.2) (.int .i64 t916)) (fun _ hk => hk.2) (.int .i64 t917)) (fun _ hk => hk.2) (.int .u8 t918)) (fun _ hk => hk.2) (.int .u16 t919)) (fun _ hk => ⟨hk.1.1, hk.1.2⟩)))⟩; have n1_ : Aside0 (w50.heap[gb907]? = some (.cells #[.int .u8 t896, .int .u32 t897, .int .u32 t898, .int .i64 t899, .int .i64 t900, .int .u8 t901, .int .u16 t902] 61 (0, 0))) := ⟨(by rw [hw]; exact (by (with_reducible repeat first | apply blk_drewN | apply blk_drew | apply blk_alloc); refine blk_far ?_ NB907_924.out _; (with_reducible repeat first | apply blk_drewN | apply blk_drew | apply blk_alloc); refine blk_far ?_ NB907_924.out _; (with_reducible repeat first | apply blk_drewN | apply blk_drew | apply blk_alloc); refine blk_far ?_ NB907_924.out _; (with_reducible repeat first | apply blk_drewN | apply blk_drew | apply blk_alloc); refine blk_far ?_ NB907_924.out _; (with_reducible repeat first | apply blk_drewN | apply blk_drew | apply blk_alloc); refine blk_far ?_ NB907_924.out _; (with_reducible repeat first | apply blk_drewN | apply blk_drew | apply blk_alloc); refine blk_far ?_ NB907_924.out _; (with_reducible repeat first | apply blk_drewN | apply blk_drew | apply blk_alloc); refine blk_far ?_ NB907_924.out _; (with_reducible repeat first | apply blk_drewN | apply blk_drew | apply blk_alloc); exact BK907.out))⟩; have n2_ : Aside0 (w50.heap[gb924]? = some (.cells #[.int .u8 t913, .int .u32 t914, .int .u32 t915, .int .i64 t916, .int .i64 t917, .int .u8 t918, .int .u16 t919] 61 (0, 0))) := ⟨(by rw [hw]; exact (by (with_reducible repeat first | apply blk_drewN | apply blk_drew | apply blk_alloc); refine blk_put (cs := #[.int .u8 t913, .int .u32 t914, .int .u32 t915, .int .i64 t916, .int .i64 t917, .int .u8 t918, .int .u16 0]) ?_ 6 _ rfl; (with_reducible repeat first | apply blk_drewN | apply blk_drew | apply blk_alloc); refine blk_put (cs := #[.int .u8 t913, .int .u32 t914, .int .u32 t915, .int .i64 t916, .int .i64 t917, .int .u8 0, .int .u16 0]) ?_ 5 _ rfl; (with_reducible repeat first | apply blk_drewN | apply blk_drew | apply blk_alloc); refine blk_put (cs := #[.int .u8 t913, .int .u32 t914, .int .u32 t915, .int .i64 t916, .int .i64 0, .int .u8 0, .int .u16 0]) ?_ 4 _ rfl; (with_reducible repeat first | apply blk_drewN | apply blk_drew | apply blk_alloc); refine blk_put (cs := #[.int .u8 t913, .int .u32 t914, .int .u32 t915, .int .i64 0, .int .i64 0, .int .u8 0, .int .u16 0]) ?_ 3 _ rfl; (with_reducible repeat first | apply blk_drewN | apply blk_drew | apply blk_alloc); refine blk_put (cs := #[.int .u8 t913, .int .u32 t914, .int .u32 0, .int .i64 0, .int .i64 0, .int .u8 0, .int .u16 0]) ?_ 2 _ rfl; (with_reducible repeat first | apply blk_drewN | apply blk_drew | apply blk_alloc); refine blk_put (cs := #[.int .u8 t913, .int .u32 0, .int .u32 0, .int .i64 0, .int .i64 0, .int .u8 0, .int .u16 0]) ?_ 1 _ rfl; (with_reducible repeat first | apply blk_drewN | apply blk_drew | apply blk_alloc); refine blk_put (cs := #[.int .u8 0, .int .u32 0, .int .u32 0, .int .i64 0, .int .i64 0, .int .u8 0, .int .u16 0]) ?_ 0 _ rfl; (with_reducible repeat first | apply blk_drewN | apply blk_drew | apply blk_alloc); exact BK924.out))⟩; have n3_ : Aside0 (Below w.heap.size w w50) := ⟨(by rw [hw]; exact (by repeat first | (with_reducible first | exact HB.out | apply below_alloc | apply pw_below_drewN | apply below_drew1 | refine below_set ?_ GE907.out | refine below_set ?_ GE924.out) | exact HB.out))⟩; clear hw; clear HO922; clear BK907; clear BK924; clear HB; have HO922 := n0_; have BK907 := n1_; have BK924 := n2_; have HB := n3_; clear n0_ n1_ n2_ n3_) | ((with_reducible refine gate_callee (f := 49) rfl ?_); refine goesL_ (some 50) rfl rfl Try.func49 (by kernel_rfl) rfl #[] rfl (by (try simp only [List.map_toArray, List.map_cons, List.map_nil]); first | done | rfl) ?_; (with_reducible refine (mantletlaw04_awake.calls kj4  true _ A30.out).mono ?_); rintro e w51 ⟨rfl, hb⟩; refine ⟨_, rfl, ?_⟩; have n0_ := Aside0.mk (Kd.V_below (by (with_reducible repeat (first | apply Kd.V_alloc | apply Kd.V_drewN | apply Kd.V_drew)); exact HO922.out) hb); have n1_ := Aside0.mk (blk_below (g := gb907) (o := .cells #[.int .u8 t896, .int .u32 t897, .int .u32 t898, .int .i64 t899, .int .i64 t900, .int .u8 t901, .int .u16 t902] 61 (0, 0)) (by (with_reducible repeat first | apply blk_drewN | apply blk_drew | apply blk_alloc); exact BK907.out) hb); have n2_ := Aside0.mk (blk_below (g := gb924) (o := .cells #[.int .u8 t913, .int .u32 t914, .int .u32 t915, .int .i64 t916, .int .i64 t917, .int .u8 t918, .int .u16 t919] 61 (0, 0)) (by (with_reducible repeat first | apply blk_drewN | apply blk_drew | apply blk_alloc); exact BK924.out) hb); have n3_ := Aside0.mk (below_step (by repeat first | (with_reducible first | exact HB.out | apply below_alloc | apply pw_below_drewN | apply below_drew1 | refine below_set ?_ GE907.out | refine below_set ?_ GE924.out) | exact HB.out) hb); clear HO922; clear BK907; clear BK924; clear HB; have HO922 := n0_; have BK907 := n1_; have BK924 := n2_; have HB := n3_; clear n0_ n1_ n2_ n3_; (try clear hb); (try clear hb2); (try clear hk); (try clear hi); have hcz52_0 : w51.cell? ⟨gb924, 0, none⟩ = some (.int .u8 t913) := (blk_cell BK924.out 0).trans rfl; have hcz52_1 : w51.cell? ⟨gb924, 1, none⟩ = some (.int .u32 t914) := (blk_cell BK924.out 1).trans rfl; have hcz52_2 : w51.cell? ⟨gb924, 2, none⟩ = some (.int .u32 t915) := (blk_cell BK924.out 2).trans rfl; have hcz52_3 : w51.cell? ⟨gb924, 3, none⟩ = some (.int .i64 t916) := (blk_cell BK924.out 3).trans rfl; have hcz52_4 : w51.cell? ⟨gb924, 4, none⟩ = some (.int .i64 t917) := (blk_cell BK924.out 4).trans rfl; have hcz52_5 : w51.cell? ⟨gb924, 5, none⟩ = some (.int .u8 t918) := (blk_cell BK924.out 5).trans rfl; have hcz52_6 : w51.cell? ⟨gb924, 6, none⟩ = some (.int .u16 t919) := (blk_cell BK924.out 6).trans rfl; have hfz52_0 := blk_frozen BK924.out 0; have hfz52_1 := blk_frozen BK924.out 1; have hfz52_2 := blk_frozen BK924.out 2; have hfz52_3 := blk_frozen BK924.out 3; have hfz52_4 := blk_frozen BK924.out 4; have hfz52_5 := blk_frozen BK924.out 5; have hfz52_6 := blk_frozen BK924.out 6))
                    go_ret
                    exact ⟨by first | rfl | (simp [errW_none, errW_some] <;> rfl) | (simp only [← hji26]; first | rfl | (simp [errW_none, errW_some] <;> rfl)) | (simp [*, errW_none, errW_some] <;> rfl), by repeat first | (with_reducible first | exact HB.out | apply below_alloc | apply pw_below_drewN | apply below_drew1 | refine below_set ?_ GE907.out | refine below_set ?_ GE924.out) | exact HB.out⟩
                · rw [if_neg c32] at H
                  have c32b0 : (t923 == 4) = false := beq_eq_false_iff_ne.mpr c32
                  have c32b1 : (t923 != 4) = true := bne_iff_ne.mpr c32
                  obtain rfl := Option.some.inj H
                  have hcz53_0 : wc.cell? ⟨gb907, 0, none⟩ = some (.int .u8 t896) := (blk_cell BK907.out 0).trans rfl
                  have hcz53_1 : wc.cell? ⟨gb907, 1, none⟩ = some (.int .u32 t897) := (blk_cell BK907.out 1).trans rfl
                  have hcz53_2 : wc.cell? ⟨gb907, 2, none⟩ = some (.int .u32 t898) := (blk_cell BK907.out 2).trans rfl
                  have hcz53_3 : wc.cell? ⟨gb907, 3, none⟩ = some (.int .i64 t899) := (blk_cell BK907.out 3).trans rfl
                  have hcz53_4 : wc.cell? ⟨gb907, 4, none⟩ = some (.int .i64 t900) := (blk_cell BK907.out 4).trans rfl
                  have hcz53_5 : wc.cell? ⟨gb907, 5, none⟩ = some (.int .u8 t901) := (blk_cell BK907.out 5).trans rfl
                  have hcz53_6 : wc.cell? ⟨gb907, 6, none⟩ = some (.int .u16 t902) := (blk_cell BK907.out 6).trans rfl
                  have hfz53_0 := blk_frozen BK907.out 0
                  have hfz53_1 := blk_frozen BK907.out 1
                  have hfz53_2 := blk_frozen BK907.out 2
                  have hfz53_3 := blk_frozen BK907.out 3
                  have hfz53_4 := blk_frozen BK907.out 4
                  have hfz53_5 := blk_frozen BK907.out 5
                  have hfz53_6 := blk_frozen BK907.out 6
                  obtain ⟨i054, hi054, _, hsz54, _⟩ := info_parts info5
                  obtain ⟨hcut54, hA54, hC54⟩ := print_take_of (P := Try.prog) (Value.int .u8) 0 22 5 .i64 Try.underlying22 hi054 hsz54 A0 c0 l0 (ji26) (of_decide_eq_true (by first | (with_reducible assumption) | assumption)) (of_decide_eq_true (by first | (with_reducible assumption) | assumption)) HC0.out
                  have HR912 := Aside0.mk (Kd.C_of_reads (h1 := fun _ => rfl) (hA54 _ (Kd.reads_of_C HR0.out)))
                  have HC912 := Aside0.mk hC54
                  clear hA54 hC54 hi054 hsz54
                  go_wp2_with (first | ((with_reducible refine gate_callee (f := 46) rfl ?_); refine goesL_ (some 46) rfl rfl Try.func46 (by kernel_rfl) rfl #[.slice A0 (l0.take ((ji26) : Int).toNat).length c0] rfl (by (try simp only [List.map_toArray, List.map_cons, List.map_nil]); first | done | (rw [show (l0.take ((ji26) : Int).toNat).length = (ji26).toNat from (by rw [List.length_take]; have h_ : ((ji26) : Int) ≤ (l0.length : Int) := of_decide_eq_true (by first | (with_reducible assumption) | assumption); omega)] <;> rfl) | (simp only [hji26]; rfl) | rfl | (simp only [List.length_drop, List.length_take]; rfl)) ?_; (with_reducible refine (ip_Parse.calls kj4 _ _ (l0.take ((ji26) : Int).toNat) t913 t914 t915 t916 t917 t918 t919 t920 t923 _ ?side1 ?side2 A29.out).mono ?_); (case side1 => repeat (first | exact (Kd.C_below HR912.out HB.out) | (with_reducible refine Kd.C_alloc ?_ _) | (with_reducible refine Kd.C_drewN ?_ _) | (with_reducible refine Kd.C_drew ?_))); (case side2 => exact HC912.out); rintro e w55 ⟨v921, rfl, ho0, hb⟩; refine ⟨_, rfl, ?_⟩; have n0_ := Aside0.mk (Kd.V_lower (Kd.V_mono (ok' := fun k_ => k_ ≠ gb907) ho0 (fun k_ hk_ => (Kd.freshB (g := gb907) (o := .cells #[.int .u8 t896, .int .u32 t897, .int .u32 t898, .int .i64 t899, .int .i64 t900, .int .u8 t901, .int .u16 t902] 61 (0, 0)) (by (with_reducible repeat first | apply blk_drewN | apply blk_drew | apply blk_alloc); exact BK907.out) k_ hk_))) (below_size (by repeat first | (with_reducible first | exact HB.out | apply below_alloc | apply pw_below_drewN | apply below_drew1 | refine below_set ?_ GE907.out) | exact HB.out))); have n1_ := Aside0.mk (blk_below (g := gb907) (o := .cells #[.int .u8 t896, .int .u32 t897, .int .u32 t898, .int .i64 t899, .int .i64 t900, .int .u8 t901, .int .u16 t902] 61 (0, 0)) (by (with_reducible repeat first | apply blk_drewN | apply blk_drew | apply blk_alloc); exact BK907.out) hb); have n2_ := Aside0.mk (below_step (by repeat first | (with_reducible first | exact HB.out | apply below_alloc | apply pw_below_drewN | apply below_drew1 | refine below_set ?_ GE907.out) | exact HB.out) hb); clear BK907; clear HB; have HO922 := n0_; have BK907 := n1_; have HB := n2_; clear n0_ n1_ n2_; (try clear hb); (try clear hb2); (try clear hk); (try clear hi); (try clear ho0)) | ((with_reducible refine gate_dst (N := 8) rfl ?_); (try (refine gate_guard (by rfl) ?_; dsimp only)); refine box_event ?hg (N := 8) ?hd (cs := #[.int .u8 0, .int .u32 0, .int .u32 0, .int .i64 0, .int .i64 0, .int .u8 0, .int .u16 0]) (t := 61) ?hr ?_; (case hd => rfl); (case hg => rfl); (case hr => first | (go_simp; done) | (go_simp; rfl)); intro gb924 hg w56 hbox hb; have n0_ := Aside0.mk (Kd.V_below (Kd.V_elderB (by (with_reducible repeat (first | apply Kd.V_alloc | apply Kd.V_drewN | apply Kd.V_drew)); exact HO922.out) gb924 (Nat.le_of_eq hg.symm)) hb); have n1_ := Aside0.mk (blk_below (g := gb907) (o := .cells #[.int .u8 t896, .int .u32 t897, .int .u32 t898, .int .i64 t899, .int .i64 t900, .int .u8 t901, .int .u16 t902] 61 (0, 0)) (by (with_reducible repeat first | apply blk_drewN | apply blk_drew | apply blk_alloc); exact BK907.out) hb); have n2_ := Aside0.mk (below_step (by repeat first | (with_reducible first | exact HB.out | apply below_alloc | apply pw_below_drewN | apply below_drew1 | refine below_set ?_ GE907.out) | exact HB.out) hb); have n3_ := Aside0.mk (hbox); have n4_ := Aside0.mk ((by rw [hg]; exact (below_size (by repeat first | (with_reducible first | exact HB.out | apply below_alloc | apply pw_below_drewN | apply below_drew1 | refine below_set ?_ GE907.out) | exact HB.out)) : w.heap.size ≤ gb924)); have n5_ := Aside0.mk ((by rw [hg]; exact (below_size (by repeat first | (with_reducible first | exact HB.out | apply below_alloc | apply pw_below_drewN | apply below_drew1 | refine below_set ?_ GE907.out) | exact HB.out)) : w.heap.size ≤ gb924)); have n6_ := Aside0.mk ((by rw [hg]; exact Nat.ne_of_lt (blk_lt (g := gb907) (o := .cells #[.int .u8 t896, .int .u32 t897, .int .u32 t898, .int .i64 t899, .int .i64 t900, .int .u8 t901, .int .u16 t902] 61 (0, 0)) (by (with_reducible repeat first | apply blk_drewN | apply blk_drew | apply blk_alloc); exact BK907.out)) : gb907 ≠ gb924)); have n7_ := Aside0.mk ((by rw [hg]; exact Nat.ne_of_gt (blk_lt (g := gb907) (o := .cells #[.int .u8 t896, .int .u32 t897, .int .u32 t898, .int .i64 t899, .int .i64 t900, .int .u8 t901, .int .u16 t902] 61 (0, 0)) (by (with_reducible repeat first | apply blk_drewN | apply blk_drew | apply blk_alloc); exact BK907.out)) : gb924 ≠ gb907)); clear HO922; clear BK907; clear HB; have HO922 := n0_; have BK907 := n1_; have HB := n2_; have BK924 := n3_; have GW924 := n4_; have GE924 := n5_; have NB907_924 := n6_; have NB924_907 := n7_; clear n0_ n1_ n2_ n3_ n4_ n5_ n6_ n7_; clear hb hbox hg; have hnb57 := NB924_907.out; have hnc57 := NB907_924.out; have hcz58_0 : w56.cell? ⟨gb924, 0, none⟩ = some (.int .u8 0) := (blk_cell BK924.out 0).trans rfl; have hcz58_1 : w56.cell? ⟨gb924, 1, none⟩ = some (.int .u32 0) := (blk_cell BK924.out 1).trans rfl; have hcz58_2 : w56.cell? ⟨gb924, 2, none⟩ = some (.int .u32 0) := (blk_cell BK924.out 2).trans rfl; have hcz58_3 : w56.cell? ⟨gb924, 3, none⟩ = some (.int .i64 0) := (blk_cell BK924.out 3).trans rfl; have hcz58_4 : w56.cell? ⟨gb924, 4, none⟩ = some (.int .i64 0) := (blk_cell BK924.out 4).trans rfl; have hcz58_5 : w56.cell? ⟨gb924, 5, none⟩ = some (.int .u8 0) := (blk_cell BK924.out 5).trans rfl; have hcz58_6 : w56.cell? ⟨gb924, 6, none⟩ = some (.int .u16 0) := (blk_cell BK924.out 6).trans rfl; have hfz58_0 := blk_frozen BK924.out 0; have hfz58_1 := blk_frozen BK924.out 1; have hfz58_2 := blk_frozen BK924.out 2; have hfz58_3 := blk_frozen BK924.out 3; have hfz58_4 := blk_frozen BK924.out 4; have hfz58_5 := blk_frozen BK924.out 5; have hfz58_6 := blk_frozen BK924.out 6) | ((with_reducible refine gate_store (t := 61) (p := 8) rfl ?_); refine store_event (t := 61) (p := 8) (v := ?vo_w59) (w1 := (((((((w56.setCell ⟨gb924, 0, none⟩ (.int .u8 t913)).setCell ⟨gb924, 1, none⟩ (.int .u32 t914)).setCell ⟨gb924, 2, none⟩ (.int .u32 t915)).setCell ⟨gb924, 3, none⟩ (.int .i64 t916)).setCell ⟨gb924, 4, none⟩ (.int .i64 t917)).setCell ⟨gb924, 5, none⟩ (.int .u8 t918)).setCell ⟨gb924, 6, none⟩ (.int .u16 t919))) ?hg ?ho ?hn ?hr ?_; (case ho => rfl); (case hg => rfl); (case hn => rfl); (case hr => first | (go_simp; done) | (go_simp; rfl)); intro w59 hw; have n0_ : Aside0 (Kd.V (Kd.int .u8) 5 w59 w.heap.size (fun k_ => k_ ≠ gb907 ∧ k_ ≠ gb924) v921 t920) := ⟨(by rw [hw]; exact (by (with_reducible repeat (first | apply Kd.V_alloc | apply Kd.V_drewN | apply Kd.V_drew)); exact Kd.V_mono (Kd.V_far (p := ⟨gb924, 6, none⟩) (Kd.V_far (p := ⟨gb924, 5, none⟩) (Kd.V_far (p := ⟨gb924, 4, none⟩) (Kd.V_far (p := ⟨gb924, 3, none⟩) (Kd.V_far (p := ⟨gb924, 2, none⟩) (Kd.V_far (p := ⟨gb924, 1, none⟩) (Kd.V_far (p := ⟨gb924, 0, none⟩) (Kd.V_mono HO922.out (fun k_ hk => (⟨hk, hk.2⟩ : _ ∧ k_ ≠ gb924))) (fun _ hk => hk.2) (.int .u8 t913)) (fun _ hk => hk.2) (.int .u32 t914)) (fun _ hk => hk.2) (.int .u32 t915)) (fun _ hk => hk.2) (.int .i64 t916)) (fun _ hk => hk.2) (.int .i64 t917)) (fun _ hk => hk.2) (.int .u8 t918)) (fun _ hk => hk.2) (.int .u16 t919)) (fun _ hk => ⟨hk.1.1, hk.1.2⟩)))⟩; have n1_ : Aside0 (w59.heap[gb907]? = some (.cells #[.int .u8 t896, .int .u32 t897, .int .u32 t898, .int .i64 t899, .int .i64 t900, .int .u8 t901, .int .u16 t902] 61 (0, 0))) := ⟨(by rw [hw]; exact (by (with_reducible repeat first | apply blk_drewN | apply blk_drew | apply blk_alloc); refine blk_far ?_ NB907_924.out _; (with_reducible repeat first | apply blk_drewN | apply blk_drew | apply blk_alloc); refine blk_far ?_ NB907_924.out _; (with_reducible repeat first | apply blk_drewN | apply blk_drew | apply blk_alloc); refine blk_far ?_ NB907_924.out _; (with_reducible repeat first | apply blk_drewN | apply blk_drew | apply blk_alloc); refine blk_far ?_ NB907_924.out _; (with_reducible repeat first | apply blk_drewN | apply blk_drew | apply blk_alloc); refine blk_far ?_ NB907_924.out _; (with_reducible repeat first | apply blk_drewN | apply blk_drew | apply blk_alloc); refine blk_far ?_ NB907_924.out _; (with_reducible repeat first | apply blk_drewN | apply blk_drew | apply blk_alloc); refine blk_far ?_ NB907_924.out _; (with_reducible repeat first | apply blk_drewN | apply blk_drew | apply blk_alloc); exact BK907.out))⟩; have n2_ : Aside0 (w59.heap[gb924]? = some (.cells #[.int .u8 t913, .int .u32 t914, .int .u32 t915, .int .i64 t916, .int .i64 t917, .int .u8 t918, .int .u16 t919] 61 (0, 0))) := ⟨(by rw [hw]; exact (by (with_reducible repeat first | apply blk_drewN | apply blk_drew | apply blk_alloc); refine blk_put (cs := #[.int .u8 t913, .int .u32 t914, .int .u32 t915, .int .i64 t916, .int .i64 t917, .int .u8 t918, .int .u16 0]) ?_ 6 _ rfl; (with_reducible repeat first | apply blk_drewN | apply blk_drew | apply blk_alloc); refine blk_put (cs := #[.int .u8 t913, .int .u32 t914, .int .u32 t915, .int .i64 t916, .int .i64 t917, .int .u8 0, .int .u16 0]) ?_ 5 _ rfl; (with_reducible repeat first | apply blk_drewN | apply blk_drew | apply blk_alloc); refine blk_put (cs := #[.int .u8 t913, .int .u32 t914, .int .u32 t915, .int .i64 t916, .int .i64 0, .int .u8 0, .int .u16 0]) ?_ 4 _ rfl; (with_reducible repeat first | apply blk_drewN | apply blk_drew | apply blk_alloc); refine blk_put (cs := #[.int .u8 t913, .int .u32 t914, .int .u32 t915, .int .i64 0, .int .i64 0, .int .u8 0, .int .u16 0]) ?_ 3 _ rfl; (with_reducible repeat first | apply blk_drewN | apply blk_drew | apply blk_alloc); refine blk_put (cs := #[.int .u8 t913, .int .u32 t914, .int .u32 0, .int .i64 0, .int .i64 0, .int .u8 0, .int .u16 0]) ?_ 2 _ rfl; (with_reducible repeat first | apply blk_drewN | apply blk_drew | apply blk_alloc); refine blk_put (cs := #[.int .u8 t913, .int .u32 0, .int .u32 0, .int .i64 0, .int .i64 0, .int .u8 0, .int .u16 0]) ?_ 1 _ rfl; (with_reducible repeat first | apply blk_drewN | apply blk_drew | apply blk_alloc); refine blk_put (cs := #[.int .u8 0, .int .u32 0, .int .u32 0, .int .i64 0, .int .i64 0, .int .u8 0, .int .u16 0]) ?_ 0 _ rfl; (with_reducible repeat first | apply blk_drewN | apply blk_drew | apply blk_alloc); exact BK924.out))⟩; have n3_ : Aside0 (Below w.heap.size w w59) := ⟨(by rw [hw]; exact (by repeat first | (with_reducible first | exact HB.out | apply below_alloc | apply pw_below_drewN | apply below_drew1 | refine below_set ?_ GE907.out | refine below_set ?_ GE924.out) | exact HB.out))⟩; clear hw; clear HO922; clear BK907; clear BK924; clear HB; have HO922 := n0_; have BK907 := n1_; have BK924 := n2_; have HB := n3_; clear n0_ n1_ n2_ n3_) | ((with_reducible refine gate_callee (f := 49) rfl ?_); refine goesL_ (some 50) rfl rfl Try.func49 (by kernel_rfl) rfl #[] rfl (by (try simp only [List.map_toArray, List.map_cons, List.map_nil]); first | done | rfl) ?_; (with_reducible refine (mantletlaw04_awake.calls kj4  true _ A30.out).mono ?_); rintro e w60 ⟨rfl, hb⟩; refine ⟨_, rfl, ?_⟩; have n0_ := Aside0.mk (Kd.V_below (by (with_reducible repeat (first | apply Kd.V_alloc | apply Kd.V_drewN | apply Kd.V_drew)); exact HO922.out) hb); have n1_ := Aside0.mk (blk_below (g := gb907) (o := .cells #[.int .u8 t896, .int .u32 t897, .int .u32 t898, .int .i64 t899, .int .i64 t900, .int .u8 t901, .int .u16 t902] 61 (0, 0)) (by (with_reducible repeat first | apply blk_drewN | apply blk_drew | apply blk_alloc); exact BK907.out) hb); have n2_ := Aside0.mk (blk_below (g := gb924) (o := .cells #[.int .u8 t913, .int .u32 t914, .int .u32 t915, .int .i64 t916, .int .i64 t917, .int .u8 t918, .int .u16 t919] 61 (0, 0)) (by (with_reducible repeat first | apply blk_drewN | apply blk_drew | apply blk_alloc); exact BK924.out) hb); have n3_ := Aside0.mk (below_step (by repeat first | (with_reducible first | exact HB.out | apply below_alloc | apply pw_below_drewN | apply below_drew1 | refine below_set ?_ GE907.out | refine below_set ?_ GE924.out) | exact HB.out) hb); clear HO922; clear BK907; clear BK924; clear HB; have HO922 := n0_; have BK907 := n1_; have BK924 := n2_; have HB := n3_; clear n0_ n1_ n2_ n3_; (try clear hb); (try clear hb2); (try clear hk); (try clear hi)))
                  go_ret
                  exact ⟨by first | rfl | (simp [errW_none, errW_some] <;> rfl) | (simp only [← hji26]; first | rfl | (simp [errW_none, errW_some] <;> rfl)) | (simp [*, errW_none, errW_some] <;> rfl), by repeat first | (with_reducible first | exact HB.out | apply below_alloc | apply pw_below_drewN | apply below_drew1 | refine below_set ?_ GE907.out | refine below_set ?_ GE924.out) | exact HB.out⟩
              · replace c31 := Bool.eq_false_iff.mpr c31
                subst c31
                have H1 : (some false) = some r := by rw [if_neg (show ¬ (false = true) by decide)] at H; exact H
                clear H
                have H := H1
                clear H1
                obtain rfl := Option.some.inj H
                have hcz61_0 : wc.cell? ⟨gb907, 0, none⟩ = some (.int .u8 t896) := (blk_cell BK907.out 0).trans rfl
                have hcz61_1 : wc.cell? ⟨gb907, 1, none⟩ = some (.int .u32 t897) := (blk_cell BK907.out 1).trans rfl
                have hcz61_2 : wc.cell? ⟨gb907, 2, none⟩ = some (.int .u32 t898) := (blk_cell BK907.out 2).trans rfl
                have hcz61_3 : wc.cell? ⟨gb907, 3, none⟩ = some (.int .i64 t899) := (blk_cell BK907.out 3).trans rfl
                have hcz61_4 : wc.cell? ⟨gb907, 4, none⟩ = some (.int .i64 t900) := (blk_cell BK907.out 4).trans rfl
                have hcz61_5 : wc.cell? ⟨gb907, 5, none⟩ = some (.int .u8 t901) := (blk_cell BK907.out 5).trans rfl
                have hcz61_6 : wc.cell? ⟨gb907, 6, none⟩ = some (.int .u16 t902) := (blk_cell BK907.out 6).trans rfl
                have hfz61_0 := blk_frozen BK907.out 0
                have hfz61_1 := blk_frozen BK907.out 1
                have hfz61_2 := blk_frozen BK907.out 2
                have hfz61_3 := blk_frozen BK907.out 3
                have hfz61_4 := blk_frozen BK907.out 4
                have hfz61_5 := blk_frozen BK907.out 5
                have hfz61_6 := blk_frozen BK907.out 6
                obtain ⟨i062, hi062, _, hsz62, _⟩ := info_parts info5
                obtain ⟨hcut62, hA62, hC62⟩ := print_take_of (P := Try.prog) (Value.int .u8) 0 22 5 .i64 Try.underlying22 hi062 hsz62 A0 c0 l0 (ji26) (of_decide_eq_true (by first | (with_reducible assumption) | assumption)) (of_decide_eq_true (by first | (with_reducible assumption) | assumption)) HC0.out
                have HR912 := Aside0.mk (Kd.C_of_reads (h1 := fun _ => rfl) (hA62 _ (Kd.reads_of_C HR0.out)))
                have HC912 := Aside0.mk hC62
                clear hA62 hC62 hi062 hsz62
                go_wp2_with (first | ((with_reducible refine gate_callee (f := 46) rfl ?_); refine goesL_ (some 46) rfl rfl Try.func46 (by kernel_rfl) rfl #[.slice A0 (l0.take ((ji26) : Int).toNat).length c0] rfl (by (try simp only [List.map_toArray, List.map_cons, List.map_nil]); first | done | (rw [show (l0.take ((ji26) : Int).toNat).length = (ji26).toNat from (by rw [List.length_take]; have h_ : ((ji26) : Int) ≤ (l0.length : Int) := of_decide_eq_true (by first | (with_reducible assumption) | assumption); omega)] <;> rfl) | (simp only [hji26]; rfl) | rfl | (simp only [List.length_drop, List.length_take]; rfl)) ?_; (with_reducible refine (ip_Parse.calls kj4 _ _ (l0.take ((ji26) : Int).toNat) t913 t914 t915 t916 t917 t918 t919 t920 t923 _ ?side1 ?side2 A29.out).mono ?_); (case side1 => repeat (first | exact (Kd.C_below HR912.out HB.out) | (with_reducible refine Kd.C_alloc ?_ _) | (with_reducible refine Kd.C_drewN ?_ _) | (with_reducible refine Kd.C_drew ?_))); (case side2 => exact HC912.out); rintro e w63 ⟨v921, rfl, ho0, hb⟩; refine ⟨_, rfl, ?_⟩; have n0_ := Aside0.mk (Kd.V_lower (Kd.V_mono (ok' := fun k_ => k_ ≠ gb907) ho0 (fun k_ hk_ => (Kd.freshB (g := gb907) (o := .cells #[.int .u8 t896, .int .u32 t897, .int .u32 t898, .int .i64 t899, .int .i64 t900, .int .u8 t901, .int .u16 t902] 61 (0, 0)) (by (with_reducible repeat first | apply blk_drewN | apply blk_drew | apply blk_alloc); exact BK907.out) k_ hk_))) (below_size (by repeat first | (with_reducible first | exact HB.out | apply below_alloc | apply pw_below_drewN | apply below_drew1 | refine below_set ?_ GE907.out) | exact HB.out))); have n1_ := Aside0.mk (blk_below (g := gb907) (o := .cells #[.int .u8 t896, .int .u32 t897, .int .u32 t898, .int .i64 t899, .int .i64 t900, .int .u8 t901, .int .u16 t902] 61 (0, 0)) (by (with_reducible repeat first | apply blk_drewN | apply blk_drew | apply blk_alloc); exact BK907.out) hb); have n2_ := Aside0.mk (below_step (by repeat first | (with_reducible first | exact HB.out | apply below_alloc | apply pw_below_drewN | apply below_drew1 | refine below_set ?_ GE907.out) | exact HB.out) hb); clear BK907; clear HB; have HO922 := n0_; have BK907 := n1_; have HB := n2_; clear n0_ n1_ n2_; (try clear hb); (try clear hb2); (try clear hk); (try clear hi); (try clear ho0)) | ((with_reducible refine gate_dst (N := 8) rfl ?_); (try (refine gate_guard (by rfl) ?_; dsimp only)); refine box_event ?hg (N := 8) ?hd (cs := #[.int .u8 0, .int .u32 0, .int .u32 0, .int .i64 0, .int .i64 0, .int .u8 0, .int .u16 0]) (t := 61) ?hr ?_; (case hd => rfl); (case hg => rfl); (case hr => first | (go_simp; done) | (go_simp; rfl)); intro gb924 hg w64 hbox hb; have n0_ := Aside0.mk (Kd.V_below (Kd.V_elderB (by (with_reducible repeat (first | apply Kd.V_alloc | apply Kd.V_drewN | apply Kd.V_drew)); exact HO922.out) gb924 (Nat.le_of_eq hg.symm)) hb); have n1_ := Aside0.mk (blk_below (g := gb907) (o := .cells #[.int .u8 t896, .int .u32 t897, .int .u32 t898, .int .i64 t899, .int .i64 t900, .int .u8 t901, .int .u16 t902] 61 (0, 0)) (by (with_reducible repeat first | apply blk_drewN | apply blk_drew | apply blk_alloc); exact BK907.out) hb); have n2_ := Aside0.mk (below_step (by repeat first | (with_reducible first | exact HB.out | apply below_alloc | apply pw_below_drewN | apply below_drew1 | refine below_set ?_ GE907.out) | exact HB.out) hb); have n3_ := Aside0.mk (hbox); have n4_ := Aside0.mk ((by rw [hg]; exact (below_size (by repeat first | (with_reducible first | exact HB.out | apply below_alloc | apply pw_below_drewN | apply below_drew1 | refine below_set ?_ GE907.out) | exact HB.out)) : w.heap.size ≤ gb924)); have n5_ := Aside0.mk ((by rw [hg]; exact (below_size (by repeat first | (with_reducible first | exact HB.out | apply below_alloc | apply pw_below_drewN | apply below_drew1 | refine below_set ?_ GE907.out) | exact HB.out)) : w.heap.size ≤ gb924)); have n6_ := Aside0.mk ((by rw [hg]; exact Nat.ne_of_lt (blk_lt (g := gb907) (o := .cells #[.int .u8 t896, .int .u32 t897, .int .u32 t898, .int .i64 t899, .int .i64 t900, .int .u8 t901, .int .u16 t902] 61 (0, 0)) (by (with_reducible repeat first | apply blk_drewN | apply blk_drew | apply blk_alloc); exact BK907.out)) : gb907 ≠ gb924)); have n7_ := Aside0.mk ((by rw [hg]; exact Nat.ne_of_gt (blk_lt (g := gb907) (o := .cells #[.int .u8 t896, .int .u32 t897, .int .u32 t898, .int .i64 t899, .int .i64 t900, .int .u8 t901, .int .u16 t902] 61 (0, 0)) (by (with_reducible repeat first | apply blk_drewN | apply blk_drew | apply blk_alloc); exact BK907.out)) : gb924 ≠ gb907)); clear HO922; clear BK907; clear HB; have HO922 := n0_; have BK907 := n1_; have HB := n2_; have BK924 := n3_; have GW924 := n4_; have GE924 := n5_; have NB907_924 := n6_; have NB924_907 := n7_; clear n0_ n1_ n2_ n3_ n4_ n5_ n6_ n7_; clear hb hbox hg; have hnb65 := NB924_907.out; have hnc65 := NB907_924.out; have hcz66_0 : w64.cell? ⟨gb924, 0, none⟩ = some (.int .u8 0) := (blk_cell BK924.out 0).trans rfl; have hcz66_1 : w64.cell? ⟨gb924, 1, none⟩ = some (.int .u32 0) := (blk_cell BK924.out 1).trans rfl; have hcz66_2 : w64.cell? ⟨gb924, 2, none⟩ = some (.int .u32 0) := (blk_cell BK924.out 2).trans rfl; have hcz66_3 : w64.cell? ⟨gb924, 3, none⟩ = some (.int .i64 0) := (blk_cell BK924.out 3).trans rfl; have hcz66_4 : w64.cell? ⟨gb924, 4, none⟩ = some (.int .i64 0) := (blk_cell BK924.out 4).trans rfl; have hcz66_5 : w64.cell? ⟨gb924, 5, none⟩ = some (.int .u8 0) := (blk_cell BK924.out 5).trans rfl; have hcz66_6 : w64.cell? ⟨gb924, 6, none⟩ = some (.int .u16 0) := (blk_cell BK924.out 6).trans rfl; have hfz66_0 := blk_frozen BK924.out 0; have hfz66_1 := blk_frozen BK924.out 1; have hfz66_2 := blk_frozen BK924.out 2; have hfz66_3 := blk_frozen BK924.out 3; have hfz66_4 := blk_frozen BK924.out 4; have hfz66_5 := blk_frozen BK924.out 5; have hfz66_6 := blk_frozen BK924.out 6) | ((with_reducible refine gate_store (t := 61) (p := 8) rfl ?_); refine store_event (t := 61) (p := 8) (v := ?vo_w67) (w1 := (((((((w64.setCell ⟨gb924, 0, none⟩ (.int .u8 t913)).setCell ⟨gb924, 1, none⟩ (.int .u32 t914)).setCell ⟨gb924, 2, none⟩ (.int .u32 t915)).setCell ⟨gb924, 3, none⟩ (.int .i64 t916)).setCell ⟨gb924, 4, none⟩ (.int .i64 t917)).setCell ⟨gb924, 5, none⟩ (.int .u8 t918)).setCell ⟨gb924, 6, none⟩ (.int .u16 t919))) ?hg ?ho ?hn ?hr ?_; (case ho => rfl); (case hg => rfl); (case hn => rfl); (case hr => first | (go_simp; done) | (go_simp; rfl)); intro w67 hw; have n0_ : Aside0 (Kd.V (Kd.int .u8) 5 w67 w.heap.size (fun k_ => k_ ≠ gb907 ∧ k_ ≠ gb924) v921 t920) := ⟨(by rw [hw]; exact (by (with_reducible repeat (first | apply Kd.V_alloc | apply Kd.V_drewN | apply Kd.V_drew)); exact Kd.V_mono (Kd.V_far (p := ⟨gb924, 6, none⟩) (Kd.V_far (p := ⟨gb924, 5, none⟩) (Kd.V_far (p := ⟨gb924, 4, none⟩) (Kd.V_far (p := ⟨gb924, 3, none⟩) (Kd.V_far (p := ⟨gb924, 2, none⟩) (Kd.V_far (p := ⟨gb924, 1, none⟩) (Kd.V_far (p := ⟨gb924, 0, none⟩) (Kd.V_mono HO922.out (fun k_ hk => (⟨hk, hk.2⟩ : _ ∧ k_ ≠ gb924))) (fun _ hk => hk.2) (.int .u8 t913)) (fun _ hk => hk.2) (.int .u32 t914)) (fun _ hk => hk.2) (.int .u32 t915)) (fun _ hk => hk.2) (.int .i64 t916)) (fun _ hk => hk.2) (.int .i64 t917)) (fun _ hk => hk.2) (.int .u8 t918)) (fun _ hk => hk.2) (.int .u16 t919)) (fun _ hk => ⟨hk.1.1, hk.1.2⟩)))⟩; have n1_ : Aside0 (w67.heap[gb907]? = some (.cells #[.int .u8 t896, .int .u32 t897, .int .u32 t898, .int .i64 t899, .int .i64 t900, .int .u8 t901, .int .u16 t902] 61 (0, 0))) := ⟨(by rw [hw]; exact (by (with_reducible repeat first | apply blk_drewN | apply blk_drew | apply blk_alloc); refine blk_far ?_ NB907_924.out _; (with_reducible repeat first | apply blk_drewN | apply blk_drew | apply blk_alloc); refine blk_far ?_ NB907_924.out _; (with_reducible repeat first | apply blk_drewN | apply blk_drew | apply blk_alloc); refine blk_far ?_ NB907_924.out _; (with_reducible repeat first | apply blk_drewN | apply blk_drew | apply blk_alloc); refine blk_far ?_ NB907_924.out _; (with_reducible repeat first | apply blk_drewN | apply blk_drew | apply blk_alloc); refine blk_far ?_ NB907_924.out _; (with_reducible repeat first | apply blk_drewN | apply blk_drew | apply blk_alloc); refine blk_far ?_ NB907_924.out _; (with_reducible repeat first | apply blk_drewN | apply blk_drew | apply blk_alloc); refine blk_far ?_ NB907_924.out _; (with_reducible repeat first | apply blk_drewN | apply blk_drew | apply blk_alloc); exact BK907.out))⟩; have n2_ : Aside0 (w67.heap[gb924]? = some (.cells #[.int .u8 t913, .int .u32 t914, .int .u32 t915, .int .i64 t916, .int .i64 t917, .int .u8 t918, .int .u16 t919] 61 (0, 0))) := ⟨(by rw [hw]; exact (by (with_reducible repeat first | apply blk_drewN | apply blk_drew | apply blk_alloc); refine blk_put (cs := #[.int .u8 t913, .int .u32 t914, .int .u32 t915, .int .i64 t916, .int .i64 t917, .int .u8 t918, .int .u16 0]) ?_ 6 _ rfl; (with_reducible repeat first | apply blk_drewN | apply blk_drew | apply blk_alloc); refine blk_put (cs := #[.int .u8 t913, .int .u32 t914, .int .u32 t915, .int .i64 t916, .int .i64 t917, .int .u8 0, .int .u16 0]) ?_ 5 _ rfl; (with_reducible repeat first | apply blk_drewN | apply blk_drew | apply blk_alloc); refine blk_put (cs := #[.int .u8 t913, .int .u32 t914, .int .u32 t915, .int .i64 t916, .int .i64 0, .int .u8 0, .int .u16 0]) ?_ 4 _ rfl; (with_reducible repeat first | apply blk_drewN | apply blk_drew | apply blk_alloc); refine blk_put (cs := #[.int .u8 t913, .int .u32 t914, .int .u32 t915, .int .i64 0, .int .i64 0, .int .u8 0, .int .u16 0]) ?_ 3 _ rfl; (with_reducible repeat first | apply blk_drewN | apply blk_drew | apply blk_alloc); refine blk_put (cs := #[.int .u8 t913, .int .u32 t914, .int .u32 0, .int .i64 0, .int .i64 0, .int .u8 0, .int .u16 0]) ?_ 2 _ rfl; (with_reducible repeat first | apply blk_drewN | apply blk_drew | apply blk_alloc); refine blk_put (cs := #[.int .u8 t913, .int .u32 0, .int .u32 0, .int .i64 0, .int .i64 0, .int .u8 0, .int .u16 0]) ?_ 1 _ rfl; (with_reducible repeat first | apply blk_drewN | apply blk_drew | apply blk_alloc); refine blk_put (cs := #[.int .u8 0, .int .u32 0, .int .u32 0, .int .i64 0, .int .i64 0, .int .u8 0, .int .u16 0]) ?_ 0 _ rfl; (with_reducible repeat first | apply blk_drewN | apply blk_drew | apply blk_alloc); exact BK924.out))⟩; have n3_ : Aside0 (Below w.heap.size w w67) := ⟨(by rw [hw]; exact (by repeat first | (with_reducible first | exact HB.out | apply below_alloc | apply pw_below_drewN | apply below_drew1 | refine below_set ?_ GE907.out | refine below_set ?_ GE924.out) | exact HB.out))⟩; clear hw; clear HO922; clear BK907; clear BK924; clear HB; have HO922 := n0_; have BK907 := n1_; have BK924 := n2_; have HB := n3_; clear n0_ n1_ n2_ n3_) | ((with_reducible refine gate_callee (f := 49) rfl ?_); refine goesL_ (some 50) rfl rfl Try.func49 (by kernel_rfl) rfl #[] rfl (by (try simp only [List.map_toArray, List.map_cons, List.map_nil]); first | done | rfl) ?_; (with_reducible refine (mantletlaw04_awake.calls kj4  false _ A30.out).mono ?_); rintro e w68 ⟨rfl, hb⟩; refine ⟨_, rfl, ?_⟩; have n0_ := Aside0.mk (Kd.V_below (by (with_reducible repeat (first | apply Kd.V_alloc | apply Kd.V_drewN | apply Kd.V_drew)); exact HO922.out) hb); have n1_ := Aside0.mk (blk_below (g := gb907) (o := .cells #[.int .u8 t896, .int .u32 t897, .int .u32 t898, .int .i64 t899, .int .i64 t900, .int .u8 t901, .int .u16 t902] 61 (0, 0)) (by (with_reducible repeat first | apply blk_drewN | apply blk_drew | apply blk_alloc); exact BK907.out) hb); have n2_ := Aside0.mk (blk_below (g := gb924) (o := .cells #[.int .u8 t913, .int .u32 t914, .int .u32 t915, .int .i64 t916, .int .i64 t917, .int .u8 t918, .int .u16 t919] 61 (0, 0)) (by (with_reducible repeat first | apply blk_drewN | apply blk_drew | apply blk_alloc); exact BK924.out) hb); have n3_ := Aside0.mk (below_step (by repeat first | (with_reducible first | exact HB.out | apply below_alloc | apply pw_below_drewN | apply below_drew1 | refine below_set ?_ GE907.out | refine below_set ?_ GE924.out) | exact HB.out) hb); clear HO922; clear BK907; clear BK924; clear HB; have HO922 := n0_; have BK907 := n1_; have BK924 := n2_; have HB := n3_; clear n0_ n1_ n2_ n3_; (try clear hb); (try clear hb2); (try clear hk); (try clear hi)))
                go_ret
                exact ⟨by first | rfl | (simp [errW_none, errW_some] <;> rfl) | (simp only [← hji26]; first | rfl | (simp [errW_none, errW_some] <;> rfl)) | (simp [*, errW_none, errW_some] <;> rfl), by repeat first | (with_reducible first | exact HB.out | apply below_alloc | apply pw_below_drewN | apply below_drew1 | refine below_set ?_ GE907.out | refine below_set ?_ GE924.out) | exact HB.out⟩
            · rw [if_neg c28] at H
              exact absurd H (by simp)
          · rw [if_neg c27] at H
            exact absurd H (by simp)

/-- THE ONE PURE STATEMENT of mantletlaw04_IpCuts: yours. -/
def mantletlaw04_IpCuts.Pure : Prop := ∀ (l0 : List Int) (a1 : Int), l0.length ≤ maxLen → l0.length * 1 ≤ 140737488351232 → (∀ x ∈ l0, (Lit.int .u8 x).wf = true) → (Lit.int .u16 a1).wf = true → ∃ k, mantletlaw04_IpCuts.f k l0 a1 = some true
theorem mantletlaw04_IpCuts.walk (P : mantletlaw04_IpCuts.Pure) (a0 : Option Addr) (len0 cap0 : Nat) (z0 : List Int) (a1 : Int) (w : World) (w0 : (a0 = none ∧ len0 = 0 ∧ cap0 = 0 ∧ z0 = []) ∨ ∃ x, a0 = some x ∧ len0 ≤ cap0 ∧ cap0 ≤ maxLen ∧ z0.length = cap0 ∧ (∀ i, i < z0.length → w.cell? (x.add i) = some (.int .u8 (z0.getD i 0))) ∧ ∀ n ∈ z0, (Lit.int .u8 n).wf = true) (y0 : len0 * 1 ≤ 140737488351232) (w1 : (Lit.int .u16 a1).wf = true) :
    Calls Try.prog 17 #[.slice a0 len0 cap0, .int .u16 a1] w fun e w' => e = .returned (.bool true) ∧ Below w.heap.size w w' := by
  obtain ⟨l0, rfl, hr0, hm0, hw0, hc0⟩ := ReadsInt.ofRowC w0
  obtain ⟨k, h⟩ := P l0 a1 hm0 y0 hw0 w1
  refine (mantletlaw04_IpCuts.calls k _ _ l0 a1 true w (Kd.C_of_reads (d := (0 : Int)) (h1 := fun _ => rfl) hr0) hc0 h).mono ?_
  rintro e w' ⟨rfl, hd⟩
  exact ⟨rfl, hd⟩

end Go.Proofs.Ytofjgdbiieanjaa.All
