-- Made by a program of this workplace (wip/pr.sh) out of Lean's print of the translation; Lean checks it.
import Derived.Test.YtofjgdbiieanjaaAllx0
import Derived.Test.YtofjgdbiieanjaaAllx38
import Derived.Test.YtofjgdbiieanjaaAllx42
import Derived.Test.YtofjgdbiieanjaaOwn
namespace Go.Proofs.Ytofjgdbiieanjaa.All
open Go.Proofs.Ytofjgdbiieanjaa.Ext
open Go.RowKit Go.Proofs.YtofjgdbiieanjaaW.PrintWords Go.Proofs.YtofjgdbiieanjaaW.PrintLast Go.Proofs.YtofjgdbiieanjaaW.PrintMore
attribute [local go_sem] max2_int min2_int max_two min_two max_three min_three max_four min_four   -- for this text's walks alone
set_option linter.unusedVariables false
set_option linter.unusedSimpArgs false

/-! ### mantletlaw06_awake: function 43 -/
def mantletlaw06_awake.f (k : Nat)  : Option (Bool) := (udp_Build.f k 1 2 53 54 (([7] : List Int))).bind fun bt233 => (if bt233.1.length < 140737488355328 then ((udp_Parse.f k 1 2 (bt233.1 ++ [9])).bind fun bt240 => ((udp_Parse.f k 1 3 bt233.1).bind fun bt243 => ((udp_Parse.f k 1 3 (([0, 1, 0, 2, 0, 8, 0, 0] : List Int))).bind fun bt249 => (if (bt233.1.length : Int) = 9 then (if bt233.2 = 0 then (if bt240.1 = 53 then (if bt240.2.1 = 54 then (if bt240.2.2 = 0 then (if bt243.2.2 = 7 then (if bt249.1 = 1 then (if bt249.2.1 = 2 then (some (bt249.2.2 == 0)) else (some false)) else (some false)) else (some false)) else (some false)) else (some false)) else (some false)) else (some false)) else (some false))))) else (none))
theorem mantletlaw06_awake.mono : ∀ k, LeO (mantletlaw06_awake.f k ) (mantletlaw06_awake.f (k + 1) ) := by
  intro  k
  unfold mantletlaw06_awake.f
  repeat' first
      | (with_reducible exact udp_Build.mono _ _ _ _ _ _)
      | (with_reducible exact udp_Parse.mono _ _ _ _)
      | (with_reducible exact LeO.refl _)
      | (with_reducible exact LeO.none _)
      | (with_reducible refine LeO.ite ?_ ?_)
      | (with_reducible refine LeO.bind ?_ (fun _ => ?_))
      | exact udp_Build.mono _ _ _ _ _ _
      | exact udp_Parse.mono _ _ _ _
      | exact LeO.none _
      | refine LeO.ite ?_ ?_
      | refine LeO.bind ?_ (fun _ => ?_)
theorem mantletlaw06_awake.yes : mantletlaw06_awake.f 80 = some true := by kernel_rfl
theorem mantletlaw06_awake.from_ (k : Nat) : mantletlaw06_awake.f (k + 80) = some true := by
  induction k with
  | zero => rw [Nat.zero_add]; exact mantletlaw06_awake.yes
  | succ k ih => rw [show k + 1 + 80 = (k + 80) + 1 by omega]; exact mantletlaw06_awake.mono _ _ ih
theorem mantletlaw06_awake.more (k j : Nat) (r : Bool) (h : mantletlaw06_awake.f k = some r) : mantletlaw06_awake.f (k + j) = some r := by
  induction j with
  | zero => exact h
  | succ j ih => exact mantletlaw06_awake.mono _ _ ih
theorem mantletlaw06_awake.true_ (k : Nat) (r : Bool) (h : mantletlaw06_awake.f k = some r) : r = true := Option.some.inj ((mantletlaw06_awake.more k 80 r h).symm.trans (mantletlaw06_awake.from_ k))
set_option maxHeartbeats 8000000 in
set_option maxRecDepth 100000 in
theorem mantletlaw06_awake.calls (k : Nat)  (r : Bool) (w : World) (h : mantletlaw06_awake.f k  = some r) :
    Calls Try.prog 43 #[] w fun e w' => e = .returned (.bool r) ∧ Below w.heap.size w w' := by
  have HT := Aside0.mk (mantletlaw06_awake.true_ k r h)
  have HB := Aside0.mk (Below.refl w.heap.size w)
  have H : ((udp_Build.f k 1 2 53 54 (([7] : List Int))).bind fun bt233 => (if bt233.1.length < 140737488355328 then ((udp_Parse.f k 1 2 (bt233.1 ++ [9])).bind fun bt240 => ((udp_Parse.f k 1 3 bt233.1).bind fun bt243 => ((udp_Parse.f k 1 3 (([0, 1, 0, 2, 0, 8, 0, 0] : List Int))).bind fun bt249 => (if (bt233.1.length : Int) = 9 then (if bt233.2 = 0 then (if bt240.1 = 53 then (if bt240.2.1 = 54 then (if bt240.2.2 = 0 then (if bt243.2.2 = 7 then (if bt249.1 = 1 then (if bt249.2.1 = 2 then (some (bt249.2.2 == 0)) else (some false)) else (some false)) else (some false)) else (some false)) else (some false)) else (some false)) else (some false)) else (some false))))) else (none))) = some r := h
  clear h
  obtain ⟨y230, hy230⟩ : ∃ y_ : List Int, y_ = (([7] : List Int)) := ⟨_, rfl⟩
  replace H : ((udp_Build.f k 1 2 53 54 y230).bind fun bt233 => (if bt233.1.length < 140737488355328 then ((udp_Parse.f k 1 2 (bt233.1 ++ [9])).bind fun bt240 => ((udp_Parse.f k 1 3 bt233.1).bind fun bt243 => ((udp_Parse.f k 1 3 (([0, 1, 0, 2, 0, 8, 0, 0] : List Int))).bind fun bt249 => (if (bt233.1.length : Int) = 9 then (if bt233.2 = 0 then (if bt240.1 = 53 then (if bt240.2.1 = 54 then (if bt240.2.2 = 0 then (if bt243.2.2 = 7 then (if bt249.1 = 1 then (if bt249.2.1 = 2 then (some (bt249.2.2 == 0)) else (some false)) else (some false)) else (some false)) else (some false)) else (some false)) else (some false)) else (some false)) else (some false))))) else (none))) = some r := by first | (rw [hy230]; with_reducible exact H) | (have H2_ := (Option.bind_some _ _).symm.trans H; rw [hy230]; with_reducible exact H2_) | (have H2_ := (Option.bind_some _ _).symm.trans H; with_reducible exact H2_) | with_reducible exact H | (rw [hy230]; exact H) | exact H
  have Ny230 := Aside0.mk hy230
  clear hy230
  replace H := Option.bind_eq_some_iff.mp H
  obtain ⟨⟨t233, t236⟩, A10, H⟩ := H
  replace H : (if t233.length < 140737488355328 then ((udp_Parse.f k 1 2 (t233 ++ [9])).bind fun bt240 => ((udp_Parse.f k 1 3 t233).bind fun bt243 => ((udp_Parse.f k 1 3 (([0, 1, 0, 2, 0, 8, 0, 0] : List Int))).bind fun bt249 => (if (t233.length : Int) = 9 then (if t236 = 0 then (if bt240.1 = 53 then (if bt240.2.1 = 54 then (if bt240.2.2 = 0 then (if bt243.2.2 = 7 then (if bt249.1 = 1 then (if bt249.2.1 = 2 then (some (bt249.2.2 == 0)) else (some false)) else (some false)) else (some false)) else (some false)) else (some false)) else (some false)) else (some false)) else (some false))))) else (none)) = some r := H
  have A1 := Aside0.mk A10
  clear A10
  by_cases c2 : t233.length < 140737488355328
  · rw [if_pos c2] at H
    have LMc2 := Aside0.mk c2
    clear c2
    obtain ⟨y237, hy237⟩ : ∃ y_ : List Int, y_ = (t233 ++ [9]) := ⟨_, rfl⟩
    replace H : ((udp_Parse.f k 1 2 y237).bind fun bt240 => ((udp_Parse.f k 1 3 t233).bind fun bt243 => ((udp_Parse.f k 1 3 (([0, 1, 0, 2, 0, 8, 0, 0] : List Int))).bind fun bt249 => (if (t233.length : Int) = 9 then (if t236 = 0 then (if bt240.1 = 53 then (if bt240.2.1 = 54 then (if bt240.2.2 = 0 then (if bt243.2.2 = 7 then (if bt249.1 = 1 then (if bt249.2.1 = 2 then (some (bt249.2.2 == 0)) else (some false)) else (some false)) else (some false)) else (some false)) else (some false)) else (some false)) else (some false)) else (some false))))) = some r := by first | (rw [hy237]; with_reducible exact H) | (have H2_ := (Option.bind_some _ _).symm.trans H; rw [hy237]; with_reducible exact H2_) | (have H2_ := (Option.bind_some _ _).symm.trans H; with_reducible exact H2_) | with_reducible exact H | (rw [hy237]; exact H) | exact H
    have Ny237 := Aside0.mk hy237
    clear hy237
    replace H := Option.bind_eq_some_iff.mp H
    obtain ⟨⟨t240, t241, t242⟩, A30, H⟩ := H
    replace H : ((udp_Parse.f k 1 3 t233).bind fun bt243 => ((udp_Parse.f k 1 3 (([0, 1, 0, 2, 0, 8, 0, 0] : List Int))).bind fun bt249 => (if (t233.length : Int) = 9 then (if t236 = 0 then (if t240 = 53 then (if t241 = 54 then (if t242 = 0 then (if bt243.2.2 = 7 then (if bt249.1 = 1 then (if bt249.2.1 = 2 then (some (bt249.2.2 == 0)) else (some false)) else (some false)) else (some false)) else (some false)) else (some false)) else (some false)) else (some false)) else (some false)))) = some r := H
    have A3 := Aside0.mk A30
    clear A30
    replace H := Option.bind_eq_some_iff.mp H
    obtain ⟨⟨t243, t244, t245⟩, A40, H⟩ := H
    replace H : ((udp_Parse.f k 1 3 (([0, 1, 0, 2, 0, 8, 0, 0] : List Int))).bind fun bt249 => (if (t233.length : Int) = 9 then (if t236 = 0 then (if t240 = 53 then (if t241 = 54 then (if t242 = 0 then (if t245 = 7 then (if bt249.1 = 1 then (if bt249.2.1 = 2 then (some (bt249.2.2 == 0)) else (some false)) else (some false)) else (some false)) else (some false)) else (some false)) else (some false)) else (some false)) else (some false))) = some r := H
    have A4 := Aside0.mk A40
    clear A40
    obtain ⟨y246, hy246⟩ : ∃ y_ : List Int, y_ = (([0, 1, 0, 2, 0, 8, 0, 0] : List Int)) := ⟨_, rfl⟩
    replace H : ((udp_Parse.f k 1 3 y246).bind fun bt249 => (if (t233.length : Int) = 9 then (if t236 = 0 then (if t240 = 53 then (if t241 = 54 then (if t242 = 0 then (if t245 = 7 then (if bt249.1 = 1 then (if bt249.2.1 = 2 then (some (bt249.2.2 == 0)) else (some false)) else (some false)) else (some false)) else (some false)) else (some false)) else (some false)) else (some false)) else (some false))) = some r := by first | (rw [hy246]; with_reducible exact H) | (have H2_ := (Option.bind_some _ _).symm.trans H; rw [hy246]; with_reducible exact H2_) | (have H2_ := (Option.bind_some _ _).symm.trans H; with_reducible exact H2_) | with_reducible exact H | (rw [hy246]; exact H) | exact H
    have Ny246 := Aside0.mk hy246
    clear hy246
    replace H := Option.bind_eq_some_iff.mp H
    obtain ⟨⟨t249, t250, t251⟩, A50, H⟩ := H
    replace H : (if (t233.length : Int) = 9 then (if t236 = 0 then (if t240 = 53 then (if t241 = 54 then (if t242 = 0 then (if t245 = 7 then (if t249 = 1 then (if t250 = 2 then (some (t251 == 0)) else (some false)) else (some false)) else (some false)) else (some false)) else (some false)) else (some false)) else (some false)) else (some false)) = some r := H
    have A5 := Aside0.mk A50
    clear A50
    by_cases c6 : (t233.length : Int) = 9
    · rw [if_pos c6] at H
      have c6b0 : ((t233.length : Int) == 9) = true := beq_iff_eq.mpr c6
      have c6b1 : ((t233.length : Int) != 9) = false := bne_eq_false_iff_eq.mpr c6
      clear c6
      by_cases c7 : t236 = 0
      · rw [if_pos c7] at H
        have c7b0 : (t236 == 0) = true := beq_iff_eq.mpr c7
        have c7b1 : (t236 != 0) = false := bne_eq_false_iff_eq.mpr c7
        clear c7
        by_cases c8 : t240 = 53
        · rw [if_pos c8] at H
          have c8b0 : (t240 == 53) = true := beq_iff_eq.mpr c8
          have c8b1 : (t240 != 53) = false := bne_eq_false_iff_eq.mpr c8
          clear c8
          by_cases c9 : t241 = 54
          · rw [if_pos c9] at H
            have c9b0 : (t241 == 54) = true := beq_iff_eq.mpr c9
            have c9b1 : (t241 != 54) = false := bne_eq_false_iff_eq.mpr c9
            clear c9
            by_cases c10 : t242 = 0
            · rw [if_pos c10] at H
              have c10b0 : (t242 == 0) = true := beq_iff_eq.mpr c10
              have c10b1 : (t242 != 0) = false := bne_eq_false_iff_eq.mpr c10
              clear c10
              by_cases c11 : t245 = 7
              · rw [if_pos c11] at H
                have c11b0 : (t245 == 7) = true := beq_iff_eq.mpr c11
                have c11b1 : (t245 != 7) = false := bne_eq_false_iff_eq.mpr c11
                clear c11
                by_cases c12 : t249 = 1
                · rw [if_pos c12] at H
                  have c12b0 : (t249 == 1) = true := beq_iff_eq.mpr c12
                  have c12b1 : (t249 != 1) = false := bne_eq_false_iff_eq.mpr c12
                  clear c12
                  by_cases c13 : t250 = 2
                  · rw [if_pos c13] at H
                    have c13b0 : (t250 == 2) = true := beq_iff_eq.mpr c13
                    have c13b1 : (t250 != 2) = false := bne_eq_false_iff_eq.mpr c13
                    clear c13
                    obtain rfl := Option.some.inj H
                    go_enter Try.func43, Try.ntmps43
                    go_wp2_with (first | ((with_reducible refine gate_dst (N := 13) rfl ?_); refine Kd.R_lit (Kd.int .u8) _ 5 ?hg (N := 13) ?hd (xs := ([7] : List Int)) (inner := [.int .u8 7]) (ok := fun _ => True) (okp := fun _ => True) ?hr ?hp (fun _ hk => hk) trivial (Below.refl _ _) (Nat.le_refl _) (by simp) ?_; (case hd => rfl); (case hg => rfl); (case hr => first | (go_simp; done) | (go_simp; rfl)); (case hp => exact (Reps.one (show Kd.M (Kd.int .u8) _ _ _ 7 [.int .u8 7] from rfl) (Reps.none _ _))); intro v231 w14 ho15 hb hg_ hnew_; clear hg_ hnew_; (first | rw [← Ny230.out] at ho15 | (simp only [Int.reduceToNat] at ho15; rw [← Ny230.out] at ho15)); have n0_ := Aside0.mk (Kd.R_lower ho15 (below_size (by repeat first | (with_reducible first | exact HB.out | apply below_alloc | apply pw_below_drewN | apply below_drew1) | exact HB.out))); have n1_ := Aside0.mk (below_step (by repeat first | (with_reducible first | exact HB.out | apply below_alloc | apply pw_below_drewN | apply below_drew1) | exact HB.out) hb); clear HB; have HO232 := n0_; have HB := n1_; clear n0_ n1_; clear hb ho15; obtain ⟨Ao16, co16, eo16⟩ := Kd.R_slice HO232.out; subst eo16) | ((with_reducible refine gate_callee (f := 44) rfl ?_); refine goesL_ (some 14) rfl rfl Try.func44 (by kernel_rfl) rfl #[.int .u32 1, .int .u32 2, .int .u16 53, .int .u16 54, .slice Ao16 y230.length co16] rfl (by (try simp only [List.map_toArray, List.map_cons, List.map_nil]); first | done | rfl) ?_; (with_reducible refine (udp_Build.strong k 1 2 53 54 (fun k_ => some k_ = (.slice Ao16 y230.length co16 : Value).ownBlock) _ _ y230 t233 t236 _ ?side1 A1.out).mono ?_); (case side1 => exact Kd.R_V (Kd.R_tight rfl (HO232.out))); rintro e w17 ⟨v234, rfl, ho0, hb⟩; refine ⟨_, rfl, ?_⟩; have n0_ := Aside0.mk (Kd.R_elder' (by (with_reducible repeat (first | apply Kd.R_alloc | apply Kd.R_drewN | apply Kd.R_drew)); exact HO232.out) (Kd.K_base ho0) hb); have n1_ := Aside0.mk (Kd.K_lower (Kd.K_new' (Kd.K_mono (ok' := fun k_ => True) ho0 (fun _ hk_ => trivial)) (Kd.R_lt (by (with_reducible repeat (first | apply Kd.R_alloc | apply Kd.R_drewN | apply Kd.R_drew)); exact HO232.out))) (below_size (by repeat first | (with_reducible first | exact HB.out | apply below_alloc | apply pw_below_drewN | apply below_drew1) | exact HB.out))); have n2_ := Aside0.mk (below_step (by repeat first | (with_reducible first | exact HB.out | apply below_alloc | apply pw_below_drewN | apply below_drew1) | exact HB.out) hb); clear HO232; clear HB; have HO232 := n0_; have HO235 := n1_; have HB := n2_; clear n0_ n1_ n2_; (try clear hb); (try clear hb2); (try clear hk); (try clear hi); (try clear ho0)) | ((with_reducible refine gate_builtin (b := .append) (xs := #[.tmp 18, .tmp 19]) rfl ?_); at_builtin; refine Kd.K_append (w0 := w) w.heap.size rfl (.tmp 18) (.tmp 19) 22 rfl Try.underlying22 info5 v234 t233 9 (fun k_ => some k_ ≠ (.slice Ao16 y230.length co16 : Value).ownBlock) rfl rfl ?aF ?aO ?aB ?aS ?aL ?_; (case aB => exact (by repeat first | (with_reducible first | exact HB.out | apply below_alloc | apply pw_below_drewN | apply below_drew1) | exact HB.out)); (case aF => exact (fun k_ hk => Kd.fresh' (Kd.R_lt (by (with_reducible repeat (first | apply Kd.R_alloc | apply Kd.R_drewN | apply Kd.R_drew)); exact HO232.out)) k_ hk)); (case aO => exact (by (with_reducible repeat (first | apply Kd.R_alloc | apply Kd.R_drewN | apply Kd.R_drew)); exact Kd.K_mono HO235.out (fun _ hk => hk.2))); (case aS => exact (below_size (by repeat first | (with_reducible first | exact HB.out | apply below_alloc | apply pw_below_drewN | apply below_drew1) | exact HB.out))); (case aL => have := LMc2.out; omega); intro v238 w18 hk0_ ho hb hg hat; rw [← Ny237.out] at ho; have n0_ := Aside0.mk (Kd.R_after (ok := (fun _ => True)) (by (with_reducible repeat (first | apply Kd.R_alloc | apply Kd.R_drewN | apply Kd.R_drew)); exact HO232.out) hg hat); have n1_ := Aside0.mk (hb); have n2_ := Aside0.mk (ho); clear HO232; clear HB; clear HO235; have HO235 := Aside0.mk hk0_; clear hk0_; have HO232 := n0_; have HB := n1_; have HO239 := n2_; clear n0_ n1_ n2_; clear ho hb hg hat; obtain ⟨Ao19, co19, eo19⟩ := Kd.R_slice HO239.out; subst eo19) | ((with_reducible refine gate_callee (f := 40) rfl ?_); refine goesL_ (some 21) rfl rfl Try.func40 (by kernel_rfl) rfl #[.int .u32 1, .int .u32 2, .slice Ao19 y237.length co19] rfl (by (try simp only [List.map_toArray, List.map_cons, List.map_nil]); first | done | rfl) ?_; (with_reducible refine (udp_Parse.calls k 1 2 _ _ y237 t240 t241 t242 _ ?side1 ?side2 A3.out).mono ?_); (case side1 => repeat (first | exact (Kd.R_reads' HO239.out).2.2 | (with_reducible refine Kd.C_alloc ?_ _) | (with_reducible refine Kd.C_drewN ?_ _) | (with_reducible refine Kd.C_drew ?_))); (case side2 => exact (Kd.R_reads' HO239.out).2.1); rintro e w20 ⟨rfl, hb⟩; refine ⟨_, rfl, ?_⟩; have hk1_ := Aside0.mk (Kd.K_below (by (with_reducible repeat (first | apply Kd.K_alloc | apply Kd.K_drewN | apply Kd.K_drew)); exact HO235.out) hb); clear HO235; have HO235 := hk1_; clear hk1_; have n0_ := Aside0.mk (Kd.R_below (by (with_reducible repeat (first | apply Kd.R_alloc | apply Kd.R_drewN | apply Kd.R_drew)); exact HO232.out) hb); have n1_ := Aside0.mk (Kd.R_below (by (with_reducible repeat (first | apply Kd.R_alloc | apply Kd.R_drewN | apply Kd.R_drew)); exact HO239.out) hb); have n2_ := Aside0.mk (below_step (by repeat first | (with_reducible first | exact HB.out | apply below_alloc | apply pw_below_drewN | apply below_drew1) | exact HB.out) hb); clear HO232; clear HO239; clear HB; have HO232 := n0_; have HO239 := n1_; have HB := n2_; clear n0_ n1_ n2_; (try clear hb); (try clear hb2); (try clear hk); (try clear hi); obtain ⟨Ao21, co21, eo21⟩ := Kd.K_slice HO235.out; subst eo21) | ((with_reducible refine gate_callee (f := 40) rfl ?_); refine goesL_ (some 27) rfl rfl Try.func40 (by kernel_rfl) rfl #[.int .u32 1, .int .u32 3, .slice Ao21 t233.length co21] rfl (by (try simp only [List.map_toArray, List.map_cons, List.map_nil]); first | done | rfl) ?_; (with_reducible refine (udp_Parse.calls k 1 3 _ _ t233 t243 t244 t245 _ ?side1 ?side2 A4.out).mono ?_); (case side1 => repeat (first | exact (Kd.K_reads' HO235.out).2.2 | (with_reducible refine Kd.C_alloc ?_ _) | (with_reducible refine Kd.C_drewN ?_ _) | (with_reducible refine Kd.C_drew ?_))); (case side2 => exact (Kd.K_reads' HO235.out).2.1); rintro e w22 ⟨rfl, hb⟩; refine ⟨_, rfl, ?_⟩; have n0_ := Aside0.mk (Kd.R_below (by (with_reducible repeat (first | apply Kd.R_alloc | apply Kd.R_drewN | apply Kd.R_drew)); exact HO232.out) hb); have n1_ := Aside0.mk (Kd.R_below (by (with_reducible repeat (first | apply Kd.R_alloc | apply Kd.R_drewN | apply Kd.R_drew)); exact HO239.out) hb); have n2_ := Aside0.mk (below_step (by repeat first | (with_reducible first | exact HB.out | apply below_alloc | apply pw_below_drewN | apply below_drew1) | exact HB.out) hb); clear HO232; clear HO239; clear HB; have HO232 := n0_; have HO239 := n1_; have HB := n2_; clear n0_ n1_ n2_; (try clear hb); (try clear hb2); (try clear hk); (try clear hi)) | ((with_reducible refine gate_dst (N := 32) rfl ?_); refine Kd.R_lit (Kd.int .u8) _ 5 ?hg (N := 32) ?hd (xs := ([0, 1, 0, 2, 0, 8, 0, 0] : List Int)) (inner := [.int .u8 0, .int .u8 1, .int .u8 0, .int .u8 2, .int .u8 0, .int .u8 8, .int .u8 0, .int .u8 0]) (ok := fun _ => True) (okp := fun _ => True) ?hr ?hp (fun _ hk => hk) trivial (Below.refl _ _) (Nat.le_refl _) (by simp) ?_; (case hd => rfl); (case hg => rfl); (case hr => first | (go_simp; done) | (go_simp; rfl)); (case hp => exact (Reps.one (show Kd.M (Kd.int .u8) _ _ _ 0 [.int .u8 0] from rfl) (Reps.one (show Kd.M (Kd.int .u8) _ _ _ 1 [.int .u8 1] from rfl) (Reps.one (show Kd.M (Kd.int .u8) _ _ _ 0 [.int .u8 0] from rfl) (Reps.one (show Kd.M (Kd.int .u8) _ _ _ 2 [.int .u8 2] from rfl) (Reps.one (show Kd.M (Kd.int .u8) _ _ _ 0 [.int .u8 0] from rfl) (Reps.one (show Kd.M (Kd.int .u8) _ _ _ 8 [.int .u8 8] from rfl) (Reps.one (show Kd.M (Kd.int .u8) _ _ _ 0 [.int .u8 0] from rfl) (Reps.one (show Kd.M (Kd.int .u8) _ _ _ 0 [.int .u8 0] from rfl) (Reps.none _ _)))))))))); intro v247 w23 ho24 hb hg_ hnew_; clear hg_ hnew_; (first | rw [← Ny246.out] at ho24 | (simp only [Int.reduceToNat] at ho24; rw [← Ny246.out] at ho24)); have n0_ := Aside0.mk (Kd.R_elder' (by (with_reducible repeat (first | apply Kd.R_alloc | apply Kd.R_drewN | apply Kd.R_drew)); exact HO232.out) (Kd.R_base ho24) hb); have n1_ := Aside0.mk (Kd.R_elder' (by (with_reducible repeat (first | apply Kd.R_alloc | apply Kd.R_drewN | apply Kd.R_drew)); exact HO239.out) (Kd.R_base ho24) hb); have n2_ := Aside0.mk (Kd.R_lower (Kd.R_new' (Kd.R_new' ho24 (Kd.R_lt (by (with_reducible repeat (first | apply Kd.R_alloc | apply Kd.R_drewN | apply Kd.R_drew)); exact HO232.out))) (Kd.R_lt (by (with_reducible repeat (first | apply Kd.R_alloc | apply Kd.R_drewN | apply Kd.R_drew)); exact HO239.out))) (below_size (by repeat first | (with_reducible first | exact HB.out | apply below_alloc | apply pw_below_drewN | apply below_drew1) | exact HB.out))); have n3_ := Aside0.mk (below_step (by repeat first | (with_reducible first | exact HB.out | apply below_alloc | apply pw_below_drewN | apply below_drew1) | exact HB.out) hb); clear HO232; clear HO239; clear HB; have HO232 := n0_; have HO239 := n1_; have HO248 := n2_; have HB := n3_; clear n0_ n1_ n2_ n3_; clear hb ho24; obtain ⟨Ao25, co25, eo25⟩ := Kd.R_slice HO248.out; subst eo25) | ((with_reducible refine gate_callee (f := 40) rfl ?_); refine goesL_ (some 33) rfl rfl Try.func40 (by kernel_rfl) rfl #[.int .u32 1, .int .u32 3, .slice Ao25 y246.length co25] rfl (by (try simp only [List.map_toArray, List.map_cons, List.map_nil]); first | done | rfl) ?_; (with_reducible refine (udp_Parse.calls k 1 3 _ _ y246 t249 t250 t251 _ ?side1 ?side2 A5.out).mono ?_); (case side1 => repeat (first | exact (Kd.R_reads' HO248.out).2.2 | (with_reducible refine Kd.C_alloc ?_ _) | (with_reducible refine Kd.C_drewN ?_ _) | (with_reducible refine Kd.C_drew ?_))); (case side2 => exact (Kd.R_reads' HO248.out).2.1); rintro e w26 ⟨rfl, hb⟩; refine ⟨_, rfl, ?_⟩; have n0_ := Aside0.mk (Kd.R_below (by (with_reducible repeat (first | apply Kd.R_alloc | apply Kd.R_drewN | apply Kd.R_drew)); exact HO232.out) hb); have n1_ := Aside0.mk (Kd.R_below (by (with_reducible repeat (first | apply Kd.R_alloc | apply Kd.R_drewN | apply Kd.R_drew)); exact HO239.out) hb); have n2_ := Aside0.mk (Kd.R_below (by (with_reducible repeat (first | apply Kd.R_alloc | apply Kd.R_drewN | apply Kd.R_drew)); exact HO248.out) hb); have n3_ := Aside0.mk (below_step (by repeat first | (with_reducible first | exact HB.out | apply below_alloc | apply pw_below_drewN | apply below_drew1) | exact HB.out) hb); clear HO232; clear HO239; clear HO248; clear HB; have HO232 := n0_; have HO239 := n1_; have HO248 := n2_; have HB := n3_; clear n0_ n1_ n2_ n3_; (try clear hb); (try clear hb2); (try clear hk); (try clear hi)))
                    go_ret
                    exact ⟨by first | rfl | (simp [errW_none, errW_some] <;> rfl) | (simp [*, errW_none, errW_some] <;> rfl), by repeat first | (with_reducible first | exact HB.out | apply below_alloc | apply pw_below_drewN | apply below_drew1) | exact HB.out⟩
                  · rw [if_neg c13] at H
                    have c13b0 : (t250 == 2) = false := beq_eq_false_iff_ne.mpr c13
                    have c13b1 : (t250 != 2) = true := bne_iff_ne.mpr c13
                    exact absurd ((Option.some.inj H).trans HT.out) (by decide)
                · rw [if_neg c12] at H
                  have c12b0 : (t249 == 1) = false := beq_eq_false_iff_ne.mpr c12
                  have c12b1 : (t249 != 1) = true := bne_iff_ne.mpr c12
                  exact absurd ((Option.some.inj H).trans HT.out) (by decide)
              · rw [if_neg c11] at H
                have c11b0 : (t245 == 7) = false := beq_eq_false_iff_ne.mpr c11
                have c11b1 : (t245 != 7) = true := bne_iff_ne.mpr c11
                exact absurd ((Option.some.inj H).trans HT.out) (by decide)
            · rw [if_neg c10] at H
              have c10b0 : (t242 == 0) = false := beq_eq_false_iff_ne.mpr c10
              have c10b1 : (t242 != 0) = true := bne_iff_ne.mpr c10
              exact absurd ((Option.some.inj H).trans HT.out) (by decide)
          · rw [if_neg c9] at H
            have c9b0 : (t241 == 54) = false := beq_eq_false_iff_ne.mpr c9
            have c9b1 : (t241 != 54) = true := bne_iff_ne.mpr c9
            exact absurd ((Option.some.inj H).trans HT.out) (by decide)
        · rw [if_neg c8] at H
          have c8b0 : (t240 == 53) = false := beq_eq_false_iff_ne.mpr c8
          have c8b1 : (t240 != 53) = true := bne_iff_ne.mpr c8
          exact absurd ((Option.some.inj H).trans HT.out) (by decide)
      · rw [if_neg c7] at H
        have c7b0 : (t236 == 0) = false := beq_eq_false_iff_ne.mpr c7
        have c7b1 : (t236 != 0) = true := bne_iff_ne.mpr c7
        exact absurd ((Option.some.inj H).trans HT.out) (by decide)
    · rw [if_neg c6] at H
      have c6b0 : ((t233.length : Int) == 9) = false := beq_eq_false_iff_ne.mpr c6
      have c6b1 : ((t233.length : Int) != 9) = true := bne_iff_ne.mpr c6
      exact absurd ((Option.some.inj H).trans HT.out) (by decide)
  · rw [if_neg c2] at H
    exact absurd H (by simp)

end Go.Proofs.Ytofjgdbiieanjaa.All
