-- Made by a program of this workplace (wip/pr.sh) out of Lean's print of the translation; Lean checks it.
import Derived.Test.YtofjgdbiieanjaaAllx0
import Derived.Test.YtofjgdbiieanjaaAllx7
import Derived.Test.YtofjgdbiieanjaaAllx16
namespace Go.Proofs.Ytofjgdbiieanjaa.All
open Go.Proofs.Ytofjgdbiieanjaa.Ext
open Go.RowKit Go.Proofs.YtofjgdbiieanjaaW.PrintWords Go.Proofs.YtofjgdbiieanjaaW.PrintLast Go.Proofs.YtofjgdbiieanjaaW.PrintMore
attribute [local go_sem] max2_int min2_int max_two min_two max_three min_three max_four min_four   -- for this text's walks alone
set_option linter.unusedVariables false
set_option linter.unusedSimpArgs false

/-! ### mantletlaw07_awake: function 27 -/
def mantletlaw07_awake.f (k : Nat)  : Option (Bool) := (icmp_Build.f k 8 1 ([] : List Int)).bind fun bt173 => ((icmp_Parse.f k bt173.1).bind fun bt177 => ((icmp_Parse.f k (([8, 0, 0, 0, 0, 1, 0, 0] : List Int))).bind fun bt183 => (if (strOfNums bt173.1).toList = (strOfNums (([8, 0, 247, 254, 0, 1, 0, 0] : List Int))).toList then (if bt173.2 = 0 then (if bt177.1 = 8 then (if bt177.2.1 = 1 then (if bt177.2.2 = 0 then (some (bt183.2.2 == 7)) else (some false)) else (some false)) else (some false)) else (some false)) else (some false))))
theorem mantletlaw07_awake.mono : ∀ k, LeO (mantletlaw07_awake.f k ) (mantletlaw07_awake.f (k + 1) ) := by
  intro  k
  unfold mantletlaw07_awake.f
  repeat' first
      | (with_reducible exact icmp_Build.mono _ _ _ _)
      | (with_reducible exact icmp_Parse.mono _ _)
      | (with_reducible exact LeO.refl _)
      | (with_reducible exact LeO.none _)
      | (with_reducible refine LeO.ite ?_ ?_)
      | (with_reducible refine LeO.bind ?_ (fun _ => ?_))
      | exact icmp_Build.mono _ _ _ _
      | exact icmp_Parse.mono _ _
      | exact LeO.none _
      | refine LeO.ite ?_ ?_
      | refine LeO.bind ?_ (fun _ => ?_)
theorem mantletlaw07_awake.yes : mantletlaw07_awake.f 80 = some true := by kernel_rfl
theorem mantletlaw07_awake.from_ (k : Nat) : mantletlaw07_awake.f (k + 80) = some true := by
  induction k with
  | zero => rw [Nat.zero_add]; exact mantletlaw07_awake.yes
  | succ k ih => rw [show k + 1 + 80 = (k + 80) + 1 by omega]; exact mantletlaw07_awake.mono _ _ ih
theorem mantletlaw07_awake.more (k j : Nat) (r : Bool) (h : mantletlaw07_awake.f k = some r) : mantletlaw07_awake.f (k + j) = some r := by
  induction j with
  | zero => exact h
  | succ j ih => exact mantletlaw07_awake.mono _ _ ih
theorem mantletlaw07_awake.true_ (k : Nat) (r : Bool) (h : mantletlaw07_awake.f k = some r) : r = true := Option.some.inj ((mantletlaw07_awake.more k 80 r h).symm.trans (mantletlaw07_awake.from_ k))
set_option maxHeartbeats 8000000 in
set_option maxRecDepth 100000 in
theorem mantletlaw07_awake.calls (k : Nat)  (r : Bool) (w : World) (h : mantletlaw07_awake.f k  = some r) :
    Calls Try.prog 27 #[] w fun e w' => e = .returned (.bool r) ∧ Below w.heap.size w w' := by
  have HT := Aside0.mk (mantletlaw07_awake.true_ k r h)
  have HB := Aside0.mk (Below.refl w.heap.size w)
  have H : ((icmp_Build.f k 8 1 ([] : List Int)).bind fun bt173 => ((icmp_Parse.f k bt173.1).bind fun bt177 => ((icmp_Parse.f k (([8, 0, 0, 0, 0, 1, 0, 0] : List Int))).bind fun bt183 => (if (strOfNums bt173.1).toList = (strOfNums (([8, 0, 247, 254, 0, 1, 0, 0] : List Int))).toList then (if bt173.2 = 0 then (if bt177.1 = 8 then (if bt177.2.1 = 1 then (if bt177.2.2 = 0 then (some (bt183.2.2 == 7)) else (some false)) else (some false)) else (some false)) else (some false)) else (some false))))) = some r := h
  clear h
  replace H := Option.bind_eq_some_iff.mp H
  obtain ⟨⟨t173, t176⟩, A10, H⟩ := H
  replace H : ((icmp_Parse.f k t173).bind fun bt177 => ((icmp_Parse.f k (([8, 0, 0, 0, 0, 1, 0, 0] : List Int))).bind fun bt183 => (if (strOfNums t173).toList = (strOfNums (([8, 0, 247, 254, 0, 1, 0, 0] : List Int))).toList then (if t176 = 0 then (if bt177.1 = 8 then (if bt177.2.1 = 1 then (if bt177.2.2 = 0 then (some (bt183.2.2 == 7)) else (some false)) else (some false)) else (some false)) else (some false)) else (some false)))) = some r := H
  have A1 := Aside0.mk A10
  clear A10
  replace H := Option.bind_eq_some_iff.mp H
  obtain ⟨⟨t177, t178, t179⟩, A20, H⟩ := H
  replace H : ((icmp_Parse.f k (([8, 0, 0, 0, 0, 1, 0, 0] : List Int))).bind fun bt183 => (if (strOfNums t173).toList = (strOfNums (([8, 0, 247, 254, 0, 1, 0, 0] : List Int))).toList then (if t176 = 0 then (if t177 = 8 then (if t178 = 1 then (if t179 = 0 then (some (bt183.2.2 == 7)) else (some false)) else (some false)) else (some false)) else (some false)) else (some false))) = some r := H
  have A2 := Aside0.mk A20
  clear A20
  obtain ⟨y180, hy180⟩ : ∃ y_ : List Int, y_ = (([8, 0, 0, 0, 0, 1, 0, 0] : List Int)) := ⟨_, rfl⟩
  replace H : ((icmp_Parse.f k y180).bind fun bt183 => (if (strOfNums t173).toList = (strOfNums (([8, 0, 247, 254, 0, 1, 0, 0] : List Int))).toList then (if t176 = 0 then (if t177 = 8 then (if t178 = 1 then (if t179 = 0 then (some (bt183.2.2 == 7)) else (some false)) else (some false)) else (some false)) else (some false)) else (some false))) = some r := by first | (rw [hy180]; with_reducible exact H) | (have H2_ := (Option.bind_some _ _).symm.trans H; rw [hy180]; with_reducible exact H2_) | (have H2_ := (Option.bind_some _ _).symm.trans H; with_reducible exact H2_) | with_reducible exact H | (rw [hy180]; exact H) | exact H
  have Ny180 := Aside0.mk hy180
  clear hy180
  replace H := Option.bind_eq_some_iff.mp H
  obtain ⟨⟨t183, t184, t185⟩, A30, H⟩ := H
  replace H : (if (strOfNums t173).toList = (strOfNums (([8, 0, 247, 254, 0, 1, 0, 0] : List Int))).toList then (if t176 = 0 then (if t177 = 8 then (if t178 = 1 then (if t179 = 0 then (some (t185 == 7)) else (some false)) else (some false)) else (some false)) else (some false)) else (some false)) = some r := H
  have A3 := Aside0.mk A30
  clear A30
  obtain ⟨y186, hy186⟩ : ∃ y_ : List Int, y_ = (([8, 0, 247, 254, 0, 1, 0, 0] : List Int)) := ⟨_, rfl⟩
  replace H : (if (strOfNums t173).toList = (strOfNums y186).toList then (if t176 = 0 then (if t177 = 8 then (if t178 = 1 then (if t179 = 0 then (some (t185 == 7)) else (some false)) else (some false)) else (some false)) else (some false)) else (some false)) = some r := by first | (rw [hy186]; with_reducible exact H) | (have H2_ := (Option.bind_some _ _).symm.trans H; rw [hy186]; with_reducible exact H2_) | (have H2_ := (Option.bind_some _ _).symm.trans H; with_reducible exact H2_) | with_reducible exact H | (rw [hy186]; exact H) | exact H
  have Ny186 := Aside0.mk hy186
  clear hy186
  by_cases c4 : (strOfNums t173).toList = (strOfNums y186).toList
  · rw [if_pos c4] at H
    have c4b0 : ((strOfNums t173).toList == (strOfNums y186).toList) = true := beq_iff_eq.mpr c4
    have c4b1 : ((strOfNums t173).toList != (strOfNums y186).toList) = false := bne_eq_false_iff_eq.mpr c4
    clear c4
    by_cases c5 : t176 = 0
    · rw [if_pos c5] at H
      have c5b0 : (t176 == 0) = true := beq_iff_eq.mpr c5
      have c5b1 : (t176 != 0) = false := bne_eq_false_iff_eq.mpr c5
      clear c5
      by_cases c6 : t177 = 8
      · rw [if_pos c6] at H
        have c6b0 : (t177 == 8) = true := beq_iff_eq.mpr c6
        have c6b1 : (t177 != 8) = false := bne_eq_false_iff_eq.mpr c6
        clear c6
        by_cases c7 : t178 = 1
        · rw [if_pos c7] at H
          have c7b0 : (t178 == 1) = true := beq_iff_eq.mpr c7
          have c7b1 : (t178 != 1) = false := bne_eq_false_iff_eq.mpr c7
          clear c7
          by_cases c8 : t179 = 0
          · rw [if_pos c8] at H
            have c8b0 : (t179 == 0) = true := beq_iff_eq.mpr c8
            have c8b1 : (t179 != 0) = false := bne_eq_false_iff_eq.mpr c8
            clear c8
            obtain rfl := Option.some.inj H
            go_enter Try.func27, Try.ntmps27
            go_wp2_with (first | ((with_reducible refine gate_callee (f := 28) rfl ?_); refine goesL_ (some 10) rfl rfl Try.func28 (by kernel_rfl) rfl #[.int .u8 8, .int .u16 1, .slice none 0 0] rfl (by (try simp only [List.map_toArray, List.map_cons, List.map_nil]); first | done | rfl | (simp only [List.length_drop, List.length_take]; rfl)) ?_; (refine (icmp_Build.calls k 8 1 (fun k_ => False) _ _ ([] : List Int) t173 t176 _ ?side1 A1.out).mono ?_); (case side1 => exact Kd.V_nil _ _ _ _ _); rintro e w9 ⟨v174, rfl, ho0, hb⟩; refine ⟨_, rfl, ?_⟩; have n0_ := Aside0.mk (Kd.V_lower (Kd.V_mono (ok' := fun k_ => True) ho0 (fun k_ hk_ => trivial)) (below_size (by repeat (first | (with_reducible first | exact HB.out | apply below_alloc | apply pw_below_drewN | apply below_drew1) | exact HB.out)))); have n1_ := Aside0.mk (below_step (by repeat (first | (with_reducible first | exact HB.out | apply below_alloc | apply pw_below_drewN | apply below_drew1) | exact HB.out)) hb); clear HB; have HO175 := n0_; have HB := n1_; clear n0_ n1_; (try clear hb); (try clear hb2); (try clear hk); (try clear hi); (try clear ho0); obtain ⟨Ao10, co10, eo10⟩ := Kd.V_slice HO175.out; subst eo10) | ((with_reducible refine gate_callee (f := 24) rfl ?_); refine goesL_ (some 15) rfl rfl Try.func24 (by kernel_rfl) rfl #[.slice Ao10 t173.length co10] rfl (by (try simp only [List.map_toArray, List.map_cons, List.map_nil]); first | done | rfl | (simp only [List.length_drop, List.length_take]; rfl)) ?_; (with_reducible refine (icmp_Parse.calls k _ _ t173 t177 t178 t179 _ ?side1 ?side2 A2.out).mono ?_); (case side1 => repeat (first | exact (Kd.V_reads' HO175.out).2.2 | (with_reducible refine Kd.C_alloc ?_ _) | (with_reducible refine Kd.C_drewN ?_ _) | (with_reducible refine Kd.C_drew ?_))); (case side2 => exact (Kd.V_reads' HO175.out).2.1); rintro e w' ⟨rfl, ⟨nd, rfl⟩⟩; refine ⟨_, rfl, ?_⟩) | ((with_reducible refine gate_dst (N := 20) rfl ?_); refine Kd.R_lit (Kd.int .u8) _ 5 ?hg (N := 20) ?hd (xs := ([8, 0, 0, 0, 0, 1, 0, 0] : List Int)) (inner := [.int .u8 8, .int .u8 0, .int .u8 0, .int .u8 0, .int .u8 0, .int .u8 1, .int .u8 0, .int .u8 0]) (ok := fun _ => True) (okp := fun _ => True) ?hr ?hp (fun _ hk => hk) trivial (Below.refl _ _) (Nat.le_refl _) (by simp) ?_; (case hd => rfl); (case hg => rfl); (case hr => first | (go_simp; done) | (go_simp; rfl)); (case hp => exact (Reps.one (show Kd.M (Kd.int .u8) _ _ _ 8 [.int .u8 8] from rfl) (Reps.one (show Kd.M (Kd.int .u8) _ _ _ 0 [.int .u8 0] from rfl) (Reps.one (show Kd.M (Kd.int .u8) _ _ _ 0 [.int .u8 0] from rfl) (Reps.one (show Kd.M (Kd.int .u8) _ _ _ 0 [.int .u8 0] from rfl) (Reps.one (show Kd.M (Kd.int .u8) _ _ _ 0 [.int .u8 0] from rfl) (Reps.one (show Kd.M (Kd.int .u8) _ _ _ 1 [.int .u8 1] from rfl) (Reps.one (show Kd.M (Kd.int .u8) _ _ _ 0 [.int .u8 0] from rfl) (Reps.one (show Kd.M (Kd.int .u8) _ _ _ 0 [.int .u8 0] from rfl) (Reps.none _ _)))))))))); intro v181 w11 ho12 hb hg_ hnew_; clear hg_ hnew_; (first | rw [← Ny180.out] at ho12 | (simp only [Int.reduceToNat] at ho12; rw [← Ny180.out] at ho12)); have n0_ := Aside0.mk (Kd.V_elder' (by (with_reducible repeat (first | apply Kd.V_alloc | apply Kd.V_drewN | apply Kd.V_drew)); exact HO175.out) (Kd.R_base ho12) hb); have n1_ := Aside0.mk (Kd.R_lower ho12 (below_size (by repeat (first | (with_reducible first | exact HB.out | apply below_alloc | apply pw_below_drewN | apply below_drew1) | exact HB.out)))); have n2_ := Aside0.mk (below_step (by repeat (first | (with_reducible first | exact HB.out | apply below_alloc | apply pw_below_drewN | apply below_drew1) | exact HB.out)) hb); clear HO175; clear HB; have HO175 := n0_; have HO182 := n1_; have HB := n2_; clear n0_ n1_ n2_; clear hb ho12; obtain ⟨Ao13, co13, eo13⟩ := Kd.R_slice HO182.out; subst eo13) | ((with_reducible refine gate_callee (f := 24) rfl ?_); refine goesL_ (some 21) rfl rfl Try.func24 (by kernel_rfl) rfl #[.slice Ao13 y180.length co13] rfl (by (try simp only [List.map_toArray, List.map_cons, List.map_nil]); first | done | rfl | (simp only [List.length_drop, List.length_take]; rfl)) ?_; (with_reducible refine (icmp_Parse.calls k _ _ y180 t183 t184 t185 _ ?side1 ?side2 A3.out).mono ?_); (case side1 => repeat (first | exact (Kd.R_reads' HO182.out).2.2 | (with_reducible refine Kd.C_alloc ?_ _) | (with_reducible refine Kd.C_drewN ?_ _) | (with_reducible refine Kd.C_drew ?_))); (case side2 => exact (Kd.R_reads' HO182.out).2.1); rintro e w' ⟨rfl, ⟨nd, rfl⟩⟩; refine ⟨_, rfl, ?_⟩; have hcv14 := V_string (P := Try.prog) Try.underlying22 Try.underlying5 Try.underlying9 HO175.out; have hcvd14 := fun m_ : Nat => V_string (P := Try.prog) Try.underlying22 Try.underlying5 Try.underlying9 (Kd.V_drewN HO175.out m_)) | ((with_reducible refine gate_dst (N := 27) rfl ?_); refine Kd.R_lit (Kd.int .u8) _ 5 ?hg (N := 27) ?hd (xs := ([8, 0, 247, 254, 0, 1, 0, 0] : List Int)) (inner := [.int .u8 8, .int .u8 0, .int .u8 247, .int .u8 254, .int .u8 0, .int .u8 1, .int .u8 0, .int .u8 0]) (ok := fun _ => True) (okp := fun _ => True) ?hr ?hp (fun _ hk => hk) trivial (Below.refl _ _) (Nat.le_refl _) (by simp) ?_; (case hd => rfl); (case hg => rfl); (case hr => first | (go_simp; done) | (go_simp; rfl)); (case hp => exact (Reps.one (show Kd.M (Kd.int .u8) _ _ _ 8 [.int .u8 8] from rfl) (Reps.one (show Kd.M (Kd.int .u8) _ _ _ 0 [.int .u8 0] from rfl) (Reps.one (show Kd.M (Kd.int .u8) _ _ _ 247 [.int .u8 247] from rfl) (Reps.one (show Kd.M (Kd.int .u8) _ _ _ 254 [.int .u8 254] from rfl) (Reps.one (show Kd.M (Kd.int .u8) _ _ _ 0 [.int .u8 0] from rfl) (Reps.one (show Kd.M (Kd.int .u8) _ _ _ 1 [.int .u8 1] from rfl) (Reps.one (show Kd.M (Kd.int .u8) _ _ _ 0 [.int .u8 0] from rfl) (Reps.one (show Kd.M (Kd.int .u8) _ _ _ 0 [.int .u8 0] from rfl) (Reps.none _ _)))))))))); intro v187 w15 ho16 hb hg_ hnew_; clear hg_ hnew_; (first | rw [← Ny186.out] at ho16 | (simp only [Int.reduceToNat] at ho16; rw [← Ny186.out] at ho16)); have n0_ := Aside0.mk (Kd.V_elder' (by (with_reducible repeat (first | apply Kd.V_alloc | apply Kd.V_drewN | apply Kd.V_drew)); exact HO175.out) (Kd.R_base ho16) hb); have n1_ := Aside0.mk (Kd.R_elder' (by (with_reducible repeat (first | apply Kd.R_alloc | apply Kd.R_drewN | apply Kd.R_drew)); exact HO182.out) (Kd.R_base ho16) hb); have n2_ := Aside0.mk (Kd.R_lower (Kd.R_new' ho16 (Kd.R_lt (by (with_reducible repeat (first | apply Kd.R_alloc | apply Kd.R_drewN | apply Kd.R_drew)); exact HO182.out))) (below_size (by repeat (first | (with_reducible first | exact HB.out | apply below_alloc | apply pw_below_drewN | apply below_drew1) | exact HB.out)))); have n3_ := Aside0.mk (below_step (by repeat (first | (with_reducible first | exact HB.out | apply below_alloc | apply pw_below_drewN | apply below_drew1) | exact HB.out)) hb); clear HO175; clear HO182; clear HB; have HO175 := n0_; have HO182 := n1_; have HO188 := n2_; have HB := n3_; clear n0_ n1_ n2_ n3_; clear hb ho16; have hcv17 := own_string (P := Try.prog) Try.underlying22 Try.underlying5 Try.underlying9 (Kd.own_of_R HO188.out); have hcvd17 := fun m_ : Nat => own_string (P := Try.prog) Try.underlying22 Try.underlying5 Try.underlying9 (Kd.own_of_R (Kd.R_drewN HO188.out m_))))
            go_ret
            exact ⟨by first | rfl | (simp [errW_none, errW_some] <;> rfl) | (simp [*, errW_none, errW_some] <;> rfl), by repeat (first | (with_reducible first | exact HB.out | apply below_alloc | apply pw_below_drewN | apply below_drew1) | exact HB.out)⟩
          · rw [if_neg c8] at H
            have c8b0 : (t179 == 0) = false := beq_eq_false_iff_ne.mpr c8
            have c8b1 : (t179 != 0) = true := bne_iff_ne.mpr c8
            exact absurd ((Option.some.inj H).trans HT.out) (by decide)
        · rw [if_neg c7] at H
          have c7b0 : (t178 == 1) = false := beq_eq_false_iff_ne.mpr c7
          have c7b1 : (t178 != 1) = true := bne_iff_ne.mpr c7
          exact absurd ((Option.some.inj H).trans HT.out) (by decide)
      · rw [if_neg c6] at H
        have c6b0 : (t177 == 8) = false := beq_eq_false_iff_ne.mpr c6
        have c6b1 : (t177 != 8) = true := bne_iff_ne.mpr c6
        exact absurd ((Option.some.inj H).trans HT.out) (by decide)
    · rw [if_neg c5] at H
      have c5b0 : (t176 == 0) = false := beq_eq_false_iff_ne.mpr c5
      have c5b1 : (t176 != 0) = true := bne_iff_ne.mpr c5
      exact absurd ((Option.some.inj H).trans HT.out) (by decide)
  · rw [if_neg c4] at H
    have c4b0 : ((strOfNums t173).toList == (strOfNums y186).toList) = false := beq_eq_false_iff_ne.mpr c4
    have c4b1 : ((strOfNums t173).toList != (strOfNums y186).toList) = true := bne_iff_ne.mpr c4
    exact absurd ((Option.some.inj H).trans HT.out) (by decide)
end Go.Proofs.Ytofjgdbiieanjaa.All
