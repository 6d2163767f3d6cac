-- Made by a program of this workplace (wip/pr.sh) out of Lean's print of the translation; Lean checks it.
import Derived.Test.YtplioggeccoleaaKeyx0
import Derived.Test.YtplioggeccoleaaKeyx2
import Derived.Test.YtplioggeccoleaaKeyx8
import Derived.Test.YtplioggeccoleaaKeyx13
import Derived.Test.YtplioggeccoleaaKeyx17
import Derived.Test.YtplioggeccoleaaKeyx20
import Derived.Test.YtplioggeccoleaaKeyx21
namespace Go.Proofs.Ytplioggeccoleaa.Key
open Go.Proofs.Ytplioggeccoleaa.Ext
open Go.RowKit Go.Proofs.YtplioggeccoleaaW.PrintWords Go.Proofs.YtplioggeccoleaaW.PrintLast Go.Proofs.YtplioggeccoleaaW.PrintMore
attribute [local go_sem] max2_int min2_int max_two min_two max_three min_three max_four min_four   -- for this text's walks alone
set_option linter.unusedVariables false
set_option linter.unusedSimpArgs false

attribute [local go_sem high] eqA29
/-! ### mantletlaw10_awake: function 10 -/
def mantletlaw10_awake.f (k : Nat)  : Option (Bool) := (key_Of.f k 6 9 5 1 2 0 0).bind fun bt180 => ((key_Turn.f 6 9 5 1 2 0 0).bind fun bt187 => ((key_Of.f k bt187.1 bt187.2.1 bt187.2.2.1 bt187.2.2.2.1 bt187.2.2.2.2.1 bt187.2.2.2.2.2.1 bt187.2.2.2.2.2.2).bind fun bt194 => (if ((bt180.1 == 5 && (bt180.2.1 == 9)) && ((bt180.2.2.1 == 2 && (bt180.2.2.2.1 == 1)) && (bt180.2.2.2.2.1 == 6))) = true then (if bt180.2.2.2.2.2 = true then (if ((bt194.1 == bt180.1 && (bt194.2.1 == bt180.2.1)) && ((bt194.2.2.1 == bt180.2.2.1 && (bt194.2.2.2.1 == bt180.2.2.2.1)) && (bt194.2.2.2.2.1 == bt180.2.2.2.2.1))) = true then (if bt194.2.2.2.2.2 = true then (some false) else ((key_Hash.f k 0 0 0 0 0).bind fun t201 => ((key_Hash.f k bt180.1 bt180.2.1 bt180.2.2.1 bt180.2.2.2.1 bt180.2.2.2.2.1).bind fun t202 => (if t201 = t202 then (some false) else ((key_Stripe.f k bt180.1 bt180.2.1 bt180.2.2.1 bt180.2.2.2.1 bt180.2.2.2.2.1 1).bind fun t203 => (if t203 = 0 then ((key_Less.f k 0 0 0 0 0 bt180.1 bt180.2.1 bt180.2.2.1 bt180.2.2.2.1 bt180.2.2.2.2.1).bind fun t204 => (some t204)) else (some false))))))) else (some false)) else (some false)) else (some false))))
theorem mantletlaw10_awake.mono : ∀ k, LeO (mantletlaw10_awake.f k ) (mantletlaw10_awake.f (k + 1) ) := by
  intro  k
  unfold mantletlaw10_awake.f
  repeat' first
      | (with_reducible exact key_Hash.mono _ _ _ _ _ _)
      | (with_reducible exact key_Less.mono _ _ _ _ _ _ _ _ _ _ _)
      | (with_reducible exact key_Of.mono _ _ _ _ _ _ _ _)
      | (with_reducible exact key_Stripe.mono _ _ _ _ _ _ _)
      | (with_reducible exact LeO.refl _)
      | (with_reducible exact LeO.none _)
      | (with_reducible refine LeO.ite ?_ ?_)
      | (with_reducible refine LeO.bind ?_ (fun _ => ?_))
      | exact key_Hash.mono _ _ _ _ _ _
      | exact key_Less.mono _ _ _ _ _ _ _ _ _ _ _
      | exact key_Of.mono _ _ _ _ _ _ _ _
      | exact key_Stripe.mono _ _ _ _ _ _ _
      | exact LeO.none _
      | refine LeO.ite ?_ ?_
      | refine LeO.bind ?_ (fun _ => ?_)
def mantletlaw10_awake.T4 : Bool × List (List Nat × List Nat) := (true, [([], []), ([], []), ([], []), ([1, 2], [1, 2]), ([0, 3], [0, 3]), ([4], [4]), ([5], [5]), ([5, 6], [5, 6]), ([7, 5], [7]), ([8], [8]), ([8], [8]), ([9, 10, 8], [8, 9, 10]), ([8, 11], [8, 11]), ([12, 8], [12]), ([13], [13]), ([14, 13], [13, 14]), ([13, 15], [13, 15]), ([16, 13], [16]), ([17], [17]), ([18, 17, 17], [17, 18]), ([17], [17]), ([20, 19, 17], [17, 20]), ([19, 21, 17], [17, 19, 21]), ([17, 22], [17, 22]), ([23, 21], [23]), ([24], [24]), ([25, 24, 24], [24, 25]), ([26, 24], [24, 26]), ([24, 27], [24, 27]), ([28, 26], [28]), ([29], [29]), ([29], [29]), ([30, 31, 29, 29], [29, 30, 31]), ([29, 32], [29, 32]), ([33, 32, 0, 1, 2, 3, 4, 5, 6, 7, 8, 9, 10, 11, 12, 13, 14, 15, 16, 17, 18, 19, 20, 21, 22, 23, 24, 25, 26, 27, 28, 29, 30, 31, 32, 33], [33])])
def mantletlaw10_awake.B4 : List Nat := [0, 0, 0, 6, 15, 31, 63, 127, 255, 511, 511, 2047, 4095, 8191, 16383, 32767, 65535, 131071, 262143, 524287, 262143, 2097151, 4194303, 8388607, 16777215, 33554431, 67108863, 134217727, 268435455, 536870911, 1073741823, 1073741823, 4294967295, 8589934591, 17179869183]
theorem mantletlaw10_awake.tab4 : rtab .any (opsOf Try.f10 4) = mantletlaw10_awake.T4 := by kernel_rfl
theorem mantletlaw10_awake.bits4 : waitsOk mantletlaw10_awake.T4.2 mantletlaw10_awake.B4 = true := by kernel_rfl
theorem mantletlaw10_awake.yes : mantletlaw10_awake.f 80 = some true := by kernel_rfl
theorem mantletlaw10_awake.from_ (k : Nat) : mantletlaw10_awake.f (k + 80) = some true := by
  induction k with
  | zero => rw [Nat.zero_add]; exact mantletlaw10_awake.yes
  | succ k ih => rw [show k + 1 + 80 = (k + 80) + 1 by omega]; exact mantletlaw10_awake.mono _ _ ih
theorem mantletlaw10_awake.more (k j : Nat) (r : Bool) (h : mantletlaw10_awake.f k = some r) : mantletlaw10_awake.f (k + j) = some r := by
  induction j with
  | zero => exact h
  | succ j ih => exact mantletlaw10_awake.mono _ _ ih
theorem mantletlaw10_awake.true_ (k : Nat) (r : Bool) (h : mantletlaw10_awake.f k = some r) : r = true := Option.some.inj ((mantletlaw10_awake.more k 80 r h).symm.trans (mantletlaw10_awake.from_ k))
set_option maxHeartbeats 8000000 in
set_option maxRecDepth 100000 in
theorem mantletlaw10_awake.calls (k : Nat)  (r : Bool) (w : World) (h : mantletlaw10_awake.f k  = some r) :
    Calls Try.prog 10 #[] w fun e w' => e = .returned (.bool r) ∧ Below w.heap.size w w' := by
  have hu25 := Try.underlying25
  have hu29 := Try.underlying29
  have hu26 := Try.underlying26
  have hu27 := Try.underlying27
  have HT := Aside0.mk (mantletlaw10_awake.true_ k r h)
  have HB := Aside0.mk (Below.refl w.heap.size w)
  have H : ((key_Of.f k 6 9 5 1 2 0 0).bind fun bt180 => ((key_Turn.f 6 9 5 1 2 0 0).bind fun bt187 => ((key_Of.f k bt187.1 bt187.2.1 bt187.2.2.1 bt187.2.2.2.1 bt187.2.2.2.2.1 bt187.2.2.2.2.2.1 bt187.2.2.2.2.2.2).bind fun bt194 => (if ((bt180.1 == 5 && (bt180.2.1 == 9)) && ((bt180.2.2.1 == 2 && (bt180.2.2.2.1 == 1)) && (bt180.2.2.2.2.1 == 6))) = true then (if bt180.2.2.2.2.2 = true then (if ((bt194.1 == bt180.1 && (bt194.2.1 == bt180.2.1)) && ((bt194.2.2.1 == bt180.2.2.1 && (bt194.2.2.2.1 == bt180.2.2.2.1)) && (bt194.2.2.2.2.1 == bt180.2.2.2.2.1))) = true then (if bt194.2.2.2.2.2 = true then (some false) else ((key_Hash.f k 0 0 0 0 0).bind fun t201 => ((key_Hash.f k bt180.1 bt180.2.1 bt180.2.2.1 bt180.2.2.2.1 bt180.2.2.2.2.1).bind fun t202 => (if t201 = t202 then (some false) else ((key_Stripe.f k bt180.1 bt180.2.1 bt180.2.2.1 bt180.2.2.2.1 bt180.2.2.2.2.1 1).bind fun t203 => (if t203 = 0 then ((key_Less.f k 0 0 0 0 0 bt180.1 bt180.2.1 bt180.2.2.1 bt180.2.2.2.1 bt180.2.2.2.2.1).bind fun t204 => (some t204)) else (some false))))))) else (some false)) else (some false)) else (some false))))) = some r := h
  clear h
  replace H := Option.bind_eq_some_iff.mp H
  obtain ⟨⟨t180, t181, t182, t183, t184, t185⟩, A10, H⟩ := H
  replace H : ((key_Turn.f 6 9 5 1 2 0 0).bind fun bt187 => ((key_Of.f k bt187.1 bt187.2.1 bt187.2.2.1 bt187.2.2.2.1 bt187.2.2.2.2.1 bt187.2.2.2.2.2.1 bt187.2.2.2.2.2.2).bind fun bt194 => (if ((t180 == 5 && (t181 == 9)) && ((t182 == 2 && (t183 == 1)) && (t184 == 6))) = true then (if t185 = true then (if ((bt194.1 == t180 && (bt194.2.1 == t181)) && ((bt194.2.2.1 == t182 && (bt194.2.2.2.1 == t183)) && (bt194.2.2.2.2.1 == t184))) = true then (if bt194.2.2.2.2.2 = true then (some false) else ((key_Hash.f k 0 0 0 0 0).bind fun t201 => ((key_Hash.f k t180 t181 t182 t183 t184).bind fun t202 => (if t201 = t202 then (some false) else ((key_Stripe.f k t180 t181 t182 t183 t184 1).bind fun t203 => (if t203 = 0 then ((key_Less.f k 0 0 0 0 0 t180 t181 t182 t183 t184).bind fun t204 => (some t204)) else (some false))))))) else (some false)) else (some false)) else (some false)))) = some r := H
  have A1 := Aside0.mk A10
  clear A10
  replace H := Option.bind_eq_some_iff.mp H
  obtain ⟨⟨t187, t188, t189, t190, t191, t192, t193⟩, A20, H⟩ := H
  replace H : ((key_Of.f k t187 t188 t189 t190 t191 t192 t193).bind fun bt194 => (if ((t180 == 5 && (t181 == 9)) && ((t182 == 2 && (t183 == 1)) && (t184 == 6))) = true then (if t185 = true then (if ((bt194.1 == t180 && (bt194.2.1 == t181)) && ((bt194.2.2.1 == t182 && (bt194.2.2.2.1 == t183)) && (bt194.2.2.2.2.1 == t184))) = true then (if bt194.2.2.2.2.2 = true then (some false) else ((key_Hash.f k 0 0 0 0 0).bind fun t201 => ((key_Hash.f k t180 t181 t182 t183 t184).bind fun t202 => (if t201 = t202 then (some false) else ((key_Stripe.f k t180 t181 t182 t183 t184 1).bind fun t203 => (if t203 = 0 then ((key_Less.f k 0 0 0 0 0 t180 t181 t182 t183 t184).bind fun t204 => (some t204)) else (some false))))))) else (some false)) else (some false)) else (some false))) = some r := H
  have A2 := Aside0.mk A20
  clear A20
  replace H := Option.bind_eq_some_iff.mp H
  obtain ⟨⟨t194, t195, t196, t197, t198, t199⟩, A30, H⟩ := H
  replace H : (if ((t180 == 5 && (t181 == 9)) && ((t182 == 2 && (t183 == 1)) && (t184 == 6))) = true then (if t185 = true then (if ((t194 == t180 && (t195 == t181)) && ((t196 == t182 && (t197 == t183)) && (t198 == t184))) = true then (if t199 = true then (some false) else ((key_Hash.f k 0 0 0 0 0).bind fun t201 => ((key_Hash.f k t180 t181 t182 t183 t184).bind fun t202 => (if t201 = t202 then (some false) else ((key_Stripe.f k t180 t181 t182 t183 t184 1).bind fun t203 => (if t203 = 0 then ((key_Less.f k 0 0 0 0 0 t180 t181 t182 t183 t184).bind fun t204 => (some t204)) else (some false))))))) else (some false)) else (some false)) else (some false)) = some r := H
  have A3 := Aside0.mk A30
  clear A30
  by_cases c4 : ((t180 == 5 && (t181 == 9)) && ((t182 == 2 && (t183 == 1)) && (t184 == 6))) = true
  · rw [if_pos c4] at H
    have c4b0 : ((t180 == 5 && (t181 == 9)) && ((t182 == 2 && (t183 == 1)) && (t184 == 6))) = true := c4
    clear c4
    by_cases c5 : t185 = true
    · subst c5
      have H1 : (if ((t194 == t180 && (t195 == t181)) && ((t196 == t182 && (t197 == t183)) && (t198 == t184))) = true then (if t199 = true then (some false) else ((key_Hash.f k 0 0 0 0 0).bind fun t201 => ((key_Hash.f k t180 t181 t182 t183 t184).bind fun t202 => (if t201 = t202 then (some false) else ((key_Stripe.f k t180 t181 t182 t183 t184 1).bind fun t203 => (if t203 = 0 then ((key_Less.f k 0 0 0 0 0 t180 t181 t182 t183 t184).bind fun t204 => (some t204)) else (some false))))))) else (some false)) = some r := by rw [if_pos rfl] at H; exact H
      clear H
      have H := H1
      clear H1
      by_cases c6 : ((t194 == t180 && (t195 == t181)) && ((t196 == t182 && (t197 == t183)) && (t198 == t184))) = true
      · rw [if_pos c6] at H
        have c6b0 : ((t194 == t180 && (t195 == t181)) && ((t196 == t182 && (t197 == t183)) && (t198 == t184))) = true := c6
        clear c6
        by_cases c7 : t199 = true
        · subst c7
          have H1 : (some false) = some r := by rw [if_pos rfl] at H; exact H
          clear H
          have H := H1
          clear H1
          exact absurd ((Option.some.inj H).trans HT.out) (by decide)
        · replace c7 := Bool.eq_false_iff.mpr c7
          subst c7
          have H1 : ((key_Hash.f k 0 0 0 0 0).bind fun t201 => ((key_Hash.f k t180 t181 t182 t183 t184).bind fun t202 => (if t201 = t202 then (some false) else ((key_Stripe.f k t180 t181 t182 t183 t184 1).bind fun t203 => (if t203 = 0 then ((key_Less.f k 0 0 0 0 0 t180 t181 t182 t183 t184).bind fun t204 => (some t204)) else (some false)))))) = some r := by rw [if_neg (show ¬ (false = true) by decide)] at H; exact H
          clear H
          have H := H1
          clear H1
          replace H := Option.bind_eq_some_iff.mp H
          obtain ⟨t201, A260, H⟩ := H
          replace H : ((key_Hash.f k t180 t181 t182 t183 t184).bind fun t202 => (if t201 = t202 then (some false) else ((key_Stripe.f k t180 t181 t182 t183 t184 1).bind fun t203 => (if t203 = 0 then ((key_Less.f k 0 0 0 0 0 t180 t181 t182 t183 t184).bind fun t204 => (some t204)) else (some false))))) = some r := H
          have A26 := Aside0.mk A260
          clear A260
          replace H := Option.bind_eq_some_iff.mp H
          obtain ⟨t202, A270, H⟩ := H
          replace H : (if t201 = t202 then (some false) else ((key_Stripe.f k t180 t181 t182 t183 t184 1).bind fun t203 => (if t203 = 0 then ((key_Less.f k 0 0 0 0 0 t180 t181 t182 t183 t184).bind fun t204 => (some t204)) else (some false)))) = some r := H
          have A27 := Aside0.mk A270
          clear A270
          by_cases c28 : t201 = t202
          · rw [if_pos c28] at H
            have c28b0 : (t201 == t202) = true := beq_iff_eq.mpr c28
            have c28b1 : (t201 != t202) = false := bne_eq_false_iff_eq.mpr c28
            clear c28
            exact absurd ((Option.some.inj H).trans HT.out) (by decide)
          · rw [if_neg c28] at H
            have c28b0 : (t201 == t202) = false := beq_eq_false_iff_ne.mpr c28
            have c28b1 : (t201 != t202) = true := bne_iff_ne.mpr c28
            replace H := Option.bind_eq_some_iff.mp H
            obtain ⟨t203, A490, H⟩ := H
            replace H : (if t203 = 0 then ((key_Less.f k 0 0 0 0 0 t180 t181 t182 t183 t184).bind fun t204 => (some t204)) else (some false)) = some r := H
            have A49 := Aside0.mk A490
            clear A490
            by_cases c50 : t203 = 0
            · rw [if_pos c50] at H
              have c50b0 : (t203 == 0) = true := beq_iff_eq.mpr c50
              have c50b1 : (t203 != 0) = false := bne_eq_false_iff_eq.mpr c50
              clear c50
              replace H := Option.bind_eq_some_iff.mp H
              obtain ⟨t204, A510, H⟩ := H
              replace H : (some t204) = some r := H
              have A51 := Aside0.mk A510
              clear A510
              obtain rfl := Option.some.inj H
              go_enter Try.func10, Try.ntmps10
              try go_wp2_with (first | ((with_reducible refine gate_dst (N := 1) rfl ?_); refine box_event ?hg (N := 1) ?hd (cs := #[.int .u8 0, .int .u32 0, .int .u32 0, .int .u16 0, .int .u16 0, .int .u8 0, .int .u8 0]) (t := 25) ?hr ?_; (case hd => rfl); (case hg => rfl); (case hr => first | (go_simp; done) | (go_simp; rfl)); intro gb179 hg w52 hbox hb; have n0_ := Aside0.mk (below_step (by repeat first | (with_reducible first | exact HB.out | apply below_alloc | apply pw_below_drewN | apply below_drew1) | exact HB.out) hb); have n1_ := Aside0.mk (hbox); have n2_ := Aside0.mk ((by rw [hg]; exact (below_size (by repeat first | (with_reducible first | exact HB.out | apply below_alloc | apply pw_below_drewN | apply below_drew1) | exact HB.out)) : w.heap.size ≤ gb179)); have n3_ := Aside0.mk ((by rw [hg]; exact (below_size (by repeat first | (with_reducible first | exact HB.out | apply below_alloc | apply pw_below_drewN | apply below_drew1) | exact HB.out)) : w.heap.size ≤ gb179)); clear HB; have HB := n0_; have BK179 := n1_; have GW179 := n2_; have GE179 := n3_; clear n0_ n1_ n2_ n3_; clear hb hbox hg; have hcz53_0 : w52.cell? ⟨gb179, 0, none⟩ = some (.int .u8 0) := (blk_cell BK179.out 0).trans rfl; have hcz53_1 : w52.cell? ⟨gb179, 1, none⟩ = some (.int .u32 0) := (blk_cell BK179.out 1).trans rfl; have hcz53_2 : w52.cell? ⟨gb179, 2, none⟩ = some (.int .u32 0) := (blk_cell BK179.out 2).trans rfl; have hcz53_3 : w52.cell? ⟨gb179, 3, none⟩ = some (.int .u16 0) := (blk_cell BK179.out 3).trans rfl; have hcz53_4 : w52.cell? ⟨gb179, 4, none⟩ = some (.int .u16 0) := (blk_cell BK179.out 4).trans rfl; have hcz53_5 : w52.cell? ⟨gb179, 5, none⟩ = some (.int .u8 0) := (blk_cell BK179.out 5).trans rfl; have hcz53_6 : w52.cell? ⟨gb179, 6, none⟩ = some (.int .u8 0) := (blk_cell BK179.out 6).trans rfl; have hfz53_0 := blk_frozen BK179.out 0; have hfz53_1 := blk_frozen BK179.out 1; have hfz53_2 := blk_frozen BK179.out 2; have hfz53_3 := blk_frozen BK179.out 3; have hfz53_4 := blk_frozen BK179.out 4; have hfz53_5 := blk_frozen BK179.out 5; have hfz53_6 := blk_frozen BK179.out 6) | ((with_reducible refine gate_store (t := 25) (p := 1) rfl ?_); (try (rw [drewN_self w52]; generalize hq_ : World.drewN w52 _ = w52; have n0_ := Aside0.mk (blk_at hq_ BK179.out); have n1_ := Aside0.mk (below_at hq_ HB.out); clear hq_ BK179 HB; have BK179 := n0_; have HB := n1_; clear n0_ n1_)); refine store_event (t := 25) (p := 1) (v := ?vo_w54) (w1 := (((((((w52.setCell ⟨gb179, 0, none⟩ (.int .u8 6)).setCell ⟨gb179, 1, none⟩ (.int .u32 9)).setCell ⟨gb179, 2, none⟩ (.int .u32 5)).setCell ⟨gb179, 3, none⟩ (.int .u16 1)).setCell ⟨gb179, 4, none⟩ (.int .u16 2)).setCell ⟨gb179, 5, none⟩ (.int .u8 0)).setCell ⟨gb179, 6, none⟩ (.int .u8 0))) ?hg ?ho ?hn ?hr ?_; (case ho => rfl); (case hg => rfl); (case hn => rfl); (case hr => first | (go_simp; done) | (go_simp; rfl) | (have hcy0_ : w52.cell? ⟨gb179, 0, none⟩ = some (.int .u8 0) := (blk_cell BK179.out 0).trans rfl; have hfy0_ := blk_frozen BK179.out 0; have hcy1_ : w52.cell? ⟨gb179, 1, none⟩ = some (.int .u32 0) := (blk_cell BK179.out 1).trans rfl; have hfy1_ := blk_frozen BK179.out 1; have hcy2_ : w52.cell? ⟨gb179, 2, none⟩ = some (.int .u32 0) := (blk_cell BK179.out 2).trans rfl; have hfy2_ := blk_frozen BK179.out 2; have hcy3_ : w52.cell? ⟨gb179, 3, none⟩ = some (.int .u16 0) := (blk_cell BK179.out 3).trans rfl; have hfy3_ := blk_frozen BK179.out 3; have hcy4_ : w52.cell? ⟨gb179, 4, none⟩ = some (.int .u16 0) := (blk_cell BK179.out 4).trans rfl; have hfy4_ := blk_frozen BK179.out 4; have hcy5_ : w52.cell? ⟨gb179, 5, none⟩ = some (.int .u8 0) := (blk_cell BK179.out 5).trans rfl; have hfy5_ := blk_frozen BK179.out 5; have hcy6_ : w52.cell? ⟨gb179, 6, none⟩ = some (.int .u8 0) := (blk_cell BK179.out 6).trans rfl; have hfy6_ := blk_frozen BK179.out 6; first | (go_simp; done) | (go_simp; rfl))); intro w54 hw; have n0_ : Aside0 (w54.heap[gb179]? = some (.cells #[.int .u8 6, .int .u32 9, .int .u32 5, .int .u16 1, .int .u16 2, .int .u8 0, .int .u8 0] 25 (0, 0))) := ⟨(by rw [hw]; exact (by (with_reducible repeat first | apply blk_drewN | apply blk_drew | apply blk_alloc); refine blk_put (cs := #[.int .u8 6, .int .u32 9, .int .u32 5, .int .u16 1, .int .u16 2, .int .u8 0, .int .u8 0]) ?_ 6 _ rfl; (with_reducible repeat first | apply blk_drewN | apply blk_drew | apply blk_alloc); refine blk_put (cs := #[.int .u8 6, .int .u32 9, .int .u32 5, .int .u16 1, .int .u16 2, .int .u8 0, .int .u8 0]) ?_ 5 _ rfl; (with_reducible repeat first | apply blk_drewN | apply blk_drew | apply blk_alloc); refine blk_put (cs := #[.int .u8 6, .int .u32 9, .int .u32 5, .int .u16 1, .int .u16 0, .int .u8 0, .int .u8 0]) ?_ 4 _ rfl; (with_reducible repeat first | apply blk_drewN | apply blk_drew | apply blk_alloc); refine blk_put (cs := #[.int .u8 6, .int .u32 9, .int .u32 5, .int .u16 0, .int .u16 0, .int .u8 0, .int .u8 0]) ?_ 3 _ rfl; (with_reducible repeat first | apply blk_drewN | apply blk_drew | apply blk_alloc); refine blk_put (cs := #[.int .u8 6, .int .u32 9, .int .u32 0, .int .u16 0, .int .u16 0, .int .u8 0, .int .u8 0]) ?_ 2 _ rfl; (with_reducible repeat first | apply blk_drewN | apply blk_drew | apply blk_alloc); refine blk_put (cs := #[.int .u8 6, .int .u32 0, .int .u32 0, .int .u16 0, .int .u16 0, .int .u8 0, .int .u8 0]) ?_ 1 _ rfl; (with_reducible repeat first | apply blk_drewN | apply blk_drew | apply blk_alloc); refine blk_put (cs := #[.int .u8 0, .int .u32 0, .int .u32 0, .int .u16 0, .int .u16 0, .int .u8 0, .int .u8 0]) ?_ 0 _ rfl; (with_reducible repeat first | apply blk_drewN | apply blk_drew | apply blk_alloc); exact BK179.out))⟩; have n1_ : Aside0 (Below w.heap.size w w54) := ⟨(by rw [hw]; exact (by repeat first | (with_reducible first | exact HB.out | apply below_alloc | apply pw_below_drewN | apply below_drew1 | refine below_set ?_ GE179.out) | exact HB.out))⟩; clear hw; clear BK179; clear HB; have BK179 := n0_; have HB := n1_; clear n0_ n1_; have hcz55_0 : w54.cell? ⟨gb179, 0, none⟩ = some (.int .u8 6) := (blk_cell BK179.out 0).trans rfl; have hcz55_1 : w54.cell? ⟨gb179, 1, none⟩ = some (.int .u32 9) := (blk_cell BK179.out 1).trans rfl; have hcz55_2 : w54.cell? ⟨gb179, 2, none⟩ = some (.int .u32 5) := (blk_cell BK179.out 2).trans rfl; have hcz55_3 : w54.cell? ⟨gb179, 3, none⟩ = some (.int .u16 1) := (blk_cell BK179.out 3).trans rfl; have hcz55_4 : w54.cell? ⟨gb179, 4, none⟩ = some (.int .u16 2) := (blk_cell BK179.out 4).trans rfl; have hcz55_5 : w54.cell? ⟨gb179, 5, none⟩ = some (.int .u8 0) := (blk_cell BK179.out 5).trans rfl; have hcz55_6 : w54.cell? ⟨gb179, 6, none⟩ = some (.int .u8 0) := (blk_cell BK179.out 6).trans rfl; have hfz55_0 := blk_frozen BK179.out 0; have hfz55_1 := blk_frozen BK179.out 1; have hfz55_2 := blk_frozen BK179.out 2; have hfz55_3 := blk_frozen BK179.out 3; have hfz55_4 := blk_frozen BK179.out 4; have hfz55_5 := blk_frozen BK179.out 5; have hfz55_6 := blk_frozen BK179.out 6) | ((with_reducible refine gate_callee (f := 8) rfl ?_); refine goesL_ (some 9) rfl rfl Try.func8 (by kernel_rfl) rfl #[.agg #[.int .u8 6, .int .u32 9, .int .u32 5, .int .u16 1, .int .u16 2, .int .u8 0, .int .u8 0]] rfl (by (try simp only [List.map_toArray, List.map_cons, List.map_nil]); first | done | rfl) ?_; (with_reducible refine (key_Of.calls k 6 9 5 1 2 0 0 t180 t181 t182 t183 t184 true _ A1.out).mono ?_); rintro e w56 ⟨rfl, hb⟩; refine ⟨_, rfl, ?_⟩; have n0_ := Aside0.mk (blk_below (g := gb179) (o := .cells #[.int .u8 6, .int .u32 9, .int .u32 5, .int .u16 1, .int .u16 2, .int .u8 0, .int .u8 0] 25 (0, 0)) (by (with_reducible repeat first | apply blk_drewN | apply blk_drew | apply blk_alloc); exact BK179.out) hb); have n1_ := Aside0.mk (below_step (by repeat first | (with_reducible first | exact HB.out | apply below_alloc | apply pw_below_drewN | apply below_drew1 | refine below_set ?_ GE179.out) | exact HB.out) hb); clear BK179; clear HB; have BK179 := n0_; have HB := n1_; clear n0_ n1_; (try clear hb); (try clear hb2); (try clear hk); (try clear hi)) | ((with_reducible refine gate_dst (N := 2) rfl ?_); refine box_event ?hg (N := 2) ?hd (cs := #[.int .u32 0, .int .u32 0, .int .u16 0, .int .u16 0, .int .u8 0]) (t := 29) ?hr ?_; (case hd => rfl); (case hg => rfl); (case hr => first | (go_simp; done) | (go_simp; rfl)); intro gb186 hg w57 hbox hb; have n0_ := Aside0.mk (blk_below (g := gb179) (o := .cells #[.int .u8 6, .int .u32 9, .int .u32 5, .int .u16 1, .int .u16 2, .int .u8 0, .int .u8 0] 25 (0, 0)) (by (with_reducible repeat first | apply blk_drewN | apply blk_drew | apply blk_alloc); exact BK179.out) hb); have n1_ := Aside0.mk (below_step (by repeat first | (with_reducible first | exact HB.out | apply below_alloc | apply pw_below_drewN | apply below_drew1 | refine below_set ?_ GE179.out) | exact HB.out) hb); have n2_ := Aside0.mk (hbox); have n3_ := Aside0.mk ((by rw [hg]; exact (below_size (by repeat first | (with_reducible first | exact HB.out | apply below_alloc | apply pw_below_drewN | apply below_drew1 | refine below_set ?_ GE179.out) | exact HB.out)) : w.heap.size ≤ gb186)); have n4_ := Aside0.mk ((by rw [hg]; exact (below_size (by repeat first | (with_reducible first | exact HB.out | apply below_alloc | apply pw_below_drewN | apply below_drew1 | refine below_set ?_ GE179.out) | exact HB.out)) : w.heap.size ≤ gb186)); have n5_ := Aside0.mk ((by rw [hg]; exact Nat.ne_of_lt (blk_lt (g := gb179) (o := .cells #[.int .u8 6, .int .u32 9, .int .u32 5, .int .u16 1, .int .u16 2, .int .u8 0, .int .u8 0] 25 (0, 0)) (by (with_reducible repeat first | apply blk_drewN | apply blk_drew | apply blk_alloc); exact BK179.out)) : gb179 ≠ gb186)); have n6_ := Aside0.mk ((by rw [hg]; exact Nat.ne_of_gt (blk_lt (g := gb179) (o := .cells #[.int .u8 6, .int .u32 9, .int .u32 5, .int .u16 1, .int .u16 2, .int .u8 0, .int .u8 0] 25 (0, 0)) (by (with_reducible repeat first | apply blk_drewN | apply blk_drew | apply blk_alloc); exact BK179.out)) : gb186 ≠ gb179)); clear BK179; clear HB; have BK179 := n0_; have HB := n1_; have BK186 := n2_; have GW186 := n3_; have GE186 := n4_; have NB179_186 := n5_; have NB186_179 := n6_; clear n0_ n1_ n2_ n3_ n4_ n5_ n6_; clear hb hbox hg; have hnb58 := NB186_179.out; have hnc58 := NB179_186.out; have hcz59_0 : w57.cell? ⟨gb186, 0, none⟩ = some (.int .u32 0) := (blk_cell BK186.out 0).trans rfl; have hcz59_1 : w57.cell? ⟨gb186, 1, none⟩ = some (.int .u32 0) := (blk_cell BK186.out 1).trans rfl; have hcz59_2 : w57.cell? ⟨gb186, 2, none⟩ = some (.int .u16 0) := (blk_cell BK186.out 2).trans rfl; have hcz59_3 : w57.cell? ⟨gb186, 3, none⟩ = some (.int .u16 0) := (blk_cell BK186.out 3).trans rfl; have hcz59_4 : w57.cell? ⟨gb186, 4, none⟩ = some (.int .u8 0) := (blk_cell BK186.out 4).trans rfl; have hfz59_0 := blk_frozen BK186.out 0; have hfz59_1 := blk_frozen BK186.out 1; have hfz59_2 := blk_frozen BK186.out 2; have hfz59_3 := blk_frozen BK186.out 3; have hfz59_4 := blk_frozen BK186.out 4) | ((with_reducible refine gate_store (t := 29) (p := 2) rfl ?_); (try (rw [drewN_self w57]; generalize hq_ : World.drewN w57 _ = w57; have n0_ := Aside0.mk (blk_at hq_ BK179.out); have n1_ := Aside0.mk (blk_at hq_ BK186.out); have n2_ := Aside0.mk (below_at hq_ HB.out); clear hq_ BK179 BK186 HB; have BK179 := n0_; have BK186 := n1_; have HB := n2_; clear n0_ n1_ n2_)); refine store_event (t := 29) (p := 2) (v := ?vo_w60) (w1 := (((((w57.setCell ⟨gb186, 0, none⟩ (.int .u32 t180)).setCell ⟨gb186, 1, none⟩ (.int .u32 t181)).setCell ⟨gb186, 2, none⟩ (.int .u16 t182)).setCell ⟨gb186, 3, none⟩ (.int .u16 t183)).setCell ⟨gb186, 4, none⟩ (.int .u8 t184))) ?hg ?ho ?hn ?hr ?_; (case ho => rfl); (case hg => rfl); (case hn => rfl); (case hr => first | (go_simp; done) | (go_simp; rfl) | (have hcy0_ : w57.cell? ⟨gb186, 0, none⟩ = some (.int .u32 0) := (blk_cell BK186.out 0).trans rfl; have hfy0_ := blk_frozen BK186.out 0; have hcy1_ : w57.cell? ⟨gb186, 1, none⟩ = some (.int .u32 0) := (blk_cell BK186.out 1).trans rfl; have hfy1_ := blk_frozen BK186.out 1; have hcy2_ : w57.cell? ⟨gb186, 2, none⟩ = some (.int .u16 0) := (blk_cell BK186.out 2).trans rfl; have hfy2_ := blk_frozen BK186.out 2; have hcy3_ : w57.cell? ⟨gb186, 3, none⟩ = some (.int .u16 0) := (blk_cell BK186.out 3).trans rfl; have hfy3_ := blk_frozen BK186.out 3; have hcy4_ : w57.cell? ⟨gb186, 4, none⟩ = some (.int .u8 0) := (blk_cell BK186.out 4).trans rfl; have hfy4_ := blk_frozen BK186.out 4; first | (go_simp; done) | (go_simp; rfl))); intro w60 hw; have n0_ : Aside0 (w60.heap[gb179]? = some (.cells #[.int .u8 6, .int .u32 9, .int .u32 5, .int .u16 1, .int .u16 2, .int .u8 0, .int .u8 0] 25 (0, 0))) := ⟨(by rw [hw]; exact (by (with_reducible repeat first | apply blk_drewN | apply blk_drew | apply blk_alloc); refine blk_far ?_ NB179_186.out _; (with_reducible repeat first | apply blk_drewN | apply blk_drew | apply blk_alloc); refine blk_far ?_ NB179_186.out _; (with_reducible repeat first | apply blk_drewN | apply blk_drew | apply blk_alloc); refine blk_far ?_ NB179_186.out _; (with_reducible repeat first | apply blk_drewN | apply blk_drew | apply blk_alloc); refine blk_far ?_ NB179_186.out _; (with_reducible repeat first | apply blk_drewN | apply blk_drew | apply blk_alloc); refine blk_far ?_ NB179_186.out _; (with_reducible repeat first | apply blk_drewN | apply blk_drew | apply blk_alloc); exact BK179.out))⟩; have n1_ : Aside0 (w60.heap[gb186]? = some (.cells #[.int .u32 t180, .int .u32 t181, .int .u16 t182, .int .u16 t183, .int .u8 t184] 29 (0, 0))) := ⟨(by rw [hw]; exact (by (with_reducible repeat first | apply blk_drewN | apply blk_drew | apply blk_alloc); refine blk_put (cs := #[.int .u32 t180, .int .u32 t181, .int .u16 t182, .int .u16 t183, .int .u8 0]) ?_ 4 _ rfl; (with_reducible repeat first | apply blk_drewN | apply blk_drew | apply blk_alloc); refine blk_put (cs := #[.int .u32 t180, .int .u32 t181, .int .u16 t182, .int .u16 0, .int .u8 0]) ?_ 3 _ rfl; (with_reducible repeat first | apply blk_drewN | apply blk_drew | apply blk_alloc); refine blk_put (cs := #[.int .u32 t180, .int .u32 t181, .int .u16 0, .int .u16 0, .int .u8 0]) ?_ 2 _ rfl; (with_reducible repeat first | apply blk_drewN | apply blk_drew | apply blk_alloc); refine blk_put (cs := #[.int .u32 t180, .int .u32 0, .int .u16 0, .int .u16 0, .int .u8 0]) ?_ 1 _ rfl; (with_reducible repeat first | apply blk_drewN | apply blk_drew | apply blk_alloc); refine blk_put (cs := #[.int .u32 0, .int .u32 0, .int .u16 0, .int .u16 0, .int .u8 0]) ?_ 0 _ rfl; (with_reducible repeat first | apply blk_drewN | apply blk_drew | apply blk_alloc); exact BK186.out))⟩; have n2_ : Aside0 (Below w.heap.size w w60) := ⟨(by rw [hw]; exact (by repeat first | (with_reducible first | exact HB.out | apply below_alloc | apply pw_below_drewN | apply below_drew1 | refine below_set ?_ GE179.out | refine below_set ?_ GE186.out) | exact HB.out))⟩; clear hw; clear BK179; clear BK186; clear HB; have BK179 := n0_; have BK186 := n1_; have HB := n2_; clear n0_ n1_ n2_; have hcz61_0 : w60.cell? ⟨gb179, 0, none⟩ = some (.int .u8 6) := (blk_cell BK179.out 0).trans rfl; have hcz61_1 : w60.cell? ⟨gb179, 1, none⟩ = some (.int .u32 9) := (blk_cell BK179.out 1).trans rfl; have hcz61_2 : w60.cell? ⟨gb179, 2, none⟩ = some (.int .u32 5) := (blk_cell BK179.out 2).trans rfl; have hcz61_3 : w60.cell? ⟨gb179, 3, none⟩ = some (.int .u16 1) := (blk_cell BK179.out 3).trans rfl; have hcz61_4 : w60.cell? ⟨gb179, 4, none⟩ = some (.int .u16 2) := (blk_cell BK179.out 4).trans rfl; have hcz61_5 : w60.cell? ⟨gb179, 5, none⟩ = some (.int .u8 0) := (blk_cell BK179.out 5).trans rfl; have hcz61_6 : w60.cell? ⟨gb179, 6, none⟩ = some (.int .u8 0) := (blk_cell BK179.out 6).trans rfl; have hfz61_0 := blk_frozen BK179.out 0; have hfz61_1 := blk_frozen BK179.out 1; have hfz61_2 := blk_frozen BK179.out 2; have hfz61_3 := blk_frozen BK179.out 3; have hfz61_4 := blk_frozen BK179.out 4; have hfz61_5 := blk_frozen BK179.out 5; have hfz61_6 := blk_frozen BK179.out 6) | ((with_reducible refine gate_callee (f := 17) rfl ?_); refine goesL_ (some 14) rfl rfl Try.func17 (by kernel_rfl) rfl #[.agg #[.int .u8 6, .int .u32 9, .int .u32 5, .int .u16 1, .int .u16 2, .int .u8 0, .int .u8 0]] rfl (by (try simp only [List.map_toArray, List.map_cons, List.map_nil]); first | done | rfl) ?_; (with_reducible refine (key_Turn.calls 6 9 5 1 2 0 0 t187 t188 t189 t190 t191 t192 t193 _ A2.out).mono ?_); rintro e w62 ⟨rfl, hb⟩; refine ⟨_, rfl, ?_⟩; have n0_ := Aside0.mk (blk_below (g := gb179) (o := .cells #[.int .u8 6, .int .u32 9, .int .u32 5, .int .u16 1, .int .u16 2, .int .u8 0, .int .u8 0] 25 (0, 0)) (by (with_reducible repeat first | apply blk_drewN | apply blk_drew | apply blk_alloc); exact BK179.out) hb); have n1_ := Aside0.mk (blk_below (g := gb186) (o := .cells #[.int .u32 t180, .int .u32 t181, .int .u16 t182, .int .u16 t183, .int .u8 t184] 29 (0, 0)) (by (with_reducible repeat first | apply blk_drewN | apply blk_drew | apply blk_alloc); exact BK186.out) hb); have n2_ := Aside0.mk (below_step (by repeat first | (with_reducible first | exact HB.out | apply below_alloc | apply pw_below_drewN | apply below_drew1 | refine below_set ?_ GE179.out | refine below_set ?_ GE186.out) | exact HB.out) hb); clear BK179; clear BK186; clear HB; have BK179 := n0_; have BK186 := n1_; have HB := n2_; clear n0_ n1_ n2_; (try clear hb); (try clear hb2); (try clear hk); (try clear hi)) | ((with_reducible refine gate_callee (f := 8) rfl ?_); refine goesL_ (some 15) rfl rfl Try.func8 (by kernel_rfl) rfl #[.agg #[.int .u8 t187, .int .u32 t188, .int .u32 t189, .int .u16 t190, .int .u16 t191, .int .u8 t192, .int .u8 t193]] rfl (by (try simp only [List.map_toArray, List.map_cons, List.map_nil]); first | done | rfl) ?_; (with_reducible refine (key_Of.calls k t187 t188 t189 t190 t191 t192 t193 t194 t195 t196 t197 t198 false _ A3.out).mono ?_); rintro e w63 ⟨rfl, hb⟩; refine ⟨_, rfl, ?_⟩; have n0_ := Aside0.mk (blk_below (g := gb179) (o := .cells #[.int .u8 6, .int .u32 9, .int .u32 5, .int .u16 1, .int .u16 2, .int .u8 0, .int .u8 0] 25 (0, 0)) (by (with_reducible repeat first | apply blk_drewN | apply blk_drew | apply blk_alloc); exact BK179.out) hb); have n1_ := Aside0.mk (blk_below (g := gb186) (o := .cells #[.int .u32 t180, .int .u32 t181, .int .u16 t182, .int .u16 t183, .int .u8 t184] 29 (0, 0)) (by (with_reducible repeat first | apply blk_drewN | apply blk_drew | apply blk_alloc); exact BK186.out) hb); have n2_ := Aside0.mk (below_step (by repeat first | (with_reducible first | exact HB.out | apply below_alloc | apply pw_below_drewN | apply below_drew1 | refine below_set ?_ GE179.out | refine below_set ?_ GE186.out) | exact HB.out) hb); clear BK179; clear BK186; clear HB; have BK179 := n0_; have BK186 := n1_; have HB := n2_; clear n0_ n1_ n2_; (try clear hb); (try clear hb2); (try clear hk); (try clear hi)) | ((with_reducible refine gate_dst (N := 4) rfl ?_); refine box_event ?hg (N := 4) ?hd (cs := #[.int .u32 0, .int .u32 0, .int .u16 0, .int .u16 0, .int .u8 0]) (t := 29) ?hr ?_; (case hd => rfl); (case hg => rfl); (case hr => first | (go_simp; done) | (go_simp; rfl)); intro gb200 hg w64 hbox hb; have n0_ := Aside0.mk (blk_below (g := gb179) (o := .cells #[.int .u8 6, .int .u32 9, .int .u32 5, .int .u16 1, .int .u16 2, .int .u8 0, .int .u8 0] 25 (0, 0)) (by (with_reducible repeat first | apply blk_drewN | apply blk_drew | apply blk_alloc); exact BK179.out) hb); have n1_ := Aside0.mk (blk_below (g := gb186) (o := .cells #[.int .u32 t180, .int .u32 t181, .int .u16 t182, .int .u16 t183, .int .u8 t184] 29 (0, 0)) (by (with_reducible repeat first | apply blk_drewN | apply blk_drew | apply blk_alloc); exact BK186.out) hb); have n2_ := Aside0.mk (below_step (by repeat first | (with_reducible first | exact HB.out | apply below_alloc | apply pw_below_drewN | apply below_drew1 | refine below_set ?_ GE179.out | refine below_set ?_ GE186.out) | exact HB.out) hb); have n3_ := Aside0.mk (hbox); have n4_ := Aside0.mk ((by rw [hg]; exact (below_size (by repeat first | (with_reducible first | exact HB.out | apply below_alloc | apply pw_below_drewN | apply below_drew1 | refine below_set ?_ GE179.out | refine below_set ?_ GE186.out) | exact HB.out)) : w.heap.size ≤ gb200)); have n5_ := Aside0.mk ((by rw [hg]; exact (below_size (by repeat first | (with_reducible first | exact HB.out | apply below_alloc | apply pw_below_drewN | apply below_drew1 | refine below_set ?_ GE179.out | refine below_set ?_ GE186.out) | exact HB.out)) : w.heap.size ≤ gb200)); have n6_ := Aside0.mk ((by rw [hg]; exact Nat.ne_of_lt (blk_lt (g := gb179) (o := .cells #[.int .u8 6, .int .u32 9, .int .u32 5, .int .u16 1, .int .u16 2, .int .u8 0, .int .u8 0] 25 (0, 0)) (by (with_reducible repeat first | apply blk_drewN | apply blk_drew | apply blk_alloc); exact BK179.out)) : gb179 ≠ gb200)); have n7_ := Aside0.mk ((by rw [hg]; exact Nat.ne_of_gt (blk_lt (g := gb179) (o := .cells #[.int .u8 6, .int .u32 9, .int .u32 5, .int .u16 1, .int .u16 2, .int .u8 0, .int .u8 0] 25 (0, 0)) (by (with_reducible repeat first | apply blk_drewN | apply blk_drew | apply blk_alloc); exact BK179.out)) : gb200 ≠ gb179)); have n8_ := Aside0.mk ((by rw [hg]; exact Nat.ne_of_lt (blk_lt (g := gb186) (o := .cells #[.int .u32 t180, .int .u32 t181, .int .u16 t182, .int .u16 t183, .int .u8 t184] 29 (0, 0)) (by (with_reducible repeat first | apply blk_drewN | apply blk_drew | apply blk_alloc); exact BK186.out)) : gb186 ≠ gb200)); have n9_ := Aside0.mk ((by rw [hg]; exact Nat.ne_of_gt (blk_lt (g := gb186) (o := .cells #[.int .u32 t180, .int .u32 t181, .int .u16 t182, .int .u16 t183, .int .u8 t184] 29 (0, 0)) (by (with_reducible repeat first | apply blk_drewN | apply blk_drew | apply blk_alloc); exact BK186.out)) : gb200 ≠ gb186)); clear BK179; clear BK186; clear HB; have BK179 := n0_; have BK186 := n1_; have HB := n2_; have BK200 := n3_; have GW200 := n4_; have GE200 := n5_; have NB179_200 := n6_; have NB200_179 := n7_; have NB186_200 := n8_; have NB200_186 := n9_; clear n0_ n1_ n2_ n3_ n4_ n5_ n6_ n7_ n8_ n9_; clear hb hbox hg; have hnb65 := NB200_179.out; have hnc65 := NB179_200.out; have hnb66 := NB200_186.out; have hnc66 := NB186_200.out; have hcz67_0 : w64.cell? ⟨gb200, 0, none⟩ = some (.int .u32 0) := (blk_cell BK200.out 0).trans rfl; have hcz67_1 : w64.cell? ⟨gb200, 1, none⟩ = some (.int .u32 0) := (blk_cell BK200.out 1).trans rfl; have hcz67_2 : w64.cell? ⟨gb200, 2, none⟩ = some (.int .u16 0) := (blk_cell BK200.out 2).trans rfl; have hcz67_3 : w64.cell? ⟨gb200, 3, none⟩ = some (.int .u16 0) := (blk_cell BK200.out 3).trans rfl; have hcz67_4 : w64.cell? ⟨gb200, 4, none⟩ = some (.int .u8 0) := (blk_cell BK200.out 4).trans rfl; have hfz67_0 := blk_frozen BK200.out 0; have hfz67_1 := blk_frozen BK200.out 1; have hfz67_2 := blk_frozen BK200.out 2; have hfz67_3 := blk_frozen BK200.out 3; have hfz67_4 := blk_frozen BK200.out 4) | ((with_reducible refine gate_store (t := 29) (p := 4) rfl ?_); (try (rw [drewN_self w64]; generalize hq_ : World.drewN w64 _ = w64; have n0_ := Aside0.mk (blk_at hq_ BK179.out); have n1_ := Aside0.mk (blk_at hq_ BK186.out); have n2_ := Aside0.mk (blk_at hq_ BK200.out); have n3_ := Aside0.mk (below_at hq_ HB.out); clear hq_ BK179 BK186 BK200 HB; have BK179 := n0_; have BK186 := n1_; have BK200 := n2_; have HB := n3_; clear n0_ n1_ n2_ n3_)); refine store_event (t := 29) (p := 4) (v := ?vo_w68) (w1 := (((((w64.setCell ⟨gb200, 0, none⟩ (.int .u32 t194)).setCell ⟨gb200, 1, none⟩ (.int .u32 t195)).setCell ⟨gb200, 2, none⟩ (.int .u16 t196)).setCell ⟨gb200, 3, none⟩ (.int .u16 t197)).setCell ⟨gb200, 4, none⟩ (.int .u8 t198))) ?hg ?ho ?hn ?hr ?_; (case ho => rfl); (case hg => rfl); (case hn => rfl); (case hr => first | (go_simp; done) | (go_simp; rfl) | (have hcy0_ : w64.cell? ⟨gb200, 0, none⟩ = some (.int .u32 0) := (blk_cell BK200.out 0).trans rfl; have hfy0_ := blk_frozen BK200.out 0; have hcy1_ : w64.cell? ⟨gb200, 1, none⟩ = some (.int .u32 0) := (blk_cell BK200.out 1).trans rfl; have hfy1_ := blk_frozen BK200.out 1; have hcy2_ : w64.cell? ⟨gb200, 2, none⟩ = some (.int .u16 0) := (blk_cell BK200.out 2).trans rfl; have hfy2_ := blk_frozen BK200.out 2; have hcy3_ : w64.cell? ⟨gb200, 3, none⟩ = some (.int .u16 0) := (blk_cell BK200.out 3).trans rfl; have hfy3_ := blk_frozen BK200.out 3; have hcy4_ : w64.cell? ⟨gb200, 4, none⟩ = some (.int .u8 0) := (blk_cell BK200.out 4).trans rfl; have hfy4_ := blk_frozen BK200.out 4; first | (go_simp; done) | (go_simp; rfl))); intro w68 hw; have n0_ : Aside0 (w68.heap[gb179]? = some (.cells #[.int .u8 6, .int .u32 9, .int .u32 5, .int .u16 1, .int .u16 2, .int .u8 0, .int .u8 0] 25 (0, 0))) := ⟨(by rw [hw]; exact (by (with_reducible repeat first | apply blk_drewN | apply blk_drew | apply blk_alloc); refine blk_far ?_ NB179_200.out _; (with_reducible repeat first | apply blk_drewN | apply blk_drew | apply blk_alloc); refine blk_far ?_ NB179_200.out _; (with_reducible repeat first | apply blk_drewN | apply blk_drew | apply blk_alloc); refine blk_far ?_ NB179_200.out _; (with_reducible repeat first | apply blk_drewN | apply blk_drew | apply blk_alloc); refine blk_far ?_ NB179_200.out _; (with_reducible repeat first | apply blk_drewN | apply blk_drew | apply blk_alloc); refine blk_far ?_ NB179_200.out _; (with_reducible repeat first | apply blk_drewN | apply blk_drew | apply blk_alloc); exact BK179.out))⟩; have n1_ : Aside0 (w68.heap[gb186]? = some (.cells #[.int .u32 t180, .int .u32 t181, .int .u16 t182, .int .u16 t183, .int .u8 t184] 29 (0, 0))) := ⟨(by rw [hw]; exact (by (with_reducible repeat first | apply blk_drewN | apply blk_drew | apply blk_alloc); refine blk_far ?_ NB186_200.out _; (with_reducible repeat first | apply blk_drewN | apply blk_drew | apply blk_alloc); refine blk_far ?_ NB186_200.out _; (with_reducible repeat first | apply blk_drewN | apply blk_drew | apply blk_alloc); refine blk_far ?_ NB186_200.out _; (with_reducible repeat first | apply blk_drewN | apply blk_drew | apply blk_alloc); refine blk_far ?_ NB186_200.out _; (with_reducible repeat first | apply blk_drewN | apply blk_drew | apply blk_alloc); refine blk_far ?_ NB186_200.out _; (with_reducible repeat first | apply blk_drewN | apply blk_drew | apply blk_alloc); exact BK186.out))⟩; have n2_ : Aside0 (w68.heap[gb200]? = some (.cells #[.int .u32 t194, .int .u32 t195, .int .u16 t196, .int .u16 t197, .int .u8 t198] 29 (0, 0))) := ⟨(by rw [hw]; exact (by (with_reducible repeat first | apply blk_drewN | apply blk_drew | apply blk_alloc); refine blk_put (cs := #[.int .u32 t194, .int .u32 t195, .int .u16 t196, .int .u16 t197, .int .u8 0]) ?_ 4 _ rfl; (with_reducible repeat first | apply blk_drewN | apply blk_drew | apply blk_alloc); refine blk_put (cs := #[.int .u32 t194, .int .u32 t195, .int .u16 t196, .int .u16 0, .int .u8 0]) ?_ 3 _ rfl; (with_reducible repeat first | apply blk_drewN | apply blk_drew | apply blk_alloc); refine blk_put (cs := #[.int .u32 t194, .int .u32 t195, .int .u16 0, .int .u16 0, .int .u8 0]) ?_ 2 _ rfl; (with_reducible repeat first | apply blk_drewN | apply blk_drew | apply blk_alloc); refine blk_put (cs := #[.int .u32 t194, .int .u32 0, .int .u16 0, .int .u16 0, .int .u8 0]) ?_ 1 _ rfl; (with_reducible repeat first | apply blk_drewN | apply blk_drew | apply blk_alloc); refine blk_put (cs := #[.int .u32 0, .int .u32 0, .int .u16 0, .int .u16 0, .int .u8 0]) ?_ 0 _ rfl; (with_reducible repeat first | apply blk_drewN | apply blk_drew | apply blk_alloc); exact BK200.out))⟩; have n3_ : Aside0 (Below w.heap.size w w68) := ⟨(by rw [hw]; exact (by repeat first | (with_reducible first | exact HB.out | apply below_alloc | apply pw_below_drewN | apply below_drew1 | refine below_set ?_ GE179.out | refine below_set ?_ GE186.out | refine below_set ?_ GE200.out) | exact HB.out))⟩; clear hw; clear BK179; clear BK186; clear BK200; clear HB; have BK179 := n0_; have BK186 := n1_; have BK200 := n2_; have HB := n3_; clear n0_ n1_ n2_ n3_))
              have n0_ := Aside0.mk (blk_drew BK179.out)
              have n1_ := Aside0.mk (blk_drew BK186.out)
              have n2_ := Aside0.mk (blk_drew BK200.out)
              have n3_ := Aside0.mk (below_drew1 HB.out)
              clear BK179
              clear BK186
              clear BK200
              clear HB
              have BK179 := n0_
              have BK186 := n1_
              have BK200 := n2_
              have HB := n3_
              clear n0_ n1_ n2_ n3_
              refine start_ (n := 35) (S := fun w' => w'.cell? ⟨gb186, 0, none⟩ = some (.int .u32 t180) ∧ w'.cell? ⟨gb186, 1, none⟩ = some (.int .u32 t181) ∧ w'.cell? ⟨gb186, 2, none⟩ = some (.int .u16 t182) ∧ w'.cell? ⟨gb186, 3, none⟩ = some (.int .u16 t183) ∧ w'.cell? ⟨gb186, 4, none⟩ = some (.int .u8 t184) ∧ w'.cell? ⟨gb200, 0, none⟩ = some (.int .u32 t194) ∧ w'.cell? ⟨gb200, 1, none⟩ = some (.int .u32 t195) ∧ w'.cell? ⟨gb200, 2, none⟩ = some (.int .u16 t196) ∧ w'.cell? ⟨gb200, 3, none⟩ = some (.int .u16 t197) ∧ w'.cell? ⟨gb200, 4, none⟩ = some (.int .u8 t198)) (ds := []) #[false, false, false, false, false, false, false, false, false, false, false, false, false, false, false, false, false, false, false, false, false, false, false, false, false, false, false, false, false, false, false, false, false, false, false] (by kernel_rfl) rfl rfl ⟨(blk_cell BK186.out 0).trans rfl, (blk_cell BK186.out 1).trans rfl, (blk_cell BK186.out 2).trans rfl, (blk_cell BK186.out 3).trans rfl, (blk_cell BK186.out 4).trans rfl, (blk_cell BK200.out 0).trans rfl, (blk_cell BK200.out 1).trans rfl, (blk_cell BK200.out 2).trans rfl, (blk_cell BK200.out 3).trans rfl, (blk_cell BK200.out 4).trans rfl⟩ (fun hHeld => ?_); refine with_tabW mantletlaw10_awake.tab4 mantletlaw10_awake.bits4 (fun HT_ HW_ => ?_)
              generalize w68.drew = w69 at BK179 BK186 BK200 HB hHeld ⊢
              refine pure_ (i := 1) (N := some 19) (v := ?_) (a' := ?_) #[false, true, false, false, false, false, false, false, false, false, false, false, false, false, false, false, false, false, false, false, false, false, false, false, false, false, false, false, false, false, false, false, false, false, false] rfl rfl (any_of HT_.out (by kernel_rfl)) (fun _ _ _ h => h) (Or.inl ⟨by rfl, ?_⟩) ?_ ?_
              rotate_left
              · intro w'
                go_simp
                with_reducible rfl
              rotate_left
              · simp only [Act.put, List.setIfInBounds_toArray, List.set_cons_zero, List.set_cons_succ, i64_w, i32_w]
                rfl
              refine pure_ (i := 2) (N := some 20) (v := ?_) (a' := ?_) #[false, true, true, false, false, false, false, false, false, false, false, false, false, false, false, false, false, false, false, false, false, false, false, false, false, false, false, false, false, false, false, false, false, false, false] rfl rfl (any_of HT_.out (by kernel_rfl)) (fun _ _ _ h => h) (Or.inl ⟨by rfl, ?_⟩) ?_ ?_
              rotate_left
              · intro w'
                go_simp
                with_reducible rfl
              rotate_left
              · simp only [Act.put, List.setIfInBounds_toArray, List.set_cons_zero, List.set_cons_succ, i64_w, i32_w]
                rfl
              refine pure_ (i := 3) (N := some 21) (v := ?_) (a' := ?_) #[false, true, true, true, false, false, false, false, false, false, false, false, false, false, false, false, false, false, false, false, false, false, false, false, false, false, false, false, false, false, false, false, false, false, false] rfl rfl (any_of HT_.out (by kernel_rfl)) (fun _ _ _ h => h) (Or.inl ⟨by rfl, ?_⟩) ?_ ?_
              rotate_left
              · intro w'
                go_simp
                with_reducible rfl
              rotate_left
              · simp only [Act.put, List.setIfInBounds_toArray, List.set_cons_zero, List.set_cons_succ, i64_w, i32_w]
                rfl
              refine take_ (i := 0) (N := some 18) (v := ?_) (a' := ?_) #[true, true, true, true, false, false, false, false, false, false, false, false, false, false, false, false, false, false, false, false, false, false, false, false, false, false, false, false, false, false, false, false, false, false, false] rfl rfl (take_ofW HT_.out HW_.out (by kernel_rfl)) (fun _ _ _ h => h) (Or.inl ⟨by rfl, ?_⟩) hHeld ?_ ?_
              rotate_left
              · rintro w' ⟨s0, s1, s2, s3, s4, s5, s6, s7, s8, s9⟩
                go_simp
                with_reducible rfl
              rotate_left
              · simp only [Act.put, List.setIfInBounds_toArray, List.set_cons_zero, List.set_cons_succ, i64_w, i32_w]
                rfl
              refine pure_ (i := 4) (N := some 22) (v := ?_) (a' := ?_) #[true, true, true, true, true, false, false, false, false, false, false, false, false, false, false, false, false, false, false, false, false, false, false, false, false, false, false, false, false, false, false, false, false, false, false] rfl rfl (any_of HT_.out (by kernel_rfl)) (fun _ _ _ h => h) (Or.inl ⟨by rfl, ?_⟩) ?_ ?_
              rotate_left
              · intro w'
                go_simp
                with_reducible rfl
              rotate_left
              · simp only [Act.put, List.setIfInBounds_toArray, List.set_cons_zero, List.set_cons_succ, i64_w, i32_w]
                rfl
              refine pure_ (i := 5) (N := some 23) (v := ?_) (a' := ?_) #[true, true, true, true, true, true, false, false, false, false, false, false, false, false, false, false, false, false, false, false, false, false, false, false, false, false, false, false, false, false, false, false, false, false, false] rfl rfl (any_of HT_.out (by kernel_rfl)) (fun _ _ _ h => h) (Or.inl ⟨by rfl, ?_⟩) ?_ ?_
              rotate_left
              · intro w'
                go_simp
                with_reducible rfl
              rotate_left
              · simp only [Act.put, List.setIfInBounds_toArray, List.set_cons_zero, List.set_cons_succ, i64_w, i32_w]
                rfl
              refine pure_ (i := 6) (N := some 24) (v := ?_) (a' := ?_) #[true, true, true, true, true, true, true, false, false, false, false, false, false, false, false, false, false, false, false, false, false, false, false, false, false, false, false, false, false, false, false, false, false, false, false] rfl rfl (any_of HT_.out (by kernel_rfl)) (fun _ _ _ h => h) (Or.inl ⟨by rfl, ?_⟩) ?_ ?_
              rotate_left
              · intro w'
                go_simp
                with_reducible rfl
              rotate_left
              · simp only [Act.put, List.setIfInBounds_toArray, List.set_cons_zero, List.set_cons_succ, i64_w, i32_w]
                rfl
              refine pure_ (i := 7) (N := some 25) (v := ?_) (a' := ?_) #[true, true, true, true, true, true, true, true, false, false, false, false, false, false, false, false, false, false, false, false, false, false, false, false, false, false, false, false, false, false, false, false, false, false, false] rfl rfl (any_of HT_.out (by kernel_rfl)) (fun _ _ _ h => h) (Or.inl ⟨by rfl, ?_⟩) ?_ ?_
              rotate_left
              · intro w'
                go_simp
                with_reducible rfl
              rotate_left
              · simp only [Act.put, List.setIfInBounds_toArray, List.set_cons_zero, List.set_cons_succ, i64_w, i32_w]
                rfl
              refine pure_ (i := 8) (N := some 26) (v := ?_) (a' := ?_) #[true, true, true, true, true, true, true, true, true, false, false, false, false, false, false, false, false, false, false, false, false, false, false, false, false, false, false, false, false, false, false, false, false, false, false] rfl rfl (any_of HT_.out (by kernel_rfl)) (fun _ _ _ h => h) (Or.inl ⟨by rfl, ?_⟩) ?_ ?_
              rotate_left
              · intro w'
                go_simp
                with_reducible rfl
              rotate_left
              · simp only [Act.put, List.setIfInBounds_toArray, List.set_cons_zero, List.set_cons_succ, i64_w, i32_w]
                rfl
              refine take_ (i := 9) (N := some 27) (v := ?_) (a' := ?_) #[true, true, true, true, true, true, true, true, true, true, false, false, false, false, false, false, false, false, false, false, false, false, false, false, false, false, false, false, false, false, false, false, false, false, false] rfl rfl (take_ofW HT_.out HW_.out (by kernel_rfl)) (fun _ _ _ h => h) (Or.inl ⟨by rfl, ?_⟩) hHeld ?_ ?_
              rotate_left
              · rintro w' ⟨s0, s1, s2, s3, s4, s5, s6, s7, s8, s9⟩
                go_simp
                with_reducible rfl
              rotate_left
              · simp only [Act.put, List.setIfInBounds_toArray, List.set_cons_zero, List.set_cons_succ, i64_w, i32_w]
                rfl
              refine take_ (i := 10) (N := some 28) (v := ?_) (a' := ?_) #[true, true, true, true, true, true, true, true, true, true, true, false, false, false, false, false, false, false, false, false, false, false, false, false, false, false, false, false, false, false, false, false, false, false, false] rfl rfl (take_ofW HT_.out HW_.out (by kernel_rfl)) (fun _ _ _ h => h) (Or.inl ⟨by rfl, ?_⟩) hHeld ?_ ?_
              rotate_left
              · rintro w' ⟨s0, s1, s2, s3, s4, s5, s6, s7, s8, s9⟩
                go_simp
                with_reducible rfl
              rotate_left
              · simp only [Act.put, List.setIfInBounds_toArray, List.set_cons_zero, List.set_cons_succ, i64_w, i32_w]
                rfl
              refine pure_ (i := 11) (N := some 29) (v := ?_) (a' := ?_) #[true, true, true, true, true, true, true, true, true, true, true, true, false, false, false, false, false, false, false, false, false, false, false, false, false, false, false, false, false, false, false, false, false, false, false] rfl rfl (any_of HT_.out (by kernel_rfl)) (fun _ _ _ h => h) (Or.inl ⟨by rfl, ?_⟩) ?_ ?_
              rotate_left
              · intro w'
                go_simp
                with_reducible rfl
              rotate_left
              · simp only [Act.put, List.setIfInBounds_toArray, List.set_cons_zero, List.set_cons_succ, i64_w, i32_w]
                rfl
              refine pure_ (i := 12) (N := some 30) (v := ?_) (a' := ?_) #[true, true, true, true, true, true, true, true, true, true, true, true, true, false, false, false, false, false, false, false, false, false, false, false, false, false, false, false, false, false, false, false, false, false, false] rfl rfl (any_of HT_.out (by kernel_rfl)) (fun _ _ _ h => h) (Or.inl ⟨by rfl, ?_⟩) ?_ ?_
              rotate_left
              · intro w'
                go_simp
                with_reducible rfl
              rotate_left
              · simp only [Act.put, List.setIfInBounds_toArray, List.set_cons_zero, List.set_cons_succ, i64_w, i32_w]
                rfl
              refine pure_ (i := 13) (N := some 31) (v := ?_) (a' := ?_) #[true, true, true, true, true, true, true, true, true, true, true, true, true, true, false, false, false, false, false, false, false, false, false, false, false, false, false, false, false, false, false, false, false, false, false] rfl rfl (any_of HT_.out (by kernel_rfl)) (fun _ _ _ h => h) (Or.inl ⟨by rfl, ?_⟩) ?_ ?_
              rotate_left
              · intro w'
                go_simp
                with_reducible rfl
              rotate_left
              · simp only [Act.put, List.setIfInBounds_toArray, List.set_cons_zero, List.set_cons_succ, i64_w, i32_w]
                rfl
              refine pure_ (i := 14) (N := some 32) (v := ?_) (a' := ?_) #[true, true, true, true, true, true, true, true, true, true, true, true, true, true, true, false, false, false, false, false, false, false, false, false, false, false, false, false, false, false, false, false, false, false, false] rfl rfl (any_of HT_.out (by kernel_rfl)) (fun _ _ _ h => h) (Or.inl ⟨by rfl, ?_⟩) ?_ ?_
              rotate_left
              · intro w'
                go_simp
                with_reducible rfl
              rotate_left
              · simp only [Act.put, List.setIfInBounds_toArray, List.set_cons_zero, List.set_cons_succ, i64_w, i32_w]
                rfl
              refine pure_ (i := 15) (N := some 33) (v := ?_) (a' := ?_) #[true, true, true, true, true, true, true, true, true, true, true, true, true, true, true, true, false, false, false, false, false, false, false, false, false, false, false, false, false, false, false, false, false, false, false] rfl rfl (any_of HT_.out (by kernel_rfl)) (fun _ _ _ h => h) (Or.inl ⟨by rfl, ?_⟩) ?_ ?_
              rotate_left
              · intro w'
                go_simp
                with_reducible rfl
              rotate_left
              · simp only [Act.put, List.setIfInBounds_toArray, List.set_cons_zero, List.set_cons_succ, i64_w, i32_w]
                rfl
              refine pure_ (i := 16) (N := some 34) (v := ?_) (a' := ?_) #[true, true, true, true, true, true, true, true, true, true, true, true, true, true, true, true, true, false, false, false, false, false, false, false, false, false, false, false, false, false, false, false, false, false, false] rfl rfl (any_of HT_.out (by kernel_rfl)) (fun _ _ _ h => h) (Or.inl ⟨by rfl, ?_⟩) ?_ ?_
              rotate_left
              · intro w'
                go_simp
                with_reducible rfl
              rotate_left
              · simp only [Act.put, List.setIfInBounds_toArray, List.set_cons_zero, List.set_cons_succ, i64_w, i32_w]
                rfl
              refine pure_ (i := 17) (N := some 35) (v := ?_) (a' := ?_) #[true, true, true, true, true, true, true, true, true, true, true, true, true, true, true, true, true, true, false, false, false, false, false, false, false, false, false, false, false, false, false, false, false, false, false] rfl rfl (any_of HT_.out (by kernel_rfl)) (fun _ _ _ h => h) (Or.inl ⟨by rfl, ?_⟩) ?_ ?_
              rotate_left
              · intro w'
                go_simp
                with_reducible rfl
              rotate_left
              · simp only [Act.put, List.setIfInBounds_toArray, List.set_cons_zero, List.set_cons_succ, i64_w, i32_w]
                rfl
              refine pure_ (i := 18) (N := some 36) (v := ?_) (a' := ?_) #[true, true, true, true, true, true, true, true, true, true, true, true, true, true, true, true, true, true, true, false, false, false, false, false, false, false, false, false, false, false, false, false, false, false, false] rfl rfl (any_of HT_.out (by kernel_rfl)) (fun _ _ _ h => h) (Or.inl ⟨by rfl, ?_⟩) ?_ ?_
              rotate_left
              · intro w'
                go_simp
                with_reducible rfl
              rotate_left
              · simp only [Act.put, List.setIfInBounds_toArray, List.set_cons_zero, List.set_cons_succ, i64_w, i32_w]
                rfl
              refine take_ (i := 20) (N := some 38) (v := ?_) (a' := ?_) #[true, true, true, true, true, true, true, true, true, true, true, true, true, true, true, true, true, true, true, false, true, false, false, false, false, false, false, false, false, false, false, false, false, false, false] rfl rfl (take_ofW HT_.out HW_.out (by kernel_rfl)) (fun _ _ _ h => h) (Or.inl ⟨by rfl, ?_⟩) hHeld ?_ ?_
              rotate_left
              · rintro w' ⟨s0, s1, s2, s3, s4, s5, s6, s7, s8, s9⟩
                go_simp
                with_reducible rfl
              rotate_left
              · simp only [Act.put, List.setIfInBounds_toArray, List.set_cons_zero, List.set_cons_succ, i64_w, i32_w]
                rfl
              refine one_ (i := 19) (N := some 37) #[true, true, true, true, true, true, true, true, true, true, true, true, true, true, true, true, true, true, true, true, true, false, false, false, false, false, false, false, false, false, false, false, false, false, false] rfl rfl (one_of HT_.out (by kernel_rfl)) (by decide) (fun K hK => ?_)
              refine goes_ Try.func11 (by kernel_rfl) rfl #[.agg #[.int .u32 0, .int .u32 0, .int .u16 0, .int .u16 0, .int .u8 0]] (by rfl) rfl rfl (by (try simp only [List.map_toArray, List.map_cons, List.map_nil]); first | done | rfl) ?_
              with_reducible refine (key_Hash.calls k 0 0 0 0 0 t201 _ A26.out).mono ?_
              rintro e w70 ⟨rfl, hb⟩
              refine ⟨_, rfl, ?_⟩
              have n0_ := Aside0.mk (blk_below (g := gb179) (o := .cells #[.int .u8 6, .int .u32 9, .int .u32 5, .int .u16 1, .int .u16 2, .int .u8 0, .int .u8 0] 25 (0, 0)) (by (with_reducible repeat first | apply blk_drewN | apply blk_drew | apply blk_alloc); exact BK179.out) hb)
              have n1_ := Aside0.mk (blk_below (g := gb186) (o := .cells #[.int .u32 t180, .int .u32 t181, .int .u16 t182, .int .u16 t183, .int .u8 t184] 29 (0, 0)) (by (with_reducible repeat first | apply blk_drewN | apply blk_drew | apply blk_alloc); exact BK186.out) hb)
              have n2_ := Aside0.mk (blk_below (g := gb200) (o := .cells #[.int .u32 t194, .int .u32 t195, .int .u16 t196, .int .u16 t197, .int .u8 t198] 29 (0, 0)) (by (with_reducible repeat first | apply blk_drewN | apply blk_drew | apply blk_alloc); exact BK200.out) hb)
              have n3_ := Aside0.mk (below_step (by repeat first | (with_reducible first | exact HB.out | apply below_alloc | apply pw_below_drewN | apply below_drew1 | refine below_set ?_ GE179.out | refine below_set ?_ GE186.out | refine below_set ?_ GE200.out) | exact HB.out) hb)
              clear BK179
              clear BK186
              clear BK200
              clear HB
              have BK179 := n0_
              have BK186 := n1_
              have BK200 := n2_
              have HB := n3_
              clear n0_ n1_ n2_ n3_
              (try clear hb)
              (try clear hb2)
              (try clear hk)
              (try clear hi)
              refine hK.out _ _ ⟨(blk_cell BK186.out 0).trans rfl, (blk_cell BK186.out 1).trans rfl, (blk_cell BK186.out 2).trans rfl, (blk_cell BK186.out 3).trans rfl, (blk_cell BK186.out 4).trans rfl, (blk_cell BK200.out 0).trans rfl, (blk_cell BK200.out 1).trans rfl, (blk_cell BK200.out 2).trans rfl, (blk_cell BK200.out 3).trans rfl, (blk_cell BK200.out 4).trans rfl⟩ (fun hHeld => ?_)
              clear hK K
              refine norm_ (a' := ?_) ?_ ?_
              rotate_left
              · show Act.put _ (some 37) _ = _
                simp only [Act.put, List.setIfInBounds_toArray, List.set_cons_zero, List.set_cons_succ, i64_w, i32_w]
                rfl
              refine one_ (i := 21) (N := some 39) #[true, true, true, true, true, true, true, true, true, true, true, true, true, true, true, true, true, true, true, true, true, true, false, false, false, false, false, false, false, false, false, false, false, false, false] rfl rfl (one_of HT_.out (by kernel_rfl)) (by decide) (fun K hK => ?_)
              refine goes_ Try.func11 (by kernel_rfl) rfl #[.agg #[.int .u32 t180, .int .u32 t181, .int .u16 t182, .int .u16 t183, .int .u8 t184]] (by rfl) rfl rfl (by (try simp only [List.map_toArray, List.map_cons, List.map_nil]); first | done | rfl) ?_
              with_reducible refine (key_Hash.calls k t180 t181 t182 t183 t184 t202 _ A27.out).mono ?_
              rintro e w71 ⟨rfl, hb⟩
              refine ⟨_, rfl, ?_⟩
              have n0_ := Aside0.mk (blk_below (g := gb179) (o := .cells #[.int .u8 6, .int .u32 9, .int .u32 5, .int .u16 1, .int .u16 2, .int .u8 0, .int .u8 0] 25 (0, 0)) (by (with_reducible repeat first | apply blk_drewN | apply blk_drew | apply blk_alloc); exact BK179.out) hb)
              have n1_ := Aside0.mk (blk_below (g := gb186) (o := .cells #[.int .u32 t180, .int .u32 t181, .int .u16 t182, .int .u16 t183, .int .u8 t184] 29 (0, 0)) (by (with_reducible repeat first | apply blk_drewN | apply blk_drew | apply blk_alloc); exact BK186.out) hb)
              have n2_ := Aside0.mk (blk_below (g := gb200) (o := .cells #[.int .u32 t194, .int .u32 t195, .int .u16 t196, .int .u16 t197, .int .u8 t198] 29 (0, 0)) (by (with_reducible repeat first | apply blk_drewN | apply blk_drew | apply blk_alloc); exact BK200.out) hb)
              have n3_ := Aside0.mk (below_step (by repeat first | (with_reducible first | exact HB.out | apply below_alloc | apply pw_below_drewN | apply below_drew1 | refine below_set ?_ GE179.out | refine below_set ?_ GE186.out | refine below_set ?_ GE200.out) | exact HB.out) hb)
              clear BK179
              clear BK186
              clear BK200
              clear HB
              have BK179 := n0_
              have BK186 := n1_
              have BK200 := n2_
              have HB := n3_
              clear n0_ n1_ n2_ n3_
              (try clear hb)
              (try clear hb2)
              (try clear hk)
              (try clear hi)
              refine hK.out _ _ ⟨(blk_cell BK186.out 0).trans rfl, (blk_cell BK186.out 1).trans rfl, (blk_cell BK186.out 2).trans rfl, (blk_cell BK186.out 3).trans rfl, (blk_cell BK186.out 4).trans rfl, (blk_cell BK200.out 0).trans rfl, (blk_cell BK200.out 1).trans rfl, (blk_cell BK200.out 2).trans rfl, (blk_cell BK200.out 3).trans rfl, (blk_cell BK200.out 4).trans rfl⟩ (fun hHeld => ?_)
              clear hK K
              refine norm_ (a' := ?_) ?_ ?_
              rotate_left
              · show Act.put _ (some 39) _ = _
                simp only [Act.put, List.setIfInBounds_toArray, List.set_cons_zero, List.set_cons_succ, i64_w, i32_w]
                rfl
              refine pure_ (i := 22) (N := some 40) (v := ?_) (a' := ?_) #[true, true, true, true, true, true, true, true, true, true, true, true, true, true, true, true, true, true, true, true, true, true, true, false, false, false, false, false, false, false, false, false, false, false, false] rfl rfl (any_of HT_.out (by kernel_rfl)) (fun _ _ _ h => h) (Or.inl ⟨by rfl, ?_⟩) ?_ ?_
              rotate_left
              · intro w'
                go_simp
                with_reducible rfl
              rotate_left
              · simp only [Act.put, List.setIfInBounds_toArray, List.set_cons_zero, List.set_cons_succ, i64_w, i32_w]
                rfl
              refine pure_ (i := 23) (N := some 41) (v := ?_) (a' := ?_) #[true, true, true, true, true, true, true, true, true, true, true, true, true, true, true, true, true, true, true, true, true, true, true, true, false, false, false, false, false, false, false, false, false, false, false] rfl rfl (any_of HT_.out (by kernel_rfl)) (fun _ _ _ h => h) (Or.inl ⟨by rfl, ?_⟩) ?_ ?_
              rotate_left
              · intro w'
                go_simp
                with_reducible rfl
              rotate_left
              · simp only [Act.put, List.setIfInBounds_toArray, List.set_cons_zero, List.set_cons_succ, i64_w, i32_w]
                rfl
              refine pure_ (i := 24) (N := some 42) (v := ?_) (a' := ?_) #[true, true, true, true, true, true, true, true, true, true, true, true, true, true, true, true, true, true, true, true, true, true, true, true, true, false, false, false, false, false, false, false, false, false, false] rfl rfl (any_of HT_.out (by kernel_rfl)) (fun _ _ _ h => h) (Or.inl ⟨by rfl, ?_⟩) ?_ ?_
              rotate_left
              · intro w'
                go_simp
                with_reducible rfl
              rotate_left
              · simp only [Act.put, List.setIfInBounds_toArray, List.set_cons_zero, List.set_cons_succ, i64_w, i32_w]
                rfl
              refine take_ (i := 25) (N := some 43) (v := ?_) (a' := ?_) #[true, true, true, true, true, true, true, true, true, true, true, true, true, true, true, true, true, true, true, true, true, true, true, true, true, true, false, false, false, false, false, false, false, false, false] rfl rfl (take_ofW HT_.out HW_.out (by kernel_rfl)) (fun _ _ _ h => h) (Or.inl ⟨by rfl, ?_⟩) hHeld ?_ ?_
              rotate_left
              · rintro w' ⟨s0, s1, s2, s3, s4, s5, s6, s7, s8, s9⟩
                go_simp
                with_reducible rfl
              rotate_left
              · simp only [Act.put, List.setIfInBounds_toArray, List.set_cons_zero, List.set_cons_succ, i64_w, i32_w]
                rfl
              refine one_ (i := 26) (N := some 44) #[true, true, true, true, true, true, true, true, true, true, true, true, true, true, true, true, true, true, true, true, true, true, true, true, true, true, true, false, false, false, false, false, false, false, false] rfl rfl (one_of HT_.out (by kernel_rfl)) (by decide) (fun K hK => ?_)
              refine goes_ Try.func13 (by kernel_rfl) rfl #[.agg #[.int .u32 t180, .int .u32 t181, .int .u16 t182, .int .u16 t183, .int .u8 t184], .int .i64 1] (by rfl) rfl rfl (by (try simp only [List.map_toArray, List.map_cons, List.map_nil]); first | done | rfl) ?_
              with_reducible refine (key_Stripe.calls k t180 t181 t182 t183 t184 1 t203 _ A49.out).mono ?_
              rintro e w72 ⟨rfl, hb⟩
              refine ⟨_, rfl, ?_⟩
              have n0_ := Aside0.mk (blk_below (g := gb179) (o := .cells #[.int .u8 6, .int .u32 9, .int .u32 5, .int .u16 1, .int .u16 2, .int .u8 0, .int .u8 0] 25 (0, 0)) (by (with_reducible repeat first | apply blk_drewN | apply blk_drew | apply blk_alloc); exact BK179.out) hb)
              have n1_ := Aside0.mk (blk_below (g := gb186) (o := .cells #[.int .u32 t180, .int .u32 t181, .int .u16 t182, .int .u16 t183, .int .u8 t184] 29 (0, 0)) (by (with_reducible repeat first | apply blk_drewN | apply blk_drew | apply blk_alloc); exact BK186.out) hb)
              have n2_ := Aside0.mk (blk_below (g := gb200) (o := .cells #[.int .u32 t194, .int .u32 t195, .int .u16 t196, .int .u16 t197, .int .u8 t198] 29 (0, 0)) (by (with_reducible repeat first | apply blk_drewN | apply blk_drew | apply blk_alloc); exact BK200.out) hb)
              have n3_ := Aside0.mk (below_step (by repeat first | (with_reducible first | exact HB.out | apply below_alloc | apply pw_below_drewN | apply below_drew1 | refine below_set ?_ GE179.out | refine below_set ?_ GE186.out | refine below_set ?_ GE200.out) | exact HB.out) hb)
              clear BK179
              clear BK186
              clear BK200
              clear HB
              have BK179 := n0_
              have BK186 := n1_
              have BK200 := n2_
              have HB := n3_
              clear n0_ n1_ n2_ n3_
              (try clear hb)
              (try clear hb2)
              (try clear hk)
              (try clear hi)
              refine hK.out _ _ ⟨(blk_cell BK186.out 0).trans rfl, (blk_cell BK186.out 1).trans rfl, (blk_cell BK186.out 2).trans rfl, (blk_cell BK186.out 3).trans rfl, (blk_cell BK186.out 4).trans rfl, (blk_cell BK200.out 0).trans rfl, (blk_cell BK200.out 1).trans rfl, (blk_cell BK200.out 2).trans rfl, (blk_cell BK200.out 3).trans rfl, (blk_cell BK200.out 4).trans rfl⟩ (fun hHeld => ?_)
              clear hK K
              refine norm_ (a' := ?_) ?_ ?_
              rotate_left
              · show Act.put _ (some 44) _ = _
                simp only [Act.put, List.setIfInBounds_toArray, List.set_cons_zero, List.set_cons_succ, i64_w, i32_w]
                rfl
              refine pure_ (i := 27) (N := some 45) (v := ?_) (a' := ?_) #[true, true, true, true, true, true, true, true, true, true, true, true, true, true, true, true, true, true, true, true, true, true, true, true, true, true, true, true, false, false, false, false, false, false, false] rfl rfl (any_of HT_.out (by kernel_rfl)) (fun _ _ _ h => h) (Or.inl ⟨by rfl, ?_⟩) ?_ ?_
              rotate_left
              · intro w'
                go_simp
                with_reducible rfl
              rotate_left
              · simp only [Act.put, List.setIfInBounds_toArray, List.set_cons_zero, List.set_cons_succ, i64_w, i32_w]
                rfl
              refine pure_ (i := 28) (N := some 46) (v := ?_) (a' := ?_) #[true, true, true, true, true, true, true, true, true, true, true, true, true, true, true, true, true, true, true, true, true, true, true, true, true, true, true, true, true, false, false, false, false, false, false] rfl rfl (any_of HT_.out (by kernel_rfl)) (fun _ _ _ h => h) (Or.inl ⟨by rfl, ?_⟩) ?_ ?_
              rotate_left
              · intro w'
                go_simp
                with_reducible rfl
              rotate_left
              · simp only [Act.put, List.setIfInBounds_toArray, List.set_cons_zero, List.set_cons_succ, i64_w, i32_w]
                rfl
              refine pure_ (i := 29) (N := some 47) (v := ?_) (a' := ?_) #[true, true, true, true, true, true, true, true, true, true, true, true, true, true, true, true, true, true, true, true, true, true, true, true, true, true, true, true, true, true, false, false, false, false, false] rfl rfl (any_of HT_.out (by kernel_rfl)) (fun _ _ _ h => h) (Or.inl ⟨by rfl, ?_⟩) ?_ ?_
              rotate_left
              · intro w'
                go_simp
                with_reducible rfl
              rotate_left
              · simp only [Act.put, List.setIfInBounds_toArray, List.set_cons_zero, List.set_cons_succ, i64_w, i32_w]
                rfl
              refine pure_ (i := 30) (N := some 48) (v := ?_) (a' := ?_) #[true, true, true, true, true, true, true, true, true, true, true, true, true, true, true, true, true, true, true, true, true, true, true, true, true, true, true, true, true, true, true, false, false, false, false] rfl rfl (any_of HT_.out (by kernel_rfl)) (fun _ _ _ h => h) (Or.inl ⟨by rfl, ?_⟩) ?_ ?_
              rotate_left
              · intro w'
                go_simp
                with_reducible rfl
              rotate_left
              · simp only [Act.put, List.setIfInBounds_toArray, List.set_cons_zero, List.set_cons_succ, i64_w, i32_w]
                rfl
              refine take_ (i := 31) (N := some 49) (v := ?_) (a' := ?_) #[true, true, true, true, true, true, true, true, true, true, true, true, true, true, true, true, true, true, true, true, true, true, true, true, true, true, true, true, true, true, true, true, false, false, false] rfl rfl (take_ofW HT_.out HW_.out (by kernel_rfl)) (fun _ _ _ h => h) (Or.inl ⟨by rfl, ?_⟩) hHeld ?_ ?_
              rotate_left
              · rintro w' ⟨s0, s1, s2, s3, s4, s5, s6, s7, s8, s9⟩
                go_simp
                with_reducible rfl
              rotate_left
              · simp only [Act.put, List.setIfInBounds_toArray, List.set_cons_zero, List.set_cons_succ, i64_w, i32_w]
                rfl
              refine one_ (i := 32) (N := some 50) #[true, true, true, true, true, true, true, true, true, true, true, true, true, true, true, true, true, true, true, true, true, true, true, true, true, true, true, true, true, true, true, true, true, false, false] rfl rfl (one_of HT_.out (by kernel_rfl)) (by decide) (fun K hK => ?_)
              refine goes_ Try.func15 (by kernel_rfl) rfl #[.agg #[.int .u32 0, .int .u32 0, .int .u16 0, .int .u16 0, .int .u8 0], .agg #[.int .u32 t180, .int .u32 t181, .int .u16 t182, .int .u16 t183, .int .u8 t184]] (by rfl) rfl rfl (by (try simp only [List.map_toArray, List.map_cons, List.map_nil]); first | done | rfl) ?_
              with_reducible refine (key_Less.calls k 0 0 0 0 0 t180 t181 t182 t183 t184 t204 _ A51.out).mono ?_
              rintro e w73 ⟨rfl, hb⟩
              refine ⟨_, rfl, ?_⟩
              have n0_ := Aside0.mk (blk_below (g := gb179) (o := .cells #[.int .u8 6, .int .u32 9, .int .u32 5, .int .u16 1, .int .u16 2, .int .u8 0, .int .u8 0] 25 (0, 0)) (by (with_reducible repeat first | apply blk_drewN | apply blk_drew | apply blk_alloc); exact BK179.out) hb)
              have n1_ := Aside0.mk (blk_below (g := gb186) (o := .cells #[.int .u32 t180, .int .u32 t181, .int .u16 t182, .int .u16 t183, .int .u8 t184] 29 (0, 0)) (by (with_reducible repeat first | apply blk_drewN | apply blk_drew | apply blk_alloc); exact BK186.out) hb)
              have n2_ := Aside0.mk (blk_below (g := gb200) (o := .cells #[.int .u32 t194, .int .u32 t195, .int .u16 t196, .int .u16 t197, .int .u8 t198] 29 (0, 0)) (by (with_reducible repeat first | apply blk_drewN | apply blk_drew | apply blk_alloc); exact BK200.out) hb)
              have n3_ := Aside0.mk (below_step (by repeat first | (with_reducible first | exact HB.out | apply below_alloc | apply pw_below_drewN | apply below_drew1 | refine below_set ?_ GE179.out | refine below_set ?_ GE186.out | refine below_set ?_ GE200.out) | exact HB.out) hb)
              clear BK179
              clear BK186
              clear BK200
              clear HB
              have BK179 := n0_
              have BK186 := n1_
              have BK200 := n2_
              have HB := n3_
              clear n0_ n1_ n2_ n3_
              (try clear hb)
              (try clear hb2)
              (try clear hk)
              (try clear hi)
              refine hK.out _ _ ⟨(blk_cell BK186.out 0).trans rfl, (blk_cell BK186.out 1).trans rfl, (blk_cell BK186.out 2).trans rfl, (blk_cell BK186.out 3).trans rfl, (blk_cell BK186.out 4).trans rfl, (blk_cell BK200.out 0).trans rfl, (blk_cell BK200.out 1).trans rfl, (blk_cell BK200.out 2).trans rfl, (blk_cell BK200.out 3).trans rfl, (blk_cell BK200.out 4).trans rfl⟩ (fun hHeld => ?_)
              clear hK K
              refine norm_ (a' := ?_) ?_ ?_
              rotate_left
              · show Act.put _ (some 50) _ = _
                simp only [Act.put, List.setIfInBounds_toArray, List.set_cons_zero, List.set_cons_succ, i64_w, i32_w]
                rfl
              refine pure_ (i := 33) (N := some 51) (v := ?_) (a' := ?_) #[true, true, true, true, true, true, true, true, true, true, true, true, true, true, true, true, true, true, true, true, true, true, true, true, true, true, true, true, true, true, true, true, true, true, false] rfl rfl (any_of HT_.out (by kernel_rfl)) (fun _ _ _ h => h) (Or.inl ⟨by rfl, ?_⟩) ?_ ?_
              rotate_left
              · intro w'
                go_simp
                with_reducible rfl
              rotate_left
              · simp only [Act.put, List.setIfInBounds_toArray, List.set_cons_zero, List.set_cons_succ, i64_w, i32_w]
                rfl
              refine pure_ (i := 34) (N := some 0) (v := ?_) (a' := ?_) #[true, true, true, true, true, true, true, true, true, true, true, true, true, true, true, true, true, true, true, true, true, true, true, true, true, true, true, true, true, true, true, true, true, true, true] rfl rfl (any_of HT_.out (by kernel_rfl)) (fun _ _ _ h => h) (Or.inl ⟨by rfl, ?_⟩) ?_ ?_
              rotate_left
              · intro w'
                go_simp
                with_reducible rfl
              rotate_left
              · simp only [Act.put, List.setIfInBounds_toArray, List.set_cons_zero, List.set_cons_succ, i64_w, i32_w]
                rfl
              refine done_ (done_of HT_.out (by kernel_rfl)) ?_
              try go_wp2
              go_ret
              exact ⟨by first | rfl | (simp [errW_none, errW_some] <;> rfl) | (simp [*, errW_none, errW_some] <;> rfl), by repeat first | (with_reducible first | exact HB.out | apply below_alloc | apply pw_below_drewN | apply below_drew1 | refine below_set ?_ GE179.out | refine below_set ?_ GE186.out | refine below_set ?_ GE200.out) | exact HB.out⟩
            · rw [if_neg c50] at H
              have c50b0 : (t203 == 0) = false := beq_eq_false_iff_ne.mpr c50
              have c50b1 : (t203 != 0) = true := bne_iff_ne.mpr c50
              exact absurd ((Option.some.inj H).trans HT.out) (by decide)
      · rw [if_neg c6] at H
        have c6b0 : ((t194 == t180 && (t195 == t181)) && ((t196 == t182 && (t197 == t183)) && (t198 == t184))) = false := by simpa using c6
        clear c6
        exact absurd ((Option.some.inj H).trans HT.out) (by decide)
    · replace c5 := Bool.eq_false_iff.mpr c5
      subst c5
      have H1 : (some false) = some r := by rw [if_neg (show ¬ (false = true) by decide)] at H; exact H
      clear H
      have H := H1
      clear H1
      exact absurd ((Option.some.inj H).trans HT.out) (by decide)
  · rw [if_neg c4] at H
    have c4b0 : ((t180 == 5 && (t181 == 9)) && ((t182 == 2 && (t183 == 1)) && (t184 == 6))) = false := by simpa using c4
    clear c4
    exact absurd ((Option.some.inj H).trans HT.out) (by decide)
end Go.Proofs.Ytplioggeccoleaa.Key
