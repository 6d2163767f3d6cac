-- Made by a program of this workplace (wip/pr.sh) out of Lean's print of the translation; Lean checks it.
import Derived.Test.YtofjgdbiieanjaaAllx0
import Derived.Test.YtofjgdbiieanjaaAllx53
import Derived.Test.YtofjgdbiieanjaaAllx49
import Derived.Test.YtofjgdbiieanjaaAllx28
import Derived.Test.YtofjgdbiieanjaaOwn
namespace Go.Proofs.Ytofjgdbiieanjaa.All
open Go.Proofs.Ytofjgdbiieanjaa.Ext
open Go.RowKit Go.Proofs.YtofjgdbiieanjaaW.PrintWords Go.Proofs.YtofjgdbiieanjaaW.PrintLast Go.Proofs.YtofjgdbiieanjaaW.PrintMore
attribute [local go_sem] max2_int min2_int max_two min_two max_three min_three max_four min_four   -- for this text's walks alone
set_option linter.unusedVariables false
set_option linter.unusedSimpArgs false

/-! ### tcp_Build: function 34 -/
def tcp_Build.j0 : Nat → Int → Int → Int → Int → Int → List Int → Bool → Option (List Int × Int)
  | 0, _, _, _, _, _, _, _ => none
  | k + 1, x0, x1, x2, x3, x4, x5, x15 => if x15 = true then (some (([] : List Int), 11)) else (if (x5.length : Int) > 1460 then (some (([] : List Int), 2)) else ((field_Cut.f k (Go.bits .or .u64 (IntKind.u64.wrap ((IntKind.u64.wrap (x2)) * 65536)) (IntKind.u64.wrap (x3))) 4).bind fun t337 => (if 8 ≤ 281474976710656 then (if 6 ≤ 281474976710656 then ((slices_Concat_byte_byte.f k (([t337, (List.replicate 8 0), (([80, x4] : List Int)), (List.replicate 6 0), x5] : List (List Int)))).bind fun t352 => (if 16 ≤ (t352.length : Int) then ((tcp_Pseudo.f k 6 x0 x1 (t352.length : Int)).bind fun t360 => ((sum_Add.f k t360 t352).bind fun t361 => ((field_Cut.f k (IntKind.u64.wrap (Go.bits .xor .u16 65535 t361)) 2).bind fun t362 => (if t362.length + 16 ≤ t352.length then ((slices_Clip.f (splice t352 ((16 : Int).toNat) t362)).bind fun t368 => (some (t368, 0))) else (none))))) else (none))) else (none)) else (none))))
def tcp_Build.f (k : Nat) (a0 : Int) (a1 : Int) (a2 : Int) (a3 : Int) (a4 : Int) (l5 : List Int) : Option (List Int × Int) := (tcp_Sane.f a4).bind fun t336 => (if t336 = true then (tcp_Build.j0 k a0 a1 a2 a3 a4 l5 ((Go.bits .andNot .u8 a4 63) != 0)) else (tcp_Build.j0 k a0 a1 a2 a3 a4 l5 true))
theorem tcp_Build.mono_l : ∀ k, (∀ y0 y1 y2 y3 y4 y5 y6, LeO (tcp_Build.j0 k y0 y1 y2 y3 y4 y5 y6) (tcp_Build.j0 (k + 1) y0 y1 y2 y3 y4 y5 y6))
  | 0 => fun _ _ _ _ _ _ _ r h => by simp [tcp_Build.j0] at h
  | k + 1 => by
    have ih0 := tcp_Build.mono_l k
    · intro y0 y1 y2 y3 y4 y5 y6
      unfold tcp_Build.j0
      repeat' first
      | (with_reducible exact ih0 _ _ _ _ _ _ _)
      | (with_reducible exact field_Cut.mono _ _ _)
      | (with_reducible exact slices_Concat_byte_byte.mono _ _)
      | (with_reducible exact sum_Add.mono _ _ _)
      | (with_reducible exact tcp_Pseudo.mono _ _ _ _ _)
      | (with_reducible exact LeO.refl _)
      | (with_reducible exact LeO.none _)
      | (with_reducible refine LeO.ite ?_ ?_)
      | (with_reducible refine LeO.bind ?_ (fun _ => ?_))
      | exact ih0 _ _ _ _ _ _ _
      | exact field_Cut.mono _ _ _
      | exact slices_Concat_byte_byte.mono _ _
      | exact sum_Add.mono _ _ _
      | exact tcp_Pseudo.mono _ _ _ _ _
      | exact LeO.none _
      | refine LeO.ite ?_ ?_
      | refine LeO.bind ?_ (fun _ => ?_)
theorem tcp_Build.mono : ∀ a0 a1 a2 a3 a4 a5 k, LeO (tcp_Build.f k a0 a1 a2 a3 a4 a5) (tcp_Build.f (k + 1) a0 a1 a2 a3 a4 a5) := by
  intro a0 a1 a2 a3 a4 a5 k
  have ih0 := tcp_Build.mono_l k
  unfold tcp_Build.f
  repeat' first
      | (with_reducible exact ih0 _ _ _ _ _ _ _)
      | (with_reducible exact field_Cut.mono _ _ _)
      | (with_reducible exact slices_Concat_byte_byte.mono _ _)
      | (with_reducible exact sum_Add.mono _ _ _)
      | (with_reducible exact tcp_Pseudo.mono _ _ _ _ _)
      | (with_reducible exact LeO.refl _)
      | (with_reducible exact LeO.none _)
      | (with_reducible refine LeO.ite ?_ ?_)
      | (with_reducible refine LeO.bind ?_ (fun _ => ?_))
      | exact ih0 _ _ _ _ _ _ _
      | exact field_Cut.mono _ _ _
      | exact slices_Concat_byte_byte.mono _ _
      | exact sum_Add.mono _ _ _
      | exact tcp_Pseudo.mono _ _ _ _ _
      | exact LeO.none _
      | refine LeO.ite ?_ ?_
      | refine LeO.bind ?_ (fun _ => ?_)
def tcp_Build.T5 : Bool × List (List Nat × List Nat) := (true, [([], []), ([0], [0]), ([1], [1]), ([], []), ([3], [3]), ([2, 4], [2, 4]), ([5], [5]), ([], []), ([], []), ([8], [8]), ([], []), ([], []), ([6, 7, 9, 10, 11], [6, 7, 9, 10, 11]), ([12, 6], [12]), ([13, 13, 0, 1, 2, 3, 4, 5, 6, 7, 8, 9, 10, 11, 12, 13], [13])])
def tcp_Build.B5 : List Nat := [0, 1, 3, 0, 8, 31, 63, 0, 0, 256, 0, 0, 4095, 8191, 16383]
theorem tcp_Build.tab5 : rtab .any (opsOf Try.f34 5) = tcp_Build.T5 := by kernel_rfl
theorem tcp_Build.bits5 : waitsOk tcp_Build.T5.2 tcp_Build.B5 = true := by kernel_rfl
def tcp_Build.T6 : Bool × List (List Nat × List Nat) := (true, [([], []), ([0], [0]), ([], []), ([], []), ([], []), ([4], [4]), ([2, 3, 5], [2, 3, 5]), ([], []), ([6, 7, 6], [6, 7]), ([8], [8]), ([9], [9]), ([10, 8], [10]), ([1, 11, 11], [1, 11])])
def tcp_Build.B6 : List Nat := [0, 1, 0, 0, 0, 16, 60, 0, 252, 508, 1020, 2044, 4095]
theorem tcp_Build.tab6 : rtab .any (opsOf Try.f34 6) = tcp_Build.T6 := by kernel_rfl
theorem tcp_Build.bits6 : waitsOk tcp_Build.T6.2 tcp_Build.B6 = true := by kernel_rfl
set_option maxHeartbeats 8000000 in
set_option maxRecDepth 100000 in
theorem tcp_Build.strong (k : Nat) (a0 : Int) (a1 : Int) (a2 : Int) (a3 : Int) (a4 : Int) (P5_ : Nat → Prop) (A5 : Option Addr) (c5 : Nat) (l5 : List Int) (r1 : List Int) (r2 : Int) (w : World) (hs5 : Kd.V (Kd.int .u8) 5 w w.heap.size (fun k_ => P5_ k_) (.slice A5 l5.length c5) l5) (h : tcp_Build.f k a0 a1 a2 a3 a4 l5 = some (r1, r2)) :
    Calls Try.prog 34 #[.int .u32 a0, .int .u32 a1, .int .u16 a2, .int .u16 a3, .int .u8 a4, .slice A5 l5.length c5] w fun e w' => ∃ v0_ : Value, e = .returned (.tuple #[v0_, .int .i64 r2]) ∧ Kd.K (Kd.int .u8) 5 w' w.heap.size (fun _ => True) v0_ r1 ∧ Below w.heap.size w w' := by
 have HO5 := aS (show Kd.V (Kd.int .u8) 5 w w.heap.size (fun k_ => (P5_ k_ ∨ w.heap.size ≤ k_)) (.slice A5 l5.length c5) l5 from Kd.V_mono hs5 (fun k_ hk => .inl hk))
 have HB := aS (Below.refl w.heap.size w)
 have H := h
 unfold tcp_Build.f at H
 clear h
 have HC7 := aS H
 clear H
 go_enter Try.func34, Try.ntmps34
 go_upto_region 1 with (fail)
 go_cut [15] (fun v15 wc => ∃ (kq : Nat) (x15_6 : Bool), v15 = .bool x15_6 ∧ Aside0 (tcp_Build.j0 kq a0 a1 a2 a3 a4 l5 x15_6 = some (r1, r2)) ∧ Aside0 (kq ≤ k) ∧ Aside0 (Kd.V (Kd.int .u8) 5 wc w.heap.size (fun k_ => (P5_ k_ ∨ w.heap.size ≤ k_)) (.slice A5 l5.length c5) l5) ∧ Aside0 (Below w.heap.size w wc))
 case first =>
  have H := HC7.out
  clear HC7
  replace H := Option.bind_eq_some_iff.mp H
  obtain ⟨t336, A80, H⟩ := H
  try dsimp -simprocs only at H
  have A8 := aS A80
  clear A80
  by_cases c9 : t336 = true
  ·subst c9
   rw [if_pos rfl] at H
   have H1 := H; clear H; have H := H1; clear H1
   have H' := aS H
   clear H
   go_wp2_with (first | ((with_reducible refine gate_callee (f := 36) rfl ?_); refine goesL_ (some 17) rfl rfl Try.func36 (by kernel_rfl) rfl #[.int .u8 a4] rfl (by (try simp only [List.map_toArray, List.map_cons, List.map_nil]); first | done | rfl) ?_; (with_reducible refine (tcp_Sane.calls a4 true _ A8.out).mono ?_); rintro e w' ⟨rfl, ⟨nd, rfl⟩⟩; refine ⟨_, rfl, ?_⟩))
   go_meet
   case rel => exact ⟨_, (((Go.bits .andNot .u8 a4 63) != 0)), (by first | rfl | (simp; done) | (simp [*]; done)), H', ⟨by first | omega | exact Nat.le_refl _⟩, ⟨tV HO5.out⟩, ⟨tB HB.out⟩⟩
  ·replace c9 := Bool.eq_false_iff.mpr c9
   subst c9
   rw [if_neg (show ¬ (false = true) by decide)] at H
   have H1 := H; clear H; have H := H1; clear H1
   have H' := aS H
   clear H
   go_wp2_with (first | ((with_reducible refine gate_callee (f := 36) rfl ?_); refine goesL_ (some 17) rfl rfl Try.func36 (by kernel_rfl) rfl #[.int .u8 a4] rfl (by (try simp only [List.map_toArray, List.map_cons, List.map_nil]); first | done | rfl) ?_; (with_reducible refine (tcp_Sane.calls a4 false _ A8.out).mono ?_); rintro e w' ⟨rfl, ⟨nd, rfl⟩⟩; refine ⟨_, rfl, ?_⟩))
   go_meet
   case rel => exact ⟨_, (true), (by first | rfl | (simp; done) | (simp [*]; done)), H', ⟨by first | omega | exact Nat.le_refl _⟩, ⟨tV HO5.out⟩, ⟨tB HB.out⟩⟩
 case rest =>
  clear HC7; (try clear c5); obtain ⟨kq, x15_6, rfl, HA, HJ6, HO_5, HB⟩ := hcut
  cases kq with
  | zero => exact absurd HA.out (by simp [tcp_Build.j0])
  | succ kj6 =>
   have H := HA.out
   clear HA
   simp only [tcp_Build.j0] at H
   by_cases c10 : x15_6 = true
   ·subst c10
    rw [if_pos rfl] at H
    have H1 := H; clear H; have H := H1; clear H1
    simp only [Option.some.injEq, Prod.mk.injEq] at H
    obtain ⟨rfl, rfl⟩ := H
    go_wp2
    go_ret2
    exact ⟨_, by first | rfl | (simp [errW_none, errW_some] <;> rfl) | (simp [*, errW_none, errW_some] <;> rfl), Kd.K_nil _ _ _ _ _, tB HB.out⟩
   ·replace c10 := Bool.eq_false_iff.mpr c10
    subst c10
    rw [if_neg (show ¬ (false = true) by decide)] at H
    have H1 := H; clear H; have H := H1; clear H1
    by_cases c11 : (l5.length : Int) > 1460
    ·rw [if_pos c11] at H
     have c11b0 : decide (1460 < (l5.length : Int)) = true := decide_eq_true c11
     have c11b1 : decide (1460 < l5.length) = true := decide_eq_true (by omega)
     clear c11
     simp only [Option.some.injEq, Prod.mk.injEq] at H
     obtain ⟨rfl, rfl⟩ := H
     go_wp2
     go_ret2
     exact ⟨_, by first | rfl | (simp [errW_none, errW_some] <;> rfl) | (simp [*, errW_none, errW_some] <;> rfl), Kd.K_nil _ _ _ _ _, tB HB.out⟩
    ·rw [if_neg c11] at H
     have c11b0 : decide (1460 < (l5.length : Int)) = false := decide_eq_false c11
     have c11b1 : decide (1460 < l5.length) = false := decide_eq_false (by omega)
     clear c11
     replace H := Option.bind_eq_some_iff.mp H
     obtain ⟨t337, A120, H⟩ := H
     try dsimp -simprocs only at H
     have A12 := aS A120
     clear A120
     by_cases c13 : 8 ≤ 281474976710656
     ·rw [if_pos c13] at H
      have c13b0 := eq_true c13
      have c13b1 : decide (8 ≤ 281474976710656) = true := decide_eq_true c13
      clear c13
      obtain ⟨y340, hy340⟩ : ∃ y_ : List Int, y_ = (List.replicate 8 0) := ⟨_, rfl⟩
      first | with_reducible replace H := bindY hy340 H | rw [← hy340] at H | skip
      try dsimp -simprocs only at H
      have Ny340 := aS hy340
      clear hy340
      obtain ⟨y343, hy343⟩ : ∃ y_ : List Int, y_ = (([80, a4] : List Int)) := ⟨_, rfl⟩
      first | with_reducible replace H := bindY hy343 H | rw [← hy343] at H | skip
      try dsimp -simprocs only at H
      have Ny343 := aS hy343
      clear hy343
      by_cases c14 : 6 ≤ 281474976710656
      ·rw [if_pos c14] at H
       have c14b0 := eq_true c14
       have c14b1 : decide (6 ≤ 281474976710656) = true := decide_eq_true c14
       clear c14
       obtain ⟨y346, hy346⟩ : ∃ y_ : List Int, y_ = (List.replicate 6 0) := ⟨_, rfl⟩
       first | with_reducible replace H := bindY hy346 H | rw [← hy346] at H | skip
       try dsimp -simprocs only at H
       have Ny346 := aS hy346
       clear hy346
       obtain ⟨y349, hy349⟩ : ∃ y_ : List (List Int), y_ = (([t337, y340, y343, y346, l5] : List (List Int))) := ⟨_, rfl⟩
       first | with_reducible replace H := bindY hy349 H | rw [← hy349] at H | skip
       try dsimp -simprocs only at H
       have Ny349 := aS hy349
       clear hy349
       replace H := Option.bind_eq_some_iff.mp H
       obtain ⟨t352, A150, H⟩ := H
       try dsimp -simprocs only at H
       have A15 := aS A150
       clear A150
       by_cases c16 : 16 ≤ (t352.length : Int)
       ·rw [if_pos c16] at H
        have c16b0 := eq_true c16
        have c16b1 : decide (16 ≤ (t352.length : Int)) = true := decide_eq_true c16
        clear c16
        obtain ⟨y355, hy355⟩ : ∃ y_ : List Int, y_ = (t352.drop 16) := ⟨_, rfl⟩
        try dsimp -simprocs only at H
        have Ny355 := aS hy355
        clear hy355
        replace H := Option.bind_eq_some_iff.mp H
        obtain ⟨t360, A170, H⟩ := H
        try dsimp -simprocs only at H
        have A17 := aS A170
        clear A170
        replace H := Option.bind_eq_some_iff.mp H
        obtain ⟨t361, A180, H⟩ := H
        try dsimp -simprocs only at H
        have A18 := aS A180
        clear A180
        replace H := Option.bind_eq_some_iff.mp H
        obtain ⟨t362, A190, H⟩ := H
        try dsimp -simprocs only at H
        have A19 := aS A190
        clear A190
        by_cases c20 : t362.length + 16 ≤ t352.length
        ·rw [if_pos c20] at H
         have LMc20 := aS c20
         clear c20
         obtain ⟨y365, hy365⟩ : ∃ y_ : List Int, y_ = (splice t352 ((16 : Int).toNat) t362) := ⟨_, rfl⟩
         first | with_reducible replace H := bindY hy365 H | rw [← hy365] at H | skip
         try dsimp -simprocs only at H
         have Ny365 := aS hy365
         clear hy365
         replace H := Option.bind_eq_some_iff.mp H
         obtain ⟨t368, A210, H⟩ := H
         try dsimp -simprocs only at H
         have A21 := aS A210
         clear A210
         simp only [Option.some.injEq, Prod.mk.injEq] at H
         obtain ⟨rfl, rfl⟩ := H
         try go_wp2
         replace HO_5 := aS (Kd.V_drew HO_5.out)
         replace HB := aS (below_drew1 HB.out)
         refine start_ (n := 15) (S := fun w' => True) (ds := []) #[false, false, false, false, false, false, false, false, false, false, false, false, false, false, false] (by kernel_rfl) rfl rfl trivial (fun hHeld => ?_); refine with_tabW tcp_Build.tab5 tcp_Build.bits5 (fun HT_ HW_ => ?_)
         generalize wc.drew = w22 at HO_5 HB hHeld ⊢
         refine pure_ (i := 0) (N := some 28) (v := ?_) (a' := ?_) (fl 15 1) rfl rfl (any_of HT_.out (by kernel_rfl)) (fun _ _ _ h => h) (Or.inl ⟨by rfl, ?_⟩) ?_ ?_
         rotate_left; (· intro w'; go_simp; with_reducible rfl); rotate_left; (· simp only [Act.put, q1_, q2_, q3_, i64_w, i32_w]; rfl)
         refine pure_ (i := 1) (N := some 29) (v := ?_) (a' := ?_) (fl 15 3) rfl rfl (any_of HT_.out (by kernel_rfl)) (fun _ _ _ h => h) (Or.inl ⟨by rfl, ?_⟩) ?_ ?_
         rotate_left; (· intro w'; go_simp; with_reducible rfl); rotate_left; (· simp only [Act.put, q1_, q2_, q3_, i64_w, i32_w]; rfl)
         refine pure_ (i := 2) (N := some 30) (v := ?_) (a' := ?_) (fl 15 7) rfl rfl (any_of HT_.out (by kernel_rfl)) (fun _ _ _ h => h) (Or.inl ⟨by rfl, ?_⟩) ?_ ?_
         rotate_left; (· intro w'; go_simp; with_reducible rfl); rotate_left; (· simp only [Act.put, q1_, q2_, q3_, i64_w, i32_w]; rfl)
         refine pure_ (i := 3) (N := some 31) (v := ?_) (a' := ?_) (fl 15 15) rfl rfl (any_of HT_.out (by kernel_rfl)) (fun _ _ _ h => h) (Or.inl ⟨by rfl, ?_⟩) ?_ ?_
         rotate_left; (· intro w'; go_simp; with_reducible rfl); rotate_left; (· simp only [Act.put, q1_, q2_, q3_, i64_w, i32_w]; rfl)
         refine pure_ (i := 4) (N := some 32) (v := ?_) (a' := ?_) (fl 15 31) rfl rfl (any_of HT_.out (by kernel_rfl)) (fun _ _ _ h => h) (Or.inl ⟨by rfl, ?_⟩) ?_ ?_
         rotate_left; (· intro w'; go_simp; with_reducible rfl); rotate_left; (· simp only [Act.put, q1_, q2_, q3_, i64_w, i32_w]; rfl)
         refine pure_ (i := 5) (N := some 33) (v := ?_) (a' := ?_) (fl 15 63) rfl rfl (any_of HT_.out (by kernel_rfl)) (fun _ _ _ h => h) (Or.inl ⟨by rfl, ?_⟩) ?_ ?_
         rotate_left; (· intro w'; go_simp; with_reducible rfl); rotate_left; (· simp only [Act.put, q1_, q2_, q3_, i64_w, i32_w]; rfl)
         refine pure_ (i := 8) (N := some 36) (v := ?_) (a' := ?_) (fl 15 319) rfl rfl (any_of HT_.out (by kernel_rfl)) (fun _ _ _ h => h) (Or.inl ⟨by rfl, ?_⟩) ?_ ?_
         rotate_left; (· intro w'; go_simp; with_reducible rfl); rotate_left; (· simp only [Act.put, q1_, q2_, q3_, i64_w, i32_w]; rfl)
         refine pure_ (i := 11) (N := some 39) (v := ?_) (a' := ?_) (fl 15 2367) rfl rfl (any_of HT_.out (by kernel_rfl)) (fun _ _ _ h => h) (Or.inl ⟨by rfl, ?_⟩) ?_ ?_
         rotate_left; (· intro w'; go_simp; with_reducible rfl); rotate_left; (· simp only [Act.put, q1_, q2_, q3_, i64_w, i32_w]; rfl)
         refine join_ (σ := Value × Value × Value × Value) 3 (fl 15 4095) (fun s_ => [(34, s_.1), (35, s_.2.1), (37, s_.2.2.1), (38, s_.2.2.2)]) (fun s_ w' => (Kd.R (Kd.int .u8) 5 w' w.heap.size (fun k_ => (w.heap.size ≤ k_) ∧ some k_ ≠ (s_.2.1 : Value).ownBlock ∧ some k_ ≠ (s_.2.2.1 : Value).ownBlock ∧ some k_ ≠ (s_.2.2.2 : Value).ownBlock) s_.1 t337) ∧ (Kd.R (Kd.int .u8) 5 w' w.heap.size (fun k_ => (w.heap.size ≤ k_) ∧ some k_ ≠ (s_.1 : Value).ownBlock ∧ some k_ ≠ (s_.2.2.1 : Value).ownBlock ∧ some k_ ≠ (s_.2.2.2 : Value).ownBlock) s_.2.1 y340) ∧ (Kd.R (Kd.int .u8) 5 w' w.heap.size (fun k_ => (w.heap.size ≤ k_) ∧ some k_ ≠ (s_.1 : Value).ownBlock ∧ some k_ ≠ (s_.2.1 : Value).ownBlock ∧ some k_ ≠ (s_.2.2.2 : Value).ownBlock) s_.2.2.1 y343) ∧ (Kd.R (Kd.int .u8) 5 w' w.heap.size (fun k_ => (w.heap.size ≤ k_) ∧ some k_ ≠ (s_.1 : Value).ownBlock ∧ some k_ ≠ (s_.2.1 : Value).ownBlock ∧ some k_ ≠ (s_.2.2.1 : Value).ownBlock) s_.2.2.2 y346) ∧ (Kd.V (Kd.int .u8) 5 w' w.heap.size (fun k_ => (P5_ k_ ∨ w.heap.size ≤ k_) ∧ some k_ ≠ (s_.1 : Value).ownBlock ∧ some k_ ≠ (s_.2.1 : Value).ownBlock ∧ some k_ ≠ (s_.2.2.1 : Value).ownBlock ∧ some k_ ≠ (s_.2.2.2 : Value).ownBlock) (.slice A5 l5.length c5) l5) ∧ (Below w.heap.size w w')) ?_ ?_
         rotate_left
         ·intro hJ6_7_9_10
          refine join_ (σ := Value × Value × Value) 4 (fl 15 3071) (fun s_ => [(34, s_.1), (35, s_.2.1), (37, s_.2.2)]) (fun s_ w' => (Kd.R (Kd.int .u8) 5 w' w.heap.size (fun k_ => (w.heap.size ≤ k_) ∧ some k_ ≠ (s_.2.1 : Value).ownBlock ∧ some k_ ≠ (s_.2.2 : Value).ownBlock) s_.1 t337) ∧ (Kd.R (Kd.int .u8) 5 w' w.heap.size (fun k_ => (w.heap.size ≤ k_) ∧ some k_ ≠ (s_.1 : Value).ownBlock ∧ some k_ ≠ (s_.2.2 : Value).ownBlock) s_.2.1 y340) ∧ (Kd.R (Kd.int .u8) 5 w' w.heap.size (fun k_ => (w.heap.size ≤ k_) ∧ some k_ ≠ (s_.1 : Value).ownBlock ∧ some k_ ≠ (s_.2.1 : Value).ownBlock) s_.2.2 y343) ∧ (Kd.V (Kd.int .u8) 5 w' w.heap.size (fun k_ => (P5_ k_ ∨ w.heap.size ≤ k_) ∧ some k_ ≠ (s_.1 : Value).ownBlock ∧ some k_ ≠ (s_.2.1 : Value).ownBlock ∧ some k_ ≠ (s_.2.2 : Value).ownBlock) (.slice A5 l5.length c5) l5) ∧ (Below w.heap.size w w')) ?_ ?_
          rotate_left
          ·intro hJ6_7_9
           refine join_ (σ := Value × Value × Value) 4 (fl 15 3583) (fun s_ => [(34, s_.1), (35, s_.2.1), (38, s_.2.2)]) (fun s_ w' => (Kd.R (Kd.int .u8) 5 w' w.heap.size (fun k_ => (w.heap.size ≤ k_) ∧ some k_ ≠ (s_.2.1 : Value).ownBlock ∧ some k_ ≠ (s_.2.2 : Value).ownBlock) s_.1 t337) ∧ (Kd.R (Kd.int .u8) 5 w' w.heap.size (fun k_ => (w.heap.size ≤ k_) ∧ some k_ ≠ (s_.1 : Value).ownBlock ∧ some k_ ≠ (s_.2.2 : Value).ownBlock) s_.2.1 y340) ∧ (Kd.R (Kd.int .u8) 5 w' w.heap.size (fun k_ => (w.heap.size ≤ k_) ∧ some k_ ≠ (s_.1 : Value).ownBlock ∧ some k_ ≠ (s_.2.1 : Value).ownBlock) s_.2.2 y346) ∧ (Kd.V (Kd.int .u8) 5 w' w.heap.size (fun k_ => (P5_ k_ ∨ w.heap.size ≤ k_) ∧ some k_ ≠ (s_.1 : Value).ownBlock ∧ some k_ ≠ (s_.2.1 : Value).ownBlock ∧ some k_ ≠ (s_.2.2 : Value).ownBlock) (.slice A5 l5.length c5) l5) ∧ (Below w.heap.size w w')) ?_ ?_
           rotate_left
           ·intro hJ6_7_10
            refine join_ (σ := Value × Value × Value) 4 (fl 15 3967) (fun s_ => [(34, s_.1), (37, s_.2.1), (38, s_.2.2)]) (fun s_ w' => (Kd.R (Kd.int .u8) 5 w' w.heap.size (fun k_ => (w.heap.size ≤ k_) ∧ some k_ ≠ (s_.2.1 : Value).ownBlock ∧ some k_ ≠ (s_.2.2 : Value).ownBlock) s_.1 t337) ∧ (Kd.R (Kd.int .u8) 5 w' w.heap.size (fun k_ => (w.heap.size ≤ k_) ∧ some k_ ≠ (s_.1 : Value).ownBlock ∧ some k_ ≠ (s_.2.2 : Value).ownBlock) s_.2.1 y343) ∧ (Kd.R (Kd.int .u8) 5 w' w.heap.size (fun k_ => (w.heap.size ≤ k_) ∧ some k_ ≠ (s_.1 : Value).ownBlock ∧ some k_ ≠ (s_.2.1 : Value).ownBlock) s_.2.2 y346) ∧ (Kd.V (Kd.int .u8) 5 w' w.heap.size (fun k_ => (P5_ k_ ∨ w.heap.size ≤ k_) ∧ some k_ ≠ (s_.1 : Value).ownBlock ∧ some k_ ≠ (s_.2.1 : Value).ownBlock ∧ some k_ ≠ (s_.2.2 : Value).ownBlock) (.slice A5 l5.length c5) l5) ∧ (Below w.heap.size w w')) ?_ ?_
            rotate_left
            ·intro hJ6_9_10
             refine join_ (σ := Value × Value × Value) 4 (fl 15 4031) (fun s_ => [(35, s_.1), (37, s_.2.1), (38, s_.2.2)]) (fun s_ w' => (Kd.R (Kd.int .u8) 5 w' w.heap.size (fun k_ => (w.heap.size ≤ k_) ∧ some k_ ≠ (s_.2.1 : Value).ownBlock ∧ some k_ ≠ (s_.2.2 : Value).ownBlock) s_.1 y340) ∧ (Kd.R (Kd.int .u8) 5 w' w.heap.size (fun k_ => (w.heap.size ≤ k_) ∧ some k_ ≠ (s_.1 : Value).ownBlock ∧ some k_ ≠ (s_.2.2 : Value).ownBlock) s_.2.1 y343) ∧ (Kd.R (Kd.int .u8) 5 w' w.heap.size (fun k_ => (w.heap.size ≤ k_) ∧ some k_ ≠ (s_.1 : Value).ownBlock ∧ some k_ ≠ (s_.2.1 : Value).ownBlock) s_.2.2 y346) ∧ (Kd.V (Kd.int .u8) 5 w' w.heap.size (fun k_ => (P5_ k_ ∨ w.heap.size ≤ k_) ∧ some k_ ≠ (s_.1 : Value).ownBlock ∧ some k_ ≠ (s_.2.1 : Value).ownBlock ∧ some k_ ≠ (s_.2.2 : Value).ownBlock) (.slice A5 l5.length c5) l5) ∧ (Below w.heap.size w w')) ?_ ?_
             rotate_left
             ·intro hJ7_9_10
              refine join_ (σ := Value × Value) 5 (fl 15 2559) (fun s_ => [(34, s_.1), (35, s_.2)]) (fun s_ w' => (Kd.R (Kd.int .u8) 5 w' w.heap.size (fun k_ => (w.heap.size ≤ k_) ∧ some k_ ≠ (s_.2 : Value).ownBlock) s_.1 t337) ∧ (Kd.R (Kd.int .u8) 5 w' w.heap.size (fun k_ => (w.heap.size ≤ k_) ∧ some k_ ≠ (s_.1 : Value).ownBlock) s_.2 y340) ∧ (Kd.V (Kd.int .u8) 5 w' w.heap.size (fun k_ => (P5_ k_ ∨ w.heap.size ≤ k_) ∧ some k_ ≠ (s_.1 : Value).ownBlock ∧ some k_ ≠ (s_.2 : Value).ownBlock) (.slice A5 l5.length c5) l5) ∧ (Below w.heap.size w w')) ?_ ?_
              rotate_left
              ·intro hJ6_7
               refine join_ (σ := Value × Value) 5 (fl 15 2943) (fun s_ => [(34, s_.1), (37, s_.2)]) (fun s_ w' => (Kd.R (Kd.int .u8) 5 w' w.heap.size (fun k_ => (w.heap.size ≤ k_) ∧ some k_ ≠ (s_.2 : Value).ownBlock) s_.1 t337) ∧ (Kd.R (Kd.int .u8) 5 w' w.heap.size (fun k_ => (w.heap.size ≤ k_) ∧ some k_ ≠ (s_.1 : Value).ownBlock) s_.2 y343) ∧ (Kd.V (Kd.int .u8) 5 w' w.heap.size (fun k_ => (P5_ k_ ∨ w.heap.size ≤ k_) ∧ some k_ ≠ (s_.1 : Value).ownBlock ∧ some k_ ≠ (s_.2 : Value).ownBlock) (.slice A5 l5.length c5) l5) ∧ (Below w.heap.size w w')) ?_ ?_
               rotate_left
               ·intro hJ6_9
                refine join_ (σ := Value × Value) 5 (fl 15 3455) (fun s_ => [(34, s_.1), (38, s_.2)]) (fun s_ w' => (Kd.R (Kd.int .u8) 5 w' w.heap.size (fun k_ => (w.heap.size ≤ k_) ∧ some k_ ≠ (s_.2 : Value).ownBlock) s_.1 t337) ∧ (Kd.R (Kd.int .u8) 5 w' w.heap.size (fun k_ => (w.heap.size ≤ k_) ∧ some k_ ≠ (s_.1 : Value).ownBlock) s_.2 y346) ∧ (Kd.V (Kd.int .u8) 5 w' w.heap.size (fun k_ => (P5_ k_ ∨ w.heap.size ≤ k_) ∧ some k_ ≠ (s_.1 : Value).ownBlock ∧ some k_ ≠ (s_.2 : Value).ownBlock) (.slice A5 l5.length c5) l5) ∧ (Below w.heap.size w w')) ?_ ?_
                rotate_left
                ·intro hJ6_10
                 refine join_ (σ := Value × Value) 5 (fl 15 3007) (fun s_ => [(35, s_.1), (37, s_.2)]) (fun s_ w' => (Kd.R (Kd.int .u8) 5 w' w.heap.size (fun k_ => (w.heap.size ≤ k_) ∧ some k_ ≠ (s_.2 : Value).ownBlock) s_.1 y340) ∧ (Kd.R (Kd.int .u8) 5 w' w.heap.size (fun k_ => (w.heap.size ≤ k_) ∧ some k_ ≠ (s_.1 : Value).ownBlock) s_.2 y343) ∧ (Kd.V (Kd.int .u8) 5 w' w.heap.size (fun k_ => (P5_ k_ ∨ w.heap.size ≤ k_) ∧ some k_ ≠ (s_.1 : Value).ownBlock ∧ some k_ ≠ (s_.2 : Value).ownBlock) (.slice A5 l5.length c5) l5) ∧ (Below w.heap.size w w')) ?_ ?_
                 rotate_left
                 ·intro hJ7_9
                  refine join_ (σ := Value × Value) 5 (fl 15 3519) (fun s_ => [(35, s_.1), (38, s_.2)]) (fun s_ w' => (Kd.R (Kd.int .u8) 5 w' w.heap.size (fun k_ => (w.heap.size ≤ k_) ∧ some k_ ≠ (s_.2 : Value).ownBlock) s_.1 y340) ∧ (Kd.R (Kd.int .u8) 5 w' w.heap.size (fun k_ => (w.heap.size ≤ k_) ∧ some k_ ≠ (s_.1 : Value).ownBlock) s_.2 y346) ∧ (Kd.V (Kd.int .u8) 5 w' w.heap.size (fun k_ => (P5_ k_ ∨ w.heap.size ≤ k_) ∧ some k_ ≠ (s_.1 : Value).ownBlock ∧ some k_ ≠ (s_.2 : Value).ownBlock) (.slice A5 l5.length c5) l5) ∧ (Below w.heap.size w w')) ?_ ?_
                  rotate_left
                  ·intro hJ7_10
                   refine join_ (σ := Value × Value) 5 (fl 15 3903) (fun s_ => [(37, s_.1), (38, s_.2)]) (fun s_ w' => (Kd.R (Kd.int .u8) 5 w' w.heap.size (fun k_ => (w.heap.size ≤ k_) ∧ some k_ ≠ (s_.2 : Value).ownBlock) s_.1 y343) ∧ (Kd.R (Kd.int .u8) 5 w' w.heap.size (fun k_ => (w.heap.size ≤ k_) ∧ some k_ ≠ (s_.1 : Value).ownBlock) s_.2 y346) ∧ (Kd.V (Kd.int .u8) 5 w' w.heap.size (fun k_ => (P5_ k_ ∨ w.heap.size ≤ k_) ∧ some k_ ≠ (s_.1 : Value).ownBlock ∧ some k_ ≠ (s_.2 : Value).ownBlock) (.slice A5 l5.length c5) l5) ∧ (Below w.heap.size w w')) ?_ ?_
                   rotate_left
                   ·intro hJ9_10
                    refine join_ (σ := Value) 6 (fl 15 2431) (fun s_ => [(34, s_)]) (fun s_ w' => (Kd.R (Kd.int .u8) 5 w' w.heap.size (fun k_ => (w.heap.size ≤ k_)) s_ t337) ∧ (Kd.V (Kd.int .u8) 5 w' w.heap.size (fun k_ => (P5_ k_ ∨ w.heap.size ≤ k_) ∧ some k_ ≠ (s_ : Value).ownBlock) (.slice A5 l5.length c5) l5) ∧ (Below w.heap.size w w')) ?_ ?_
                    rotate_left
                    ·intro hJ6
                     refine join_ (σ := Value) 6 (fl 15 2495) (fun s_ => [(35, s_)]) (fun s_ w' => (Kd.R (Kd.int .u8) 5 w' w.heap.size (fun k_ => (w.heap.size ≤ k_)) s_ y340) ∧ (Kd.V (Kd.int .u8) 5 w' w.heap.size (fun k_ => (P5_ k_ ∨ w.heap.size ≤ k_) ∧ some k_ ≠ (s_ : Value).ownBlock) (.slice A5 l5.length c5) l5) ∧ (Below w.heap.size w w')) ?_ ?_
                     rotate_left
                     ·intro hJ7
                      refine join_ (σ := Value) 6 (fl 15 2879) (fun s_ => [(37, s_)]) (fun s_ w' => (Kd.R (Kd.int .u8) 5 w' w.heap.size (fun k_ => (w.heap.size ≤ k_)) s_ y343) ∧ (Kd.V (Kd.int .u8) 5 w' w.heap.size (fun k_ => (P5_ k_ ∨ w.heap.size ≤ k_) ∧ some k_ ≠ (s_ : Value).ownBlock) (.slice A5 l5.length c5) l5) ∧ (Below w.heap.size w w')) ?_ ?_
                      rotate_left
                      ·intro hJ9
                       refine join_ (σ := Value) 6 (fl 15 3391) (fun s_ => [(38, s_)]) (fun s_ w' => (Kd.R (Kd.int .u8) 5 w' w.heap.size (fun k_ => (w.heap.size ≤ k_)) s_ y346) ∧ (Kd.V (Kd.int .u8) 5 w' w.heap.size (fun k_ => (P5_ k_ ∨ w.heap.size ≤ k_) ∧ some k_ ≠ (s_ : Value).ownBlock) (.slice A5 l5.length c5) l5) ∧ (Below w.heap.size w w')) ?_ ?_
                       rotate_left
                       ·intro hJ10
                        refine four_ (i := 6) (j := 7) (k := 9) (m := 10) (Ni := some 34) (Nj := some 35) (Nk := some 37) (Nm := some 38) (fl 15 2431) (fl 15 2495) (fl 15 2879) (fl 15 3391) rfl rfl rfl rfl rfl rfl rfl rfl (four_of HT_.out (by kernel_rfl)) (by decide) (by decide) (by decide) (by decide) (fun K hK => ?_) (fun K hK => ?_) (fun K hK => ?_) (fun K hK => ?_)
                        ·skip
                         refine goes_ Try.func68 (by kernel_rfl) rfl #[.int .u64 (Go.bits .or .u64 (IntKind.u64.wrap ((IntKind.u64.wrap (a2)) * 65536)) (IntKind.u64.wrap (a3))), .int .i64 4] (by rfl) rfl rfl (by (try simp only [List.map_toArray, List.map_cons, List.map_nil]); first | done | rfl) ?_
                         with_reducible refine (field_Cut.calls kj6 (Go.bits .or .u64 (IntKind.u64.wrap ((IntKind.u64.wrap (a2)) * 65536)) (IntKind.u64.wrap (a3))) 4 t337 _ A12.out).mono ?_
                         rintro e w23 ⟨v338, rfl, ho0, hb⟩; refine ⟨_, rfl, ?_⟩
                         replace HO_5 := aS (Kd.V_elder' (tV HO_5.out) (Kd.R_base ho0) hb)
                         have HO339 := aS (Kd.R_lower (Kd.R_newM (M := fun k_ => (w.heap.size ≤ k_)) ho0 (below_size (tB HB.out)) (fun k_ h_ => h_)) (below_size (tB HB.out)))
                         replace HB := aS (below_step (tB HB.out) hb)
                         (try clear hb); (try clear hb2); (try clear hk); (try clear hi); (try clear ho0)
                         refine hK.out _ _ trivial (fun hHeld => ?_)
                         clear hK K
                         refine norm_ (a' := ?_) ?_ ?_
                         rotate_left
                         ·show Act.put _ (some 34) _ = _
                          simp only [Act.put, q1_, q2_, q3_, i64_w, i32_w]
                          rfl
                         exact norm_ (by first | (simp only [putAll, Act.put, q1_, q2_, q3_]; done) | (simp only [putAll, Act.put, q1_, q2_, q3_]; rfl)) (hJ6 (v338) _ ⟨(tR (Kd.R_mono HO339.out (fun _ hk => hk.1))), (tV HO_5.out), (tB HB.out)⟩)
                        ·skip
                         refine Kd.R_make_step (Kd.int .u8) _ 5 (by rfl) (N := 35) rfl 22 _ _ rfl 8 rfl rfl Try.underlying22 (.int .u8 0) 1 info5 rfl (by decide) (by omega) 0 (ok := fun _ => True) (okp := fun _ => True) rfl (fun _ hk => hk) trivial (by omega) (by omega) (Below.refl _ _) (Nat.le_refl _) ?_
                         intro v341 w23 ho24 hb hg_ hnew_; clear hg_ hnew_
                         (first | rw [← Ny340.out] at ho24 | (simp only [Int.reduceToNat] at ho24; rw [← Ny340.out] at ho24))
                         have n0_ := aS (Kd.V_elder' (tV HO_5.out) (Kd.R_base ho24) hb)
                         have n1_ := aS (Kd.R_lower (Kd.R_newM (M := fun k_ => (w.heap.size ≤ k_)) ho24 (below_size (tB HB.out)) (fun k_ h_ => h_)) (below_size (tB HB.out)))
                         have n2_ := aS (below_step (tB HB.out) hb)
                         clear HO_5 HB; have HO_5 := n0_; have HO342 := n1_; have HB := n2_; clear n0_ n1_ n2_ hb ho24
                         refine hK.out _ _ trivial (fun hHeld => ?_)
                         clear hK K
                         refine norm_ (a' := ?_) ?_ ?_
                         rotate_left
                         ·show Act.put _ (some 35) _ = _
                          simp only [Act.put, q1_, q2_, q3_, i64_w, i32_w]
                          rfl
                         exact norm_ (by first | (simp only [putAll, Act.put, q1_, q2_, q3_]; done) | (simp only [putAll, Act.put, q1_, q2_, q3_]; rfl)) (hJ7 (v341) _ ⟨(tR (Kd.R_mono HO342.out (fun _ hk => hk.1))), (tV HO_5.out), (tB HB.out)⟩)
                        ·skip
                         refine Kd.R_lit_step (Kd.int .u8) _ 5 ?hg (N := 37) ?hd (xs := ([80, a4] : List Int)) (inner := [.int .u8 80, .int .u8 a4]) (ok := fun _ => True) (okp := fun _ => True) ?hr ?hp (fun _ hk => hk) trivial (Below.refl _ _) (Nat.le_refl _) (by simp) ?_; (case hd => rfl); (case hg => rfl); (case hr => first | (go_simp; done) | (go_simp; rfl)); (case hp => exact (Reps.one (show Kd.M (Kd.int .u8) _ _ _ 80 [.int .u8 80] from rfl) (Reps.one (show Kd.M (Kd.int .u8) _ _ _ a4 [.int .u8 a4] from rfl) (Reps.none _ _))))
                         intro v344 w23 ho24 hb hg_ hnew_; clear hg_ hnew_
                         (first | rw [← Ny343.out] at ho24 | (simp only [Int.reduceToNat] at ho24; rw [← Ny343.out] at ho24))
                         have n0_ := aS (Kd.V_elder' (tV HO_5.out) (Kd.R_base ho24) hb)
                         have n1_ := aS (Kd.R_lower (Kd.R_newM (M := fun k_ => (w.heap.size ≤ k_)) ho24 (below_size (tB HB.out)) (fun k_ h_ => h_)) (below_size (tB HB.out)))
                         have n2_ := aS (below_step (tB HB.out) hb)
                         clear HO_5 HB; have HO_5 := n0_; have HO345 := n1_; have HB := n2_; clear n0_ n1_ n2_ hb ho24
                         refine hK.out _ _ trivial (fun hHeld => ?_)
                         clear hK K
                         refine norm_ (a' := ?_) ?_ ?_
                         rotate_left
                         ·show Act.put _ (some 37) _ = _
                          simp only [Act.put, q1_, q2_, q3_, i64_w, i32_w]
                          rfl
                         exact norm_ (by first | (simp only [putAll, Act.put, q1_, q2_, q3_]; done) | (simp only [putAll, Act.put, q1_, q2_, q3_]; rfl)) (hJ9 (v344) _ ⟨(tR (Kd.R_mono HO345.out (fun _ hk => hk.1))), (tV HO_5.out), (tB HB.out)⟩)
                        ·skip
                         refine Kd.R_make_step (Kd.int .u8) _ 5 (by rfl) (N := 38) rfl 22 _ _ rfl 6 rfl rfl Try.underlying22 (.int .u8 0) 1 info5 rfl (by decide) (by omega) 0 (ok := fun _ => True) (okp := fun _ => True) rfl (fun _ hk => hk) trivial (by omega) (by omega) (Below.refl _ _) (Nat.le_refl _) ?_
                         intro v347 w23 ho24 hb hg_ hnew_; clear hg_ hnew_
                         (first | rw [← Ny346.out] at ho24 | (simp only [Int.reduceToNat] at ho24; rw [← Ny346.out] at ho24))
                         have n0_ := aS (Kd.V_elder' (tV HO_5.out) (Kd.R_base ho24) hb)
                         have n1_ := aS (Kd.R_lower (Kd.R_newM (M := fun k_ => (w.heap.size ≤ k_)) ho24 (below_size (tB HB.out)) (fun k_ h_ => h_)) (below_size (tB HB.out)))
                         have n2_ := aS (below_step (tB HB.out) hb)
                         clear HO_5 HB; have HO_5 := n0_; have HO348 := n1_; have HB := n2_; clear n0_ n1_ n2_ hb ho24
                         refine hK.out _ _ trivial (fun hHeld => ?_)
                         clear hK K
                         refine norm_ (a' := ?_) ?_ ?_
                         rotate_left
                         ·show Act.put _ (some 38) _ = _
                          simp only [Act.put, q1_, q2_, q3_, i64_w, i32_w]
                          rfl
                         exact norm_ (by first | (simp only [putAll, Act.put, q1_, q2_, q3_]; done) | (simp only [putAll, Act.put, q1_, q2_, q3_]; rfl)) (hJ10 (v347) _ ⟨(tR (Kd.R_mono HO348.out (fun _ hk => hk.1))), (tV HO_5.out), (tB HB.out)⟩)
                       ·skip
                        rintro v347 w25 ⟨h0_, h1_, h2_⟩
                        have HO348 : Aside0 (Kd.R (Kd.int .u8) 5 w25 w.heap.size (fun k_ => (w.heap.size ≤ k_)) v347 y346) := ⟨h0_⟩
                        replace HO_5 : Aside0 (Kd.V (Kd.int .u8) 5 w25 w.heap.size (fun k_ => (P5_ k_ ∨ w.heap.size ≤ k_) ∧ some k_ ≠ (v347 : Value).ownBlock) (.slice A5 l5.length c5) l5) := ⟨h1_⟩
                        replace HB : Aside0 (Below w.heap.size w w25) := ⟨h2_⟩
                        clear h0_ h1_ h2_
                        have hHeld := trivial
                        refine norm_ (a' := ?_) ?_ ?_
                        rotate_left
                        ·simp only [putAll, Act.put, q1_, q2_, q3_]
                         rfl
                        refine three_ (i := 6) (j := 7) (k := 9) (Ni := some 34) (Nj := some 35) (Nk := some 37) (fl 15 3455) (fl 15 3519) (fl 15 3903) rfl rfl rfl rfl rfl rfl (three_of HT_.out (by kernel_rfl)) (by decide) (by decide) (by decide) (fun K hK => ?_) (fun K hK => ?_) (fun K hK => ?_)
                        ·skip
                         refine goes_ Try.func68 (by kernel_rfl) rfl #[.int .u64 (Go.bits .or .u64 (IntKind.u64.wrap ((IntKind.u64.wrap (a2)) * 65536)) (IntKind.u64.wrap (a3))), .int .i64 4] (by rfl) rfl rfl (by (try simp only [List.map_toArray, List.map_cons, List.map_nil]); first | done | rfl) ?_
                         with_reducible refine (field_Cut.calls kj6 (Go.bits .or .u64 (IntKind.u64.wrap ((IntKind.u64.wrap (a2)) * 65536)) (IntKind.u64.wrap (a3))) 4 t337 _ A12.out).mono ?_
                         rintro e w26 ⟨v338, rfl, ho0, hb⟩; refine ⟨_, rfl, ?_⟩
                         replace HO_5 := aS (Kd.V_elder' (tV HO_5.out) (Kd.R_base ho0) hb)
                         have HO339 := aS (Kd.R_lower (Kd.R_new' (Kd.R_newM (M := fun k_ => (w.heap.size ≤ k_)) ho0 (below_size (tB HB.out)) (fun k_ h_ => h_)) (Kd.R_lt (tR HO348.out))) (below_size (tB HB.out)))
                         replace HO348 := aS (Kd.R_elder' (tR HO348.out) (Kd.R_base ho0) hb)
                         replace HB := aS (below_step (tB HB.out) hb)
                         (try clear hb); (try clear hb2); (try clear hk); (try clear hi); (try clear ho0)
                         refine hK.out _ _ trivial (fun hHeld => ?_)
                         clear hK K
                         refine norm_ (a' := ?_) ?_ ?_
                         rotate_left
                         ·show Act.put _ (some 34) _ = _
                          simp only [Act.put, q1_, q2_, q3_, i64_w, i32_w]
                          rfl
                         exact norm_ (by first | (simp only [putAll, Act.put, q1_, q2_, q3_]; done) | (simp only [putAll, Act.put, q1_, q2_, q3_]; rfl)) (hJ6_10 (v338, v347) _ ⟨(tR (Kd.R_mono HO339.out (fun _ hk => ⟨hk.1.1, hk.2⟩))), (tR HO348.out), (tV (Kd.V_mono HO_5.out (fun _ hk => ⟨hk.1.1, ⟨hk.2, hk.1.2⟩⟩))), (tB HB.out)⟩)
                        ·skip
                         refine Kd.R_make_step (Kd.int .u8) _ 5 (by rfl) (N := 35) rfl 22 _ _ rfl 8 rfl rfl Try.underlying22 (.int .u8 0) 1 info5 rfl (by decide) (by omega) 0 (ok := fun _ => True) (okp := fun _ => True) rfl (fun _ hk => hk) trivial (by omega) (by omega) (Below.refl _ _) (Nat.le_refl _) ?_
                         intro v341 w26 ho27 hb hg_ hnew_; clear hg_ hnew_
                         (first | rw [← Ny340.out] at ho27 | (simp only [Int.reduceToNat] at ho27; rw [← Ny340.out] at ho27))
                         have n0_ := aS (Kd.V_elder' (tV HO_5.out) (Kd.R_base ho27) hb)
                         have n1_ := aS (Kd.R_elder' (tR HO348.out) (Kd.R_base ho27) hb)
                         have n2_ := aS (Kd.R_lower (Kd.R_new' (Kd.R_newM (M := fun k_ => (w.heap.size ≤ k_)) ho27 (below_size (tB HB.out)) (fun k_ h_ => h_)) (Kd.R_lt (tR HO348.out))) (below_size (tB HB.out)))
                         have n3_ := aS (below_step (tB HB.out) hb)
                         clear HO_5 HO348 HB; have HO_5 := n0_; have HO348 := n1_; have HO342 := n2_; have HB := n3_; clear n0_ n1_ n2_ n3_ hb ho27
                         refine hK.out _ _ trivial (fun hHeld => ?_)
                         clear hK K
                         refine norm_ (a' := ?_) ?_ ?_
                         rotate_left
                         ·show Act.put _ (some 35) _ = _
                          simp only [Act.put, q1_, q2_, q3_, i64_w, i32_w]
                          rfl
                         exact norm_ (by first | (simp only [putAll, Act.put, q1_, q2_, q3_]; done) | (simp only [putAll, Act.put, q1_, q2_, q3_]; rfl)) (hJ7_10 (v341, v347) _ ⟨(tR (Kd.R_mono HO342.out (fun _ hk => ⟨hk.1.1, hk.2⟩))), (tR HO348.out), (tV (Kd.V_mono HO_5.out (fun _ hk => ⟨hk.1.1, ⟨hk.2, hk.1.2⟩⟩))), (tB HB.out)⟩)
                        ·skip
                         refine Kd.R_lit_step (Kd.int .u8) _ 5 ?hg (N := 37) ?hd (xs := ([80, a4] : List Int)) (inner := [.int .u8 80, .int .u8 a4]) (ok := fun _ => True) (okp := fun _ => True) ?hr ?hp (fun _ hk => hk) trivial (Below.refl _ _) (Nat.le_refl _) (by simp) ?_; (case hd => rfl); (case hg => rfl); (case hr => first | (go_simp; done) | (go_simp; rfl)); (case hp => exact (Reps.one (show Kd.M (Kd.int .u8) _ _ _ 80 [.int .u8 80] from rfl) (Reps.one (show Kd.M (Kd.int .u8) _ _ _ a4 [.int .u8 a4] from rfl) (Reps.none _ _))))
                         intro v344 w26 ho27 hb hg_ hnew_; clear hg_ hnew_
                         (first | rw [← Ny343.out] at ho27 | (simp only [Int.reduceToNat] at ho27; rw [← Ny343.out] at ho27))
                         have n0_ := aS (Kd.V_elder' (tV HO_5.out) (Kd.R_base ho27) hb)
                         have n1_ := aS (Kd.R_elder' (tR HO348.out) (Kd.R_base ho27) hb)
                         have n2_ := aS (Kd.R_lower (Kd.R_new' (Kd.R_newM (M := fun k_ => (w.heap.size ≤ k_)) ho27 (below_size (tB HB.out)) (fun k_ h_ => h_)) (Kd.R_lt (tR HO348.out))) (below_size (tB HB.out)))
                         have n3_ := aS (below_step (tB HB.out) hb)
                         clear HO_5 HO348 HB; have HO_5 := n0_; have HO348 := n1_; have HO345 := n2_; have HB := n3_; clear n0_ n1_ n2_ n3_ hb ho27
                         refine hK.out _ _ trivial (fun hHeld => ?_)
                         clear hK K
                         refine norm_ (a' := ?_) ?_ ?_
                         rotate_left
                         ·show Act.put _ (some 37) _ = _
                          simp only [Act.put, q1_, q2_, q3_, i64_w, i32_w]
                          rfl
                         exact norm_ (by first | (simp only [putAll, Act.put, q1_, q2_, q3_]; done) | (simp only [putAll, Act.put, q1_, q2_, q3_]; rfl)) (hJ9_10 (v344, v347) _ ⟨(tR (Kd.R_mono HO345.out (fun _ hk => ⟨hk.1.1, hk.2⟩))), (tR HO348.out), (tV (Kd.V_mono HO_5.out (fun _ hk => ⟨hk.1.1, ⟨hk.2, hk.1.2⟩⟩))), (tB HB.out)⟩)
                      ·skip
                       rintro v344 w25 ⟨h0_, h1_, h2_⟩
                       have HO345 : Aside0 (Kd.R (Kd.int .u8) 5 w25 w.heap.size (fun k_ => (w.heap.size ≤ k_)) v344 y343) := ⟨h0_⟩
                       replace HO_5 : Aside0 (Kd.V (Kd.int .u8) 5 w25 w.heap.size (fun k_ => (P5_ k_ ∨ w.heap.size ≤ k_) ∧ some k_ ≠ (v344 : Value).ownBlock) (.slice A5 l5.length c5) l5) := ⟨h1_⟩
                       replace HB : Aside0 (Below w.heap.size w w25) := ⟨h2_⟩
                       clear h0_ h1_ h2_
                       have hHeld := trivial
                       refine norm_ (a' := ?_) ?_ ?_
                       rotate_left
                       ·simp only [putAll, Act.put, q1_, q2_, q3_]
                        rfl
                       refine three_ (i := 6) (j := 7) (k := 10) (Ni := some 34) (Nj := some 35) (Nk := some 38) (fl 15 2943) (fl 15 3007) (fl 15 3903) rfl rfl rfl rfl rfl rfl (three_of HT_.out (by kernel_rfl)) (by decide) (by decide) (by decide) (fun K hK => ?_) (fun K hK => ?_) (fun K hK => ?_)
                       ·skip
                        refine goes_ Try.func68 (by kernel_rfl) rfl #[.int .u64 (Go.bits .or .u64 (IntKind.u64.wrap ((IntKind.u64.wrap (a2)) * 65536)) (IntKind.u64.wrap (a3))), .int .i64 4] (by rfl) rfl rfl (by (try simp only [List.map_toArray, List.map_cons, List.map_nil]); first | done | rfl) ?_
                        with_reducible refine (field_Cut.calls kj6 (Go.bits .or .u64 (IntKind.u64.wrap ((IntKind.u64.wrap (a2)) * 65536)) (IntKind.u64.wrap (a3))) 4 t337 _ A12.out).mono ?_
                        rintro e w26 ⟨v338, rfl, ho0, hb⟩; refine ⟨_, rfl, ?_⟩
                        replace HO_5 := aS (Kd.V_elder' (tV HO_5.out) (Kd.R_base ho0) hb)
                        have HO339 := aS (Kd.R_lower (Kd.R_new' (Kd.R_newM (M := fun k_ => (w.heap.size ≤ k_)) ho0 (below_size (tB HB.out)) (fun k_ h_ => h_)) (Kd.R_lt (tR HO345.out))) (below_size (tB HB.out)))
                        replace HO345 := aS (Kd.R_elder' (tR HO345.out) (Kd.R_base ho0) hb)
                        replace HB := aS (below_step (tB HB.out) hb)
                        (try clear hb); (try clear hb2); (try clear hk); (try clear hi); (try clear ho0)
                        refine hK.out _ _ trivial (fun hHeld => ?_)
                        clear hK K
                        refine norm_ (a' := ?_) ?_ ?_
                        rotate_left
                        ·show Act.put _ (some 34) _ = _
                         simp only [Act.put, q1_, q2_, q3_, i64_w, i32_w]
                         rfl
                        exact norm_ (by first | (simp only [putAll, Act.put, q1_, q2_, q3_]; done) | (simp only [putAll, Act.put, q1_, q2_, q3_]; rfl)) (hJ6_9 (v338, v344) _ ⟨(tR (Kd.R_mono HO339.out (fun _ hk => ⟨hk.1.1, hk.2⟩))), (tR HO345.out), (tV (Kd.V_mono HO_5.out (fun _ hk => ⟨hk.1.1, ⟨hk.2, hk.1.2⟩⟩))), (tB HB.out)⟩)
                       ·skip
                        refine Kd.R_make_step (Kd.int .u8) _ 5 (by rfl) (N := 35) rfl 22 _ _ rfl 8 rfl rfl Try.underlying22 (.int .u8 0) 1 info5 rfl (by decide) (by omega) 0 (ok := fun _ => True) (okp := fun _ => True) rfl (fun _ hk => hk) trivial (by omega) (by omega) (Below.refl _ _) (Nat.le_refl _) ?_
                        intro v341 w26 ho27 hb hg_ hnew_; clear hg_ hnew_
                        (first | rw [← Ny340.out] at ho27 | (simp only [Int.reduceToNat] at ho27; rw [← Ny340.out] at ho27))
                        have n0_ := aS (Kd.V_elder' (tV HO_5.out) (Kd.R_base ho27) hb)
                        have n1_ := aS (Kd.R_elder' (tR HO345.out) (Kd.R_base ho27) hb)
                        have n2_ := aS (Kd.R_lower (Kd.R_new' (Kd.R_newM (M := fun k_ => (w.heap.size ≤ k_)) ho27 (below_size (tB HB.out)) (fun k_ h_ => h_)) (Kd.R_lt (tR HO345.out))) (below_size (tB HB.out)))
                        have n3_ := aS (below_step (tB HB.out) hb)
                        clear HO_5 HO345 HB; have HO_5 := n0_; have HO345 := n1_; have HO342 := n2_; have HB := n3_; clear n0_ n1_ n2_ n3_ hb ho27
                        refine hK.out _ _ trivial (fun hHeld => ?_)
                        clear hK K
                        refine norm_ (a' := ?_) ?_ ?_
                        rotate_left
                        ·show Act.put _ (some 35) _ = _
                         simp only [Act.put, q1_, q2_, q3_, i64_w, i32_w]
                         rfl
                        exact norm_ (by first | (simp only [putAll, Act.put, q1_, q2_, q3_]; done) | (simp only [putAll, Act.put, q1_, q2_, q3_]; rfl)) (hJ7_9 (v341, v344) _ ⟨(tR (Kd.R_mono HO342.out (fun _ hk => ⟨hk.1.1, hk.2⟩))), (tR HO345.out), (tV (Kd.V_mono HO_5.out (fun _ hk => ⟨hk.1.1, ⟨hk.2, hk.1.2⟩⟩))), (tB HB.out)⟩)
                       ·skip
                        refine Kd.R_make_step (Kd.int .u8) _ 5 (by rfl) (N := 38) rfl 22 _ _ rfl 6 rfl rfl Try.underlying22 (.int .u8 0) 1 info5 rfl (by decide) (by omega) 0 (ok := fun _ => True) (okp := fun _ => True) rfl (fun _ hk => hk) trivial (by omega) (by omega) (Below.refl _ _) (Nat.le_refl _) ?_
                        intro v347 w26 ho27 hb hg_ hnew_; clear hg_ hnew_
                        (first | rw [← Ny346.out] at ho27 | (simp only [Int.reduceToNat] at ho27; rw [← Ny346.out] at ho27))
                        have n0_ := aS (Kd.V_elder' (tV HO_5.out) (Kd.R_base ho27) hb)
                        have n1_ := aS (Kd.R_elder' (tR HO345.out) (Kd.R_base ho27) hb)
                        have n2_ := aS (Kd.R_lower (Kd.R_new' (Kd.R_newM (M := fun k_ => (w.heap.size ≤ k_)) ho27 (below_size (tB HB.out)) (fun k_ h_ => h_)) (Kd.R_lt (tR HO345.out))) (below_size (tB HB.out)))
                        have n3_ := aS (below_step (tB HB.out) hb)
                        clear HO_5 HO345 HB; have HO_5 := n0_; have HO345 := n1_; have HO348 := n2_; have HB := n3_; clear n0_ n1_ n2_ n3_ hb ho27
                        refine hK.out _ _ trivial (fun hHeld => ?_)
                        clear hK K
                        refine norm_ (a' := ?_) ?_ ?_
                        rotate_left
                        ·show Act.put _ (some 38) _ = _
                         simp only [Act.put, q1_, q2_, q3_, i64_w, i32_w]
                         rfl
                        exact norm_ (by first | (simp only [putAll, Act.put, q1_, q2_, q3_]; done) | (simp only [putAll, Act.put, q1_, q2_, q3_]; rfl)) (hJ9_10 (v344, v347) _ ⟨(tR HO345.out), (tR (Kd.R_mono HO348.out (fun _ hk => ⟨hk.1.1, hk.2⟩))), (tV (Kd.V_mono HO_5.out (fun _ hk => ⟨hk.1.1, ⟨hk.1.2, hk.2⟩⟩))), (tB HB.out)⟩)
                     ·skip
                      rintro v341 w25 ⟨h0_, h1_, h2_⟩
                      have HO342 : Aside0 (Kd.R (Kd.int .u8) 5 w25 w.heap.size (fun k_ => (w.heap.size ≤ k_)) v341 y340) := ⟨h0_⟩
                      replace HO_5 : Aside0 (Kd.V (Kd.int .u8) 5 w25 w.heap.size (fun k_ => (P5_ k_ ∨ w.heap.size ≤ k_) ∧ some k_ ≠ (v341 : Value).ownBlock) (.slice A5 l5.length c5) l5) := ⟨h1_⟩
                      replace HB : Aside0 (Below w.heap.size w w25) := ⟨h2_⟩
                      clear h0_ h1_ h2_
                      have hHeld := trivial
                      refine norm_ (a' := ?_) ?_ ?_
                      rotate_left
                      ·simp only [putAll, Act.put, q1_, q2_, q3_]
                       rfl
                      refine three_ (i := 6) (j := 9) (k := 10) (Ni := some 34) (Nj := some 37) (Nk := some 38) (fl 15 2559) (fl 15 3007) (fl 15 3519) rfl rfl rfl rfl rfl rfl (three_of HT_.out (by kernel_rfl)) (by decide) (by decide) (by decide) (fun K hK => ?_) (fun K hK => ?_) (fun K hK => ?_)
                      ·skip
                       refine goes_ Try.func68 (by kernel_rfl) rfl #[.int .u64 (Go.bits .or .u64 (IntKind.u64.wrap ((IntKind.u64.wrap (a2)) * 65536)) (IntKind.u64.wrap (a3))), .int .i64 4] (by rfl) rfl rfl (by (try simp only [List.map_toArray, List.map_cons, List.map_nil]); first | done | rfl) ?_
                       with_reducible refine (field_Cut.calls kj6 (Go.bits .or .u64 (IntKind.u64.wrap ((IntKind.u64.wrap (a2)) * 65536)) (IntKind.u64.wrap (a3))) 4 t337 _ A12.out).mono ?_
                       rintro e w26 ⟨v338, rfl, ho0, hb⟩; refine ⟨_, rfl, ?_⟩
                       replace HO_5 := aS (Kd.V_elder' (tV HO_5.out) (Kd.R_base ho0) hb)
                       have HO339 := aS (Kd.R_lower (Kd.R_new' (Kd.R_newM (M := fun k_ => (w.heap.size ≤ k_)) ho0 (below_size (tB HB.out)) (fun k_ h_ => h_)) (Kd.R_lt (tR HO342.out))) (below_size (tB HB.out)))
                       replace HO342 := aS (Kd.R_elder' (tR HO342.out) (Kd.R_base ho0) hb)
                       replace HB := aS (below_step (tB HB.out) hb)
                       (try clear hb); (try clear hb2); (try clear hk); (try clear hi); (try clear ho0)
                       refine hK.out _ _ trivial (fun hHeld => ?_)
                       clear hK K
                       refine norm_ (a' := ?_) ?_ ?_
                       rotate_left
                       ·show Act.put _ (some 34) _ = _
                        simp only [Act.put, q1_, q2_, q3_, i64_w, i32_w]
                        rfl
                       exact norm_ (by first | (simp only [putAll, Act.put, q1_, q2_, q3_]; done) | (simp only [putAll, Act.put, q1_, q2_, q3_]; rfl)) (hJ6_7 (v338, v341) _ ⟨(tR (Kd.R_mono HO339.out (fun _ hk => ⟨hk.1.1, hk.2⟩))), (tR HO342.out), (tV (Kd.V_mono HO_5.out (fun _ hk => ⟨hk.1.1, ⟨hk.2, hk.1.2⟩⟩))), (tB HB.out)⟩)
                      ·skip
                       refine Kd.R_lit_step (Kd.int .u8) _ 5 ?hg (N := 37) ?hd (xs := ([80, a4] : List Int)) (inner := [.int .u8 80, .int .u8 a4]) (ok := fun _ => True) (okp := fun _ => True) ?hr ?hp (fun _ hk => hk) trivial (Below.refl _ _) (Nat.le_refl _) (by simp) ?_; (case hd => rfl); (case hg => rfl); (case hr => first | (go_simp; done) | (go_simp; rfl)); (case hp => exact (Reps.one (show Kd.M (Kd.int .u8) _ _ _ 80 [.int .u8 80] from rfl) (Reps.one (show Kd.M (Kd.int .u8) _ _ _ a4 [.int .u8 a4] from rfl) (Reps.none _ _))))
                       intro v344 w26 ho27 hb hg_ hnew_; clear hg_ hnew_
                       (first | rw [← Ny343.out] at ho27 | (simp only [Int.reduceToNat] at ho27; rw [← Ny343.out] at ho27))
                       have n0_ := aS (Kd.V_elder' (tV HO_5.out) (Kd.R_base ho27) hb)
                       have n1_ := aS (Kd.R_elder' (tR HO342.out) (Kd.R_base ho27) hb)
                       have n2_ := aS (Kd.R_lower (Kd.R_new' (Kd.R_newM (M := fun k_ => (w.heap.size ≤ k_)) ho27 (below_size (tB HB.out)) (fun k_ h_ => h_)) (Kd.R_lt (tR HO342.out))) (below_size (tB HB.out)))
                       have n3_ := aS (below_step (tB HB.out) hb)
                       clear HO_5 HO342 HB; have HO_5 := n0_; have HO342 := n1_; have HO345 := n2_; have HB := n3_; clear n0_ n1_ n2_ n3_ hb ho27
                       refine hK.out _ _ trivial (fun hHeld => ?_)
                       clear hK K
                       refine norm_ (a' := ?_) ?_ ?_
                       rotate_left
                       ·show Act.put _ (some 37) _ = _
                        simp only [Act.put, q1_, q2_, q3_, i64_w, i32_w]
                        rfl
                       exact norm_ (by first | (simp only [putAll, Act.put, q1_, q2_, q3_]; done) | (simp only [putAll, Act.put, q1_, q2_, q3_]; rfl)) (hJ7_9 (v341, v344) _ ⟨(tR HO342.out), (tR (Kd.R_mono HO345.out (fun _ hk => ⟨hk.1.1, hk.2⟩))), (tV (Kd.V_mono HO_5.out (fun _ hk => ⟨hk.1.1, ⟨hk.1.2, hk.2⟩⟩))), (tB HB.out)⟩)
                      ·skip
                       refine Kd.R_make_step (Kd.int .u8) _ 5 (by rfl) (N := 38) rfl 22 _ _ rfl 6 rfl rfl Try.underlying22 (.int .u8 0) 1 info5 rfl (by decide) (by omega) 0 (ok := fun _ => True) (okp := fun _ => True) rfl (fun _ hk => hk) trivial (by omega) (by omega) (Below.refl _ _) (Nat.le_refl _) ?_
                       intro v347 w26 ho27 hb hg_ hnew_; clear hg_ hnew_
                       (first | rw [← Ny346.out] at ho27 | (simp only [Int.reduceToNat] at ho27; rw [← Ny346.out] at ho27))
                       have n0_ := aS (Kd.V_elder' (tV HO_5.out) (Kd.R_base ho27) hb)
                       have n1_ := aS (Kd.R_elder' (tR HO342.out) (Kd.R_base ho27) hb)
                       have n2_ := aS (Kd.R_lower (Kd.R_new' (Kd.R_newM (M := fun k_ => (w.heap.size ≤ k_)) ho27 (below_size (tB HB.out)) (fun k_ h_ => h_)) (Kd.R_lt (tR HO342.out))) (below_size (tB HB.out)))
                       have n3_ := aS (below_step (tB HB.out) hb)
                       clear HO_5 HO342 HB; have HO_5 := n0_; have HO342 := n1_; have HO348 := n2_; have HB := n3_; clear n0_ n1_ n2_ n3_ hb ho27
                       refine hK.out _ _ trivial (fun hHeld => ?_)
                       clear hK K
                       refine norm_ (a' := ?_) ?_ ?_
                       rotate_left
                       ·show Act.put _ (some 38) _ = _
                        simp only [Act.put, q1_, q2_, q3_, i64_w, i32_w]
                        rfl
                       exact norm_ (by first | (simp only [putAll, Act.put, q1_, q2_, q3_]; done) | (simp only [putAll, Act.put, q1_, q2_, q3_]; rfl)) (hJ7_10 (v341, v347) _ ⟨(tR HO342.out), (tR (Kd.R_mono HO348.out (fun _ hk => ⟨hk.1.1, hk.2⟩))), (tV (Kd.V_mono HO_5.out (fun _ hk => ⟨hk.1.1, ⟨hk.1.2, hk.2⟩⟩))), (tB HB.out)⟩)
                    ·skip
                     rintro v338 w24 ⟨h0_, h1_, h2_⟩
                     have HO339 : Aside0 (Kd.R (Kd.int .u8) 5 w24 w.heap.size (fun k_ => (w.heap.size ≤ k_)) v338 t337) := ⟨h0_⟩
                     replace HO_5 : Aside0 (Kd.V (Kd.int .u8) 5 w24 w.heap.size (fun k_ => (P5_ k_ ∨ w.heap.size ≤ k_) ∧ some k_ ≠ (v338 : Value).ownBlock) (.slice A5 l5.length c5) l5) := ⟨h1_⟩
                     replace HB : Aside0 (Below w.heap.size w w24) := ⟨h2_⟩
                     clear h0_ h1_ h2_
                     have hHeld := trivial
                     refine norm_ (a' := ?_) ?_ ?_
                     rotate_left
                     ·simp only [putAll, Act.put, q1_, q2_, q3_]
                      rfl
                     refine three_ (i := 7) (j := 9) (k := 10) (Ni := some 35) (Nj := some 37) (Nk := some 38) (fl 15 2559) (fl 15 2943) (fl 15 3455) rfl rfl rfl rfl rfl rfl (three_of HT_.out (by kernel_rfl)) (by decide) (by decide) (by decide) (fun K hK => ?_) (fun K hK => ?_) (fun K hK => ?_)
                     ·skip
                      refine Kd.R_make_step (Kd.int .u8) _ 5 (by rfl) (N := 35) rfl 22 _ _ rfl 8 rfl rfl Try.underlying22 (.int .u8 0) 1 info5 rfl (by decide) (by omega) 0 (ok := fun _ => True) (okp := fun _ => True) rfl (fun _ hk => hk) trivial (by omega) (by omega) (Below.refl _ _) (Nat.le_refl _) ?_
                      intro v341 w25 ho26 hb hg_ hnew_; clear hg_ hnew_
                      (first | rw [← Ny340.out] at ho26 | (simp only [Int.reduceToNat] at ho26; rw [← Ny340.out] at ho26))
                      have n0_ := aS (Kd.V_elder' (tV HO_5.out) (Kd.R_base ho26) hb)
                      have n1_ := aS (Kd.R_elder' (tR HO339.out) (Kd.R_base ho26) hb)
                      have n2_ := aS (Kd.R_lower (Kd.R_new' (Kd.R_newM (M := fun k_ => (w.heap.size ≤ k_)) ho26 (below_size (tB HB.out)) (fun k_ h_ => h_)) (Kd.R_lt (tR HO339.out))) (below_size (tB HB.out)))
                      have n3_ := aS (below_step (tB HB.out) hb)
                      clear HO_5 HO339 HB; have HO_5 := n0_; have HO339 := n1_; have HO342 := n2_; have HB := n3_; clear n0_ n1_ n2_ n3_ hb ho26
                      refine hK.out _ _ trivial (fun hHeld => ?_)
                      clear hK K
                      refine norm_ (a' := ?_) ?_ ?_
                      rotate_left
                      ·show Act.put _ (some 35) _ = _
                       simp only [Act.put, q1_, q2_, q3_, i64_w, i32_w]
                       rfl
                      exact norm_ (by first | (simp only [putAll, Act.put, q1_, q2_, q3_]; done) | (simp only [putAll, Act.put, q1_, q2_, q3_]; rfl)) (hJ6_7 (v338, v341) _ ⟨(tR HO339.out), (tR (Kd.R_mono HO342.out (fun _ hk => ⟨hk.1.1, hk.2⟩))), (tV (Kd.V_mono HO_5.out (fun _ hk => ⟨hk.1.1, ⟨hk.1.2, hk.2⟩⟩))), (tB HB.out)⟩)
                     ·skip
                      refine Kd.R_lit_step (Kd.int .u8) _ 5 ?hg (N := 37) ?hd (xs := ([80, a4] : List Int)) (inner := [.int .u8 80, .int .u8 a4]) (ok := fun _ => True) (okp := fun _ => True) ?hr ?hp (fun _ hk => hk) trivial (Below.refl _ _) (Nat.le_refl _) (by simp) ?_; (case hd => rfl); (case hg => rfl); (case hr => first | (go_simp; done) | (go_simp; rfl)); (case hp => exact (Reps.one (show Kd.M (Kd.int .u8) _ _ _ 80 [.int .u8 80] from rfl) (Reps.one (show Kd.M (Kd.int .u8) _ _ _ a4 [.int .u8 a4] from rfl) (Reps.none _ _))))
                      intro v344 w25 ho26 hb hg_ hnew_; clear hg_ hnew_
                      (first | rw [← Ny343.out] at ho26 | (simp only [Int.reduceToNat] at ho26; rw [← Ny343.out] at ho26))
                      have n0_ := aS (Kd.V_elder' (tV HO_5.out) (Kd.R_base ho26) hb)
                      have n1_ := aS (Kd.R_elder' (tR HO339.out) (Kd.R_base ho26) hb)
                      have n2_ := aS (Kd.R_lower (Kd.R_new' (Kd.R_newM (M := fun k_ => (w.heap.size ≤ k_)) ho26 (below_size (tB HB.out)) (fun k_ h_ => h_)) (Kd.R_lt (tR HO339.out))) (below_size (tB HB.out)))
                      have n3_ := aS (below_step (tB HB.out) hb)
                      clear HO_5 HO339 HB; have HO_5 := n0_; have HO339 := n1_; have HO345 := n2_; have HB := n3_; clear n0_ n1_ n2_ n3_ hb ho26
                      refine hK.out _ _ trivial (fun hHeld => ?_)
                      clear hK K
                      refine norm_ (a' := ?_) ?_ ?_
                      rotate_left
                      ·show Act.put _ (some 37) _ = _
                       simp only [Act.put, q1_, q2_, q3_, i64_w, i32_w]
                       rfl
                      exact norm_ (by first | (simp only [putAll, Act.put, q1_, q2_, q3_]; done) | (simp only [putAll, Act.put, q1_, q2_, q3_]; rfl)) (hJ6_9 (v338, v344) _ ⟨(tR HO339.out), (tR (Kd.R_mono HO345.out (fun _ hk => ⟨hk.1.1, hk.2⟩))), (tV (Kd.V_mono HO_5.out (fun _ hk => ⟨hk.1.1, ⟨hk.1.2, hk.2⟩⟩))), (tB HB.out)⟩)
                     ·skip
                      refine Kd.R_make_step (Kd.int .u8) _ 5 (by rfl) (N := 38) rfl 22 _ _ rfl 6 rfl rfl Try.underlying22 (.int .u8 0) 1 info5 rfl (by decide) (by omega) 0 (ok := fun _ => True) (okp := fun _ => True) rfl (fun _ hk => hk) trivial (by omega) (by omega) (Below.refl _ _) (Nat.le_refl _) ?_
                      intro v347 w25 ho26 hb hg_ hnew_; clear hg_ hnew_
                      (first | rw [← Ny346.out] at ho26 | (simp only [Int.reduceToNat] at ho26; rw [← Ny346.out] at ho26))
                      have n0_ := aS (Kd.V_elder' (tV HO_5.out) (Kd.R_base ho26) hb)
                      have n1_ := aS (Kd.R_elder' (tR HO339.out) (Kd.R_base ho26) hb)
                      have n2_ := aS (Kd.R_lower (Kd.R_new' (Kd.R_newM (M := fun k_ => (w.heap.size ≤ k_)) ho26 (below_size (tB HB.out)) (fun k_ h_ => h_)) (Kd.R_lt (tR HO339.out))) (below_size (tB HB.out)))
                      have n3_ := aS (below_step (tB HB.out) hb)
                      clear HO_5 HO339 HB; have HO_5 := n0_; have HO339 := n1_; have HO348 := n2_; have HB := n3_; clear n0_ n1_ n2_ n3_ hb ho26
                      refine hK.out _ _ trivial (fun hHeld => ?_)
                      clear hK K
                      refine norm_ (a' := ?_) ?_ ?_
                      rotate_left
                      ·show Act.put _ (some 38) _ = _
                       simp only [Act.put, q1_, q2_, q3_, i64_w, i32_w]
                       rfl
                      exact norm_ (by first | (simp only [putAll, Act.put, q1_, q2_, q3_]; done) | (simp only [putAll, Act.put, q1_, q2_, q3_]; rfl)) (hJ6_10 (v338, v347) _ ⟨(tR HO339.out), (tR (Kd.R_mono HO348.out (fun _ hk => ⟨hk.1.1, hk.2⟩))), (tV (Kd.V_mono HO_5.out (fun _ hk => ⟨hk.1.1, ⟨hk.1.2, hk.2⟩⟩))), (tB HB.out)⟩)
                   ·skip
                    rintro ⟨v344, v347⟩ w27 ⟨h0_, h1_, h2_, h3_⟩
                    have HO345 : Aside0 (Kd.R (Kd.int .u8) 5 w27 w.heap.size (fun k_ => (w.heap.size ≤ k_) ∧ some k_ ≠ (v347 : Value).ownBlock) v344 y343) := ⟨h0_⟩
                    have HO348 : Aside0 (Kd.R (Kd.int .u8) 5 w27 w.heap.size (fun k_ => (w.heap.size ≤ k_) ∧ some k_ ≠ (v344 : Value).ownBlock) v347 y346) := ⟨h1_⟩
                    replace HO_5 : Aside0 (Kd.V (Kd.int .u8) 5 w27 w.heap.size (fun k_ => (P5_ k_ ∨ w.heap.size ≤ k_) ∧ some k_ ≠ (v344 : Value).ownBlock ∧ some k_ ≠ (v347 : Value).ownBlock) (.slice A5 l5.length c5) l5) := ⟨h2_⟩
                    replace HB : Aside0 (Below w.heap.size w w27) := ⟨h3_⟩
                    clear h0_ h1_ h2_ h3_
                    have hHeld := trivial
                    refine norm_ (a' := ?_) ?_ ?_
                    rotate_left
                    ·simp only [putAll, Act.put, q1_, q2_, q3_]
                     rfl
                    refine two_ (i := 6) (j := 7) (Ni := some 34) (Nj := some 35) (fl 15 3967) (fl 15 4031) rfl rfl rfl rfl (two_of HT_.out (by kernel_rfl)) (by decide) (by decide) (fun K hK => ?_) (fun K hK => ?_)
                    ·skip
                     refine goes_ Try.func68 (by kernel_rfl) rfl #[.int .u64 (Go.bits .or .u64 (IntKind.u64.wrap ((IntKind.u64.wrap (a2)) * 65536)) (IntKind.u64.wrap (a3))), .int .i64 4] (by rfl) rfl rfl (by (try simp only [List.map_toArray, List.map_cons, List.map_nil]); first | done | rfl) ?_
                     with_reducible refine (field_Cut.calls kj6 (Go.bits .or .u64 (IntKind.u64.wrap ((IntKind.u64.wrap (a2)) * 65536)) (IntKind.u64.wrap (a3))) 4 t337 _ A12.out).mono ?_
                     rintro e w28 ⟨v338, rfl, ho0, hb⟩; refine ⟨_, rfl, ?_⟩
                     replace HO_5 := aS (Kd.V_elder' (tV HO_5.out) (Kd.R_base ho0) hb)
                     have HO339 := aS (Kd.R_lower (Kd.R_new' (Kd.R_new' (Kd.R_newM (M := fun k_ => (w.heap.size ≤ k_)) ho0 (below_size (tB HB.out)) (fun k_ h_ => h_)) (Kd.R_lt (tR HO345.out))) (Kd.R_lt (tR HO348.out))) (below_size (tB HB.out)))
                     replace HO345 := aS (Kd.R_elder' (tR HO345.out) (Kd.R_base ho0) hb)
                     replace HO348 := aS (Kd.R_elder' (tR HO348.out) (Kd.R_base ho0) hb)
                     replace HB := aS (below_step (tB HB.out) hb)
                     (try clear hb); (try clear hb2); (try clear hk); (try clear hi); (try clear ho0)
                     refine hK.out _ _ trivial (fun hHeld => ?_)
                     clear hK K
                     refine norm_ (a' := ?_) ?_ ?_
                     rotate_left
                     ·show Act.put _ (some 34) _ = _
                      simp only [Act.put, q1_, q2_, q3_, i64_w, i32_w]
                      rfl
                     exact norm_ (by first | (simp only [putAll, Act.put, q1_, q2_, q3_]; done) | (simp only [putAll, Act.put, q1_, q2_, q3_]; rfl)) (hJ6_9_10 (v338, v344, v347) _ ⟨(tR (Kd.R_mono HO339.out (fun _ hk => ⟨hk.1.1.1, ⟨hk.1.2, hk.2⟩⟩))), (tR (Kd.R_mono HO345.out (fun _ hk => ⟨hk.1.1, ⟨hk.2, hk.1.2⟩⟩))), (tR (Kd.R_mono HO348.out (fun _ hk => ⟨hk.1.1, ⟨hk.2, hk.1.2⟩⟩))), (tV (Kd.V_mono HO_5.out (fun _ hk => ⟨hk.1.1, ⟨hk.2, ⟨hk.1.2.1, hk.1.2.2⟩⟩⟩))), (tB HB.out)⟩)
                    ·skip
                     refine Kd.R_make_step (Kd.int .u8) _ 5 (by rfl) (N := 35) rfl 22 _ _ rfl 8 rfl rfl Try.underlying22 (.int .u8 0) 1 info5 rfl (by decide) (by omega) 0 (ok := fun _ => True) (okp := fun _ => True) rfl (fun _ hk => hk) trivial (by omega) (by omega) (Below.refl _ _) (Nat.le_refl _) ?_
                     intro v341 w28 ho29 hb hg_ hnew_; clear hg_ hnew_
                     (first | rw [← Ny340.out] at ho29 | (simp only [Int.reduceToNat] at ho29; rw [← Ny340.out] at ho29))
                     have n0_ := aS (Kd.V_elder' (tV HO_5.out) (Kd.R_base ho29) hb)
                     have n1_ := aS (Kd.R_elder' (tR HO345.out) (Kd.R_base ho29) hb)
                     have n2_ := aS (Kd.R_elder' (tR HO348.out) (Kd.R_base ho29) hb)
                     have n3_ := aS (Kd.R_lower (Kd.R_new' (Kd.R_new' (Kd.R_newM (M := fun k_ => (w.heap.size ≤ k_)) ho29 (below_size (tB HB.out)) (fun k_ h_ => h_)) (Kd.R_lt (tR HO345.out))) (Kd.R_lt (tR HO348.out))) (below_size (tB HB.out)))
                     have n4_ := aS (below_step (tB HB.out) hb)
                     clear HO_5 HO345 HO348 HB; have HO_5 := n0_; have HO345 := n1_; have HO348 := n2_; have HO342 := n3_; have HB := n4_; clear n0_ n1_ n2_ n3_ n4_ hb ho29
                     refine hK.out _ _ trivial (fun hHeld => ?_)
                     clear hK K
                     refine norm_ (a' := ?_) ?_ ?_
                     rotate_left
                     ·show Act.put _ (some 35) _ = _
                      simp only [Act.put, q1_, q2_, q3_, i64_w, i32_w]
                      rfl
                     exact norm_ (by first | (simp only [putAll, Act.put, q1_, q2_, q3_]; done) | (simp only [putAll, Act.put, q1_, q2_, q3_]; rfl)) (hJ7_9_10 (v341, v344, v347) _ ⟨(tR (Kd.R_mono HO342.out (fun _ hk => ⟨hk.1.1.1, ⟨hk.1.2, hk.2⟩⟩))), (tR (Kd.R_mono HO345.out (fun _ hk => ⟨hk.1.1, ⟨hk.2, hk.1.2⟩⟩))), (tR (Kd.R_mono HO348.out (fun _ hk => ⟨hk.1.1, ⟨hk.2, hk.1.2⟩⟩))), (tV (Kd.V_mono HO_5.out (fun _ hk => ⟨hk.1.1, ⟨hk.2, ⟨hk.1.2.1, hk.1.2.2⟩⟩⟩))), (tB HB.out)⟩)
                  ·skip
                   rintro ⟨v341, v347⟩ w27 ⟨h0_, h1_, h2_, h3_⟩
                   have HO342 : Aside0 (Kd.R (Kd.int .u8) 5 w27 w.heap.size (fun k_ => (w.heap.size ≤ k_) ∧ some k_ ≠ (v347 : Value).ownBlock) v341 y340) := ⟨h0_⟩
                   have HO348 : Aside0 (Kd.R (Kd.int .u8) 5 w27 w.heap.size (fun k_ => (w.heap.size ≤ k_) ∧ some k_ ≠ (v341 : Value).ownBlock) v347 y346) := ⟨h1_⟩
                   replace HO_5 : Aside0 (Kd.V (Kd.int .u8) 5 w27 w.heap.size (fun k_ => (P5_ k_ ∨ w.heap.size ≤ k_) ∧ some k_ ≠ (v341 : Value).ownBlock ∧ some k_ ≠ (v347 : Value).ownBlock) (.slice A5 l5.length c5) l5) := ⟨h2_⟩
                   replace HB : Aside0 (Below w.heap.size w w27) := ⟨h3_⟩
                   clear h0_ h1_ h2_ h3_
                   have hHeld := trivial
                   refine norm_ (a' := ?_) ?_ ?_
                   rotate_left
                   ·simp only [putAll, Act.put, q1_, q2_, q3_]
                    rfl
                   refine two_ (i := 6) (j := 9) (Ni := some 34) (Nj := some 37) (fl 15 3583) (fl 15 4031) rfl rfl rfl rfl (two_of HT_.out (by kernel_rfl)) (by decide) (by decide) (fun K hK => ?_) (fun K hK => ?_)
                   ·skip
                    refine goes_ Try.func68 (by kernel_rfl) rfl #[.int .u64 (Go.bits .or .u64 (IntKind.u64.wrap ((IntKind.u64.wrap (a2)) * 65536)) (IntKind.u64.wrap (a3))), .int .i64 4] (by rfl) rfl rfl (by (try simp only [List.map_toArray, List.map_cons, List.map_nil]); first | done | rfl) ?_
                    with_reducible refine (field_Cut.calls kj6 (Go.bits .or .u64 (IntKind.u64.wrap ((IntKind.u64.wrap (a2)) * 65536)) (IntKind.u64.wrap (a3))) 4 t337 _ A12.out).mono ?_
                    rintro e w28 ⟨v338, rfl, ho0, hb⟩; refine ⟨_, rfl, ?_⟩
                    replace HO_5 := aS (Kd.V_elder' (tV HO_5.out) (Kd.R_base ho0) hb)
                    have HO339 := aS (Kd.R_lower (Kd.R_new' (Kd.R_new' (Kd.R_newM (M := fun k_ => (w.heap.size ≤ k_)) ho0 (below_size (tB HB.out)) (fun k_ h_ => h_)) (Kd.R_lt (tR HO342.out))) (Kd.R_lt (tR HO348.out))) (below_size (tB HB.out)))
                    replace HO342 := aS (Kd.R_elder' (tR HO342.out) (Kd.R_base ho0) hb)
                    replace HO348 := aS (Kd.R_elder' (tR HO348.out) (Kd.R_base ho0) hb)
                    replace HB := aS (below_step (tB HB.out) hb)
                    (try clear hb); (try clear hb2); (try clear hk); (try clear hi); (try clear ho0)
                    refine hK.out _ _ trivial (fun hHeld => ?_)
                    clear hK K
                    refine norm_ (a' := ?_) ?_ ?_
                    rotate_left
                    ·show Act.put _ (some 34) _ = _
                     simp only [Act.put, q1_, q2_, q3_, i64_w, i32_w]
                     rfl
                    exact norm_ (by first | (simp only [putAll, Act.put, q1_, q2_, q3_]; done) | (simp only [putAll, Act.put, q1_, q2_, q3_]; rfl)) (hJ6_7_10 (v338, v341, v347) _ ⟨(tR (Kd.R_mono HO339.out (fun _ hk => ⟨hk.1.1.1, ⟨hk.1.2, hk.2⟩⟩))), (tR (Kd.R_mono HO342.out (fun _ hk => ⟨hk.1.1, ⟨hk.2, hk.1.2⟩⟩))), (tR (Kd.R_mono HO348.out (fun _ hk => ⟨hk.1.1, ⟨hk.2, hk.1.2⟩⟩))), (tV (Kd.V_mono HO_5.out (fun _ hk => ⟨hk.1.1, ⟨hk.2, ⟨hk.1.2.1, hk.1.2.2⟩⟩⟩))), (tB HB.out)⟩)
                   ·skip
                    refine Kd.R_lit_step (Kd.int .u8) _ 5 ?hg (N := 37) ?hd (xs := ([80, a4] : List Int)) (inner := [.int .u8 80, .int .u8 a4]) (ok := fun _ => True) (okp := fun _ => True) ?hr ?hp (fun _ hk => hk) trivial (Below.refl _ _) (Nat.le_refl _) (by simp) ?_; (case hd => rfl); (case hg => rfl); (case hr => first | (go_simp; done) | (go_simp; rfl)); (case hp => exact (Reps.one (show Kd.M (Kd.int .u8) _ _ _ 80 [.int .u8 80] from rfl) (Reps.one (show Kd.M (Kd.int .u8) _ _ _ a4 [.int .u8 a4] from rfl) (Reps.none _ _))))
                    intro v344 w28 ho29 hb hg_ hnew_; clear hg_ hnew_
                    (first | rw [← Ny343.out] at ho29 | (simp only [Int.reduceToNat] at ho29; rw [← Ny343.out] at ho29))
                    have n0_ := aS (Kd.V_elder' (tV HO_5.out) (Kd.R_base ho29) hb)
                    have n1_ := aS (Kd.R_elder' (tR HO342.out) (Kd.R_base ho29) hb)
                    have n2_ := aS (Kd.R_elder' (tR HO348.out) (Kd.R_base ho29) hb)
                    have n3_ := aS (Kd.R_lower (Kd.R_new' (Kd.R_new' (Kd.R_newM (M := fun k_ => (w.heap.size ≤ k_)) ho29 (below_size (tB HB.out)) (fun k_ h_ => h_)) (Kd.R_lt (tR HO342.out))) (Kd.R_lt (tR HO348.out))) (below_size (tB HB.out)))
                    have n4_ := aS (below_step (tB HB.out) hb)
                    clear HO_5 HO342 HO348 HB; have HO_5 := n0_; have HO342 := n1_; have HO348 := n2_; have HO345 := n3_; have HB := n4_; clear n0_ n1_ n2_ n3_ n4_ hb ho29
                    refine hK.out _ _ trivial (fun hHeld => ?_)
                    clear hK K
                    refine norm_ (a' := ?_) ?_ ?_
                    rotate_left
                    ·show Act.put _ (some 37) _ = _
                     simp only [Act.put, q1_, q2_, q3_, i64_w, i32_w]
                     rfl
                    exact norm_ (by first | (simp only [putAll, Act.put, q1_, q2_, q3_]; done) | (simp only [putAll, Act.put, q1_, q2_, q3_]; rfl)) (hJ7_9_10 (v341, v344, v347) _ ⟨(tR (Kd.R_mono HO342.out (fun _ hk => ⟨hk.1.1, ⟨hk.2, hk.1.2⟩⟩))), (tR (Kd.R_mono HO345.out (fun _ hk => ⟨hk.1.1.1, ⟨hk.1.2, hk.2⟩⟩))), (tR (Kd.R_mono HO348.out (fun _ hk => ⟨hk.1.1, ⟨hk.1.2, hk.2⟩⟩))), (tV (Kd.V_mono HO_5.out (fun _ hk => ⟨hk.1.1, ⟨hk.1.2.1, ⟨hk.2, hk.1.2.2⟩⟩⟩))), (tB HB.out)⟩)
                 ·skip
                  rintro ⟨v341, v344⟩ w27 ⟨h0_, h1_, h2_, h3_⟩
                  have HO342 : Aside0 (Kd.R (Kd.int .u8) 5 w27 w.heap.size (fun k_ => (w.heap.size ≤ k_) ∧ some k_ ≠ (v344 : Value).ownBlock) v341 y340) := ⟨h0_⟩
                  have HO345 : Aside0 (Kd.R (Kd.int .u8) 5 w27 w.heap.size (fun k_ => (w.heap.size ≤ k_) ∧ some k_ ≠ (v341 : Value).ownBlock) v344 y343) := ⟨h1_⟩
                  replace HO_5 : Aside0 (Kd.V (Kd.int .u8) 5 w27 w.heap.size (fun k_ => (P5_ k_ ∨ w.heap.size ≤ k_) ∧ some k_ ≠ (v341 : Value).ownBlock ∧ some k_ ≠ (v344 : Value).ownBlock) (.slice A5 l5.length c5) l5) := ⟨h2_⟩
                  replace HB : Aside0 (Below w.heap.size w w27) := ⟨h3_⟩
                  clear h0_ h1_ h2_ h3_
                  have hHeld := trivial
                  refine norm_ (a' := ?_) ?_ ?_
                  rotate_left
                  ·simp only [putAll, Act.put, q1_, q2_, q3_]
                   rfl
                  refine two_ (i := 6) (j := 10) (Ni := some 34) (Nj := some 38) (fl 15 3071) (fl 15 4031) rfl rfl rfl rfl (two_of HT_.out (by kernel_rfl)) (by decide) (by decide) (fun K hK => ?_) (fun K hK => ?_)
                  ·skip
                   refine goes_ Try.func68 (by kernel_rfl) rfl #[.int .u64 (Go.bits .or .u64 (IntKind.u64.wrap ((IntKind.u64.wrap (a2)) * 65536)) (IntKind.u64.wrap (a3))), .int .i64 4] (by rfl) rfl rfl (by (try simp only [List.map_toArray, List.map_cons, List.map_nil]); first | done | rfl) ?_
                   with_reducible refine (field_Cut.calls kj6 (Go.bits .or .u64 (IntKind.u64.wrap ((IntKind.u64.wrap (a2)) * 65536)) (IntKind.u64.wrap (a3))) 4 t337 _ A12.out).mono ?_
                   rintro e w28 ⟨v338, rfl, ho0, hb⟩; refine ⟨_, rfl, ?_⟩
                   replace HO_5 := aS (Kd.V_elder' (tV HO_5.out) (Kd.R_base ho0) hb)
                   have HO339 := aS (Kd.R_lower (Kd.R_new' (Kd.R_new' (Kd.R_newM (M := fun k_ => (w.heap.size ≤ k_)) ho0 (below_size (tB HB.out)) (fun k_ h_ => h_)) (Kd.R_lt (tR HO342.out))) (Kd.R_lt (tR HO345.out))) (below_size (tB HB.out)))
                   replace HO342 := aS (Kd.R_elder' (tR HO342.out) (Kd.R_base ho0) hb)
                   replace HO345 := aS (Kd.R_elder' (tR HO345.out) (Kd.R_base ho0) hb)
                   replace HB := aS (below_step (tB HB.out) hb)
                   (try clear hb); (try clear hb2); (try clear hk); (try clear hi); (try clear ho0)
                   refine hK.out _ _ trivial (fun hHeld => ?_)
                   clear hK K
                   refine norm_ (a' := ?_) ?_ ?_
                   rotate_left
                   ·show Act.put _ (some 34) _ = _
                    simp only [Act.put, q1_, q2_, q3_, i64_w, i32_w]
                    rfl
                   exact norm_ (by first | (simp only [putAll, Act.put, q1_, q2_, q3_]; done) | (simp only [putAll, Act.put, q1_, q2_, q3_]; rfl)) (hJ6_7_9 (v338, v341, v344) _ ⟨(tR (Kd.R_mono HO339.out (fun _ hk => ⟨hk.1.1.1, ⟨hk.1.2, hk.2⟩⟩))), (tR (Kd.R_mono HO342.out (fun _ hk => ⟨hk.1.1, ⟨hk.2, hk.1.2⟩⟩))), (tR (Kd.R_mono HO345.out (fun _ hk => ⟨hk.1.1, ⟨hk.2, hk.1.2⟩⟩))), (tV (Kd.V_mono HO_5.out (fun _ hk => ⟨hk.1.1, ⟨hk.2, ⟨hk.1.2.1, hk.1.2.2⟩⟩⟩))), (tB HB.out)⟩)
                  ·skip
                   refine Kd.R_make_step (Kd.int .u8) _ 5 (by rfl) (N := 38) rfl 22 _ _ rfl 6 rfl rfl Try.underlying22 (.int .u8 0) 1 info5 rfl (by decide) (by omega) 0 (ok := fun _ => True) (okp := fun _ => True) rfl (fun _ hk => hk) trivial (by omega) (by omega) (Below.refl _ _) (Nat.le_refl _) ?_
                   intro v347 w28 ho29 hb hg_ hnew_; clear hg_ hnew_
                   (first | rw [← Ny346.out] at ho29 | (simp only [Int.reduceToNat] at ho29; rw [← Ny346.out] at ho29))
                   have n0_ := aS (Kd.V_elder' (tV HO_5.out) (Kd.R_base ho29) hb)
                   have n1_ := aS (Kd.R_elder' (tR HO342.out) (Kd.R_base ho29) hb)
                   have n2_ := aS (Kd.R_elder' (tR HO345.out) (Kd.R_base ho29) hb)
                   have n3_ := aS (Kd.R_lower (Kd.R_new' (Kd.R_new' (Kd.R_newM (M := fun k_ => (w.heap.size ≤ k_)) ho29 (below_size (tB HB.out)) (fun k_ h_ => h_)) (Kd.R_lt (tR HO342.out))) (Kd.R_lt (tR HO345.out))) (below_size (tB HB.out)))
                   have n4_ := aS (below_step (tB HB.out) hb)
                   clear HO_5 HO342 HO345 HB; have HO_5 := n0_; have HO342 := n1_; have HO345 := n2_; have HO348 := n3_; have HB := n4_; clear n0_ n1_ n2_ n3_ n4_ hb ho29
                   refine hK.out _ _ trivial (fun hHeld => ?_)
                   clear hK K
                   refine norm_ (a' := ?_) ?_ ?_
                   rotate_left
                   ·show Act.put _ (some 38) _ = _
                    simp only [Act.put, q1_, q2_, q3_, i64_w, i32_w]
                    rfl
                   exact norm_ (by first | (simp only [putAll, Act.put, q1_, q2_, q3_]; done) | (simp only [putAll, Act.put, q1_, q2_, q3_]; rfl)) (hJ7_9_10 (v341, v344, v347) _ ⟨(tR (Kd.R_mono HO342.out (fun _ hk => ⟨hk.1.1, ⟨hk.1.2, hk.2⟩⟩))), (tR (Kd.R_mono HO345.out (fun _ hk => ⟨hk.1.1, ⟨hk.1.2, hk.2⟩⟩))), (tR (Kd.R_mono HO348.out (fun _ hk => ⟨hk.1.1.1, ⟨hk.1.2, hk.2⟩⟩))), (tV (Kd.V_mono HO_5.out (fun _ hk => ⟨hk.1.1, ⟨hk.1.2.1, ⟨hk.1.2.2, hk.2⟩⟩⟩))), (tB HB.out)⟩)
                ·skip
                 rintro ⟨v338, v347⟩ w26 ⟨h0_, h1_, h2_, h3_⟩
                 have HO339 : Aside0 (Kd.R (Kd.int .u8) 5 w26 w.heap.size (fun k_ => (w.heap.size ≤ k_) ∧ some k_ ≠ (v347 : Value).ownBlock) v338 t337) := ⟨h0_⟩
                 have HO348 : Aside0 (Kd.R (Kd.int .u8) 5 w26 w.heap.size (fun k_ => (w.heap.size ≤ k_) ∧ some k_ ≠ (v338 : Value).ownBlock) v347 y346) := ⟨h1_⟩
                 replace HO_5 : Aside0 (Kd.V (Kd.int .u8) 5 w26 w.heap.size (fun k_ => (P5_ k_ ∨ w.heap.size ≤ k_) ∧ some k_ ≠ (v338 : Value).ownBlock ∧ some k_ ≠ (v347 : Value).ownBlock) (.slice A5 l5.length c5) l5) := ⟨h2_⟩
                 replace HB : Aside0 (Below w.heap.size w w26) := ⟨h3_⟩
                 clear h0_ h1_ h2_ h3_
                 have hHeld := trivial
                 refine norm_ (a' := ?_) ?_ ?_
                 rotate_left
                 ·simp only [putAll, Act.put, q1_, q2_, q3_]
                  rfl
                 refine two_ (i := 7) (j := 9) (Ni := some 35) (Nj := some 37) (fl 15 3583) (fl 15 3967) rfl rfl rfl rfl (two_of HT_.out (by kernel_rfl)) (by decide) (by decide) (fun K hK => ?_) (fun K hK => ?_)
                 ·skip
                  refine Kd.R_make_step (Kd.int .u8) _ 5 (by rfl) (N := 35) rfl 22 _ _ rfl 8 rfl rfl Try.underlying22 (.int .u8 0) 1 info5 rfl (by decide) (by omega) 0 (ok := fun _ => True) (okp := fun _ => True) rfl (fun _ hk => hk) trivial (by omega) (by omega) (Below.refl _ _) (Nat.le_refl _) ?_
                  intro v341 w27 ho28 hb hg_ hnew_; clear hg_ hnew_
                  (first | rw [← Ny340.out] at ho28 | (simp only [Int.reduceToNat] at ho28; rw [← Ny340.out] at ho28))
                  have n0_ := aS (Kd.V_elder' (tV HO_5.out) (Kd.R_base ho28) hb)
                  have n1_ := aS (Kd.R_elder' (tR HO339.out) (Kd.R_base ho28) hb)
                  have n2_ := aS (Kd.R_elder' (tR HO348.out) (Kd.R_base ho28) hb)
                  have n3_ := aS (Kd.R_lower (Kd.R_new' (Kd.R_new' (Kd.R_newM (M := fun k_ => (w.heap.size ≤ k_)) ho28 (below_size (tB HB.out)) (fun k_ h_ => h_)) (Kd.R_lt (tR HO339.out))) (Kd.R_lt (tR HO348.out))) (below_size (tB HB.out)))
                  have n4_ := aS (below_step (tB HB.out) hb)
                  clear HO_5 HO339 HO348 HB; have HO_5 := n0_; have HO339 := n1_; have HO348 := n2_; have HO342 := n3_; have HB := n4_; clear n0_ n1_ n2_ n3_ n4_ hb ho28
                  refine hK.out _ _ trivial (fun hHeld => ?_)
                  clear hK K
                  refine norm_ (a' := ?_) ?_ ?_
                  rotate_left
                  ·show Act.put _ (some 35) _ = _
                   simp only [Act.put, q1_, q2_, q3_, i64_w, i32_w]
                   rfl
                  exact norm_ (by first | (simp only [putAll, Act.put, q1_, q2_, q3_]; done) | (simp only [putAll, Act.put, q1_, q2_, q3_]; rfl)) (hJ6_7_10 (v338, v341, v347) _ ⟨(tR (Kd.R_mono HO339.out (fun _ hk => ⟨hk.1.1, ⟨hk.2, hk.1.2⟩⟩))), (tR (Kd.R_mono HO342.out (fun _ hk => ⟨hk.1.1.1, ⟨hk.1.2, hk.2⟩⟩))), (tR (Kd.R_mono HO348.out (fun _ hk => ⟨hk.1.1, ⟨hk.1.2, hk.2⟩⟩))), (tV (Kd.V_mono HO_5.out (fun _ hk => ⟨hk.1.1, ⟨hk.1.2.1, ⟨hk.2, hk.1.2.2⟩⟩⟩))), (tB HB.out)⟩)
                 ·skip
                  refine Kd.R_lit_step (Kd.int .u8) _ 5 ?hg (N := 37) ?hd (xs := ([80, a4] : List Int)) (inner := [.int .u8 80, .int .u8 a4]) (ok := fun _ => True) (okp := fun _ => True) ?hr ?hp (fun _ hk => hk) trivial (Below.refl _ _) (Nat.le_refl _) (by simp) ?_; (case hd => rfl); (case hg => rfl); (case hr => first | (go_simp; done) | (go_simp; rfl)); (case hp => exact (Reps.one (show Kd.M (Kd.int .u8) _ _ _ 80 [.int .u8 80] from rfl) (Reps.one (show Kd.M (Kd.int .u8) _ _ _ a4 [.int .u8 a4] from rfl) (Reps.none _ _))))
                  intro v344 w27 ho28 hb hg_ hnew_; clear hg_ hnew_
                  (first | rw [← Ny343.out] at ho28 | (simp only [Int.reduceToNat] at ho28; rw [← Ny343.out] at ho28))
                  have n0_ := aS (Kd.V_elder' (tV HO_5.out) (Kd.R_base ho28) hb)
                  have n1_ := aS (Kd.R_elder' (tR HO339.out) (Kd.R_base ho28) hb)
                  have n2_ := aS (Kd.R_elder' (tR HO348.out) (Kd.R_base ho28) hb)
                  have n3_ := aS (Kd.R_lower (Kd.R_new' (Kd.R_new' (Kd.R_newM (M := fun k_ => (w.heap.size ≤ k_)) ho28 (below_size (tB HB.out)) (fun k_ h_ => h_)) (Kd.R_lt (tR HO339.out))) (Kd.R_lt (tR HO348.out))) (below_size (tB HB.out)))
                  have n4_ := aS (below_step (tB HB.out) hb)
                  clear HO_5 HO339 HO348 HB; have HO_5 := n0_; have HO339 := n1_; have HO348 := n2_; have HO345 := n3_; have HB := n4_; clear n0_ n1_ n2_ n3_ n4_ hb ho28
                  refine hK.out _ _ trivial (fun hHeld => ?_)
                  clear hK K
                  refine norm_ (a' := ?_) ?_ ?_
                  rotate_left
                  ·show Act.put _ (some 37) _ = _
                   simp only [Act.put, q1_, q2_, q3_, i64_w, i32_w]
                   rfl
                  exact norm_ (by first | (simp only [putAll, Act.put, q1_, q2_, q3_]; done) | (simp only [putAll, Act.put, q1_, q2_, q3_]; rfl)) (hJ6_9_10 (v338, v344, v347) _ ⟨(tR (Kd.R_mono HO339.out (fun _ hk => ⟨hk.1.1, ⟨hk.2, hk.1.2⟩⟩))), (tR (Kd.R_mono HO345.out (fun _ hk => ⟨hk.1.1.1, ⟨hk.1.2, hk.2⟩⟩))), (tR (Kd.R_mono HO348.out (fun _ hk => ⟨hk.1.1, ⟨hk.1.2, hk.2⟩⟩))), (tV (Kd.V_mono HO_5.out (fun _ hk => ⟨hk.1.1, ⟨hk.1.2.1, ⟨hk.2, hk.1.2.2⟩⟩⟩))), (tB HB.out)⟩)
               ·skip
                rintro ⟨v338, v344⟩ w26 ⟨h0_, h1_, h2_, h3_⟩
                have HO339 : Aside0 (Kd.R (Kd.int .u8) 5 w26 w.heap.size (fun k_ => (w.heap.size ≤ k_) ∧ some k_ ≠ (v344 : Value).ownBlock) v338 t337) := ⟨h0_⟩
                have HO345 : Aside0 (Kd.R (Kd.int .u8) 5 w26 w.heap.size (fun k_ => (w.heap.size ≤ k_) ∧ some k_ ≠ (v338 : Value).ownBlock) v344 y343) := ⟨h1_⟩
                replace HO_5 : Aside0 (Kd.V (Kd.int .u8) 5 w26 w.heap.size (fun k_ => (P5_ k_ ∨ w.heap.size ≤ k_) ∧ some k_ ≠ (v338 : Value).ownBlock ∧ some k_ ≠ (v344 : Value).ownBlock) (.slice A5 l5.length c5) l5) := ⟨h2_⟩
                replace HB : Aside0 (Below w.heap.size w w26) := ⟨h3_⟩
                clear h0_ h1_ h2_ h3_
                have hHeld := trivial
                refine norm_ (a' := ?_) ?_ ?_
                rotate_left
                ·simp only [putAll, Act.put, q1_, q2_, q3_]
                 rfl
                refine two_ (i := 7) (j := 10) (Ni := some 35) (Nj := some 38) (fl 15 3071) (fl 15 3967) rfl rfl rfl rfl (two_of HT_.out (by kernel_rfl)) (by decide) (by decide) (fun K hK => ?_) (fun K hK => ?_)
                ·skip
                 refine Kd.R_make_step (Kd.int .u8) _ 5 (by rfl) (N := 35) rfl 22 _ _ rfl 8 rfl rfl Try.underlying22 (.int .u8 0) 1 info5 rfl (by decide) (by omega) 0 (ok := fun _ => True) (okp := fun _ => True) rfl (fun _ hk => hk) trivial (by omega) (by omega) (Below.refl _ _) (Nat.le_refl _) ?_
                 intro v341 w27 ho28 hb hg_ hnew_; clear hg_ hnew_
                 (first | rw [← Ny340.out] at ho28 | (simp only [Int.reduceToNat] at ho28; rw [← Ny340.out] at ho28))
                 have n0_ := aS (Kd.V_elder' (tV HO_5.out) (Kd.R_base ho28) hb)
                 have n1_ := aS (Kd.R_elder' (tR HO339.out) (Kd.R_base ho28) hb)
                 have n2_ := aS (Kd.R_elder' (tR HO345.out) (Kd.R_base ho28) hb)
                 have n3_ := aS (Kd.R_lower (Kd.R_new' (Kd.R_new' (Kd.R_newM (M := fun k_ => (w.heap.size ≤ k_)) ho28 (below_size (tB HB.out)) (fun k_ h_ => h_)) (Kd.R_lt (tR HO339.out))) (Kd.R_lt (tR HO345.out))) (below_size (tB HB.out)))
                 have n4_ := aS (below_step (tB HB.out) hb)
                 clear HO_5 HO339 HO345 HB; have HO_5 := n0_; have HO339 := n1_; have HO345 := n2_; have HO342 := n3_; have HB := n4_; clear n0_ n1_ n2_ n3_ n4_ hb ho28
                 refine hK.out _ _ trivial (fun hHeld => ?_)
                 clear hK K
                 refine norm_ (a' := ?_) ?_ ?_
                 rotate_left
                 ·show Act.put _ (some 35) _ = _
                  simp only [Act.put, q1_, q2_, q3_, i64_w, i32_w]
                  rfl
                 exact norm_ (by first | (simp only [putAll, Act.put, q1_, q2_, q3_]; done) | (simp only [putAll, Act.put, q1_, q2_, q3_]; rfl)) (hJ6_7_9 (v338, v341, v344) _ ⟨(tR (Kd.R_mono HO339.out (fun _ hk => ⟨hk.1.1, ⟨hk.2, hk.1.2⟩⟩))), (tR (Kd.R_mono HO342.out (fun _ hk => ⟨hk.1.1.1, ⟨hk.1.2, hk.2⟩⟩))), (tR (Kd.R_mono HO345.out (fun _ hk => ⟨hk.1.1, ⟨hk.1.2, hk.2⟩⟩))), (tV (Kd.V_mono HO_5.out (fun _ hk => ⟨hk.1.1, ⟨hk.1.2.1, ⟨hk.2, hk.1.2.2⟩⟩⟩))), (tB HB.out)⟩)
                ·skip
                 refine Kd.R_make_step (Kd.int .u8) _ 5 (by rfl) (N := 38) rfl 22 _ _ rfl 6 rfl rfl Try.underlying22 (.int .u8 0) 1 info5 rfl (by decide) (by omega) 0 (ok := fun _ => True) (okp := fun _ => True) rfl (fun _ hk => hk) trivial (by omega) (by omega) (Below.refl _ _) (Nat.le_refl _) ?_
                 intro v347 w27 ho28 hb hg_ hnew_; clear hg_ hnew_
                 (first | rw [← Ny346.out] at ho28 | (simp only [Int.reduceToNat] at ho28; rw [← Ny346.out] at ho28))
                 have n0_ := aS (Kd.V_elder' (tV HO_5.out) (Kd.R_base ho28) hb)
                 have n1_ := aS (Kd.R_elder' (tR HO339.out) (Kd.R_base ho28) hb)
                 have n2_ := aS (Kd.R_elder' (tR HO345.out) (Kd.R_base ho28) hb)
                 have n3_ := aS (Kd.R_lower (Kd.R_new' (Kd.R_new' (Kd.R_newM (M := fun k_ => (w.heap.size ≤ k_)) ho28 (below_size (tB HB.out)) (fun k_ h_ => h_)) (Kd.R_lt (tR HO339.out))) (Kd.R_lt (tR HO345.out))) (below_size (tB HB.out)))
                 have n4_ := aS (below_step (tB HB.out) hb)
                 clear HO_5 HO339 HO345 HB; have HO_5 := n0_; have HO339 := n1_; have HO345 := n2_; have HO348 := n3_; have HB := n4_; clear n0_ n1_ n2_ n3_ n4_ hb ho28
                 refine hK.out _ _ trivial (fun hHeld => ?_)
                 clear hK K
                 refine norm_ (a' := ?_) ?_ ?_
                 rotate_left
                 ·show Act.put _ (some 38) _ = _
                  simp only [Act.put, q1_, q2_, q3_, i64_w, i32_w]
                  rfl
                 exact norm_ (by first | (simp only [putAll, Act.put, q1_, q2_, q3_]; done) | (simp only [putAll, Act.put, q1_, q2_, q3_]; rfl)) (hJ6_9_10 (v338, v344, v347) _ ⟨(tR (Kd.R_mono HO339.out (fun _ hk => ⟨hk.1.1, ⟨hk.1.2, hk.2⟩⟩))), (tR (Kd.R_mono HO345.out (fun _ hk => ⟨hk.1.1, ⟨hk.1.2, hk.2⟩⟩))), (tR (Kd.R_mono HO348.out (fun _ hk => ⟨hk.1.1.1, ⟨hk.1.2, hk.2⟩⟩))), (tV (Kd.V_mono HO_5.out (fun _ hk => ⟨hk.1.1, ⟨hk.1.2.1, ⟨hk.1.2.2, hk.2⟩⟩⟩))), (tB HB.out)⟩)
              ·skip
               rintro ⟨v338, v341⟩ w26 ⟨h0_, h1_, h2_, h3_⟩
               have HO339 : Aside0 (Kd.R (Kd.int .u8) 5 w26 w.heap.size (fun k_ => (w.heap.size ≤ k_) ∧ some k_ ≠ (v341 : Value).ownBlock) v338 t337) := ⟨h0_⟩
               have HO342 : Aside0 (Kd.R (Kd.int .u8) 5 w26 w.heap.size (fun k_ => (w.heap.size ≤ k_) ∧ some k_ ≠ (v338 : Value).ownBlock) v341 y340) := ⟨h1_⟩
               replace HO_5 : Aside0 (Kd.V (Kd.int .u8) 5 w26 w.heap.size (fun k_ => (P5_ k_ ∨ w.heap.size ≤ k_) ∧ some k_ ≠ (v338 : Value).ownBlock ∧ some k_ ≠ (v341 : Value).ownBlock) (.slice A5 l5.length c5) l5) := ⟨h2_⟩
               replace HB : Aside0 (Below w.heap.size w w26) := ⟨h3_⟩
               clear h0_ h1_ h2_ h3_
               have hHeld := trivial
               refine norm_ (a' := ?_) ?_ ?_
               rotate_left
               ·simp only [putAll, Act.put, q1_, q2_, q3_]
                rfl
               refine two_ (i := 9) (j := 10) (Ni := some 37) (Nj := some 38) (fl 15 3071) (fl 15 3583) rfl rfl rfl rfl (two_of HT_.out (by kernel_rfl)) (by decide) (by decide) (fun K hK => ?_) (fun K hK => ?_)
               ·skip
                refine Kd.R_lit_step (Kd.int .u8) _ 5 ?hg (N := 37) ?hd (xs := ([80, a4] : List Int)) (inner := [.int .u8 80, .int .u8 a4]) (ok := fun _ => True) (okp := fun _ => True) ?hr ?hp (fun _ hk => hk) trivial (Below.refl _ _) (Nat.le_refl _) (by simp) ?_; (case hd => rfl); (case hg => rfl); (case hr => first | (go_simp; done) | (go_simp; rfl)); (case hp => exact (Reps.one (show Kd.M (Kd.int .u8) _ _ _ 80 [.int .u8 80] from rfl) (Reps.one (show Kd.M (Kd.int .u8) _ _ _ a4 [.int .u8 a4] from rfl) (Reps.none _ _))))
                intro v344 w27 ho28 hb hg_ hnew_; clear hg_ hnew_
                (first | rw [← Ny343.out] at ho28 | (simp only [Int.reduceToNat] at ho28; rw [← Ny343.out] at ho28))
                have n0_ := aS (Kd.V_elder' (tV HO_5.out) (Kd.R_base ho28) hb)
                have n1_ := aS (Kd.R_elder' (tR HO339.out) (Kd.R_base ho28) hb)
                have n2_ := aS (Kd.R_elder' (tR HO342.out) (Kd.R_base ho28) hb)
                have n3_ := aS (Kd.R_lower (Kd.R_new' (Kd.R_new' (Kd.R_newM (M := fun k_ => (w.heap.size ≤ k_)) ho28 (below_size (tB HB.out)) (fun k_ h_ => h_)) (Kd.R_lt (tR HO339.out))) (Kd.R_lt (tR HO342.out))) (below_size (tB HB.out)))
                have n4_ := aS (below_step (tB HB.out) hb)
                clear HO_5 HO339 HO342 HB; have HO_5 := n0_; have HO339 := n1_; have HO342 := n2_; have HO345 := n3_; have HB := n4_; clear n0_ n1_ n2_ n3_ n4_ hb ho28
                refine hK.out _ _ trivial (fun hHeld => ?_)
                clear hK K
                refine norm_ (a' := ?_) ?_ ?_
                rotate_left
                ·show Act.put _ (some 37) _ = _
                 simp only [Act.put, q1_, q2_, q3_, i64_w, i32_w]
                 rfl
                exact norm_ (by first | (simp only [putAll, Act.put, q1_, q2_, q3_]; done) | (simp only [putAll, Act.put, q1_, q2_, q3_]; rfl)) (hJ6_7_9 (v338, v341, v344) _ ⟨(tR (Kd.R_mono HO339.out (fun _ hk => ⟨hk.1.1, ⟨hk.1.2, hk.2⟩⟩))), (tR (Kd.R_mono HO342.out (fun _ hk => ⟨hk.1.1, ⟨hk.1.2, hk.2⟩⟩))), (tR (Kd.R_mono HO345.out (fun _ hk => ⟨hk.1.1.1, ⟨hk.1.2, hk.2⟩⟩))), (tV (Kd.V_mono HO_5.out (fun _ hk => ⟨hk.1.1, ⟨hk.1.2.1, ⟨hk.1.2.2, hk.2⟩⟩⟩))), (tB HB.out)⟩)
               ·skip
                refine Kd.R_make_step (Kd.int .u8) _ 5 (by rfl) (N := 38) rfl 22 _ _ rfl 6 rfl rfl Try.underlying22 (.int .u8 0) 1 info5 rfl (by decide) (by omega) 0 (ok := fun _ => True) (okp := fun _ => True) rfl (fun _ hk => hk) trivial (by omega) (by omega) (Below.refl _ _) (Nat.le_refl _) ?_
                intro v347 w27 ho28 hb hg_ hnew_; clear hg_ hnew_
                (first | rw [← Ny346.out] at ho28 | (simp only [Int.reduceToNat] at ho28; rw [← Ny346.out] at ho28))
                have n0_ := aS (Kd.V_elder' (tV HO_5.out) (Kd.R_base ho28) hb)
                have n1_ := aS (Kd.R_elder' (tR HO339.out) (Kd.R_base ho28) hb)
                have n2_ := aS (Kd.R_elder' (tR HO342.out) (Kd.R_base ho28) hb)
                have n3_ := aS (Kd.R_lower (Kd.R_new' (Kd.R_new' (Kd.R_newM (M := fun k_ => (w.heap.size ≤ k_)) ho28 (below_size (tB HB.out)) (fun k_ h_ => h_)) (Kd.R_lt (tR HO339.out))) (Kd.R_lt (tR HO342.out))) (below_size (tB HB.out)))
                have n4_ := aS (below_step (tB HB.out) hb)
                clear HO_5 HO339 HO342 HB; have HO_5 := n0_; have HO339 := n1_; have HO342 := n2_; have HO348 := n3_; have HB := n4_; clear n0_ n1_ n2_ n3_ n4_ hb ho28
                refine hK.out _ _ trivial (fun hHeld => ?_)
                clear hK K
                refine norm_ (a' := ?_) ?_ ?_
                rotate_left
                ·show Act.put _ (some 38) _ = _
                 simp only [Act.put, q1_, q2_, q3_, i64_w, i32_w]
                 rfl
                exact norm_ (by first | (simp only [putAll, Act.put, q1_, q2_, q3_]; done) | (simp only [putAll, Act.put, q1_, q2_, q3_]; rfl)) (hJ6_7_10 (v338, v341, v347) _ ⟨(tR (Kd.R_mono HO339.out (fun _ hk => ⟨hk.1.1, ⟨hk.1.2, hk.2⟩⟩))), (tR (Kd.R_mono HO342.out (fun _ hk => ⟨hk.1.1, ⟨hk.1.2, hk.2⟩⟩))), (tR (Kd.R_mono HO348.out (fun _ hk => ⟨hk.1.1.1, ⟨hk.1.2, hk.2⟩⟩))), (tV (Kd.V_mono HO_5.out (fun _ hk => ⟨hk.1.1, ⟨hk.1.2.1, ⟨hk.1.2.2, hk.2⟩⟩⟩))), (tB HB.out)⟩)
             ·skip
              rintro ⟨v341, v344, v347⟩ w29 ⟨h0_, h1_, h2_, h3_, h4_⟩
              have HO342 : Aside0 (Kd.R (Kd.int .u8) 5 w29 w.heap.size (fun k_ => (w.heap.size ≤ k_) ∧ some k_ ≠ (v344 : Value).ownBlock ∧ some k_ ≠ (v347 : Value).ownBlock) v341 y340) := ⟨h0_⟩
              have HO345 : Aside0 (Kd.R (Kd.int .u8) 5 w29 w.heap.size (fun k_ => (w.heap.size ≤ k_) ∧ some k_ ≠ (v341 : Value).ownBlock ∧ some k_ ≠ (v347 : Value).ownBlock) v344 y343) := ⟨h1_⟩
              have HO348 : Aside0 (Kd.R (Kd.int .u8) 5 w29 w.heap.size (fun k_ => (w.heap.size ≤ k_) ∧ some k_ ≠ (v341 : Value).ownBlock ∧ some k_ ≠ (v344 : Value).ownBlock) v347 y346) := ⟨h2_⟩
              replace HO_5 : Aside0 (Kd.V (Kd.int .u8) 5 w29 w.heap.size (fun k_ => (P5_ k_ ∨ w.heap.size ≤ k_) ∧ some k_ ≠ (v341 : Value).ownBlock ∧ some k_ ≠ (v344 : Value).ownBlock ∧ some k_ ≠ (v347 : Value).ownBlock) (.slice A5 l5.length c5) l5) := ⟨h3_⟩
              replace HB : Aside0 (Below w.heap.size w w29) := ⟨h4_⟩
              clear h0_ h1_ h2_ h3_ h4_
              have hHeld := trivial
              refine norm_ (a' := ?_) ?_ ?_
              rotate_left
              ·simp only [putAll, Act.put, q1_, q2_, q3_]
               rfl
              refine one_ (i := 6) (N := some 34) (fl 15 4095) rfl rfl (one_of HT_.out (by kernel_rfl)) (by decide) (fun K hK => ?_)
              refine goes_ Try.func68 (by kernel_rfl) rfl #[.int .u64 (Go.bits .or .u64 (IntKind.u64.wrap ((IntKind.u64.wrap (a2)) * 65536)) (IntKind.u64.wrap (a3))), .int .i64 4] (by rfl) rfl rfl (by (try simp only [List.map_toArray, List.map_cons, List.map_nil]); first | done | rfl) ?_
              with_reducible refine (field_Cut.calls kj6 (Go.bits .or .u64 (IntKind.u64.wrap ((IntKind.u64.wrap (a2)) * 65536)) (IntKind.u64.wrap (a3))) 4 t337 _ A12.out).mono ?_
              rintro e w30 ⟨v338, rfl, ho0, hb⟩; refine ⟨_, rfl, ?_⟩
              replace HO_5 := aS (Kd.V_elder' (tV HO_5.out) (Kd.R_base ho0) hb)
              have HO339 := aS (Kd.R_lower (Kd.R_new' (Kd.R_new' (Kd.R_new' (Kd.R_newM (M := fun k_ => (w.heap.size ≤ k_)) ho0 (below_size (tB HB.out)) (fun k_ h_ => h_)) (Kd.R_lt (tR HO342.out))) (Kd.R_lt (tR HO345.out))) (Kd.R_lt (tR HO348.out))) (below_size (tB HB.out)))
              replace HO342 := aS (Kd.R_elder' (tR HO342.out) (Kd.R_base ho0) hb)
              replace HO345 := aS (Kd.R_elder' (tR HO345.out) (Kd.R_base ho0) hb)
              replace HO348 := aS (Kd.R_elder' (tR HO348.out) (Kd.R_base ho0) hb)
              replace HB := aS (below_step (tB HB.out) hb)
              (try clear hb); (try clear hb2); (try clear hk); (try clear hi); (try clear ho0)
              refine hK.out _ _ trivial (fun hHeld => ?_)
              clear hK K
              refine norm_ (a' := ?_) ?_ ?_
              rotate_left
              ·show Act.put _ (some 34) _ = _
               simp only [Act.put, q1_, q2_, q3_, i64_w, i32_w]
               rfl
              exact norm_ (by first | (simp only [putAll, Act.put, q1_, q2_, q3_]; done) | (simp only [putAll, Act.put, q1_, q2_, q3_]; rfl)) (hJ6_7_9_10 (v338, v341, v344, v347) _ ⟨(tR (Kd.R_mono HO339.out (fun _ hk => ⟨hk.1.1.1.1, ⟨hk.1.1.2, ⟨hk.1.2, hk.2⟩⟩⟩))), (tR (Kd.R_mono HO342.out (fun _ hk => ⟨hk.1.1, ⟨hk.2, ⟨hk.1.2.1, hk.1.2.2⟩⟩⟩))), (tR (Kd.R_mono HO345.out (fun _ hk => ⟨hk.1.1, ⟨hk.2, ⟨hk.1.2.1, hk.1.2.2⟩⟩⟩))), (tR (Kd.R_mono HO348.out (fun _ hk => ⟨hk.1.1, ⟨hk.2, ⟨hk.1.2.1, hk.1.2.2⟩⟩⟩))), (tV (Kd.V_mono HO_5.out (fun _ hk => ⟨hk.1.1, ⟨hk.2, ⟨hk.1.2.1, ⟨hk.1.2.2.1, hk.1.2.2.2⟩⟩⟩⟩))), (tB HB.out)⟩)
            ·skip
             rintro ⟨v338, v344, v347⟩ w28 ⟨h0_, h1_, h2_, h3_, h4_⟩
             have HO339 : Aside0 (Kd.R (Kd.int .u8) 5 w28 w.heap.size (fun k_ => (w.heap.size ≤ k_) ∧ some k_ ≠ (v344 : Value).ownBlock ∧ some k_ ≠ (v347 : Value).ownBlock) v338 t337) := ⟨h0_⟩
             have HO345 : Aside0 (Kd.R (Kd.int .u8) 5 w28 w.heap.size (fun k_ => (w.heap.size ≤ k_) ∧ some k_ ≠ (v338 : Value).ownBlock ∧ some k_ ≠ (v347 : Value).ownBlock) v344 y343) := ⟨h1_⟩
             have HO348 : Aside0 (Kd.R (Kd.int .u8) 5 w28 w.heap.size (fun k_ => (w.heap.size ≤ k_) ∧ some k_ ≠ (v338 : Value).ownBlock ∧ some k_ ≠ (v344 : Value).ownBlock) v347 y346) := ⟨h2_⟩
             replace HO_5 : Aside0 (Kd.V (Kd.int .u8) 5 w28 w.heap.size (fun k_ => (P5_ k_ ∨ w.heap.size ≤ k_) ∧ some k_ ≠ (v338 : Value).ownBlock ∧ some k_ ≠ (v344 : Value).ownBlock ∧ some k_ ≠ (v347 : Value).ownBlock) (.slice A5 l5.length c5) l5) := ⟨h3_⟩
             replace HB : Aside0 (Below w.heap.size w w28) := ⟨h4_⟩
             clear h0_ h1_ h2_ h3_ h4_
             have hHeld := trivial
             refine norm_ (a' := ?_) ?_ ?_
             rotate_left
             ·simp only [putAll, Act.put, q1_, q2_, q3_]
              rfl
             refine one_ (i := 7) (N := some 35) (fl 15 4095) rfl rfl (one_of HT_.out (by kernel_rfl)) (by decide) (fun K hK => ?_)
             refine Kd.R_make_step (Kd.int .u8) _ 5 (by rfl) (N := 35) rfl 22 _ _ rfl 8 rfl rfl Try.underlying22 (.int .u8 0) 1 info5 rfl (by decide) (by omega) 0 (ok := fun _ => True) (okp := fun _ => True) rfl (fun _ hk => hk) trivial (by omega) (by omega) (Below.refl _ _) (Nat.le_refl _) ?_
             intro v341 w29 ho30 hb hg_ hnew_; clear hg_ hnew_
             (first | rw [← Ny340.out] at ho30 | (simp only [Int.reduceToNat] at ho30; rw [← Ny340.out] at ho30))
             have n0_ := aS (Kd.V_elder' (tV HO_5.out) (Kd.R_base ho30) hb)
             have n1_ := aS (Kd.R_elder' (tR HO339.out) (Kd.R_base ho30) hb)
             have n2_ := aS (Kd.R_elder' (tR HO345.out) (Kd.R_base ho30) hb)
             have n3_ := aS (Kd.R_elder' (tR HO348.out) (Kd.R_base ho30) hb)
             have n4_ := aS (Kd.R_lower (Kd.R_new' (Kd.R_new' (Kd.R_new' (Kd.R_newM (M := fun k_ => (w.heap.size ≤ k_)) ho30 (below_size (tB HB.out)) (fun k_ h_ => h_)) (Kd.R_lt (tR HO339.out))) (Kd.R_lt (tR HO345.out))) (Kd.R_lt (tR HO348.out))) (below_size (tB HB.out)))
             have n5_ := aS (below_step (tB HB.out) hb)
             clear HO_5 HO339 HO345 HO348 HB; have HO_5 := n0_; have HO339 := n1_; have HO345 := n2_; have HO348 := n3_; have HO342 := n4_; have HB := n5_; clear n0_ n1_ n2_ n3_ n4_ n5_ hb ho30
             refine hK.out _ _ trivial (fun hHeld => ?_)
             clear hK K
             refine norm_ (a' := ?_) ?_ ?_
             rotate_left
             ·show Act.put _ (some 35) _ = _
              simp only [Act.put, q1_, q2_, q3_, i64_w, i32_w]
              rfl
             exact norm_ (by first | (simp only [putAll, Act.put, q1_, q2_, q3_]; done) | (simp only [putAll, Act.put, q1_, q2_, q3_]; rfl)) (hJ6_7_9_10 (v338, v341, v344, v347) _ ⟨(tR (Kd.R_mono HO339.out (fun _ hk => ⟨hk.1.1, ⟨hk.2, ⟨hk.1.2.1, hk.1.2.2⟩⟩⟩))), (tR (Kd.R_mono HO342.out (fun _ hk => ⟨hk.1.1.1.1, ⟨hk.1.1.2, ⟨hk.1.2, hk.2⟩⟩⟩))), (tR (Kd.R_mono HO345.out (fun _ hk => ⟨hk.1.1, ⟨hk.1.2.1, ⟨hk.2, hk.1.2.2⟩⟩⟩))), (tR (Kd.R_mono HO348.out (fun _ hk => ⟨hk.1.1, ⟨hk.1.2.1, ⟨hk.2, hk.1.2.2⟩⟩⟩))), (tV (Kd.V_mono HO_5.out (fun _ hk => ⟨hk.1.1, ⟨hk.1.2.1, ⟨hk.2, ⟨hk.1.2.2.1, hk.1.2.2.2⟩⟩⟩⟩))), (tB HB.out)⟩)
           ·skip
            rintro ⟨v338, v341, v347⟩ w28 ⟨h0_, h1_, h2_, h3_, h4_⟩
            have HO339 : Aside0 (Kd.R (Kd.int .u8) 5 w28 w.heap.size (fun k_ => (w.heap.size ≤ k_) ∧ some k_ ≠ (v341 : Value).ownBlock ∧ some k_ ≠ (v347 : Value).ownBlock) v338 t337) := ⟨h0_⟩
            have HO342 : Aside0 (Kd.R (Kd.int .u8) 5 w28 w.heap.size (fun k_ => (w.heap.size ≤ k_) ∧ some k_ ≠ (v338 : Value).ownBlock ∧ some k_ ≠ (v347 : Value).ownBlock) v341 y340) := ⟨h1_⟩
            have HO348 : Aside0 (Kd.R (Kd.int .u8) 5 w28 w.heap.size (fun k_ => (w.heap.size ≤ k_) ∧ some k_ ≠ (v338 : Value).ownBlock ∧ some k_ ≠ (v341 : Value).ownBlock) v347 y346) := ⟨h2_⟩
            replace HO_5 : Aside0 (Kd.V (Kd.int .u8) 5 w28 w.heap.size (fun k_ => (P5_ k_ ∨ w.heap.size ≤ k_) ∧ some k_ ≠ (v338 : Value).ownBlock ∧ some k_ ≠ (v341 : Value).ownBlock ∧ some k_ ≠ (v347 : Value).ownBlock) (.slice A5 l5.length c5) l5) := ⟨h3_⟩
            replace HB : Aside0 (Below w.heap.size w w28) := ⟨h4_⟩
            clear h0_ h1_ h2_ h3_ h4_
            have hHeld := trivial
            refine norm_ (a' := ?_) ?_ ?_
            rotate_left
            ·simp only [putAll, Act.put, q1_, q2_, q3_]
             rfl
            refine one_ (i := 9) (N := some 37) (fl 15 4095) rfl rfl (one_of HT_.out (by kernel_rfl)) (by decide) (fun K hK => ?_)
            refine Kd.R_lit_step (Kd.int .u8) _ 5 ?hg (N := 37) ?hd (xs := ([80, a4] : List Int)) (inner := [.int .u8 80, .int .u8 a4]) (ok := fun _ => True) (okp := fun _ => True) ?hr ?hp (fun _ hk => hk) trivial (Below.refl _ _) (Nat.le_refl _) (by simp) ?_; (case hd => rfl); (case hg => rfl); (case hr => first | (go_simp; done) | (go_simp; rfl)); (case hp => exact (Reps.one (show Kd.M (Kd.int .u8) _ _ _ 80 [.int .u8 80] from rfl) (Reps.one (show Kd.M (Kd.int .u8) _ _ _ a4 [.int .u8 a4] from rfl) (Reps.none _ _))))
            intro v344 w29 ho30 hb hg_ hnew_; clear hg_ hnew_
            (first | rw [← Ny343.out] at ho30 | (simp only [Int.reduceToNat] at ho30; rw [← Ny343.out] at ho30))
            have n0_ := aS (Kd.V_elder' (tV HO_5.out) (Kd.R_base ho30) hb)
            have n1_ := aS (Kd.R_elder' (tR HO339.out) (Kd.R_base ho30) hb)
            have n2_ := aS (Kd.R_elder' (tR HO342.out) (Kd.R_base ho30) hb)
            have n3_ := aS (Kd.R_elder' (tR HO348.out) (Kd.R_base ho30) hb)
            have n4_ := aS (Kd.R_lower (Kd.R_new' (Kd.R_new' (Kd.R_new' (Kd.R_newM (M := fun k_ => (w.heap.size ≤ k_)) ho30 (below_size (tB HB.out)) (fun k_ h_ => h_)) (Kd.R_lt (tR HO339.out))) (Kd.R_lt (tR HO342.out))) (Kd.R_lt (tR HO348.out))) (below_size (tB HB.out)))
            have n5_ := aS (below_step (tB HB.out) hb)
            clear HO_5 HO339 HO342 HO348 HB; have HO_5 := n0_; have HO339 := n1_; have HO342 := n2_; have HO348 := n3_; have HO345 := n4_; have HB := n5_; clear n0_ n1_ n2_ n3_ n4_ n5_ hb ho30
            refine hK.out _ _ trivial (fun hHeld => ?_)
            clear hK K
            refine norm_ (a' := ?_) ?_ ?_
            rotate_left
            ·show Act.put _ (some 37) _ = _
             simp only [Act.put, q1_, q2_, q3_, i64_w, i32_w]
             rfl
            exact norm_ (by first | (simp only [putAll, Act.put, q1_, q2_, q3_]; done) | (simp only [putAll, Act.put, q1_, q2_, q3_]; rfl)) (hJ6_7_9_10 (v338, v341, v344, v347) _ ⟨(tR (Kd.R_mono HO339.out (fun _ hk => ⟨hk.1.1, ⟨hk.1.2.1, ⟨hk.2, hk.1.2.2⟩⟩⟩))), (tR (Kd.R_mono HO342.out (fun _ hk => ⟨hk.1.1, ⟨hk.1.2.1, ⟨hk.2, hk.1.2.2⟩⟩⟩))), (tR (Kd.R_mono HO345.out (fun _ hk => ⟨hk.1.1.1.1, ⟨hk.1.1.2, ⟨hk.1.2, hk.2⟩⟩⟩))), (tR (Kd.R_mono HO348.out (fun _ hk => ⟨hk.1.1, ⟨hk.1.2.1, ⟨hk.1.2.2, hk.2⟩⟩⟩))), (tV (Kd.V_mono HO_5.out (fun _ hk => ⟨hk.1.1, ⟨hk.1.2.1, ⟨hk.1.2.2.1, ⟨hk.2, hk.1.2.2.2⟩⟩⟩⟩))), (tB HB.out)⟩)
          ·skip
           rintro ⟨v338, v341, v344⟩ w28 ⟨h0_, h1_, h2_, h3_, h4_⟩
           have HO339 : Aside0 (Kd.R (Kd.int .u8) 5 w28 w.heap.size (fun k_ => (w.heap.size ≤ k_) ∧ some k_ ≠ (v341 : Value).ownBlock ∧ some k_ ≠ (v344 : Value).ownBlock) v338 t337) := ⟨h0_⟩
           have HO342 : Aside0 (Kd.R (Kd.int .u8) 5 w28 w.heap.size (fun k_ => (w.heap.size ≤ k_) ∧ some k_ ≠ (v338 : Value).ownBlock ∧ some k_ ≠ (v344 : Value).ownBlock) v341 y340) := ⟨h1_⟩
           have HO345 : Aside0 (Kd.R (Kd.int .u8) 5 w28 w.heap.size (fun k_ => (w.heap.size ≤ k_) ∧ some k_ ≠ (v338 : Value).ownBlock ∧ some k_ ≠ (v341 : Value).ownBlock) v344 y343) := ⟨h2_⟩
           replace HO_5 : Aside0 (Kd.V (Kd.int .u8) 5 w28 w.heap.size (fun k_ => (P5_ k_ ∨ w.heap.size ≤ k_) ∧ some k_ ≠ (v338 : Value).ownBlock ∧ some k_ ≠ (v341 : Value).ownBlock ∧ some k_ ≠ (v344 : Value).ownBlock) (.slice A5 l5.length c5) l5) := ⟨h3_⟩
           replace HB : Aside0 (Below w.heap.size w w28) := ⟨h4_⟩
           clear h0_ h1_ h2_ h3_ h4_
           have hHeld := trivial
           refine norm_ (a' := ?_) ?_ ?_
           rotate_left
           ·simp only [putAll, Act.put, q1_, q2_, q3_]
            rfl
           refine one_ (i := 10) (N := some 38) (fl 15 4095) rfl rfl (one_of HT_.out (by kernel_rfl)) (by decide) (fun K hK => ?_)
           refine Kd.R_make_step (Kd.int .u8) _ 5 (by rfl) (N := 38) rfl 22 _ _ rfl 6 rfl rfl Try.underlying22 (.int .u8 0) 1 info5 rfl (by decide) (by omega) 0 (ok := fun _ => True) (okp := fun _ => True) rfl (fun _ hk => hk) trivial (by omega) (by omega) (Below.refl _ _) (Nat.le_refl _) ?_
           intro v347 w29 ho30 hb hg_ hnew_; clear hg_ hnew_
           (first | rw [← Ny346.out] at ho30 | (simp only [Int.reduceToNat] at ho30; rw [← Ny346.out] at ho30))
           have n0_ := aS (Kd.V_elder' (tV HO_5.out) (Kd.R_base ho30) hb)
           have n1_ := aS (Kd.R_elder' (tR HO339.out) (Kd.R_base ho30) hb)
           have n2_ := aS (Kd.R_elder' (tR HO342.out) (Kd.R_base ho30) hb)
           have n3_ := aS (Kd.R_elder' (tR HO345.out) (Kd.R_base ho30) hb)
           have n4_ := aS (Kd.R_lower (Kd.R_new' (Kd.R_new' (Kd.R_new' (Kd.R_newM (M := fun k_ => (w.heap.size ≤ k_)) ho30 (below_size (tB HB.out)) (fun k_ h_ => h_)) (Kd.R_lt (tR HO339.out))) (Kd.R_lt (tR HO342.out))) (Kd.R_lt (tR HO345.out))) (below_size (tB HB.out)))
           have n5_ := aS (below_step (tB HB.out) hb)
           clear HO_5 HO339 HO342 HO345 HB; have HO_5 := n0_; have HO339 := n1_; have HO342 := n2_; have HO345 := n3_; have HO348 := n4_; have HB := n5_; clear n0_ n1_ n2_ n3_ n4_ n5_ hb ho30
           refine hK.out _ _ trivial (fun hHeld => ?_)
           clear hK K
           refine norm_ (a' := ?_) ?_ ?_
           rotate_left
           ·show Act.put _ (some 38) _ = _
            simp only [Act.put, q1_, q2_, q3_, i64_w, i32_w]
            rfl
           exact norm_ (by first | (simp only [putAll, Act.put, q1_, q2_, q3_]; done) | (simp only [putAll, Act.put, q1_, q2_, q3_]; rfl)) (hJ6_7_9_10 (v338, v341, v344, v347) _ ⟨(tR (Kd.R_mono HO339.out (fun _ hk => ⟨hk.1.1, ⟨hk.1.2.1, ⟨hk.1.2.2, hk.2⟩⟩⟩))), (tR (Kd.R_mono HO342.out (fun _ hk => ⟨hk.1.1, ⟨hk.1.2.1, ⟨hk.1.2.2, hk.2⟩⟩⟩))), (tR (Kd.R_mono HO345.out (fun _ hk => ⟨hk.1.1, ⟨hk.1.2.1, ⟨hk.1.2.2, hk.2⟩⟩⟩))), (tR (Kd.R_mono HO348.out (fun _ hk => ⟨hk.1.1.1.1, ⟨hk.1.1.2, ⟨hk.1.2, hk.2⟩⟩⟩))), (tV (Kd.V_mono HO_5.out (fun _ hk => ⟨hk.1.1, ⟨hk.1.2.1, ⟨hk.1.2.2.1, ⟨hk.1.2.2.2, hk.2⟩⟩⟩⟩))), (tB HB.out)⟩)
         rintro ⟨v338, v341, v344, v347⟩ w30 ⟨h0_, h1_, h2_, h3_, h4_, h5_⟩
         have HO339 : Aside0 (Kd.R (Kd.int .u8) 5 w30 w.heap.size (fun k_ => (w.heap.size ≤ k_) ∧ some k_ ≠ (v341 : Value).ownBlock ∧ some k_ ≠ (v344 : Value).ownBlock ∧ some k_ ≠ (v347 : Value).ownBlock) v338 t337) := ⟨h0_⟩
         have HO342 : Aside0 (Kd.R (Kd.int .u8) 5 w30 w.heap.size (fun k_ => (w.heap.size ≤ k_) ∧ some k_ ≠ (v338 : Value).ownBlock ∧ some k_ ≠ (v344 : Value).ownBlock ∧ some k_ ≠ (v347 : Value).ownBlock) v341 y340) := ⟨h1_⟩
         have HO345 : Aside0 (Kd.R (Kd.int .u8) 5 w30 w.heap.size (fun k_ => (w.heap.size ≤ k_) ∧ some k_ ≠ (v338 : Value).ownBlock ∧ some k_ ≠ (v341 : Value).ownBlock ∧ some k_ ≠ (v347 : Value).ownBlock) v344 y343) := ⟨h2_⟩
         have HO348 : Aside0 (Kd.R (Kd.int .u8) 5 w30 w.heap.size (fun k_ => (w.heap.size ≤ k_) ∧ some k_ ≠ (v338 : Value).ownBlock ∧ some k_ ≠ (v341 : Value).ownBlock ∧ some k_ ≠ (v344 : Value).ownBlock) v347 y346) := ⟨h3_⟩
         replace HO_5 : Aside0 (Kd.V (Kd.int .u8) 5 w30 w.heap.size (fun k_ => (P5_ k_ ∨ w.heap.size ≤ k_) ∧ some k_ ≠ (v338 : Value).ownBlock ∧ some k_ ≠ (v341 : Value).ownBlock ∧ some k_ ≠ (v344 : Value).ownBlock ∧ some k_ ≠ (v347 : Value).ownBlock) (.slice A5 l5.length c5) l5) := ⟨h4_⟩
         replace HB : Aside0 (Below w.heap.size w w30) := ⟨h5_⟩
         clear h0_ h1_ h2_ h3_ h4_ h5_
         have hHeld := trivial
         obtain ⟨Ao31, co31, eo31⟩ := Kd.R_slice HO339.out
         (first | subst eo31 | (injection eo31 with f1_ f2_ f3_; have f4_ := f1_.symm; have f5_ := f3_.symm; clear f1_ f2_ f3_; subst f4_; subst f5_))
         obtain ⟨Ao32, co32, eo32⟩ := Kd.R_slice HO342.out
         (first | subst eo32 | (injection eo32 with f1_ f2_ f3_; have f4_ := f1_.symm; have f5_ := f3_.symm; clear f1_ f2_ f3_; subst f4_; subst f5_))
         obtain ⟨Ao33, co33, eo33⟩ := Kd.R_slice HO345.out
         (first | subst eo33 | (injection eo33 with f1_ f2_ f3_; have f4_ := f1_.symm; have f5_ := f3_.symm; clear f1_ f2_ f3_; subst f4_; subst f5_))
         obtain ⟨Ao34, co34, eo34⟩ := Kd.R_slice HO348.out
         (first | subst eo34 | (injection eo34 with f1_ f2_ f3_; have f4_ := f1_.symm; have f5_ := f3_.symm; clear f1_ f2_ f3_; subst f4_; subst f5_))
         refine norm_ (a' := ?_) ?_ ?_
         rotate_left
         ·simp only [putAll, Act.put, q1_, q2_, q3_]
          rfl
         refine one_ (i := 12) (N := some 40) (fl 15 8191) rfl rfl (one_of HT_.out (by kernel_rfl)) (by decide) (fun K hK => ?_)
         refine Kd.N_lit_step (Kd.slice 5 (Kd.int .u8)) _ 22 ?hg (N' := 40) ?hd (xs := ([t337, y340, y343, y346, l5] : List (List Int))) (inner := [.slice Ao31 t337.length co31, .slice Ao32 y340.length co32, .slice Ao33 y343.length co33, .slice Ao34 y346.length co34, .slice A5 l5.length c5]) (ok := (fun k_ => (P5_ k_ ∨ w.heap.size ≤ k_))) (okp := (fun k_ => (P5_ k_ ∨ w.heap.size ≤ k_))) ?hr ?hp (fun _ hk => hk) ((show ∀ k_, w30.heap.size ≤ k_ → (fun k_ => (P5_ k_ ∨ w.heap.size ≤ k_)) k_ from fun k_ hk => (.inr (Nat.le_trans (below_size (tB HB.out)) hk))) _ (Nat.le_refl _)) (Below.refl _ _) (Nat.le_refl _) (by simp) ?_; (case hd => rfl); (case hg => rfl); (case hr => first | (go_simp; done) | (go_simp; rfl)); (case hp => exact (Reps.one (show Kd.FK (Kd.slice 5 (Kd.int .u8)) _ _ t337 [.slice Ao31 t337.length co31] from (Kd.FK_slice_mk (Kd.R_reads' (Kd.R_mono (ok' := (fun k_ => (P5_ k_ ∨ w.heap.size ≤ k_))) (HO339.out) (fun k_ hk => (.inr (hk.1))))).2.1 (Kd.R_F (Kd.R_mono (ok' := (fun k_ => (P5_ k_ ∨ w.heap.size ≤ k_))) (HO339.out) (fun k_ hk => (.inr (hk.1))))))) (Reps.one (show Kd.FK (Kd.slice 5 (Kd.int .u8)) _ _ y340 [.slice Ao32 y340.length co32] from (Kd.FK_slice_mk (Kd.R_reads' (Kd.R_mono (ok' := (fun k_ => (P5_ k_ ∨ w.heap.size ≤ k_))) (HO342.out) (fun k_ hk => (.inr (hk.1))))).2.1 (Kd.R_F (Kd.R_mono (ok' := (fun k_ => (P5_ k_ ∨ w.heap.size ≤ k_))) (HO342.out) (fun k_ hk => (.inr (hk.1))))))) (Reps.one (show Kd.FK (Kd.slice 5 (Kd.int .u8)) _ _ y343 [.slice Ao33 y343.length co33] from (Kd.FK_slice_mk (Kd.R_reads' (Kd.R_mono (ok' := (fun k_ => (P5_ k_ ∨ w.heap.size ≤ k_))) (HO345.out) (fun k_ hk => (.inr (hk.1))))).2.1 (Kd.R_F (Kd.R_mono (ok' := (fun k_ => (P5_ k_ ∨ w.heap.size ≤ k_))) (HO345.out) (fun k_ hk => (.inr (hk.1))))))) (Reps.one (show Kd.FK (Kd.slice 5 (Kd.int .u8)) _ _ y346 [.slice Ao34 y346.length co34] from (Kd.FK_slice_mk (Kd.R_reads' (Kd.R_mono (ok' := (fun k_ => (P5_ k_ ∨ w.heap.size ≤ k_))) (HO348.out) (fun k_ hk => (.inr (hk.1))))).2.1 (Kd.R_F (Kd.R_mono (ok' := (fun k_ => (P5_ k_ ∨ w.heap.size ≤ k_))) (HO348.out) (fun k_ hk => (.inr (hk.1))))))) (Reps.one (show Kd.FK (Kd.slice 5 (Kd.int .u8)) _ _ l5 [.slice A5 l5.length c5] from (Kd.FK_slice_mk (Kd.V_reads' (Kd.V_mono (ok' := (fun k_ => (P5_ k_ ∨ w.heap.size ≤ k_))) (HO_5.out) (fun k_ hk => hk.1))).2.1 (Kd.V_F (Kd.V_mono (ok' := (fun k_ => (P5_ k_ ∨ w.heap.size ≤ k_))) (HO_5.out) (fun k_ hk => hk.1))))) (Reps.none _ _)))))))
         intro v350 w35 ho36 hb hg_ hnew_; clear hg_ hnew_
         (first | rw [← Ny349.out] at ho36 | (simp only [Int.reduceToNat] at ho36; rw [← Ny349.out] at ho36))
         have n0_ := aS (Kd.V_elder' (tV HO_5.out) (Kd.N_base ho36) hb)
         have n1_ := aS (Kd.N_lower ho36 (below_size (tB HB.out)))
         have n2_ := aS (below_step (tB HB.out) hb)
         clear HO_5 HB HO339 HO342 HO345 HO348; have HO_5 := n0_; have HO351 := n1_; have HB := n2_; clear n0_ n1_ n2_ hb ho36
         obtain ⟨Ao37, co37, eo37⟩ := Kd.N_slice HO351.out
         (first | subst eo37 | (injection eo37 with f1_ f2_ f3_; have f4_ := f1_.symm; have f5_ := f3_.symm; clear f1_ f2_ f3_; subst f4_; subst f5_))
         refine hK.out _ _ trivial (fun hHeld => ?_)
         clear hK K
         refine norm_ (a' := ?_) ?_ ?_
         rotate_left
         ·show Act.put _ (some 40) _ = _
          simp only [Act.put, q1_, q2_, q3_, i64_w, i32_w]
          rfl
         refine one_ (i := 13) (N := some 41) (fl 15 16383) rfl rfl (one_of HT_.out (by kernel_rfl)) (by decide) (fun K hK => ?_)
         refine goes_ Try.func67 (by kernel_rfl) rfl #[.slice Ao37 y349.length co37] (by rfl) rfl rfl (by (try simp only [List.map_toArray, List.map_cons, List.map_nil]); first | done | rfl) ?_
         with_reducible refine (slices_Concat_byte_byte.calls kj6 _ _ y349 t352 _ ?side1 ?side2 A15.out).mono ?_
         (case side1 => repeat (first | exact (Kd.N_reads' HO351.out).2.2 | (with_reducible refine Kd.C_alloc ?_ _) | (with_reducible refine Kd.C_drewN ?_ _) | (with_reducible refine Kd.C_drew ?_)))
         (case side2 => exact (Kd.N_reads' HO351.out).2.1)
         rintro e w38 ⟨v353, rfl, ho0, hb⟩; refine ⟨_, rfl, ?_⟩
         replace HO_5 := aS (Kd.V_elder' (tV HO_5.out) (Kd.R_base ho0) hb)
         replace HO351 := aS (Kd.N_elder' (by (with_reducible repeat (first | apply Kd.N_alloc | apply Kd.N_drewN | apply Kd.N_drew)); exact HO351.out) (Kd.R_base ho0) hb)
         have HO354 := aS (Kd.R_lower (Kd.R_newM (M := fun k_ => (w.heap.size ≤ k_)) ho0 (below_size (tB HB.out)) (fun k_ h_ => h_)) (below_size (tB HB.out)))
         replace HB := aS (below_step (tB HB.out) hb)
         (try clear hb); (try clear hb2); (try clear hk); (try clear hi); (try clear ho0)
         refine hK.out _ _ trivial (fun hHeld => ?_)
         clear hK K
         refine norm_ (a' := ?_) ?_ ?_
         rotate_left
         ·show Act.put _ (some 41) _ = _
          simp only [Act.put, q1_, q2_, q3_, i64_w, i32_w]
          rfl
         refine pure_ (i := 14) (N := some 14) (v := ?_) (a' := ?_) (fl 15 32767) rfl rfl (any_of HT_.out (by kernel_rfl)) (fun _ _ _ h => h) (Or.inl ⟨by rfl, ?_⟩) ?_ ?_
         rotate_left; (· intro w'; go_simp; with_reducible rfl); rotate_left; (· simp only [Act.put, q1_, q2_, q3_, i64_w, i32_w]; rfl)
         refine done_ (done_of HT_.out (by kernel_rfl)) ?_
         try go_wp2
         replace HO_5 := aS (Kd.V_drew HO_5.out)
         replace HO351 := aS (Kd.N_drew HO351.out)
         replace HO354 := aS (Kd.R_drew HO354.out)
         replace HB := aS (below_drew1 HB.out)
         obtain ⟨Ao41, co41, eo41⟩ := Kd.R_slice HO354.out
         (first | subst eo41 | (injection eo41 with f1_ f2_ f3_; have f4_ := f1_.symm; have f5_ := f3_.symm; clear f1_ f2_ f3_; subst f4_; subst f5_))
         have q40 : (16 : Int) ≤ ((t352.length : Int) : Int) := of_decide_eq_true (by first | (with_reducible assumption) | assumption)
         obtain ⟨i040, hi040, _, hsz40, _⟩ := info_parts info5
         have hroom40 : t352.length ≤ co41 := (Kd.R_reads' HO354.out).2.1
         have hC40 : Kd.F (Kd.int .u8) _ _ Ao41 t352.length t352 := (Kd.V_at (base := w.heap.size) (Kd.V_mono (ok' := (fun k_ => (((P5_ k_ ∨ w.heap.size ≤ k_) ∧ True) ∧ some k_ ≠ (.slice Ao37 y349.length co37 : Value).ownBlock))) (Kd.R_V (Kd.R_apart' (HO354.out) (Kd.N_typed HO351.out) (by decide))) (fun k_ hk => ⟨⟨(.inr (hk.1.1)), trivial⟩, hk.2⟩))).2.2
         have hcut40 := cut_from (P := Try.prog) 22 5 .i64 Try.underlying22 hi040 1 hsz40 Ao41 t352.length co41 16 (by omega) q40
         have hr40 := Kd.F_cut (m := (16 : Int).toNat) (c := co41) hC40 (by omega) hroom40
         obtain ⟨A40, hA40⟩ : ∃ A1, A1 = (if co41 = (16 : Int).toNat then Ao41 else (Ao41 : Option Addr).map (·.add ((16 : Int).toNat * 1))) := ⟨_, rfl⟩
         obtain ⟨c40, hc40⟩ : ∃ c1, c1 = co41 - (16 : Int).toNat := ⟨_, rfl⟩
         have hy40 : y355.length = t352.length - (16 : Int).toNat := (by rw [Ny355.out, List.length_drop] <;> omega)
         rw [show (t352).drop (16 : Int).toNat = y355 from Ny355.out.symm] at hr40
         replace hr40 : Kd.F (Kd.int .u8) _ _ A40 y355.length y355 := (by rw [hA40]; exact hr40)
         rw [← hy40, ← hA40, ← hc40] at hcut40
         have HO359 := aS (show Kd.V (Kd.int .u8) 5 _ w.heap.size _ (.slice A40 y355.length c40) y355 from Kd.V_mk (by rw [hy40, hc40]; exact Nat.sub_le_sub_right hroom40 _) hr40)
         have HC359 := aS (show y355.length ≤ c40 from by rw [hy40, hc40]; exact Nat.sub_le_sub_right hroom40 _)
         clear hr40 hC40 hroom40 hi040 hsz40 hc40
         have KY40 := aS hy40
         have KA40 := aS hA40
         clear hy40 hA40
         replace q40 := eq_true q40
         refine start_ (n := 13) (S := fun w' => True) (ds := []) #[false, false, false, false, false, false, false, false, false, false, false, false, false] (by kernel_rfl) rfl rfl trivial (fun hHeld => ?_); refine with_tabW tcp_Build.tab6 tcp_Build.bits6 (fun HT_ HW_ => ?_)
         generalize w38.drew = w39 at HO_5 HO351 HO354 HB HO359 hHeld ⊢
         refine pure_ (i := 0) (N := some 42) (v := ?_) (a' := ?_) (fl 13 1) rfl rfl (any_of HT_.out (by kernel_rfl)) (fun _ _ _ h => h) (Or.inl ⟨by rfl, ?_⟩) ?_ ?_
         rotate_left; (· intro w'; go_simp; with_reducible rfl); rotate_left; (· simp only [Act.put, q1_, q2_, q3_, i64_w, i32_w]; rfl)
         refine pure_ (i := 1) (N := some 43) (v := ?_) (a' := ?_) (fl 13 3) rfl rfl (any_of HT_.out (by kernel_rfl)) (fun _ _ _ h => h) (Or.inl ⟨by rfl, ?_⟩) ?_ ?_
         rotate_left; (· intro w'; go_simp; with_reducible rfl); rotate_left; (· simp only [Act.put, q1_, q2_, q3_, i64_w, i32_w]; rfl)
         refine pure_ (i := 2) (N := some 44) (v := ?_) (a' := ?_) (fl 13 7) rfl rfl (any_of HT_.out (by kernel_rfl)) (fun _ _ _ h => h) (Or.inl ⟨by rfl, ?_⟩) ?_ ?_
         rotate_left; (· intro w'; go_simp; with_reducible rfl); rotate_left; (· simp only [Act.put, q1_, q2_, q3_, i64_w, i32_w]; rfl)
         refine pure_ (i := 3) (N := some 45) (v := ?_) (a' := ?_) (fl 13 15) rfl rfl (any_of HT_.out (by kernel_rfl)) (fun _ _ _ h => h) (Or.inl ⟨by rfl, ?_⟩) ?_ ?_
         rotate_left; (· intro w'; go_simp; with_reducible rfl); rotate_left; (· simp only [Act.put, q1_, q2_, q3_, i64_w, i32_w]; rfl)
         refine pure_ (i := 4) (N := some 46) (v := ?_) (a' := ?_) (fl 13 31) rfl rfl (any_of HT_.out (by kernel_rfl)) (fun _ _ _ h => h) (Or.inl ⟨by rfl, ?_⟩) ?_ ?_
         rotate_left; (· intro w'; go_simp; with_reducible rfl); rotate_left; (· simp only [Act.put, q1_, q2_, q3_, i64_w, i32_w]; rfl)
         refine pure_ (i := 5) (N := some 47) (v := ?_) (a' := ?_) (fl 13 63) rfl rfl (any_of HT_.out (by kernel_rfl)) (fun _ _ _ h => h) (Or.inl ⟨by rfl, ?_⟩) ?_ ?_
         rotate_left; (· intro w'; go_simp; with_reducible rfl); rotate_left; (· simp only [Act.put, q1_, q2_, q3_, i64_w, i32_w]; rfl)
         refine pure_ (i := 7) (N := some 49) (v := ?_) (a' := ?_) (fl 13 191) rfl rfl (any_of HT_.out (by kernel_rfl)) (fun _ _ _ h => h) (Or.inl ⟨by rfl, ?_⟩) ?_ ?_
         rotate_left; (· intro w'; go_simp; with_reducible rfl); rotate_left; (· simp only [Act.put, q1_, q2_, q3_, i64_w, i32_w]; rfl)
         refine one_ (i := 6) (N := some 48) (fl 13 255) rfl rfl (one_of HT_.out (by kernel_rfl)) (by decide) (fun K hK => ?_)
         refine goes_ Try.func38 (by kernel_rfl) rfl #[.int .u8 6, .int .u32 a0, .int .u32 a1, .int .i64 (t352.length : Int)] (by rfl) rfl rfl (by (try simp only [List.map_toArray, List.map_cons, List.map_nil]); first | done | rfl) ?_
         with_reducible refine (tcp_Pseudo.calls kj6 6 a0 a1 (t352.length : Int) t360 _ A17.out).mono ?_
         rintro e w42 ⟨rfl, hb⟩; refine ⟨_, rfl, ?_⟩
         replace HO_5 := aS (Kd.V_below (tV HO_5.out) hb)
         replace HO351 := aS (Kd.N_below (by (with_reducible repeat (first | apply Kd.N_alloc | apply Kd.N_drewN | apply Kd.N_drew)); exact HO351.out) hb)
         replace HO354 := aS (Kd.R_below (tR HO354.out) hb)
         replace HO359 := aS (Kd.V_below (tV HO359.out) hb)
         replace HB := aS (below_step (tB HB.out) hb)
         (try clear hb); (try clear hb2); (try clear hk); (try clear hi)
         refine hK.out _ _ trivial (fun hHeld => ?_)
         clear hK K
         refine norm_ (a' := ?_) ?_ ?_
         rotate_left
         ·show Act.put _ (some 48) _ = _
          simp only [Act.put, q1_, q2_, q3_, i64_w, i32_w]
          rfl
         refine one_ (i := 8) (N := some 50) (fl 13 511) rfl rfl (one_of HT_.out (by kernel_rfl)) (by decide) (fun K hK => ?_)
         refine goes_ Try.func62 (by kernel_rfl) rfl #[.int .u16 t360, .slice Ao41 t352.length co41] (by rfl) rfl rfl (by (try simp only [List.map_toArray, List.map_cons, List.map_nil]); first | done | rfl) ?_
         with_reducible refine (sum_Add.calls kj6 t360 _ _ t352 t361 _ ?side1 ?side2 A18.out).mono ?_
         (case side1 => repeat (first | exact (Kd.R_reads' HO354.out).2.2 | (with_reducible refine Kd.C_alloc ?_ _) | (with_reducible refine Kd.C_drewN ?_ _) | (with_reducible refine Kd.C_drew ?_)))
         (case side2 => exact (Kd.R_reads' HO354.out).2.1)
         rintro e w' ⟨rfl, ⟨nd, rfl⟩⟩
         refine ⟨_, rfl, ?_⟩
         refine hK.out _ _ trivial (fun hHeld => ?_)
         clear hK K
         refine norm_ (a' := ?_) ?_ ?_
         rotate_left
         ·show Act.put _ (some 50) _ = _
          simp only [Act.put, q1_, q2_, q3_, i64_w, i32_w]
          rfl
         refine pure_ (i := 9) (N := some 51) (v := ?_) (a' := ?_) (fl 13 1023) rfl rfl (any_of HT_.out (by kernel_rfl)) (fun _ _ _ h => h) (Or.inl ⟨by rfl, ?_⟩) ?_ ?_
         rotate_left; (· intro w'; go_simp; with_reducible rfl); rotate_left; (· simp only [Act.put, q1_, q2_, q3_, i64_w, i32_w]; rfl)
         refine pure_ (i := 10) (N := some 52) (v := ?_) (a' := ?_) (fl 13 2047) rfl rfl (any_of HT_.out (by kernel_rfl)) (fun _ _ _ h => h) (Or.inl ⟨by rfl, ?_⟩) ?_ ?_
         rotate_left; (· intro w'; go_simp; with_reducible rfl); rotate_left; (· simp only [Act.put, q1_, q2_, q3_, i64_w, i32_w]; rfl)
         refine one_ (i := 11) (N := some 53) (fl 13 4095) rfl rfl (one_of HT_.out (by kernel_rfl)) (by decide) (fun K hK => ?_)
         refine goes_ Try.func68 (by kernel_rfl) rfl #[.int .u64 (IntKind.u64.wrap (Go.bits .xor .u16 65535 t361)), .int .i64 2] (by rfl) rfl rfl (by (try simp only [List.map_toArray, List.map_cons, List.map_nil]); first | done | rfl) ?_
         with_reducible refine (field_Cut.calls kj6 (IntKind.u64.wrap (Go.bits .xor .u16 65535 t361)) 2 t362 _ A19.out).mono ?_
         rintro e w43 ⟨v363, rfl, ho0, hb⟩; refine ⟨_, rfl, ?_⟩
         replace HO_5 := aS (Kd.V_elder' (tV HO_5.out) (Kd.R_base ho0) hb)
         replace HO351 := aS (Kd.N_elder' (by (with_reducible repeat (first | apply Kd.N_alloc | apply Kd.N_drewN | apply Kd.N_drew)); exact HO351.out) (Kd.R_base ho0) hb)
         replace HO359 := aS (Kd.V_elder' (tV HO359.out) (Kd.R_base ho0) hb)
         have HO364 := aS (Kd.R_lower (Kd.R_new' (Kd.R_newM (M := fun k_ => (w.heap.size ≤ k_)) ho0 (below_size (tB HB.out)) (fun k_ h_ => h_)) (Kd.R_lt (tR HO354.out))) (below_size (tB HB.out)))
         replace HO354 := aS (Kd.R_elder' (tR HO354.out) (Kd.R_base ho0) hb)
         replace HB := aS (below_step (tB HB.out) hb)
         (try clear hb); (try clear hb2); (try clear hk); (try clear hi); (try clear ho0)
         obtain ⟨Ao45, co45, eo45⟩ := Kd.R_slice HO364.out
         (first | subst eo45 | (injection eo45 with f1_ f2_ f3_; have f4_ := f1_.symm; have f5_ := f3_.symm; clear f1_ f2_ f3_; subst f4_; subst f5_))
         refine hK.out _ _ trivial (fun hHeld => ?_)
         clear hK K
         refine norm_ (a' := ?_) ?_ ?_
         rotate_left
         ·show Act.put _ (some 53) _ = _
          simp only [Act.put, q1_, q2_, q3_, i64_w, i32_w]
          rfl
         refine one_ (i := 12) (N := some 54) (fl 13 8191) rfl rfl (one_of HT_.out (by kernel_rfl)) (by decide) (fun K hK => ?_)
         refine R_copy_step (w0 := w) w.heap.size (by rfl) (.tmp 43) (.tmp 53) 22 rfl Try.underlying22 info5 ((16 : Int).toNat) Ao41 A40 _ t352.length co41 y355.length c40 _ _ t352 t362 (fun k_ => (w.heap.size ≤ k_) ∧ some k_ ≠ (.slice Ao45 t362.length co45 : Value).ownBlock) rfl rfl ?aA ?aM ?aL ?aO ?aR ?aB ?_
         (case aA => exact KA40.out)
         (case aM => have h_ := KY40.out; omega)
         (case aR => repeat (first | exact (Kd.R_reads' HO364.out).2.2 | (with_reducible refine Kd.C_alloc ?_ _) | (with_reducible refine Kd.C_drewN ?_ _) | (with_reducible refine Kd.C_drew ?_)))
         (case aB => exact (tB HB.out))
         (case aO => exact (tR (Kd.R_mono HO354.out (fun _ hk => ⟨hk.1.1, hk.2⟩))))
         (case aL => have := LMc20.out; omega)
         intro w44 ho hb hg hat
         rw [← Ny365.out] at ho
         have n0_ := aS (Kd.V_afterv (ok := (fun k_ => (P5_ k_ ∨ w.heap.size ≤ k_) ∧ some k_ ≠ (.slice Ao37 y349.length co37 : Value).ownBlock ∧ some k_ ≠ (.slice Ao45 t362.length co45 : Value).ownBlock)) (tV (Kd.V_mono HO_5.out (fun _ hk => ⟨⟨hk.1.1.1.1, ⟨hk.1.1.2, hk.2⟩⟩, hk.1.2⟩))) hg hat)
         have n1_ := aS (Kd.N_afterv (ok := (fun k_ => (P5_ k_ ∨ w.heap.size ≤ k_) ∧ some k_ ≠ (.slice Ao45 t362.length co45 : Value).ownBlock)) (by (with_reducible repeat (first | apply Kd.N_alloc | apply Kd.N_drewN | apply Kd.N_drew)); exact Kd.N_mono HO351.out (fun _ hk => ⟨⟨hk.1.1, hk.2⟩, hk.1.2⟩)) hg hat)
         have n2_ := aS (Kd.R_after (ok := (fun k_ => (w.heap.size ≤ k_))) (tR (Kd.R_mono HO364.out (fun _ hk => ⟨hk.1.1, hk.2⟩))) hg hat)
         have n3_ := aS (hb)
         have n4_ := aS (ho)
         clear HO_5 HO351 HO364 HB HO354; have HO_5 := n0_; have HO351 := n1_; have HO364 := n2_; have HB := n3_; have HO367 := n4_; clear n0_ n1_ n2_ n3_ n4_ ho hb hg hat
         refine hK.out _ _ trivial (fun hHeld => ?_)
         clear hK K
         refine norm_ (a' := ?_) ?_ ?_
         rotate_left
         ·show Act.put _ (some 54) _ = _
          simp only [Act.put, q1_, q2_, q3_, i64_w, i32_w]
          rfl
         refine done_ (done_of HT_.out (by kernel_rfl)) ?_
         try go_wp2_with (first | ((with_reducible refine gate_callee (f := 70) rfl ?_); refine goesL_ (some 56) rfl rfl Try.func70 (by kernel_rfl) rfl #[.slice Ao41 y365.length co41] rfl (by (try simp only [List.map_toArray, List.map_cons, List.map_nil]); first | done | (rw [show y365.length = t352.length from (Kd.R_reads' HO367.out).1.symm] <;> rfl) | rfl | (simp only [List.length_drop, List.length_take]; rfl)) ?_; (refine (slices_Clip.strong (tR HO367.out) A21.out).mono ?_); rintro e w46 ⟨v369, rfl, ho0, hb⟩; refine ⟨_, rfl, ?_⟩; replace HO_5 := aS (Kd.V_below (tV HO_5.out) hb); replace HO351 := aS (Kd.N_below (by (with_reducible repeat (first | apply Kd.N_alloc | apply Kd.N_drewN | apply Kd.N_drew)); exact HO351.out) hb); replace HO364 := aS (Kd.R_below (tR HO364.out) hb); replace HO367 := aS (Kd.R_below (tR HO367.out) hb); have HO370 := aS (Kd.K_mono (ok' := fun _ => True) ho0 (fun _ _ => trivial)); replace HB := aS (below_step (tB HB.out) hb); (try clear hb); (try clear hb2); (try clear hk); (try clear hi); (try clear ho0)))
         go_ret2
         exact ⟨_, by first | rfl | (simp [errW_none, errW_some] <;> rfl) | (simp [*, errW_none, errW_some] <;> rfl), HO370.out, tB HB.out⟩
        ·rw [if_neg c20] at H
         exact absurd H (by simp)
       ·rw [if_neg c16] at H
        exact absurd H (by simp)
      ·rw [if_neg c14] at H
       exact absurd H (by simp)
     ·rw [if_neg c13] at H
      exact absurd H (by simp)
theorem tcp_Build.calls (k : Nat) (a0 : Int) (a1 : Int) (a2 : Int) (a3 : Int) (a4 : Int) (P5_ : Nat → Prop) (A5 : Option Addr) (c5 : Nat) (l5 : List Int) (r1 : List Int) (r2 : Int) (w : World) (hs5 : Kd.V (Kd.int .u8) 5 w w.heap.size (fun k_ => P5_ k_) (.slice A5 l5.length c5) l5) (h : tcp_Build.f k a0 a1 a2 a3 a4 l5 = some (r1, r2)) :
    Calls Try.prog 34 #[.int .u32 a0, .int .u32 a1, .int .u16 a2, .int .u16 a3, .int .u8 a4, .slice A5 l5.length c5] w fun e w' => ∃ v0_ : Value, e = .returned (.tuple #[v0_, .int .i64 r2]) ∧ Kd.V (Kd.int .u8) 5 w' w.heap.size (fun k_ => (P5_ k_ ∨ w.heap.size ≤ k_)) v0_ r1 ∧ Below w.heap.size w w' :=
  (tcp_Build.strong k a0 a1 a2 a3 a4 P5_ A5 c5 l5 r1 r2 w hs5 h).mono fun _ _ ⟨v0_, h1_, hK_, hB_⟩ => ⟨v0_, h1_, Kd.K_Vb hK_ (fun k_ hk_ => by first | exact hk_ | exact .inr hk_), hB_⟩

end Go.Proofs.Ytofjgdbiieanjaa.All
