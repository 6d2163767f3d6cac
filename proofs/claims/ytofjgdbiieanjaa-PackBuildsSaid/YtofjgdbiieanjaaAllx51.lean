-- Made by a program of this workplace (wip/pr.sh) out of Lean's print of the translation; Lean checks it.
import Derived.Test.YtofjgdbiieanjaaAllx0
import Derived.Test.YtofjgdbiieanjaaAllx53
import Derived.Test.YtofjgdbiieanjaaAllx49
import Derived.Test.YtofjgdbiieanjaaAllx50
namespace Go.Proofs.Ytofjgdbiieanjaa.All
open Go.Proofs.Ytofjgdbiieanjaa.Ext
open Go.RowKit Go.Proofs.YtofjgdbiieanjaaW.PrintWords Go.Proofs.YtofjgdbiieanjaaW.PrintLast Go.Proofs.YtofjgdbiieanjaaW.PrintMore
attribute [local go_sem] max2_int min2_int max_two min_two max_three min_three max_four min_four   -- for this text's walks alone
set_option linter.unusedVariables false
set_option linter.unusedSimpArgs false

/-! ### ip_Parse: function 46 -/
private abbrev Z_61 : Obj := .cells #[.int .u8 0, .int .u32 0, .int .u32 0, .int .i64 0, .int .i64 0, .int .u8 0, .int .u16 0] 61 (0, 0)
def ip_Parse.f (k : Nat) (l0 : List Int) : Option (Int × Int × Int × Int × Int × Int × Int × List Int × Int) := (ip_size.f k l0).bind fun bt660 => (if bt660.2.2 = 0 then (if 0 ≤ bt660.1 then (if bt660.1 ≤ (l0.length : Int) then ((sum_Add.f k 0 (l0.take (bt660.1 : Int).toNat)).bind fun t664 => (if t664 = 65535 then ((ip_num.f k l0 6 2).bind fun t665 => (if (Go.bits .and .i64 t665 16383) = 0 then (if 9 < (l0.length : Int) then ((ip_num.f k l0 12 4).bind fun t667 => ((ip_num.f k l0 16 4).bind fun t668 => (if 8 < (l0.length : Int) then ((ip_num.f k l0 4 2).bind fun t670 => (if bt660.1 ≤ bt660.2.1 then (if bt660.2.1 ≤ (l0.length : Int) then ((slices_Clone.f ((l0.take (bt660.2.1 : Int).toNat).drop (bt660.1 : Int).toNat)).bind fun t676 => ((slices_Clip.f t676).bind fun t679 => (some (rd l0 9, (t667) % 4294967296, (t668) % 4294967296, bt660.1, bt660.2.1, rd l0 8, IntKind.u16.wrap (t670), t679, 0)))) else (none)) else (none))) else (none)))) else (none)) else (some (0, 0, 0, 0, 0, 0, 0, ([] : List Int), 8)))) else (some (0, 0, 0, 0, 0, 0, 0, ([] : List Int), 7)))) else (none)) else (none)) else (some (0, 0, 0, 0, 0, 0, 0, ([] : List Int), bt660.2.2)))
theorem ip_Parse.mono : ∀ a0 k, LeO (ip_Parse.f k a0) (ip_Parse.f (k + 1) a0) := by
  intro a0 k
  unfold ip_Parse.f
  repeat' first
      | (with_reducible exact ip_num.mono _ _ _ _)
      | (with_reducible exact ip_size.mono _ _)
      | (with_reducible exact sum_Add.mono _ _ _)
      | (with_reducible exact LeO.refl _)
      | (with_reducible exact LeO.none _)
      | (with_reducible refine LeO.ite ?_ ?_)
      | (with_reducible refine LeO.bind ?_ (fun _ => ?_))
      | exact ip_num.mono _ _ _ _
      | exact ip_size.mono _ _
      | exact sum_Add.mono _ _ _
      | exact LeO.none _
      | refine LeO.ite ?_ ?_
      | refine LeO.bind ?_ (fun _ => ?_)
def ip_Parse.T8 : Bool × List (List Nat × List Nat) := (true, [([], []), ([0], [0]), ([1], [1]), ([], []), ([3], [3]), ([4], [4]), ([], []), ([6, 4], [6]), ([7], [7]), ([], []), ([], []), ([], []), ([11], [11]), ([12], [12]), ([], []), ([14, 7], [14]), ([15], [15]), ([2, 5, 8, 9, 10, 13, 16], [2, 5, 8, 9, 10, 13, 16]), ([], []), ([18, 17, 15, 0, 1, 2, 3, 4, 5, 6, 7, 8, 9, 10, 11, 12, 13, 14, 15, 16, 17, 18], [17, 18])])
def ip_Parse.B8 : List Nat := [0, 1, 3, 0, 8, 24, 0, 88, 216, 0, 0, 0, 2048, 6144, 0, 16600, 49368, 131071, 0, 524287]
theorem ip_Parse.tab8 : rtab .any (opsOf Try.f46 8) = ip_Parse.T8 := by kernel_rfl
theorem ip_Parse.bits8 : waitsOk ip_Parse.T8.2 ip_Parse.B8 = true := by kernel_rfl
def ip_Parse.T9 : Bool × List (List Nat × List Nat) := (true, [([], []), ([], []), ([], []), ([], []), ([1, 2, 3], [1, 2, 3]), ([4], [4]), ([5, 5], [5]), ([0, 6, 0], [0]), ([6, 7, 0, 1, 2, 3, 4, 5, 6, 7], [6]), ([8, 0, 1, 2, 3, 4, 5, 6, 7, 8], [])])
def ip_Parse.B9 : List Nat := [0, 0, 0, 0, 14, 30, 62, 127, 255, 511]
theorem ip_Parse.tab9 : rtab .any (opsOf Try.f46 9) = ip_Parse.T9 := by kernel_rfl
theorem ip_Parse.bits9 : waitsOk ip_Parse.T9.2 ip_Parse.B9 = true := by kernel_rfl
set_option maxHeartbeats 8000000 in
set_option maxRecDepth 100000 in
theorem ip_Parse.calls (k : Nat) (A0 : Option Addr) (c0 : Nat) (l0 : List Int) (r1 : Int) (r2 : Int) (r3 : Int) (r4 : Int) (r5 : Int) (r6 : Int) (r7 : Int) (r8 : List Int) (r9 : Int) (w : World) (hr0 : Kd.C (Kd.int .u8) w A0 l0.length l0) (hc0 : l0.length ≤ c0) (h : ip_Parse.f k l0 = some (r1, r2, r3, r4, r5, r6, r7, r8, r9)) :
    Calls Try.prog 46 #[.slice A0 l0.length c0] w fun e w' => ∃ v7_ : Value, e = .returned (.tuple #[.agg #[.int .u8 r1, .int .u32 r2, .int .u32 r3, .int .i64 r4, .int .i64 r5, .int .u8 r6, .int .u16 r7], v7_, .int .i64 r9]) ∧ Kd.V (Kd.int .u8) 5 w' w.heap.size (fun k_ => (w.heap.size ≤ k_)) v7_ r8 ∧ Below w.heap.size w w' := by
 have hu61 := Try.underlying61
 have HR0 := aS hr0
 have HC0 := aS hc0
 clear hr0 hc0
 have HB := aS (Below.refl w.heap.size w)
 have H := h
 unfold ip_Parse.f at H
 clear h
 replace H := Option.bind_eq_some_iff.mp H
 obtain ⟨⟨t660, t661, t662⟩, A20, H⟩ := H
 try dsimp -simprocs only at H
 have A2 := aS A20
 clear A20
 by_cases c3 : t662 = 0
 ·rw [if_pos c3] at H
  have c3b0 : (t662 == 0) = true := beq_iff_eq.mpr c3
  have c3b1 : (t662 != 0) = false := bne_eq_false_iff_eq.mpr c3
  clear c3
  by_cases c4 : 0 ≤ t660
  ·rw [if_pos c4] at H
   have c4b0 := eq_true c4
   have c4b1 : decide (0 ≤ t660) = true := decide_eq_true c4
   clear c4
   by_cases c5 : t660 ≤ (l0.length : Int)
   ·rw [if_pos c5] at H
    have c5b0 := eq_true c5
    have c5b1 : decide (t660 ≤ (l0.length : Int)) = true := decide_eq_true c5
    (try have c5b4 : (t660 ≤ (c0 : Int)) = True := eq_true (by have h_ := HC0.out; have h2_ := c5; omega))
    clear c5
    replace H := Option.bind_eq_some_iff.mp H
    obtain ⟨t664, A60, H⟩ := H
    try dsimp -simprocs only at H
    have A6 := aS A60
    clear A60
    by_cases c7 : t664 = 65535
    ·rw [if_pos c7] at H
     have c7b0 : (t664 == 65535) = true := beq_iff_eq.mpr c7
     have c7b1 : (t664 != 65535) = false := bne_eq_false_iff_eq.mpr c7
     clear c7
     replace H := Option.bind_eq_some_iff.mp H
     obtain ⟨t665, A80, H⟩ := H
     try dsimp -simprocs only at H
     have A8 := aS A80
     clear A80
     by_cases c9 : (Go.bits .and .i64 t665 16383) = 0
     ·rw [if_pos c9] at H
      have c9b0 : ((Go.bits .and .i64 t665 16383) == 0) = true := beq_iff_eq.mpr c9
      have c9b1 : ((Go.bits .and .i64 t665 16383) != 0) = false := bne_eq_false_iff_eq.mpr c9
      clear c9
      by_cases c10 : 9 < (l0.length : Int)
      ·rw [if_pos c10] at H
       have c10b0 : decide (9 < (l0.length : Int)) = true := decide_eq_true c10
       have c10b1 : decide (9 < l0.length) = true := decide_eq_true (by omega)
       clear c10
       replace H := Option.bind_eq_some_iff.mp H
       obtain ⟨t667, A110, H⟩ := H
       try dsimp -simprocs only at H
       have A11 := aS A110
       clear A110
       replace H := Option.bind_eq_some_iff.mp H
       obtain ⟨t668, A120, H⟩ := H
       try dsimp -simprocs only at H
       have A12 := aS A120
       clear A120
       by_cases c13 : 8 < (l0.length : Int)
       ·rw [if_pos c13] at H
        have c13b0 : decide (8 < (l0.length : Int)) = true := decide_eq_true c13
        have c13b1 : decide (8 < l0.length) = true := decide_eq_true (by omega)
        clear c13
        replace H := Option.bind_eq_some_iff.mp H
        obtain ⟨t670, A140, H⟩ := H
        try dsimp -simprocs only at H
        have A14 := aS A140
        clear A140
        have c15b0 := eq_true (of_decide_eq_true (by first | (with_reducible assumption) | assumption) : 0 ≤ t660)
        by_cases c16 : t660 ≤ t661
        ·rw [if_pos c16] at H
         have c16b0 := eq_true c16
         have c16b1 : decide (t660 ≤ t661) = true := decide_eq_true c16
         clear c16
         by_cases c17 : t661 ≤ (l0.length : Int)
         ·rw [if_pos c17] at H
          have c17b0 := eq_true c17
          have c17b1 : decide (t661 ≤ (l0.length : Int)) = true := decide_eq_true c17
          (try have c17b4 : (t661 ≤ (c0 : Int)) = True := eq_true (by have h_ := HC0.out; have h2_ := c17; omega))
          clear c17
          obtain ⟨y672, hy672⟩ : ∃ y_ : List Int, y_ = ((l0.take (t661 : Int).toNat).drop (t660 : Int).toNat) := ⟨_, rfl⟩
          first | with_reducible replace H := bindY hy672 H | rw [← hy672] at H | skip
          try dsimp -simprocs only at H
          have Ny672 := aS hy672
          clear hy672
          replace H := Option.bind_eq_some_iff.mp H
          obtain ⟨t676, A180, H⟩ := H
          try dsimp -simprocs only at H
          have A18 := aS A180
          clear A180
          replace H := Option.bind_eq_some_iff.mp H
          obtain ⟨t679, A190, H⟩ := H
          try dsimp -simprocs only at H
          have A19 := aS A190
          clear A190
          simp only [Option.some.injEq, Prod.mk.injEq] at H
          obtain ⟨rfl, rfl, rfl, rfl, rfl, rfl, rfl, rfl, rfl⟩ := H
          go_enter Try.func46, Try.ntmps46
          try go_wp2_with (first | ((with_reducible refine gate_dst (N := 2) rfl ?_); refine box_event ?hg (N := 2) ?hd (cs := #[.int .u8 0, .int .u32 0, .int .u32 0, .int .i64 0, .int .i64 0, .int .u8 0, .int .u16 0]) (t := 61) ?hr ?_; (case hd => rfl); (case hg => rfl); (case hr => first | (go_simp; done) | (go_simp; rfl)); intro gb659 hg w20 hbox hb; have BK659 := aS (hbox); have GW659 := aS ((by rw [hg]; exact (below_size (tB HB.out)) : w.heap.size ≤ gb659)); have GE659 := aS ((by rw [hg]; exact (below_size (tB HB.out)) : w.heap.size ≤ gb659)); replace HB := aS (below_step (tB HB.out) hb); clear hb hbox hg) | ((with_reducible refine gate_callee (f := 76) rfl ?_); refine goesL_ (some 11) rfl rfl Try.func76 (by kernel_rfl) rfl #[.slice A0 l0.length c0] rfl (by (try simp only [List.map_toArray, List.map_cons, List.map_nil]); first | done | rfl) ?_; (with_reducible refine (ip_size.calls k _ _ l0 t660 t661 t662 _ ?side1 ?side2 A2.out).mono ?_); (case side1 => repeat (first | exact (Kd.C_below HR0.out HB.out) | (with_reducible refine Kd.C_alloc ?_ _) | (with_reducible refine Kd.C_drewN ?_ _) | (with_reducible refine Kd.C_drew ?_))); (case side2 => exact HC0.out); rintro e w' ⟨rfl, ⟨nd, rfl⟩⟩; refine ⟨_, rfl, ?_⟩; (try (first | (rw [drewN_self w20]; generalize hq_ : World.drewN w20 _ = w20; have n0_ := aS (blk_at hq_ BK659.out); have n1_ := aS (below_at hq_ HB.out); clear hq_ BK659 HB; have BK659 := n0_; have HB := n1_; clear n0_ n1_) | (rw [drewN_self w20]; generalize hq_ : World.drewN w20 _ = w20; have n0_ : Aside0 (w20.heap[gb659]? = some (.cells #[.int .u8 0, .int .u32 0, .int .u32 0, .int .i64 0, .int .i64 0, .int .u8 0, .int .u16 0] 61 (0, 0))) := ⟨by rw [← hq_]; exact (tk BK659.out)⟩; have n1_ : Aside0 (Below w.heap.size w w20) := ⟨by rw [← hq_]; exact (by repeat first | (with_reducible first | exact HB.out | apply mB | refine below_set ?_ GE659.out) | exact HB.out)⟩; clear BK659 HB hq_; have BK659 := n0_; have HB := n1_; clear n0_ n1_))); obtain ⟨i021, hi021, _, hsz21, _⟩ := info_parts info5; obtain ⟨hcut21, hA21, hC21⟩ := print_take_of (P := Try.prog) (Value.int .u8) 0 22 5 .i64 Try.underlying22 hi021 hsz21 A0 c0 l0 t660 (of_decide_eq_true (by first | (with_reducible assumption) | assumption)) (of_decide_eq_true (by first | (with_reducible assumption) | assumption)) HC0.out; have HR663 := aS (Kd.C_of_reads (h1 := fun _ => rfl) (hA21 _ (Kd.reads_of_C HR0.out))); have HC663 := aS hC21; clear hA21 hC21 hi021 hsz21) | ((with_reducible refine gate_callee (f := 62) rfl ?_); refine goesL_ (some 24) rfl rfl Try.func62 (by kernel_rfl) rfl #[.int .u16 0, .slice A0 (l0.take (t660 : Int).toNat).length c0] rfl (by (try simp only [List.map_toArray, List.map_cons, List.map_nil]); first | done | (rw [show (l0.take (t660 : Int).toNat).length = t660.toNat from (by rw [List.length_take]; have h_ : (t660 : Int) ≤ (l0.length : Int) := of_decide_eq_true (by first | (with_reducible assumption) | assumption); omega)] <;> rfl) | rfl | (simp only [List.length_drop, List.length_take]; rfl)) ?_; (with_reducible refine (sum_Add.calls k 0 _ _ (l0.take (t660 : Int).toNat) t664 _ ?side1 ?side2 A6.out).mono ?_); (case side1 => repeat (first | exact (Kd.C_below HR663.out HB.out) | (with_reducible refine Kd.C_alloc ?_ _) | (with_reducible refine Kd.C_drewN ?_ _) | (with_reducible refine Kd.C_drew ?_))); (case side2 => exact HC663.out); rintro e w' ⟨rfl, ⟨nd, rfl⟩⟩; refine ⟨_, rfl, ?_⟩; (try (first | (rw [drewN_self w20]; generalize hq_ : World.drewN w20 _ = w20; have n0_ := aS (blk_at hq_ BK659.out); have n1_ := aS (below_at hq_ HB.out); clear hq_ BK659 HB; have BK659 := n0_; have HB := n1_; clear n0_ n1_) | (rw [drewN_self w20]; generalize hq_ : World.drewN w20 _ = w20; have n0_ : Aside0 (w20.heap[gb659]? = some (.cells #[.int .u8 0, .int .u32 0, .int .u32 0, .int .i64 0, .int .i64 0, .int .u8 0, .int .u16 0] 61 (0, 0))) := ⟨by rw [← hq_]; exact (tk BK659.out)⟩; have n1_ : Aside0 (Below w.heap.size w w20) := ⟨by rw [← hq_]; exact (by repeat first | (with_reducible first | exact HB.out | apply mB | refine below_set ?_ GE659.out) | exact HB.out)⟩; clear BK659 HB hq_; have BK659 := n0_; have HB := n1_; clear n0_ n1_)))) | ((with_reducible refine gate_callee (f := 77) rfl ?_); refine goesL_ (some 29) rfl rfl Try.func77 (by kernel_rfl) rfl #[.slice A0 l0.length c0, .int .i64 6, .int .i64 2] rfl (by (try simp only [List.map_toArray, List.map_cons, List.map_nil]); first | done | rfl) ?_; (with_reducible refine (ip_num.calls k _ _ l0 6 2 t665 _ ?side1 ?side2 A8.out).mono ?_); (case side1 => repeat (first | exact (Kd.C_below HR0.out HB.out) | (with_reducible refine Kd.C_alloc ?_ _) | (with_reducible refine Kd.C_drewN ?_ _) | (with_reducible refine Kd.C_drew ?_))); (case side2 => exact HC0.out); rintro e w' ⟨rfl, ⟨nd, rfl⟩⟩; refine ⟨_, rfl, ?_⟩; (try (first | (rw [drewN_self w20]; generalize hq_ : World.drewN w20 _ = w20; have n0_ := aS (blk_at hq_ BK659.out); have n1_ := aS (below_at hq_ HB.out); clear hq_ BK659 HB; have BK659 := n0_; have HB := n1_; clear n0_ n1_) | (rw [drewN_self w20]; generalize hq_ : World.drewN w20 _ = w20; have n0_ : Aside0 (w20.heap[gb659]? = some (.cells #[.int .u8 0, .int .u32 0, .int .u32 0, .int .i64 0, .int .i64 0, .int .u8 0, .int .u16 0] 61 (0, 0))) := ⟨by rw [← hq_]; exact (tk BK659.out)⟩; have n1_ : Aside0 (Below w.heap.size w w20) := ⟨by rw [← hq_]; exact (by repeat first | (with_reducible first | exact HB.out | apply mB | refine below_set ?_ GE659.out) | exact HB.out)⟩; clear BK659 HB hq_; have BK659 := n0_; have HB := n1_; clear n0_ n1_)))))
          replace BK659 := aS (blk_drew BK659.out)
          replace HB := aS (below_drew1 HB.out)
          have p666 : 0 ≤ (9 : Int) := (by omega)
          have q666 : 9 < (l0.length : Int) := of_decide_eq_true (by first | (with_reducible assumption) | assumption)
          obtain ⟨ad666, e666, hx666_0⟩ := Kd.at_int HR0.out 9 p666 q666
          have hw666_0 := hx666_0
          (try rw [show ((9 : Int)).toNat = 9 from rfl] at hw666_0)
          (try rw [show 9 * 1 = 9 from rfl] at hw666_0)
          (try simp only [Nat.reduceMul, Nat.reduceEqDiff, Go.Addr.add, ↓reduceIte] at hw666_0)
          cases e666
          (try simp only [show (9 : Int).toNat = 9 from rfl, Nat.reduceMul, Nat.reduceEqDiff, Go.Addr.add, ↓reduceIte] at hx666_0)
          have qi666 : (9 < l0.length) = True := eq_true (by omega)
          (try rw [show ((9 : Int)).toNat = 9 from rfl] at hx666_0)
          replace hx666_0 := (HB.out.cell (World.block_lt_of_cell? w _ hx666_0)).trans hx666_0
          replace p666 := eq_true p666
          replace q666 := eq_true q666
          have p669 : 0 ≤ (8 : Int) := (by omega)
          have q669 : 8 < (l0.length : Int) := of_decide_eq_true (by first | (with_reducible assumption) | assumption)
          obtain ⟨ad669, e669, hx669_0⟩ := Kd.at_int HR0.out 8 p669 q669
          have hw669_0 := hx669_0
          (try rw [show ((8 : Int)).toNat = 8 from rfl] at hw669_0)
          (try rw [show 8 * 1 = 8 from rfl] at hw669_0)
          (try simp only [Nat.reduceMul, Nat.reduceEqDiff, Go.Addr.add, ↓reduceIte] at hw669_0)
          obtain rfl : ad666 = ad669 := (by injection e669)
          (try simp only [show (8 : Int).toNat = 8 from rfl, Nat.reduceMul, Nat.reduceEqDiff, Go.Addr.add, ↓reduceIte] at hx669_0)
          have qi669 : (8 < l0.length) = True := eq_true (by omega)
          (try rw [show ((8 : Int)).toNat = 8 from rfl] at hx669_0)
          replace hx669_0 := (HB.out.cell (World.block_lt_of_cell? w _ hx669_0)).trans hx669_0
          replace p669 := eq_true p669
          replace q669 := eq_true q669
          refine start_ (n := 20) (S := fun w' => w'.cell? ⟨ad666.block, ad666.off + 9, none⟩ = some (.int .u8 (rd l0 9)) ∧ w'.cell? ⟨ad666.block, ad666.off + 8, none⟩ = some (.int .u8 (rd l0 8))) (ds := []) #[false, false, false, false, false, false, false, false, false, false, false, false, false, false, false, false, false, false, false, false] (by kernel_rfl) rfl rfl ⟨((HB.out.cell (World.block_lt_of_cell? w _ hw666_0)).trans hw666_0), ((HB.out.cell (World.block_lt_of_cell? w _ hw669_0)).trans hw669_0)⟩ (fun hHeld => ?_); refine with_tabW ip_Parse.tab8 ip_Parse.bits8 (fun HT_ HW_ => ?_)
          generalize w20.drew = w22 at BK659 HB hx666_0 hx669_0 hHeld ⊢
          refine pure_ (i := 0) (N := some 33) (v := ?_) (a' := ?_) (fl 20 1) rfl rfl (any_of HT_.out (by kernel_rfl)) (fun _ _ _ h => h) (Or.inl ⟨by rfl, ?_⟩) ?_ ?_
          rotate_left; (· intro w'; go_simp; with_reducible rfl); rotate_left; (· simp only [Act.put, q1_, q2_, q3_, i64_w, i32_w]; rfl)
          refine pure_ (i := 1) (N := some 34) (v := ?_) (a' := ?_) (fl 20 3) rfl rfl (any_of HT_.out (by kernel_rfl)) (fun _ _ _ h => h) (Or.inl ⟨by rfl, ?_⟩) ?_ ?_
          rotate_left; (· intro w'; go_simp; with_reducible rfl); rotate_left; (· simp only [Act.put, q1_, q2_, q3_, i64_w, i32_w]; rfl)
          refine pure_ (i := 3) (N := some 36) (v := ?_) (a' := ?_) (fl 20 11) rfl rfl (any_of HT_.out (by kernel_rfl)) (fun _ _ _ h => h) (Or.inl ⟨by rfl, ?_⟩) ?_ ?_
          rotate_left; (· intro w'; go_simp; with_reducible rfl); rotate_left; (· simp only [Act.put, q1_, q2_, q3_, i64_w, i32_w]; rfl)
          refine pure_ (i := 6) (N := some 39) (v := ?_) (a' := ?_) (fl 20 75) rfl rfl (any_of HT_.out (by kernel_rfl)) (fun _ _ _ h => h) (Or.inl ⟨by rfl, ?_⟩) ?_ ?_
          rotate_left; (· intro w'; go_simp; with_reducible rfl); rotate_left; (· simp only [Act.put, q1_, q2_, q3_, i64_w, i32_w]; rfl)
          refine pure_ (i := 9) (N := some 42) (v := ?_) (a' := ?_) (fl 20 587) rfl rfl (any_of HT_.out (by kernel_rfl)) (fun _ _ _ h => h) (Or.inl ⟨by rfl, ?_⟩) ?_ ?_
          rotate_left; (· intro w'; go_simp; with_reducible rfl); rotate_left; (· simp only [Act.put, q1_, q2_, q3_, i64_w, i32_w]; rfl)
          refine pure_ (i := 10) (N := some 43) (v := ?_) (a' := ?_) (fl 20 1611) rfl rfl (any_of HT_.out (by kernel_rfl)) (fun _ _ _ h => h) (Or.inl ⟨by rfl, ?_⟩) ?_ ?_
          rotate_left; (· intro w'; go_simp; with_reducible rfl); rotate_left; (· simp only [Act.put, q1_, q2_, q3_, i64_w, i32_w]; rfl)
          refine pure_ (i := 11) (N := some 44) (v := ?_) (a' := ?_) (fl 20 3659) rfl rfl (any_of HT_.out (by kernel_rfl)) (fun _ _ _ h => h) (Or.inl ⟨by rfl, ?_⟩) ?_ ?_
          rotate_left; (· intro w'; go_simp; with_reducible rfl); rotate_left; (· simp only [Act.put, q1_, q2_, q3_, i64_w, i32_w]; rfl)
          refine pure_ (i := 12) (N := some 45) (v := ?_) (a' := ?_) (fl 20 7755) rfl rfl (any_of HT_.out (by kernel_rfl)) (fun _ _ _ h => h) (Or.inl ⟨by rfl, ?_⟩) ?_ ?_
          rotate_left; (· intro w'; go_simp; with_reducible rfl); rotate_left; (· simp only [Act.put, q1_, q2_, q3_, i64_w, i32_w]; rfl)
          refine pure_ (i := 14) (N := some 47) (v := ?_) (a' := ?_) (fl 20 24139) rfl rfl (any_of HT_.out (by kernel_rfl)) (fun _ _ _ h => h) (Or.inl ⟨by rfl, ?_⟩) ?_ ?_
          rotate_left; (· intro w'; go_simp; with_reducible rfl); rotate_left; (· simp only [Act.put, q1_, q2_, q3_, i64_w, i32_w]; rfl)
          refine take_ (i := 2) (N := some 35) (v := ?_) (a' := ?_) (fl 20 24143) rfl rfl (take_ofW HT_.out HW_.out (by kernel_rfl)) (fun _ _ _ h => h) (Or.inl ⟨by rfl, ?_⟩) hHeld ?_ ?_
          rotate_left; (· rintro w' ⟨s0, s1⟩; go_simp; with_reducible rfl); rotate_left; (· simp only [Act.put, q1_, q2_, q3_, i64_w, i32_w]; rfl)
          refine take_ (i := 13) (N := some 46) (v := ?_) (a' := ?_) (fl 20 32335) rfl rfl (take_ofW HT_.out HW_.out (by kernel_rfl)) (fun _ _ _ h => h) (Or.inl ⟨by rfl, ?_⟩) hHeld ?_ ?_
          rotate_left; (· rintro w' ⟨s0, s1⟩; go_simp; with_reducible rfl); rotate_left; (· simp only [Act.put, q1_, q2_, q3_, i64_w, i32_w]; rfl)
          refine join_ (σ := Nat) 1 (fl 20 524287) (fun s_ => [(37, .int .i64 t667), (40, .int .i64 t668), (48, .int .i64 t670), (8, .pointer (some ⟨s_, 0, none⟩)), (38, .int .u32 ((t667) % 4294967296)), (41, .int .u32 ((t668) % 4294967296)), (49, .int .u16 (IntKind.u16.wrap (t670))), (50, .agg #[.int .u8 (rd l0 9), .int .u32 ((t667) % 4294967296), .int .u32 ((t668) % 4294967296), .int .i64 t660, .int .i64 t661, .int .u8 (rd l0 8), .int .u16 (IntKind.u16.wrap (t670))])]) (fun s_ w' => (w'.cell? ⟨ad666.block, ad666.off + 9, none⟩ = some (.int .u8 (rd l0 9)) ∧ w'.cell? ⟨ad666.block, ad666.off + 8, none⟩ = some (.int .u8 (rd l0 8))) ∧ (w'.heap[gb659]? = some (.cells #[.int .u8 0, .int .u32 0, .int .u32 0, .int .i64 0, .int .i64 0, .int .u8 0, .int .u16 0] 61 (0, 0))) ∧ (w'.heap[s_]? = some (.cells #[.int .u8 0, .int .u32 0, .int .u32 0, .int .i64 0, .int .i64 0, .int .u8 0, .int .u16 0] 61 (0, 0))) ∧ (w.heap.size ≤ s_) ∧ (w.heap.size ≤ s_) ∧ (gb659 ≠ s_) ∧ (s_ ≠ gb659) ∧ (Below w.heap.size w w')) ?_ ?_
          rotate_left
          ·intro hCont
           refine two_ (i := 4) (j := 18) (Ni := some 37) (Nj := some 8) (fl 20 32351) (fl 20 294479) rfl rfl rfl rfl (two_of HT_.out (by kernel_rfl)) (by decide) (by decide) (fun K hK => ?_) (fun K hK => ?_)
           ·skip
            refine goes_ Try.func77 (by kernel_rfl) rfl #[.slice (some ad666) l0.length c0, .int .i64 12, .int .i64 4] (by rfl) rfl rfl (by (try simp only [List.map_toArray, List.map_cons, List.map_nil]); first | done | rfl) ?_
            with_reducible refine (ip_num.calls k _ _ l0 12 4 t667 _ ?side1 ?side2 A11.out).mono ?_
            (case side1 => repeat (first | exact (Kd.C_below HR0.out HB.out) | (with_reducible refine Kd.C_alloc ?_ _) | (with_reducible refine Kd.C_drewN ?_ _) | (with_reducible refine Kd.C_drew ?_)))
            (case side2 => exact HC0.out)
            rintro e w' ⟨rfl, ⟨nd, rfl⟩⟩
            refine ⟨_, rfl, ?_⟩
            refine hK.out _ _ ⟨((HB.out.cell (World.block_lt_of_cell? w _ hw666_0)).trans hw666_0), ((HB.out.cell (World.block_lt_of_cell? w _ hw669_0)).trans hw669_0)⟩ (fun hHeld => ?_)
            clear hK K
            refine norm_ (a' := ?_) ?_ ?_
            rotate_left
            ·show Act.put _ (some 37) _ = _
             simp only [Act.put, q1_, q2_, q3_, i64_w, i32_w]
             rfl
            refine pure_ (i := 5) (N := some 38) (v := ?_) (a' := ?_) (fl 20 32383) rfl rfl (any_of HT_.out (by kernel_rfl)) (fun _ _ _ h => h) (Or.inl ⟨by rfl, ?_⟩) ?_ ?_
            rotate_left; (· intro w'; go_simp; with_reducible rfl); rotate_left; (· simp only [Act.put, q1_, q2_, q3_, i64_w, i32_w]; rfl)
            refine two_ (i := 7) (j := 18) (Ni := some 40) (Nj := some 8) (fl 20 32511) (fl 20 294527) rfl rfl rfl rfl (two_of HT_.out (by kernel_rfl)) (by decide) (by decide) (fun K hK => ?_) (fun K hK => ?_)
            ·skip
             refine goes_ Try.func77 (by kernel_rfl) rfl #[.slice (some ad666) l0.length c0, .int .i64 16, .int .i64 4] (by rfl) rfl rfl (by (try simp only [List.map_toArray, List.map_cons, List.map_nil]); first | done | rfl) ?_
             with_reducible refine (ip_num.calls k _ _ l0 16 4 t668 _ ?side1 ?side2 A12.out).mono ?_
             (case side1 => repeat (first | exact (Kd.C_below HR0.out (by repeat first | (with_reducible first | exact HB.out | apply mB | refine below_set ?_ GE659.out) | exact HB.out)) | (with_reducible refine Kd.C_alloc ?_ _) | (with_reducible refine Kd.C_drewN ?_ _) | (with_reducible refine Kd.C_drew ?_)))
             (case side2 => exact HC0.out)
             rintro e w' ⟨rfl, ⟨nd, rfl⟩⟩
             refine ⟨_, rfl, ?_⟩
             refine hK.out _ _ ⟨((HB.out.cell (World.block_lt_of_cell? w _ hw666_0)).trans hw666_0), ((HB.out.cell (World.block_lt_of_cell? w _ hw669_0)).trans hw669_0)⟩ (fun hHeld => ?_)
             clear hK K
             refine norm_ (a' := ?_) ?_ ?_
             rotate_left
             ·show Act.put _ (some 40) _ = _
              simp only [Act.put, q1_, q2_, q3_, i64_w, i32_w]
              rfl
             refine pure_ (i := 8) (N := some 41) (v := ?_) (a' := ?_) (fl 20 32767) rfl rfl (any_of HT_.out (by kernel_rfl)) (fun _ _ _ h => h) (Or.inl ⟨by rfl, ?_⟩) ?_ ?_
             rotate_left; (· intro w'; go_simp; with_reducible rfl); rotate_left; (· simp only [Act.put, q1_, q2_, q3_, i64_w, i32_w]; rfl)
             refine two_ (i := 15) (j := 18) (Ni := some 48) (Nj := some 8) (fl 20 65535) (fl 20 294911) rfl rfl rfl rfl (two_of HT_.out (by kernel_rfl)) (by decide) (by decide) (fun K hK => ?_) (fun K hK => ?_)
             ·skip
              refine goes_ Try.func77 (by kernel_rfl) rfl #[.slice (some ad666) l0.length c0, .int .i64 4, .int .i64 2] (by rfl) rfl rfl (by (try simp only [List.map_toArray, List.map_cons, List.map_nil]); first | done | rfl) ?_
              with_reducible refine (ip_num.calls k _ _ l0 4 2 t670 _ ?side1 ?side2 A14.out).mono ?_
              (case side1 => repeat (first | exact (Kd.C_below HR0.out (by repeat first | (with_reducible first | exact HB.out | apply mB | refine below_set ?_ GE659.out) | exact HB.out)) | (with_reducible refine Kd.C_alloc ?_ _) | (with_reducible refine Kd.C_drewN ?_ _) | (with_reducible refine Kd.C_drew ?_)))
              (case side2 => exact HC0.out)
              rintro e w' ⟨rfl, ⟨nd, rfl⟩⟩
              refine ⟨_, rfl, ?_⟩
              refine hK.out _ _ ⟨((HB.out.cell (World.block_lt_of_cell? w _ hw666_0)).trans hw666_0), ((HB.out.cell (World.block_lt_of_cell? w _ hw669_0)).trans hw669_0)⟩ (fun hHeld => ?_)
              clear hK K
              refine norm_ (a' := ?_) ?_ ?_
              rotate_left
              ·show Act.put _ (some 48) _ = _
               simp only [Act.put, q1_, q2_, q3_, i64_w, i32_w]
               rfl
              refine pure_ (i := 16) (N := some 49) (v := ?_) (a' := ?_) (fl 20 131071) rfl rfl (any_of HT_.out (by kernel_rfl)) (fun _ _ _ h => h) (Or.inl ⟨by rfl, ?_⟩) ?_ ?_
              rotate_left; (· intro w'; go_simp; with_reducible rfl); rotate_left; (· simp only [Act.put, q1_, q2_, q3_, i64_w, i32_w]; rfl)
              refine pure_ (i := 17) (N := some 50) (v := ?_) (a' := ?_) (fl 20 262143) rfl rfl (any_of HT_.out (by kernel_rfl)) (fun _ _ _ h => h) (Or.inl ⟨by rfl, ?_⟩) ?_ ?_
              rotate_left; (· intro w'; go_simp; with_reducible rfl); rotate_left; (· simp only [Act.put, q1_, q2_, q3_, i64_w, i32_w]; rfl)
              refine one_ (i := 18) (N := some 8) (fl 20 524287) rfl rfl (one_of HT_.out (by kernel_rfl)) (by decide) (fun K hK => ?_)
              refine box_step ?hg (N := 8) ?hd (cs := #[.int .u8 0, .int .u32 0, .int .u32 0, .int .i64 0, .int .i64 0, .int .u8 0, .int .u16 0]) (t := 61) ?hr ?_; (case hd => rfl); (case hg => rfl); (case hr => first | (go_simp; done) | (go_simp; rfl))
              intro gb671 hg w23 hbox hb
              have n0_ := aS (blk_below (g := gb659) (o := Z_61) (tk BK659.out) hb)
              have n1_ := aS (below_step (by repeat first | (with_reducible first | exact HB.out | apply mB | refine below_set ?_ GE659.out) | exact HB.out) hb)
              have n2_ := aS (hbox)
              have n3_ := aS ((by rw [hg]; exact (below_size (by repeat first | (with_reducible first | exact HB.out | apply mB | refine below_set ?_ GE659.out) | exact HB.out)) : w.heap.size ≤ gb671))
              have n4_ := aS ((by rw [hg]; exact (below_size (by repeat first | (with_reducible first | exact HB.out | apply mB | refine below_set ?_ GE659.out) | exact HB.out)) : w.heap.size ≤ gb671))
              have n5_ := aS ((by rw [hg]; exact Nat.ne_of_lt (blk_lt (g := gb659) (o := Z_61) (tk BK659.out)) : gb659 ≠ gb671))
              have n6_ := aS ((by rw [hg]; exact Nat.ne_of_gt (blk_lt (g := gb659) (o := Z_61) (tk BK659.out)) : gb671 ≠ gb659))
              clear BK659 HB; have BK659 := n0_; have HB := n1_; have BK671 := n2_; have GW671 := n3_; have GE671 := n4_; have NB659_671 := n5_; have NB671_659 := n6_; clear n0_ n1_ n2_ n3_ n4_ n5_ n6_ hb hbox hg
              refine hK.out _ _ ⟨((HB.out.cell (World.block_lt_of_cell? w _ hw666_0)).trans hw666_0), ((HB.out.cell (World.block_lt_of_cell? w _ hw669_0)).trans hw669_0)⟩ (fun hHeld => ?_)
              clear hK K
              refine norm_ (a' := ?_) ?_ ?_
              rotate_left
              ·show Act.put _ (some 8) _ = _
               simp only [Act.put, q1_, q2_, q3_, i64_w, i32_w]
               rfl
              exact norm_ (by first | (simp only [putAll, Act.put, q1_, q2_, q3_]; done) | (simp only [putAll, Act.put, q1_, q2_, q3_, w8_mod, w16_mod, w32_mod])) (hCont (gb671) _ ⟨hHeld, (tk BK659.out), (tk BK671.out), GW671.out, GE671.out, NB659_671.out, NB671_659.out, (by repeat first | (with_reducible first | exact HB.out | apply mB | refine below_set ?_ GE659.out | refine below_set ?_ GE671.out) | exact HB.out)⟩)
             ·skip
              refine box_step ?hg (N := 8) ?hd (cs := #[.int .u8 0, .int .u32 0, .int .u32 0, .int .i64 0, .int .i64 0, .int .u8 0, .int .u16 0]) (t := 61) ?hr ?_; (case hd => rfl); (case hg => rfl); (case hr => first | (go_simp; done) | (go_simp; rfl))
              intro gb671 hg w23 hbox hb
              have n0_ := aS (blk_below (g := gb659) (o := Z_61) (tk BK659.out) hb)
              have n1_ := aS (below_step (by repeat first | (with_reducible first | exact HB.out | apply mB | refine below_set ?_ GE659.out) | exact HB.out) hb)
              have n2_ := aS (hbox)
              have n3_ := aS ((by rw [hg]; exact (below_size (by repeat first | (with_reducible first | exact HB.out | apply mB | refine below_set ?_ GE659.out) | exact HB.out)) : w.heap.size ≤ gb671))
              have n4_ := aS ((by rw [hg]; exact (below_size (by repeat first | (with_reducible first | exact HB.out | apply mB | refine below_set ?_ GE659.out) | exact HB.out)) : w.heap.size ≤ gb671))
              have n5_ := aS ((by rw [hg]; exact Nat.ne_of_lt (blk_lt (g := gb659) (o := Z_61) (tk BK659.out)) : gb659 ≠ gb671))
              have n6_ := aS ((by rw [hg]; exact Nat.ne_of_gt (blk_lt (g := gb659) (o := Z_61) (tk BK659.out)) : gb671 ≠ gb659))
              clear BK659 HB; have BK659 := n0_; have HB := n1_; have BK671 := n2_; have GW671 := n3_; have GE671 := n4_; have NB659_671 := n5_; have NB671_659 := n6_; clear n0_ n1_ n2_ n3_ n4_ n5_ n6_ hb hbox hg
              refine hK.out _ _ ⟨((HB.out.cell (World.block_lt_of_cell? w _ hw666_0)).trans hw666_0), ((HB.out.cell (World.block_lt_of_cell? w _ hw669_0)).trans hw669_0)⟩ (fun hHeld => ?_)
              clear hK K
              refine norm_ (a' := ?_) ?_ ?_
              rotate_left
              ·show Act.put _ (some 8) _ = _
               simp only [Act.put, q1_, q2_, q3_, i64_w, i32_w]
               rfl
              refine one_ (i := 15) (N := some 48) (fl 20 327679) rfl rfl (one_of HT_.out (by kernel_rfl)) (by decide) (fun K hK => ?_)
              refine goes_ Try.func77 (by kernel_rfl) rfl #[.slice (some ad666) l0.length c0, .int .i64 4, .int .i64 2] (by rfl) rfl rfl (by (try simp only [List.map_toArray, List.map_cons, List.map_nil]); first | done | rfl) ?_
              with_reducible refine (ip_num.calls k _ _ l0 4 2 t670 _ ?side1 ?side2 A14.out).mono ?_
              (case side1 => repeat (first | exact (Kd.C_below HR0.out HB.out) | (with_reducible refine Kd.C_alloc ?_ _) | (with_reducible refine Kd.C_drewN ?_ _) | (with_reducible refine Kd.C_drew ?_)))
              (case side2 => exact HC0.out)
              rintro e w' ⟨rfl, ⟨nd, rfl⟩⟩
              refine ⟨_, rfl, ?_⟩
              refine hK.out _ _ ⟨((HB.out.cell (World.block_lt_of_cell? w _ hw666_0)).trans hw666_0), ((HB.out.cell (World.block_lt_of_cell? w _ hw669_0)).trans hw669_0)⟩ (fun hHeld => ?_)
              clear hK K
              refine norm_ (a' := ?_) ?_ ?_
              rotate_left
              ·show Act.put _ (some 48) _ = _
               simp only [Act.put, q1_, q2_, q3_, i64_w, i32_w]
               rfl
              refine pure_ (i := 16) (N := some 49) (v := ?_) (a' := ?_) (fl 20 393215) rfl rfl (any_of HT_.out (by kernel_rfl)) (fun _ _ _ h => h) (Or.inl ⟨by rfl, ?_⟩) ?_ ?_
              rotate_left; (· intro w'; go_simp; with_reducible rfl); rotate_left; (· simp only [Act.put, q1_, q2_, q3_, i64_w, i32_w]; rfl)
              refine pure_ (i := 17) (N := some 50) (v := ?_) (a' := ?_) (fl 20 524287) rfl rfl (any_of HT_.out (by kernel_rfl)) (fun _ _ _ h => h) (Or.inl ⟨by rfl, ?_⟩) ?_ ?_
              rotate_left; (· intro w'; go_simp; with_reducible rfl); rotate_left; (· simp only [Act.put, q1_, q2_, q3_, i64_w, i32_w]; rfl)
              exact norm_ (by first | (simp only [putAll, Act.put, q1_, q2_, q3_]; done) | (simp only [putAll, Act.put, q1_, q2_, q3_, w8_mod, w16_mod, w32_mod])) (hCont (gb671) _ ⟨hHeld, (tk BK659.out), (tk BK671.out), GW671.out, GE671.out, NB659_671.out, NB671_659.out, (by repeat first | (with_reducible first | exact HB.out | apply mB | refine below_set ?_ GE659.out | refine below_set ?_ GE671.out) | exact HB.out)⟩)
            ·skip
             refine box_step ?hg (N := 8) ?hd (cs := #[.int .u8 0, .int .u32 0, .int .u32 0, .int .i64 0, .int .i64 0, .int .u8 0, .int .u16 0]) (t := 61) ?hr ?_; (case hd => rfl); (case hg => rfl); (case hr => first | (go_simp; done) | (go_simp; rfl))
             intro gb671 hg w23 hbox hb
             have n0_ := aS (blk_below (g := gb659) (o := Z_61) (tk BK659.out) hb)
             have n1_ := aS (below_step (by repeat first | (with_reducible first | exact HB.out | apply mB | refine below_set ?_ GE659.out) | exact HB.out) hb)
             have n2_ := aS (hbox)
             have n3_ := aS ((by rw [hg]; exact (below_size (by repeat first | (with_reducible first | exact HB.out | apply mB | refine below_set ?_ GE659.out) | exact HB.out)) : w.heap.size ≤ gb671))
             have n4_ := aS ((by rw [hg]; exact (below_size (by repeat first | (with_reducible first | exact HB.out | apply mB | refine below_set ?_ GE659.out) | exact HB.out)) : w.heap.size ≤ gb671))
             have n5_ := aS ((by rw [hg]; exact Nat.ne_of_lt (blk_lt (g := gb659) (o := Z_61) (tk BK659.out)) : gb659 ≠ gb671))
             have n6_ := aS ((by rw [hg]; exact Nat.ne_of_gt (blk_lt (g := gb659) (o := Z_61) (tk BK659.out)) : gb671 ≠ gb659))
             clear BK659 HB; have BK659 := n0_; have HB := n1_; have BK671 := n2_; have GW671 := n3_; have GE671 := n4_; have NB659_671 := n5_; have NB671_659 := n6_; clear n0_ n1_ n2_ n3_ n4_ n5_ n6_ hb hbox hg
             refine hK.out _ _ ⟨((HB.out.cell (World.block_lt_of_cell? w _ hw666_0)).trans hw666_0), ((HB.out.cell (World.block_lt_of_cell? w _ hw669_0)).trans hw669_0)⟩ (fun hHeld => ?_)
             clear hK K
             refine norm_ (a' := ?_) ?_ ?_
             rotate_left
             ·show Act.put _ (some 8) _ = _
              simp only [Act.put, q1_, q2_, q3_, i64_w, i32_w]
              rfl
             refine one_ (i := 7) (N := some 40) (fl 20 294655) rfl rfl (one_of HT_.out (by kernel_rfl)) (by decide) (fun K hK => ?_)
             refine goes_ Try.func77 (by kernel_rfl) rfl #[.slice (some ad666) l0.length c0, .int .i64 16, .int .i64 4] (by rfl) rfl rfl (by (try simp only [List.map_toArray, List.map_cons, List.map_nil]); first | done | rfl) ?_
             with_reducible refine (ip_num.calls k _ _ l0 16 4 t668 _ ?side1 ?side2 A12.out).mono ?_
             (case side1 => repeat (first | exact (Kd.C_below HR0.out HB.out) | (with_reducible refine Kd.C_alloc ?_ _) | (with_reducible refine Kd.C_drewN ?_ _) | (with_reducible refine Kd.C_drew ?_)))
             (case side2 => exact HC0.out)
             rintro e w' ⟨rfl, ⟨nd, rfl⟩⟩
             refine ⟨_, rfl, ?_⟩
             refine hK.out _ _ ⟨((HB.out.cell (World.block_lt_of_cell? w _ hw666_0)).trans hw666_0), ((HB.out.cell (World.block_lt_of_cell? w _ hw669_0)).trans hw669_0)⟩ (fun hHeld => ?_)
             clear hK K
             refine norm_ (a' := ?_) ?_ ?_
             rotate_left
             ·show Act.put _ (some 40) _ = _
              simp only [Act.put, q1_, q2_, q3_, i64_w, i32_w]
              rfl
             refine pure_ (i := 8) (N := some 41) (v := ?_) (a' := ?_) (fl 20 294911) rfl rfl (any_of HT_.out (by kernel_rfl)) (fun _ _ _ h => h) (Or.inl ⟨by rfl, ?_⟩) ?_ ?_
             rotate_left; (· intro w'; go_simp; with_reducible rfl); rotate_left; (· simp only [Act.put, q1_, q2_, q3_, i64_w, i32_w]; rfl)
             refine one_ (i := 15) (N := some 48) (fl 20 327679) rfl rfl (one_of HT_.out (by kernel_rfl)) (by decide) (fun K hK => ?_)
             refine goes_ Try.func77 (by kernel_rfl) rfl #[.slice (some ad666) l0.length c0, .int .i64 4, .int .i64 2] (by rfl) rfl rfl (by (try simp only [List.map_toArray, List.map_cons, List.map_nil]); first | done | rfl) ?_
             with_reducible refine (ip_num.calls k _ _ l0 4 2 t670 _ ?side1 ?side2 A14.out).mono ?_
             (case side1 => repeat (first | exact (Kd.C_below HR0.out (by repeat first | (with_reducible first | exact HB.out | apply mB | refine below_set ?_ GE659.out | refine below_set ?_ GE671.out) | exact HB.out)) | (with_reducible refine Kd.C_alloc ?_ _) | (with_reducible refine Kd.C_drewN ?_ _) | (with_reducible refine Kd.C_drew ?_)))
             (case side2 => exact HC0.out)
             rintro e w' ⟨rfl, ⟨nd, rfl⟩⟩
             refine ⟨_, rfl, ?_⟩
             refine hK.out _ _ ⟨((HB.out.cell (World.block_lt_of_cell? w _ hw666_0)).trans hw666_0), ((HB.out.cell (World.block_lt_of_cell? w _ hw669_0)).trans hw669_0)⟩ (fun hHeld => ?_)
             clear hK K
             refine norm_ (a' := ?_) ?_ ?_
             rotate_left
             ·show Act.put _ (some 48) _ = _
              simp only [Act.put, q1_, q2_, q3_, i64_w, i32_w]
              rfl
             refine pure_ (i := 16) (N := some 49) (v := ?_) (a' := ?_) (fl 20 393215) rfl rfl (any_of HT_.out (by kernel_rfl)) (fun _ _ _ h => h) (Or.inl ⟨by rfl, ?_⟩) ?_ ?_
             rotate_left; (· intro w'; go_simp; with_reducible rfl); rotate_left; (· simp only [Act.put, q1_, q2_, q3_, i64_w, i32_w]; rfl)
             refine pure_ (i := 17) (N := some 50) (v := ?_) (a' := ?_) (fl 20 524287) rfl rfl (any_of HT_.out (by kernel_rfl)) (fun _ _ _ h => h) (Or.inl ⟨by rfl, ?_⟩) ?_ ?_
             rotate_left; (· intro w'; go_simp; with_reducible rfl); rotate_left; (· simp only [Act.put, q1_, q2_, q3_, i64_w, i32_w]; rfl)
             exact norm_ (by first | (simp only [putAll, Act.put, q1_, q2_, q3_]; done) | (simp only [putAll, Act.put, q1_, q2_, q3_, w8_mod, w16_mod, w32_mod])) (hCont (gb671) _ ⟨hHeld, (tk BK659.out), (tk BK671.out), GW671.out, GE671.out, NB659_671.out, NB671_659.out, (by repeat first | (with_reducible first | exact HB.out | apply mB | refine below_set ?_ GE659.out | refine below_set ?_ GE671.out) | exact HB.out)⟩)
           ·skip
            refine box_step ?hg (N := 8) ?hd (cs := #[.int .u8 0, .int .u32 0, .int .u32 0, .int .i64 0, .int .i64 0, .int .u8 0, .int .u16 0]) (t := 61) ?hr ?_; (case hd => rfl); (case hg => rfl); (case hr => first | (go_simp; done) | (go_simp; rfl))
            intro gb671 hg w23 hbox hb
            have n0_ := aS (blk_below (g := gb659) (o := Z_61) (tk BK659.out) hb)
            have n1_ := aS (below_step (by repeat first | (with_reducible first | exact HB.out | apply mB | refine below_set ?_ GE659.out) | exact HB.out) hb)
            have n2_ := aS (hbox)
            have n3_ := aS ((by rw [hg]; exact (below_size (by repeat first | (with_reducible first | exact HB.out | apply mB | refine below_set ?_ GE659.out) | exact HB.out)) : w.heap.size ≤ gb671))
            have n4_ := aS ((by rw [hg]; exact (below_size (by repeat first | (with_reducible first | exact HB.out | apply mB | refine below_set ?_ GE659.out) | exact HB.out)) : w.heap.size ≤ gb671))
            have n5_ := aS ((by rw [hg]; exact Nat.ne_of_lt (blk_lt (g := gb659) (o := Z_61) (tk BK659.out)) : gb659 ≠ gb671))
            have n6_ := aS ((by rw [hg]; exact Nat.ne_of_gt (blk_lt (g := gb659) (o := Z_61) (tk BK659.out)) : gb671 ≠ gb659))
            clear BK659 HB; have BK659 := n0_; have HB := n1_; have BK671 := n2_; have GW671 := n3_; have GE671 := n4_; have NB659_671 := n5_; have NB671_659 := n6_; clear n0_ n1_ n2_ n3_ n4_ n5_ n6_ hb hbox hg
            refine hK.out _ _ ⟨((HB.out.cell (World.block_lt_of_cell? w _ hw666_0)).trans hw666_0), ((HB.out.cell (World.block_lt_of_cell? w _ hw669_0)).trans hw669_0)⟩ (fun hHeld => ?_)
            clear hK K
            refine norm_ (a' := ?_) ?_ ?_
            rotate_left
            ·show Act.put _ (some 8) _ = _
             simp only [Act.put, q1_, q2_, q3_, i64_w, i32_w]
             rfl
            refine one_ (i := 4) (N := some 37) (fl 20 294495) rfl rfl (one_of HT_.out (by kernel_rfl)) (by decide) (fun K hK => ?_)
            refine goes_ Try.func77 (by kernel_rfl) rfl #[.slice (some ad666) l0.length c0, .int .i64 12, .int .i64 4] (by rfl) rfl rfl (by (try simp only [List.map_toArray, List.map_cons, List.map_nil]); first | done | rfl) ?_
            with_reducible refine (ip_num.calls k _ _ l0 12 4 t667 _ ?side1 ?side2 A11.out).mono ?_
            (case side1 => repeat (first | exact (Kd.C_below HR0.out HB.out) | (with_reducible refine Kd.C_alloc ?_ _) | (with_reducible refine Kd.C_drewN ?_ _) | (with_reducible refine Kd.C_drew ?_)))
            (case side2 => exact HC0.out)
            rintro e w' ⟨rfl, ⟨nd, rfl⟩⟩
            refine ⟨_, rfl, ?_⟩
            refine hK.out _ _ ⟨((HB.out.cell (World.block_lt_of_cell? w _ hw666_0)).trans hw666_0), ((HB.out.cell (World.block_lt_of_cell? w _ hw669_0)).trans hw669_0)⟩ (fun hHeld => ?_)
            clear hK K
            refine norm_ (a' := ?_) ?_ ?_
            rotate_left
            ·show Act.put _ (some 37) _ = _
             simp only [Act.put, q1_, q2_, q3_, i64_w, i32_w]
             rfl
            refine pure_ (i := 5) (N := some 38) (v := ?_) (a' := ?_) (fl 20 294527) rfl rfl (any_of HT_.out (by kernel_rfl)) (fun _ _ _ h => h) (Or.inl ⟨by rfl, ?_⟩) ?_ ?_
            rotate_left; (· intro w'; go_simp; with_reducible rfl); rotate_left; (· simp only [Act.put, q1_, q2_, q3_, i64_w, i32_w]; rfl)
            refine one_ (i := 7) (N := some 40) (fl 20 294655) rfl rfl (one_of HT_.out (by kernel_rfl)) (by decide) (fun K hK => ?_)
            refine goes_ Try.func77 (by kernel_rfl) rfl #[.slice (some ad666) l0.length c0, .int .i64 16, .int .i64 4] (by rfl) rfl rfl (by (try simp only [List.map_toArray, List.map_cons, List.map_nil]); first | done | rfl) ?_
            with_reducible refine (ip_num.calls k _ _ l0 16 4 t668 _ ?side1 ?side2 A12.out).mono ?_
            (case side1 => repeat (first | exact (Kd.C_below HR0.out (by repeat first | (with_reducible first | exact HB.out | apply mB | refine below_set ?_ GE659.out | refine below_set ?_ GE671.out) | exact HB.out)) | (with_reducible refine Kd.C_alloc ?_ _) | (with_reducible refine Kd.C_drewN ?_ _) | (with_reducible refine Kd.C_drew ?_)))
            (case side2 => exact HC0.out)
            rintro e w' ⟨rfl, ⟨nd, rfl⟩⟩
            refine ⟨_, rfl, ?_⟩
            refine hK.out _ _ ⟨((HB.out.cell (World.block_lt_of_cell? w _ hw666_0)).trans hw666_0), ((HB.out.cell (World.block_lt_of_cell? w _ hw669_0)).trans hw669_0)⟩ (fun hHeld => ?_)
            clear hK K
            refine norm_ (a' := ?_) ?_ ?_
            rotate_left
            ·show Act.put _ (some 40) _ = _
             simp only [Act.put, q1_, q2_, q3_, i64_w, i32_w]
             rfl
            refine pure_ (i := 8) (N := some 41) (v := ?_) (a' := ?_) (fl 20 294911) rfl rfl (any_of HT_.out (by kernel_rfl)) (fun _ _ _ h => h) (Or.inl ⟨by rfl, ?_⟩) ?_ ?_
            rotate_left; (· intro w'; go_simp; with_reducible rfl); rotate_left; (· simp only [Act.put, q1_, q2_, q3_, i64_w, i32_w]; rfl)
            refine one_ (i := 15) (N := some 48) (fl 20 327679) rfl rfl (one_of HT_.out (by kernel_rfl)) (by decide) (fun K hK => ?_)
            refine goes_ Try.func77 (by kernel_rfl) rfl #[.slice (some ad666) l0.length c0, .int .i64 4, .int .i64 2] (by rfl) rfl rfl (by (try simp only [List.map_toArray, List.map_cons, List.map_nil]); first | done | rfl) ?_
            with_reducible refine (ip_num.calls k _ _ l0 4 2 t670 _ ?side1 ?side2 A14.out).mono ?_
            (case side1 => repeat (first | exact (Kd.C_below HR0.out (by repeat first | (with_reducible first | exact HB.out | apply mB | refine below_set ?_ GE659.out | refine below_set ?_ GE671.out) | exact HB.out)) | (with_reducible refine Kd.C_alloc ?_ _) | (with_reducible refine Kd.C_drewN ?_ _) | (with_reducible refine Kd.C_drew ?_)))
            (case side2 => exact HC0.out)
            rintro e w' ⟨rfl, ⟨nd, rfl⟩⟩
            refine ⟨_, rfl, ?_⟩
            refine hK.out _ _ ⟨((HB.out.cell (World.block_lt_of_cell? w _ hw666_0)).trans hw666_0), ((HB.out.cell (World.block_lt_of_cell? w _ hw669_0)).trans hw669_0)⟩ (fun hHeld => ?_)
            clear hK K
            refine norm_ (a' := ?_) ?_ ?_
            rotate_left
            ·show Act.put _ (some 48) _ = _
             simp only [Act.put, q1_, q2_, q3_, i64_w, i32_w]
             rfl
            refine pure_ (i := 16) (N := some 49) (v := ?_) (a' := ?_) (fl 20 393215) rfl rfl (any_of HT_.out (by kernel_rfl)) (fun _ _ _ h => h) (Or.inl ⟨by rfl, ?_⟩) ?_ ?_
            rotate_left; (· intro w'; go_simp; with_reducible rfl); rotate_left; (· simp only [Act.put, q1_, q2_, q3_, i64_w, i32_w]; rfl)
            refine pure_ (i := 17) (N := some 50) (v := ?_) (a' := ?_) (fl 20 524287) rfl rfl (any_of HT_.out (by kernel_rfl)) (fun _ _ _ h => h) (Or.inl ⟨by rfl, ?_⟩) ?_ ?_
            rotate_left; (· intro w'; go_simp; with_reducible rfl); rotate_left; (· simp only [Act.put, q1_, q2_, q3_, i64_w, i32_w]; rfl)
            exact norm_ (by first | (simp only [putAll, Act.put, q1_, q2_, q3_]; done) | (simp only [putAll, Act.put, q1_, q2_, q3_, w8_mod, w16_mod, w32_mod])) (hCont (gb671) _ ⟨hHeld, (tk BK659.out), (tk BK671.out), GW671.out, GE671.out, NB659_671.out, NB671_659.out, (by repeat first | (with_reducible first | exact HB.out | apply mB | refine below_set ?_ GE659.out | refine below_set ?_ GE671.out) | exact HB.out)⟩)
          rintro gb671 w24 ⟨hS_, h0_, h1_, h2_, h3_, h4_, h5_, h6_⟩
          replace BK659 : Aside0 (w24.heap[gb659]? = some (.cells #[.int .u8 0, .int .u32 0, .int .u32 0, .int .i64 0, .int .i64 0, .int .u8 0, .int .u16 0] 61 (0, 0))) := ⟨h0_⟩
          have BK671 : Aside0 (w24.heap[gb671]? = some (.cells #[.int .u8 0, .int .u32 0, .int .u32 0, .int .i64 0, .int .i64 0, .int .u8 0, .int .u16 0] 61 (0, 0))) := ⟨h1_⟩
          have GW671 : Aside0 (w.heap.size ≤ gb671) := ⟨h2_⟩
          have GE671 : Aside0 (w.heap.size ≤ gb671) := ⟨h3_⟩
          have NB659_671 : Aside0 (gb659 ≠ gb671) := ⟨h4_⟩
          have NB671_659 : Aside0 (gb671 ≠ gb659) := ⟨h5_⟩
          replace HB : Aside0 (Below w.heap.size w w24) := ⟨h6_⟩
          clear h0_ h1_ h2_ h3_ h4_ h5_ h6_
          have hHeld : w24.cell? ⟨ad666.block, ad666.off + 9, none⟩ = some (.int .u8 (rd l0 9)) ∧ w24.cell? ⟨ad666.block, ad666.off + 8, none⟩ = some (.int .u8 (rd l0 8)) := hS_
          refine norm_ (a' := ?_) ?_ ?_
          rotate_left
          ·simp only [putAll, Act.put, q1_, q2_, q3_]
           rfl
          refine one_ (i := 19) (N := none) (fl 20 1048575) rfl rfl (one_of HT_.out (by kernel_rfl)) (by decide) (fun K hK => ?_)
          have hs25 : w24.cell? ⟨gb671, 0, none⟩ = some (.int .u8 0) := (blk_cell BK671.out 0).trans rfl
          have hfs25 := blk_frozen BK671.out 0
          have hns25_0 := NB659_671.out
          have hms25_0 := NB671_659.out
          have hs26 : w24.cell? ⟨gb671, 1, none⟩ = some (.int .u32 0) := (blk_cell BK671.out 1).trans rfl
          have hfs26 := blk_frozen BK671.out 1
          have hns26_0 := NB659_671.out
          have hms26_0 := NB671_659.out
          have hs27 : w24.cell? ⟨gb671, 2, none⟩ = some (.int .u32 0) := (blk_cell BK671.out 2).trans rfl
          have hfs27 := blk_frozen BK671.out 2
          have hns27_0 := NB659_671.out
          have hms27_0 := NB671_659.out
          have hs28 : w24.cell? ⟨gb671, 3, none⟩ = some (.int .i64 0) := (blk_cell BK671.out 3).trans rfl
          have hfs28 := blk_frozen BK671.out 3
          have hns28_0 := NB659_671.out
          have hms28_0 := NB671_659.out
          have hs29 : w24.cell? ⟨gb671, 4, none⟩ = some (.int .i64 0) := (blk_cell BK671.out 4).trans rfl
          have hfs29 := blk_frozen BK671.out 4
          have hns29_0 := NB659_671.out
          have hms29_0 := NB671_659.out
          have hs30 : w24.cell? ⟨gb671, 5, none⟩ = some (.int .u8 0) := (blk_cell BK671.out 5).trans rfl
          have hfs30 := blk_frozen BK671.out 5
          have hns30_0 := NB659_671.out
          have hms30_0 := NB671_659.out
          have hs31 : w24.cell? ⟨gb671, 6, none⟩ = some (.int .u16 0) := (blk_cell BK671.out 6).trans rfl
          have hfs31 := blk_frozen BK671.out 6
          have hns31_0 := NB659_671.out
          have hms31_0 := NB671_659.out
          refine skip_ (w1 := ?_) (by rfl) rfl ?_ ?_
          rotate_left
          ·go_simp
           rfl
          refine hK.out _ _ ⟨((cell_far (p := ⟨gb671, _, none⟩) (by first | exact Nat.ne_of_lt (Nat.lt_of_lt_of_le (by have := World.block_lt_of_cell? _ _ hw666_0; first | rwa [add_block] at this | exact this) GW671.out) | (rw [add_block]; exact Nat.ne_of_lt (Nat.lt_of_lt_of_le (by have := World.block_lt_of_cell? _ _ hw666_0; first | rwa [add_block] at this | exact this) GW671.out)) | (show (Addr.add _ _).block ≠ _; rw [add_block]; exact Nat.ne_of_lt (Nat.lt_of_lt_of_le (by have := World.block_lt_of_cell? _ _ hw666_0; first | rwa [add_block] at this | exact this) GW671.out)) | (dsimp only; exact Nat.ne_of_lt (Nat.lt_of_lt_of_le (by have := World.block_lt_of_cell? _ _ hw666_0; first | rwa [add_block] at this | exact this) GW671.out))) _).trans (((cell_far (p := ⟨gb671, _, none⟩) (by first | exact Nat.ne_of_lt (Nat.lt_of_lt_of_le (by have := World.block_lt_of_cell? _ _ hw666_0; first | rwa [add_block] at this | exact this) GW671.out) | (rw [add_block]; exact Nat.ne_of_lt (Nat.lt_of_lt_of_le (by have := World.block_lt_of_cell? _ _ hw666_0; first | rwa [add_block] at this | exact this) GW671.out)) | (show (Addr.add _ _).block ≠ _; rw [add_block]; exact Nat.ne_of_lt (Nat.lt_of_lt_of_le (by have := World.block_lt_of_cell? _ _ hw666_0; first | rwa [add_block] at this | exact this) GW671.out)) | (dsimp only; exact Nat.ne_of_lt (Nat.lt_of_lt_of_le (by have := World.block_lt_of_cell? _ _ hw666_0; first | rwa [add_block] at this | exact this) GW671.out))) _).trans (((cell_far (p := ⟨gb671, _, none⟩) (by first | exact Nat.ne_of_lt (Nat.lt_of_lt_of_le (by have := World.block_lt_of_cell? _ _ hw666_0; first | rwa [add_block] at this | exact this) GW671.out) | (rw [add_block]; exact Nat.ne_of_lt (Nat.lt_of_lt_of_le (by have := World.block_lt_of_cell? _ _ hw666_0; first | rwa [add_block] at this | exact this) GW671.out)) | (show (Addr.add _ _).block ≠ _; rw [add_block]; exact Nat.ne_of_lt (Nat.lt_of_lt_of_le (by have := World.block_lt_of_cell? _ _ hw666_0; first | rwa [add_block] at this | exact this) GW671.out)) | (dsimp only; exact Nat.ne_of_lt (Nat.lt_of_lt_of_le (by have := World.block_lt_of_cell? _ _ hw666_0; first | rwa [add_block] at this | exact this) GW671.out))) _).trans (((cell_far (p := ⟨gb671, _, none⟩) (by first | exact Nat.ne_of_lt (Nat.lt_of_lt_of_le (by have := World.block_lt_of_cell? _ _ hw666_0; first | rwa [add_block] at this | exact this) GW671.out) | (rw [add_block]; exact Nat.ne_of_lt (Nat.lt_of_lt_of_le (by have := World.block_lt_of_cell? _ _ hw666_0; first | rwa [add_block] at this | exact this) GW671.out)) | (show (Addr.add _ _).block ≠ _; rw [add_block]; exact Nat.ne_of_lt (Nat.lt_of_lt_of_le (by have := World.block_lt_of_cell? _ _ hw666_0; first | rwa [add_block] at this | exact this) GW671.out)) | (dsimp only; exact Nat.ne_of_lt (Nat.lt_of_lt_of_le (by have := World.block_lt_of_cell? _ _ hw666_0; first | rwa [add_block] at this | exact this) GW671.out))) _).trans (((cell_far (p := ⟨gb671, _, none⟩) (by first | exact Nat.ne_of_lt (Nat.lt_of_lt_of_le (by have := World.block_lt_of_cell? _ _ hw666_0; first | rwa [add_block] at this | exact this) GW671.out) | (rw [add_block]; exact Nat.ne_of_lt (Nat.lt_of_lt_of_le (by have := World.block_lt_of_cell? _ _ hw666_0; first | rwa [add_block] at this | exact this) GW671.out)) | (show (Addr.add _ _).block ≠ _; rw [add_block]; exact Nat.ne_of_lt (Nat.lt_of_lt_of_le (by have := World.block_lt_of_cell? _ _ hw666_0; first | rwa [add_block] at this | exact this) GW671.out)) | (dsimp only; exact Nat.ne_of_lt (Nat.lt_of_lt_of_le (by have := World.block_lt_of_cell? _ _ hw666_0; first | rwa [add_block] at this | exact this) GW671.out))) _).trans (((cell_far (p := ⟨gb671, _, none⟩) (by first | exact Nat.ne_of_lt (Nat.lt_of_lt_of_le (by have := World.block_lt_of_cell? _ _ hw666_0; first | rwa [add_block] at this | exact this) GW671.out) | (rw [add_block]; exact Nat.ne_of_lt (Nat.lt_of_lt_of_le (by have := World.block_lt_of_cell? _ _ hw666_0; first | rwa [add_block] at this | exact this) GW671.out)) | (show (Addr.add _ _).block ≠ _; rw [add_block]; exact Nat.ne_of_lt (Nat.lt_of_lt_of_le (by have := World.block_lt_of_cell? _ _ hw666_0; first | rwa [add_block] at this | exact this) GW671.out)) | (dsimp only; exact Nat.ne_of_lt (Nat.lt_of_lt_of_le (by have := World.block_lt_of_cell? _ _ hw666_0; first | rwa [add_block] at this | exact this) GW671.out))) _).trans (((cell_far (p := ⟨gb671, _, none⟩) (by first | exact Nat.ne_of_lt (Nat.lt_of_lt_of_le (by have := World.block_lt_of_cell? _ _ hw666_0; first | rwa [add_block] at this | exact this) GW671.out) | (rw [add_block]; exact Nat.ne_of_lt (Nat.lt_of_lt_of_le (by have := World.block_lt_of_cell? _ _ hw666_0; first | rwa [add_block] at this | exact this) GW671.out)) | (show (Addr.add _ _).block ≠ _; rw [add_block]; exact Nat.ne_of_lt (Nat.lt_of_lt_of_le (by have := World.block_lt_of_cell? _ _ hw666_0; first | rwa [add_block] at this | exact this) GW671.out)) | (dsimp only; exact Nat.ne_of_lt (Nat.lt_of_lt_of_le (by have := World.block_lt_of_cell? _ _ hw666_0; first | rwa [add_block] at this | exact this) GW671.out))) _).trans (hHeld.1)))))))))))))), ((cell_far (p := ⟨gb671, _, none⟩) (by first | exact Nat.ne_of_lt (Nat.lt_of_lt_of_le (by have := World.block_lt_of_cell? _ _ hw669_0; first | rwa [add_block] at this | exact this) GW671.out) | (rw [add_block]; exact Nat.ne_of_lt (Nat.lt_of_lt_of_le (by have := World.block_lt_of_cell? _ _ hw669_0; first | rwa [add_block] at this | exact this) GW671.out)) | (show (Addr.add _ _).block ≠ _; rw [add_block]; exact Nat.ne_of_lt (Nat.lt_of_lt_of_le (by have := World.block_lt_of_cell? _ _ hw669_0; first | rwa [add_block] at this | exact this) GW671.out)) | (dsimp only; exact Nat.ne_of_lt (Nat.lt_of_lt_of_le (by have := World.block_lt_of_cell? _ _ hw669_0; first | rwa [add_block] at this | exact this) GW671.out))) _).trans (((cell_far (p := ⟨gb671, _, none⟩) (by first | exact Nat.ne_of_lt (Nat.lt_of_lt_of_le (by have := World.block_lt_of_cell? _ _ hw669_0; first | rwa [add_block] at this | exact this) GW671.out) | (rw [add_block]; exact Nat.ne_of_lt (Nat.lt_of_lt_of_le (by have := World.block_lt_of_cell? _ _ hw669_0; first | rwa [add_block] at this | exact this) GW671.out)) | (show (Addr.add _ _).block ≠ _; rw [add_block]; exact Nat.ne_of_lt (Nat.lt_of_lt_of_le (by have := World.block_lt_of_cell? _ _ hw669_0; first | rwa [add_block] at this | exact this) GW671.out)) | (dsimp only; exact Nat.ne_of_lt (Nat.lt_of_lt_of_le (by have := World.block_lt_of_cell? _ _ hw669_0; first | rwa [add_block] at this | exact this) GW671.out))) _).trans (((cell_far (p := ⟨gb671, _, none⟩) (by first | exact Nat.ne_of_lt (Nat.lt_of_lt_of_le (by have := World.block_lt_of_cell? _ _ hw669_0; first | rwa [add_block] at this | exact this) GW671.out) | (rw [add_block]; exact Nat.ne_of_lt (Nat.lt_of_lt_of_le (by have := World.block_lt_of_cell? _ _ hw669_0; first | rwa [add_block] at this | exact this) GW671.out)) | (show (Addr.add _ _).block ≠ _; rw [add_block]; exact Nat.ne_of_lt (Nat.lt_of_lt_of_le (by have := World.block_lt_of_cell? _ _ hw669_0; first | rwa [add_block] at this | exact this) GW671.out)) | (dsimp only; exact Nat.ne_of_lt (Nat.lt_of_lt_of_le (by have := World.block_lt_of_cell? _ _ hw669_0; first | rwa [add_block] at this | exact this) GW671.out))) _).trans (((cell_far (p := ⟨gb671, _, none⟩) (by first | exact Nat.ne_of_lt (Nat.lt_of_lt_of_le (by have := World.block_lt_of_cell? _ _ hw669_0; first | rwa [add_block] at this | exact this) GW671.out) | (rw [add_block]; exact Nat.ne_of_lt (Nat.lt_of_lt_of_le (by have := World.block_lt_of_cell? _ _ hw669_0; first | rwa [add_block] at this | exact this) GW671.out)) | (show (Addr.add _ _).block ≠ _; rw [add_block]; exact Nat.ne_of_lt (Nat.lt_of_lt_of_le (by have := World.block_lt_of_cell? _ _ hw669_0; first | rwa [add_block] at this | exact this) GW671.out)) | (dsimp only; exact Nat.ne_of_lt (Nat.lt_of_lt_of_le (by have := World.block_lt_of_cell? _ _ hw669_0; first | rwa [add_block] at this | exact this) GW671.out))) _).trans (((cell_far (p := ⟨gb671, _, none⟩) (by first | exact Nat.ne_of_lt (Nat.lt_of_lt_of_le (by have := World.block_lt_of_cell? _ _ hw669_0; first | rwa [add_block] at this | exact this) GW671.out) | (rw [add_block]; exact Nat.ne_of_lt (Nat.lt_of_lt_of_le (by have := World.block_lt_of_cell? _ _ hw669_0; first | rwa [add_block] at this | exact this) GW671.out)) | (show (Addr.add _ _).block ≠ _; rw [add_block]; exact Nat.ne_of_lt (Nat.lt_of_lt_of_le (by have := World.block_lt_of_cell? _ _ hw669_0; first | rwa [add_block] at this | exact this) GW671.out)) | (dsimp only; exact Nat.ne_of_lt (Nat.lt_of_lt_of_le (by have := World.block_lt_of_cell? _ _ hw669_0; first | rwa [add_block] at this | exact this) GW671.out))) _).trans (((cell_far (p := ⟨gb671, _, none⟩) (by first | exact Nat.ne_of_lt (Nat.lt_of_lt_of_le (by have := World.block_lt_of_cell? _ _ hw669_0; first | rwa [add_block] at this | exact this) GW671.out) | (rw [add_block]; exact Nat.ne_of_lt (Nat.lt_of_lt_of_le (by have := World.block_lt_of_cell? _ _ hw669_0; first | rwa [add_block] at this | exact this) GW671.out)) | (show (Addr.add _ _).block ≠ _; rw [add_block]; exact Nat.ne_of_lt (Nat.lt_of_lt_of_le (by have := World.block_lt_of_cell? _ _ hw669_0; first | rwa [add_block] at this | exact this) GW671.out)) | (dsimp only; exact Nat.ne_of_lt (Nat.lt_of_lt_of_le (by have := World.block_lt_of_cell? _ _ hw669_0; first | rwa [add_block] at this | exact this) GW671.out))) _).trans (((cell_far (p := ⟨gb671, _, none⟩) (by first | exact Nat.ne_of_lt (Nat.lt_of_lt_of_le (by have := World.block_lt_of_cell? _ _ hw669_0; first | rwa [add_block] at this | exact this) GW671.out) | (rw [add_block]; exact Nat.ne_of_lt (Nat.lt_of_lt_of_le (by have := World.block_lt_of_cell? _ _ hw669_0; first | rwa [add_block] at this | exact this) GW671.out)) | (show (Addr.add _ _).block ≠ _; rw [add_block]; exact Nat.ne_of_lt (Nat.lt_of_lt_of_le (by have := World.block_lt_of_cell? _ _ hw669_0; first | rwa [add_block] at this | exact this) GW671.out)) | (dsimp only; exact Nat.ne_of_lt (Nat.lt_of_lt_of_le (by have := World.block_lt_of_cell? _ _ hw669_0; first | rwa [add_block] at this | exact this) GW671.out))) _).trans (hHeld.2))))))))))))))⟩ (fun hHeld => ?_)
          clear hK K
          refine done_ (done_of HT_.out (by kernel_rfl)) ?_
          try go_wp2
          have n0_ : Aside0 ((((((((w24.setCell ⟨gb671, 0, none⟩ (.int .u8 (rd l0 9))).setCell ⟨gb671, 1, none⟩ (.int .u32 ((t667) % 4294967296))).setCell ⟨gb671, 2, none⟩ (.int .u32 ((t668) % 4294967296))).setCell ⟨gb671, 3, none⟩ (.int .i64 t660)).setCell ⟨gb671, 4, none⟩ (.int .i64 t661)).setCell ⟨gb671, 5, none⟩ (.int .u8 (rd l0 8))).setCell ⟨gb671, 6, none⟩ (.int .u16 (IntKind.u16.wrap (t670)))).heap[gb659]? = some (.cells #[.int .u8 0, .int .u32 0, .int .u32 0, .int .i64 0, .int .i64 0, .int .u8 0, .int .u16 0] 61 (0, 0))) := ⟨by (with_reducible repeat apply mk_); refine blk_far ?_ NB659_671.out _; (with_reducible repeat apply mk_); refine blk_far ?_ NB659_671.out _; (with_reducible repeat apply mk_); refine blk_far ?_ NB659_671.out _; (with_reducible repeat apply mk_); refine blk_far ?_ NB659_671.out _; (with_reducible repeat apply mk_); refine blk_far ?_ NB659_671.out _; (with_reducible repeat apply mk_); refine blk_far ?_ NB659_671.out _; (with_reducible repeat apply mk_); refine blk_far ?_ NB659_671.out _; (with_reducible repeat apply mk_); exact BK659.out⟩
          have n1_ : Aside0 ((((((((w24.setCell ⟨gb671, 0, none⟩ (.int .u8 (rd l0 9))).setCell ⟨gb671, 1, none⟩ (.int .u32 ((t667) % 4294967296))).setCell ⟨gb671, 2, none⟩ (.int .u32 ((t668) % 4294967296))).setCell ⟨gb671, 3, none⟩ (.int .i64 t660)).setCell ⟨gb671, 4, none⟩ (.int .i64 t661)).setCell ⟨gb671, 5, none⟩ (.int .u8 (rd l0 8))).setCell ⟨gb671, 6, none⟩ (.int .u16 (IntKind.u16.wrap (t670)))).heap[gb671]? = some (.cells #[.int .u8 (rd l0 9), .int .u32 ((t667) % 4294967296), .int .u32 ((t668) % 4294967296), .int .i64 t660, .int .i64 t661, .int .u8 (rd l0 8), .int .u16 (IntKind.u16.wrap (t670))] 61 (0, 0))) := ⟨by (with_reducible repeat apply mk_); refine blk_put (cs := #[.int .u8 (rd l0 9), .int .u32 ((t667) % 4294967296), .int .u32 ((t668) % 4294967296), .int .i64 t660, .int .i64 t661, .int .u8 (rd l0 8), .int .u16 0]) ?_ 6 _ rfl; (with_reducible repeat apply mk_); refine blk_put (cs := #[.int .u8 (rd l0 9), .int .u32 ((t667) % 4294967296), .int .u32 ((t668) % 4294967296), .int .i64 t660, .int .i64 t661, .int .u8 0, .int .u16 0]) ?_ 5 _ rfl; (with_reducible repeat apply mk_); refine blk_put (cs := #[.int .u8 (rd l0 9), .int .u32 ((t667) % 4294967296), .int .u32 ((t668) % 4294967296), .int .i64 t660, .int .i64 0, .int .u8 0, .int .u16 0]) ?_ 4 _ rfl; (with_reducible repeat apply mk_); refine blk_put (cs := #[.int .u8 (rd l0 9), .int .u32 ((t667) % 4294967296), .int .u32 ((t668) % 4294967296), .int .i64 0, .int .i64 0, .int .u8 0, .int .u16 0]) ?_ 3 _ rfl; (with_reducible repeat apply mk_); refine blk_put (cs := #[.int .u8 (rd l0 9), .int .u32 ((t667) % 4294967296), .int .u32 0, .int .i64 0, .int .i64 0, .int .u8 0, .int .u16 0]) ?_ 2 _ rfl; (with_reducible repeat apply mk_); refine blk_put (cs := #[.int .u8 (rd l0 9), .int .u32 0, .int .u32 0, .int .i64 0, .int .i64 0, .int .u8 0, .int .u16 0]) ?_ 1 _ rfl; (with_reducible repeat apply mk_); refine blk_put (cs := #[.int .u8 0, .int .u32 0, .int .u32 0, .int .i64 0, .int .i64 0, .int .u8 0, .int .u16 0]) ?_ 0 _ rfl; (with_reducible repeat apply mk_); exact BK671.out⟩
          have n2_ : Aside0 (Below w.heap.size w (((((((w24.setCell ⟨gb671, 0, none⟩ (.int .u8 (rd l0 9))).setCell ⟨gb671, 1, none⟩ (.int .u32 ((t667) % 4294967296))).setCell ⟨gb671, 2, none⟩ (.int .u32 ((t668) % 4294967296))).setCell ⟨gb671, 3, none⟩ (.int .i64 t660)).setCell ⟨gb671, 4, none⟩ (.int .i64 t661)).setCell ⟨gb671, 5, none⟩ (.int .u8 (rd l0 8))).setCell ⟨gb671, 6, none⟩ (.int .u16 (IntKind.u16.wrap (t670))))) := ⟨by repeat first | (with_reducible first | exact HB.out | apply mB | refine below_set ?_ GE659.out | refine below_set ?_ GE671.out) | exact HB.out⟩
          (try clear BK659); (try clear BK671); (try clear HB)
          generalize (((((((w24.setCell ⟨gb671, 0, none⟩ (.int .u8 (rd l0 9))).setCell ⟨gb671, 1, none⟩ (.int .u32 ((t667) % 4294967296))).setCell ⟨gb671, 2, none⟩ (.int .u32 ((t668) % 4294967296))).setCell ⟨gb671, 3, none⟩ (.int .i64 t660)).setCell ⟨gb671, 4, none⟩ (.int .i64 t661)).setCell ⟨gb671, 5, none⟩ (.int .u8 (rd l0 8))).setCell ⟨gb671, 6, none⟩ (.int .u16 (IntKind.u16.wrap (t670)))) = w32 at n0_ n1_ n2_ ⊢
          have BK659 := n0_; have BK671 := n1_; have HB := n2_; clear n0_ n1_ n2_
          replace BK659 := aS (blk_drew BK659.out)
          replace BK671 := aS (blk_drew BK671.out)
          replace HB := aS (below_drew1 HB.out)
          have q34 : (t661 : Int) ≤ ((l0.length : Int) : Int) := of_decide_eq_true (by first | (with_reducible assumption) | assumption)
          obtain ⟨i034, hi034, _, hsz34, _⟩ := info_parts info5
          have hroom34 : l0.length ≤ c0 := HC0.out
          have hC34 : Kd.C (Kd.int .u8) _ (some ad666) l0.length l0 := HR0.out
          have ql34 : (t660 : Int) ≤ (t661 : Int) := of_decide_eq_true (by first | (with_reducible assumption) | assumption)
          have q034 : (0 : Int) ≤ (t660 : Int) := of_decide_eq_true (by first | (with_reducible assumption) | assumption)
          have hcut34 := cut_mid (P := Try.prog) 22 5 .i64 .i64 Try.underlying22 hi034 1 hsz34 (some ad666) l0.length c0 t660 t661 q034 ql34 q34 hroom34
          have hr34 := Kd.C_mid (lo := (t660 : Int).toNat) (hi := (t661 : Int).toNat) (c := c0) hC34 (by omega) (by omega) hroom34
          obtain ⟨A34, hA34⟩ : ∃ A1, A1 = (if c0 = (t660 : Int).toNat then (some ad666) else ((some ad666) : Option Addr).map (·.add ((t660 : Int).toNat * 1))) := ⟨_, rfl⟩
          obtain ⟨c34, hc34⟩ : ∃ c1, c1 = c0 - (t660 : Int).toNat := ⟨_, rfl⟩
          have hy34 : y672.length = (t661 : Int).toNat - (t660 : Int).toNat := (by rw [Ny672.out, List.length_drop, List.length_take] <;> omega)
          rw [show ((l0).take (t661 : Int).toNat).drop (t660 : Int).toNat = y672 from Ny672.out.symm] at hr34
          replace hr34 : Kd.C (Kd.int .u8) _ A34 y672.length y672 := (by rw [hA34]; exact hr34)
          rw [← hy34, ← hA34, ← hc34] at hcut34
          have HR675 := aS hr34
          have HC675 := aS (show y672.length ≤ c34 from by rw [hy34, hc34]; exact Nat.sub_le_sub_right (Nat.le_trans (by omega) hroom34) _)
          clear hr34 hC34 hroom34 hi034 hsz34 hc34
          have KY34 := aS hy34
          have KA34 := aS hA34
          clear hy34 hA34
          replace q34 := eq_true q34
          refine start_ (n := 10) (S := fun w' => w'.cell? ⟨gb671, 0, none⟩ = some (.int .u8 (rd l0 9)) ∧ w'.cell? ⟨gb671, 1, none⟩ = some (.int .u32 ((t667) % 4294967296)) ∧ w'.cell? ⟨gb671, 2, none⟩ = some (.int .u32 ((t668) % 4294967296)) ∧ w'.cell? ⟨gb671, 3, none⟩ = some (.int .i64 t660) ∧ w'.cell? ⟨gb671, 4, none⟩ = some (.int .i64 t661) ∧ w'.cell? ⟨gb671, 5, none⟩ = some (.int .u8 (rd l0 8)) ∧ w'.cell? ⟨gb671, 6, none⟩ = some (.int .u16 (IntKind.u16.wrap (t670)))) (ds := []) #[false, false, false, false, false, false, false, false, false, false] (by kernel_rfl) rfl rfl ⟨(blk_cell BK671.out 0).trans rfl, (blk_cell BK671.out 1).trans rfl, (blk_cell BK671.out 2).trans rfl, (blk_cell BK671.out 3).trans rfl, (blk_cell BK671.out 4).trans rfl, (blk_cell BK671.out 5).trans rfl, (blk_cell BK671.out 6).trans rfl⟩ (fun hHeld => ?_); refine with_tabW ip_Parse.tab9 ip_Parse.bits9 (fun HT_ HW_ => ?_)
          generalize w32.drew = w33 at BK659 BK671 HB HR675 hHeld ⊢
          refine pure_ (i := 1) (N := some 52) (v := ?_) (a' := ?_) (fl 10 2) rfl rfl (any_of HT_.out (by kernel_rfl)) (fun _ _ _ h => h) (Or.inl ⟨by rfl, ?_⟩) ?_ ?_
          rotate_left; (· intro w'; go_simp; with_reducible rfl); rotate_left; (· simp only [Act.put, q1_, q2_, q3_, i64_w, i32_w]; rfl)
          refine pure_ (i := 2) (N := some 53) (v := ?_) (a' := ?_) (fl 10 6) rfl rfl (any_of HT_.out (by kernel_rfl)) (fun _ _ _ h => h) (Or.inl ⟨by rfl, ?_⟩) ?_ ?_
          rotate_left; (· intro w'; go_simp; with_reducible rfl); rotate_left; (· simp only [Act.put, q1_, q2_, q3_, i64_w, i32_w]; rfl)
          refine pure_ (i := 3) (N := some 54) (v := ?_) (a' := ?_) (fl 10 14) rfl rfl (any_of HT_.out (by kernel_rfl)) (fun _ _ _ h => h) (Or.inl ⟨by rfl, ?_⟩) ?_ ?_
          rotate_left; (· intro w'; go_simp; with_reducible rfl); rotate_left; (· simp only [Act.put, q1_, q2_, q3_, i64_w, i32_w]; rfl)
          refine pure_ (i := 4) (N := some 55) (v := ?_) (a' := ?_) (fl 10 30) rfl rfl (any_of HT_.out (by kernel_rfl)) (fun _ _ _ h => h) (Or.inl ⟨by rfl, ?_⟩) ?_ ?_
          rotate_left; (· intro w'; go_simp; with_reducible rfl); rotate_left; (· simp only [Act.put, q1_, q2_, q3_, i64_w, i32_w]; rfl)
          refine take_ (i := 0) (N := some 51) (v := ?_) (a' := ?_) (fl 10 31) rfl rfl (take_ofW HT_.out HW_.out (by kernel_rfl)) (fun _ _ _ h => h) (Or.inl ⟨by rfl, ?_⟩) hHeld ?_ ?_
          rotate_left; (· rintro w' ⟨s0, s1, s2, s3, s4, s5, s6⟩; go_simp; with_reducible rfl); rotate_left; (· simp only [Act.put, q1_, q2_, q3_, i64_w, i32_w]; rfl)
          refine one_ (i := 5) (N := some 56) (fl 10 63) rfl rfl (one_of HT_.out (by kernel_rfl)) (by decide) (fun K hK => ?_)
          refine goes_ Try.func78 (by kernel_rfl) rfl #[.slice A34 y672.length c34] (by rfl) rfl rfl (by (try simp only [List.map_toArray, List.map_cons, List.map_nil]); first | done | rfl) ?_
          with_reducible refine (slices_Clone.calls _ _ y672 t676 _ ?side1 ?side2 A18.out).mono ?_
          (case side1 => repeat (first | exact (Kd.C_below HR675.out HB.out) | (with_reducible refine Kd.C_alloc ?_ _) | (with_reducible refine Kd.C_drewN ?_ _) | (with_reducible refine Kd.C_drew ?_)))
          (case side2 => exact HC675.out)
          rintro e w35 ⟨v677, rfl, ho0, hb⟩; refine ⟨_, rfl, ?_⟩
          have HO678 := aS (Kd.R_lower (Kd.R_newM (M := fun k_ => (w.heap.size ≤ k_)) ho0 (below_size (by repeat first | (with_reducible first | exact HB.out | apply mB | refine below_set ?_ GE659.out | refine below_set ?_ GE671.out) | exact HB.out)) (fun k_ h_ => h_)) (below_size (by repeat first | (with_reducible first | exact HB.out | apply mB | refine below_set ?_ GE659.out | refine below_set ?_ GE671.out) | exact HB.out)))
          replace BK659 := aS (blk_below (g := gb659) (o := Z_61) (tk BK659.out) hb)
          replace BK671 := aS (blk_below (g := gb671) (o := .cells #[.int .u8 (rd l0 9), .int .u32 ((t667) % 4294967296), .int .u32 ((t668) % 4294967296), .int .i64 t660, .int .i64 t661, .int .u8 (rd l0 8), .int .u16 (IntKind.u16.wrap (t670))] 61 (0, 0)) (tk BK671.out) hb)
          replace HB := aS (below_step (by repeat first | (with_reducible first | exact HB.out | apply mB | refine below_set ?_ GE659.out | refine below_set ?_ GE671.out) | exact HB.out) hb)
          (try clear hb); (try clear hb2); (try clear hk); (try clear hi); (try clear ho0)
          obtain ⟨Ao36, co36, eo36⟩ := Kd.R_slice HO678.out
          (first | subst eo36 | (injection eo36 with f1_ f2_ f3_; have f4_ := f1_.symm; have f5_ := f3_.symm; clear f1_ f2_ f3_; subst f4_; subst f5_))
          refine hK.out _ _ ⟨(blk_cell BK671.out 0).trans rfl, (blk_cell BK671.out 1).trans rfl, (blk_cell BK671.out 2).trans rfl, (blk_cell BK671.out 3).trans rfl, (blk_cell BK671.out 4).trans rfl, (blk_cell BK671.out 5).trans rfl, (blk_cell BK671.out 6).trans rfl⟩ (fun hHeld => ?_)
          clear hK K
          refine norm_ (a' := ?_) ?_ ?_
          rotate_left
          ·show Act.put _ (some 56) _ = _
           simp only [Act.put, q1_, q2_, q3_, i64_w, i32_w]
           rfl
          refine one_ (i := 6) (N := some 57) (fl 10 127) rfl rfl (one_of HT_.out (by kernel_rfl)) (by decide) (fun K hK => ?_)
          refine goes_ Try.func70 (by kernel_rfl) rfl #[.slice Ao36 t676.length co36] (by rfl) rfl rfl (by (try simp only [List.map_toArray, List.map_cons, List.map_nil]); first | done | rfl) ?_
          with_reducible refine (slices_Clip.calls (fun k_ => some k_ = (.slice Ao36 t676.length co36 : Value).ownBlock) _ _ t676 t679 _ ?side1 A19.out).mono ?_
          (case side1 => exact Kd.R_V (Kd.R_tight rfl (Kd.R_types (Kd.R_types (HO678.out) BK659.out (by decide)) BK671.out (by decide))))
          rintro e w37 ⟨v680, rfl, ho0, hb⟩; refine ⟨_, rfl, ?_⟩
          have HO681 := aS (Kd.V_lower (Kd.V_mono (ok' := fun k_ => (w.heap.size ≤ k_) ∧ k_ ≠ gb659 ∧ k_ ≠ gb671) ho0 (fun k_ hk_ => ⟨Or.elim hk_ (fun hs_ => ((Kd.R_types (Kd.R_types (HO678.out) BK659.out (by decide)) BK671.out (by decide)).1 k_ hs_.symm).1.1.1) (fun hn_ => (Nat.le_trans (below_size (by repeat first | (with_reducible first | exact HB.out | apply mB | refine below_set ?_ GE659.out | refine below_set ?_ GE671.out) | exact HB.out)) hn_)), Or.elim hk_ (fun hs_ => ((Kd.R_types (Kd.R_types (HO678.out) BK659.out (by decide)) BK671.out (by decide)).1 k_ hs_.symm).1.2) (fun hn_ => (Kd.freshB (g := gb659) (o := Z_61) (tk BK659.out) k_ hn_)), Or.elim hk_ (fun hs_ => ((Kd.R_types (Kd.R_types (HO678.out) BK659.out (by decide)) BK671.out (by decide)).1 k_ hs_.symm).2) (fun hn_ => (Kd.freshB (g := gb671) (o := .cells #[.int .u8 (rd l0 9), .int .u32 ((t667) % 4294967296), .int .u32 ((t668) % 4294967296), .int .i64 t660, .int .i64 t661, .int .u8 (rd l0 8), .int .u16 (IntKind.u16.wrap (t670))] 61 (0, 0)) (tk BK671.out) k_ hn_))⟩)) (below_size (by repeat first | (with_reducible first | exact HB.out | apply mB | refine below_set ?_ GE659.out | refine below_set ?_ GE671.out) | exact HB.out)))
          replace HO678 := aS (Kd.R_below (tR HO678.out) hb)
          replace BK659 := aS (blk_below (g := gb659) (o := Z_61) (tk BK659.out) hb)
          replace BK671 := aS (blk_below (g := gb671) (o := .cells #[.int .u8 (rd l0 9), .int .u32 ((t667) % 4294967296), .int .u32 ((t668) % 4294967296), .int .i64 t660, .int .i64 t661, .int .u8 (rd l0 8), .int .u16 (IntKind.u16.wrap (t670))] 61 (0, 0)) (tk BK671.out) hb)
          replace HB := aS (below_step (by repeat first | (with_reducible first | exact HB.out | apply mB | refine below_set ?_ GE659.out | refine below_set ?_ GE671.out) | exact HB.out) hb)
          (try clear hb); (try clear hb2); (try clear hk); (try clear hi); (try clear ho0)
          refine hK.out _ _ ⟨(blk_cell BK671.out 0).trans rfl, (blk_cell BK671.out 1).trans rfl, (blk_cell BK671.out 2).trans rfl, (blk_cell BK671.out 3).trans rfl, (blk_cell BK671.out 4).trans rfl, (blk_cell BK671.out 5).trans rfl, (blk_cell BK671.out 6).trans rfl⟩ (fun hHeld => ?_)
          clear hK K
          refine norm_ (a' := ?_) ?_ ?_
          rotate_left
          ·show Act.put _ (some 57) _ = _
           simp only [Act.put, q1_, q2_, q3_, i64_w, i32_w]
           rfl
          refine one_ (i := 7) (N := none) (fl 10 255) rfl rfl (one_of HT_.out (by kernel_rfl)) (by decide) (fun K hK => ?_)
          have hs38 : w37.cell? ⟨gb659, 0, none⟩ = some (.int .u8 0) := (blk_cell BK659.out 0).trans rfl
          have hfs38 := blk_frozen BK659.out 0
          have hns38_1 := NB671_659.out
          have hms38_1 := NB659_671.out
          have hs39 : w37.cell? ⟨gb659, 1, none⟩ = some (.int .u32 0) := (blk_cell BK659.out 1).trans rfl
          have hfs39 := blk_frozen BK659.out 1
          have hns39_1 := NB671_659.out
          have hms39_1 := NB659_671.out
          have hs40 : w37.cell? ⟨gb659, 2, none⟩ = some (.int .u32 0) := (blk_cell BK659.out 2).trans rfl
          have hfs40 := blk_frozen BK659.out 2
          have hns40_1 := NB671_659.out
          have hms40_1 := NB659_671.out
          have hs41 : w37.cell? ⟨gb659, 3, none⟩ = some (.int .i64 0) := (blk_cell BK659.out 3).trans rfl
          have hfs41 := blk_frozen BK659.out 3
          have hns41_1 := NB671_659.out
          have hms41_1 := NB659_671.out
          have hs42 : w37.cell? ⟨gb659, 4, none⟩ = some (.int .i64 0) := (blk_cell BK659.out 4).trans rfl
          have hfs42 := blk_frozen BK659.out 4
          have hns42_1 := NB671_659.out
          have hms42_1 := NB659_671.out
          have hs43 : w37.cell? ⟨gb659, 5, none⟩ = some (.int .u8 0) := (blk_cell BK659.out 5).trans rfl
          have hfs43 := blk_frozen BK659.out 5
          have hns43_1 := NB671_659.out
          have hms43_1 := NB659_671.out
          have hs44 : w37.cell? ⟨gb659, 6, none⟩ = some (.int .u16 0) := (blk_cell BK659.out 6).trans rfl
          have hfs44 := blk_frozen BK659.out 6
          have hns44_1 := NB671_659.out
          have hms44_1 := NB659_671.out
          refine skip_ (w1 := ?_) (by rfl) rfl ?_ ?_
          rotate_left
          ·go_simp
           rfl
          refine hK.out _ _ ⟨((cell_far (p := ⟨gb659, _, none⟩) NB671_659.out _).trans (((cell_far (p := ⟨gb659, _, none⟩) NB671_659.out _).trans (((cell_far (p := ⟨gb659, _, none⟩) NB671_659.out _).trans (((cell_far (p := ⟨gb659, _, none⟩) NB671_659.out _).trans (((cell_far (p := ⟨gb659, _, none⟩) NB671_659.out _).trans (((cell_far (p := ⟨gb659, _, none⟩) NB671_659.out _).trans (((cell_far (p := ⟨gb659, _, none⟩) NB671_659.out _).trans (hHeld.1)))))))))))))), ((cell_far (p := ⟨gb659, _, none⟩) NB671_659.out _).trans (((cell_far (p := ⟨gb659, _, none⟩) NB671_659.out _).trans (((cell_far (p := ⟨gb659, _, none⟩) NB671_659.out _).trans (((cell_far (p := ⟨gb659, _, none⟩) NB671_659.out _).trans (((cell_far (p := ⟨gb659, _, none⟩) NB671_659.out _).trans (((cell_far (p := ⟨gb659, _, none⟩) NB671_659.out _).trans (((cell_far (p := ⟨gb659, _, none⟩) NB671_659.out _).trans (hHeld.2.1)))))))))))))), ((cell_far (p := ⟨gb659, _, none⟩) NB671_659.out _).trans (((cell_far (p := ⟨gb659, _, none⟩) NB671_659.out _).trans (((cell_far (p := ⟨gb659, _, none⟩) NB671_659.out _).trans (((cell_far (p := ⟨gb659, _, none⟩) NB671_659.out _).trans (((cell_far (p := ⟨gb659, _, none⟩) NB671_659.out _).trans (((cell_far (p := ⟨gb659, _, none⟩) NB671_659.out _).trans (((cell_far (p := ⟨gb659, _, none⟩) NB671_659.out _).trans (hHeld.2.2.1)))))))))))))), ((cell_far (p := ⟨gb659, _, none⟩) NB671_659.out _).trans (((cell_far (p := ⟨gb659, _, none⟩) NB671_659.out _).trans (((cell_far (p := ⟨gb659, _, none⟩) NB671_659.out _).trans (((cell_far (p := ⟨gb659, _, none⟩) NB671_659.out _).trans (((cell_far (p := ⟨gb659, _, none⟩) NB671_659.out _).trans (((cell_far (p := ⟨gb659, _, none⟩) NB671_659.out _).trans (((cell_far (p := ⟨gb659, _, none⟩) NB671_659.out _).trans (hHeld.2.2.2.1)))))))))))))), ((cell_far (p := ⟨gb659, _, none⟩) NB671_659.out _).trans (((cell_far (p := ⟨gb659, _, none⟩) NB671_659.out _).trans (((cell_far (p := ⟨gb659, _, none⟩) NB671_659.out _).trans (((cell_far (p := ⟨gb659, _, none⟩) NB671_659.out _).trans (((cell_far (p := ⟨gb659, _, none⟩) NB671_659.out _).trans (((cell_far (p := ⟨gb659, _, none⟩) NB671_659.out _).trans (((cell_far (p := ⟨gb659, _, none⟩) NB671_659.out _).trans (hHeld.2.2.2.2.1)))))))))))))), ((cell_far (p := ⟨gb659, _, none⟩) NB671_659.out _).trans (((cell_far (p := ⟨gb659, _, none⟩) NB671_659.out _).trans (((cell_far (p := ⟨gb659, _, none⟩) NB671_659.out _).trans (((cell_far (p := ⟨gb659, _, none⟩) NB671_659.out _).trans (((cell_far (p := ⟨gb659, _, none⟩) NB671_659.out _).trans (((cell_far (p := ⟨gb659, _, none⟩) NB671_659.out _).trans (((cell_far (p := ⟨gb659, _, none⟩) NB671_659.out _).trans (hHeld.2.2.2.2.2.1)))))))))))))), ((cell_far (p := ⟨gb659, _, none⟩) NB671_659.out _).trans (((cell_far (p := ⟨gb659, _, none⟩) NB671_659.out _).trans (((cell_far (p := ⟨gb659, _, none⟩) NB671_659.out _).trans (((cell_far (p := ⟨gb659, _, none⟩) NB671_659.out _).trans (((cell_far (p := ⟨gb659, _, none⟩) NB671_659.out _).trans (((cell_far (p := ⟨gb659, _, none⟩) NB671_659.out _).trans (((cell_far (p := ⟨gb659, _, none⟩) NB671_659.out _).trans (hHeld.2.2.2.2.2.2))))))))))))))⟩ (fun hHeld => ?_)
          clear hK K
          refine pure_ (i := 8) (N := some 3) (v := ?_) (a' := ?_) (fl 10 511) rfl rfl (any_of HT_.out (by kernel_rfl)) (fun _ _ _ h => h) (Or.inl ⟨by rfl, ?_⟩) ?_ ?_
          rotate_left; (· intro w'; go_simp; with_reducible rfl); rotate_left; (· simp only [Act.put, q1_, q2_, q3_, i64_w, i32_w]; rfl)
          refine pure_ (i := 9) (N := some 4) (v := ?_) (a' := ?_) (fl 10 1023) rfl rfl (any_of HT_.out (by kernel_rfl)) (fun _ _ _ h => h) (Or.inl ⟨by rfl, ?_⟩) ?_ ?_
          rotate_left; (· intro w'; go_simp; with_reducible rfl); rotate_left; (· simp only [Act.put, q1_, q2_, q3_, i64_w, i32_w]; rfl)
          refine done_ (done_of HT_.out (by kernel_rfl)) ?_
          try go_wp2
          refine bodyPost_ret (results_ctt rfl _ _ gb659 61 #[.int .u8 (rd l0 9), .int .u32 ((t667) % 4294967296), .int .u32 ((t668) % 4294967296), .int .i64 t660, .int .i64 t661, .int .u8 (rd l0 8), .int .u16 (IntKind.u16.wrap (t670))] (0, 0) _ rfl (by (with_reducible repeat apply mk_); refine blk_put (cs := #[.int .u8 (rd l0 9), .int .u32 ((t667) % 4294967296), .int .u32 ((t668) % 4294967296), .int .i64 t660, .int .i64 t661, .int .u8 (rd l0 8), .int .u16 0]) ?_ 6 _ rfl; (with_reducible repeat apply mk_); refine blk_put (cs := #[.int .u8 (rd l0 9), .int .u32 ((t667) % 4294967296), .int .u32 ((t668) % 4294967296), .int .i64 t660, .int .i64 t661, .int .u8 0, .int .u16 0]) ?_ 5 _ rfl; (with_reducible repeat apply mk_); refine blk_put (cs := #[.int .u8 (rd l0 9), .int .u32 ((t667) % 4294967296), .int .u32 ((t668) % 4294967296), .int .i64 t660, .int .i64 0, .int .u8 0, .int .u16 0]) ?_ 4 _ rfl; (with_reducible repeat apply mk_); refine blk_put (cs := #[.int .u8 (rd l0 9), .int .u32 ((t667) % 4294967296), .int .u32 ((t668) % 4294967296), .int .i64 0, .int .i64 0, .int .u8 0, .int .u16 0]) ?_ 3 _ rfl; (with_reducible repeat apply mk_); refine blk_put (cs := #[.int .u8 (rd l0 9), .int .u32 ((t667) % 4294967296), .int .u32 0, .int .i64 0, .int .i64 0, .int .u8 0, .int .u16 0]) ?_ 2 _ rfl; (with_reducible repeat apply mk_); refine blk_put (cs := #[.int .u8 (rd l0 9), .int .u32 0, .int .u32 0, .int .i64 0, .int .i64 0, .int .u8 0, .int .u16 0]) ?_ 1 _ rfl; (with_reducible repeat apply mk_); refine blk_put (cs := #[.int .u8 0, .int .u32 0, .int .u32 0, .int .i64 0, .int .i64 0, .int .u8 0, .int .u16 0]) ?_ 0 _ rfl; (with_reducible repeat apply mk_); exact BK659.out) Try.underlying61 rfl (by kernel_rfl)) rfl ?_
          exact ⟨_, by first | rfl | (simp [errW_none, errW_some] <;> rfl) | (simp [*, errW_none, errW_some] <;> rfl), by (with_reducible repeat apply mV); exact Kd.V_mono (Kd.V_far (p := ⟨gb659, 6, none⟩) (Kd.V_far (p := ⟨gb659, 5, none⟩) (Kd.V_far (p := ⟨gb659, 4, none⟩) (Kd.V_far (p := ⟨gb659, 3, none⟩) (Kd.V_far (p := ⟨gb659, 2, none⟩) (Kd.V_far (p := ⟨gb659, 1, none⟩) (Kd.V_far (p := ⟨gb659, 0, none⟩) (Kd.V_mono HO681.out (fun k_ hk => (⟨hk, hk.2.1⟩ : _ ∧ k_ ≠ gb659))) (fun _ hk => hk.2) (.int .u8 (rd l0 9))) (fun _ hk => hk.2) (.int .u32 ((t667) % 4294967296))) (fun _ hk => hk.2) (.int .u32 ((t668) % 4294967296))) (fun _ hk => hk.2) (.int .i64 t660)) (fun _ hk => hk.2) (.int .i64 t661)) (fun _ hk => hk.2) (.int .u8 (rd l0 8))) (fun _ hk => hk.2) (.int .u16 (IntKind.u16.wrap (t670)))) (fun _ hk => hk.1.1), by repeat first | (with_reducible first | exact HB.out | apply mB | refine below_set ?_ GE659.out | refine below_set ?_ GE671.out) | exact HB.out⟩
         ·rw [if_neg c17] at H
          exact absurd H (by simp)
        ·rw [if_neg c16] at H
         exact absurd H (by simp)
       ·rw [if_neg c13] at H
        exact absurd H (by simp)
      ·rw [if_neg c10] at H
       exact absurd H (by simp)
     ·rw [if_neg c9] at H
      have c9b0 : ((Go.bits .and .i64 t665 16383) == 0) = false := beq_eq_false_iff_ne.mpr c9
      have c9b1 : ((Go.bits .and .i64 t665 16383) != 0) = true := bne_iff_ne.mpr c9
      simp only [Option.some.injEq, Prod.mk.injEq] at H
      obtain ⟨rfl, rfl, rfl, rfl, rfl, rfl, rfl, rfl, rfl⟩ := H
      go_enter Try.func46, Try.ntmps46
      go_wp2_with (first | ((with_reducible refine gate_dst (N := 2) rfl ?_); refine box_event ?hg (N := 2) ?hd (cs := #[.int .u8 0, .int .u32 0, .int .u32 0, .int .i64 0, .int .i64 0, .int .u8 0, .int .u16 0]) (t := 61) ?hr ?_; (case hd => rfl); (case hg => rfl); (case hr => first | (go_simp; done) | (go_simp; rfl)); intro gb659 hg w45 hbox hb; have BK659 := aS (hbox); have GW659 := aS ((by rw [hg]; exact (below_size (tB HB.out)) : w.heap.size ≤ gb659)); have GE659 := aS ((by rw [hg]; exact (below_size (tB HB.out)) : w.heap.size ≤ gb659)); replace HB := aS (below_step (tB HB.out) hb); clear hb hbox hg) | ((with_reducible refine gate_callee (f := 76) rfl ?_); refine goesL_ (some 11) rfl rfl Try.func76 (by kernel_rfl) rfl #[.slice A0 l0.length c0] rfl (by (try simp only [List.map_toArray, List.map_cons, List.map_nil]); first | done | rfl) ?_; (with_reducible refine (ip_size.calls k _ _ l0 t660 t661 t662 _ ?side1 ?side2 A2.out).mono ?_); (case side1 => repeat (first | exact (Kd.C_below HR0.out HB.out) | (with_reducible refine Kd.C_alloc ?_ _) | (with_reducible refine Kd.C_drewN ?_ _) | (with_reducible refine Kd.C_drew ?_))); (case side2 => exact HC0.out); rintro e w' ⟨rfl, ⟨nd, rfl⟩⟩; refine ⟨_, rfl, ?_⟩; (try (first | (rw [drewN_self w45]; generalize hq_ : World.drewN w45 _ = w45; have n0_ := aS (blk_at hq_ BK659.out); have n1_ := aS (below_at hq_ HB.out); clear hq_ BK659 HB; have BK659 := n0_; have HB := n1_; clear n0_ n1_) | (rw [drewN_self w45]; generalize hq_ : World.drewN w45 _ = w45; have n0_ : Aside0 (w45.heap[gb659]? = some (.cells #[.int .u8 0, .int .u32 0, .int .u32 0, .int .i64 0, .int .i64 0, .int .u8 0, .int .u16 0] 61 (0, 0))) := ⟨by rw [← hq_]; exact (tk BK659.out)⟩; have n1_ : Aside0 (Below w.heap.size w w45) := ⟨by rw [← hq_]; exact (by repeat first | (with_reducible first | exact HB.out | apply mB | refine below_set ?_ GE659.out) | exact HB.out)⟩; clear BK659 HB hq_; have BK659 := n0_; have HB := n1_; clear n0_ n1_))); obtain ⟨i046, hi046, _, hsz46, _⟩ := info_parts info5; obtain ⟨hcut46, hA46, hC46⟩ := print_take_of (P := Try.prog) (Value.int .u8) 0 22 5 .i64 Try.underlying22 hi046 hsz46 A0 c0 l0 t660 (of_decide_eq_true (by first | (with_reducible assumption) | assumption)) (of_decide_eq_true (by first | (with_reducible assumption) | assumption)) HC0.out; have HR663 := aS (Kd.C_of_reads (h1 := fun _ => rfl) (hA46 _ (Kd.reads_of_C HR0.out))); have HC663 := aS hC46; clear hA46 hC46 hi046 hsz46) | ((with_reducible refine gate_callee (f := 62) rfl ?_); refine goesL_ (some 24) rfl rfl Try.func62 (by kernel_rfl) rfl #[.int .u16 0, .slice A0 (l0.take (t660 : Int).toNat).length c0] rfl (by (try simp only [List.map_toArray, List.map_cons, List.map_nil]); first | done | (rw [show (l0.take (t660 : Int).toNat).length = t660.toNat from (by rw [List.length_take]; have h_ : (t660 : Int) ≤ (l0.length : Int) := of_decide_eq_true (by first | (with_reducible assumption) | assumption); omega)] <;> rfl) | rfl | (simp only [List.length_drop, List.length_take]; rfl)) ?_; (with_reducible refine (sum_Add.calls k 0 _ _ (l0.take (t660 : Int).toNat) t664 _ ?side1 ?side2 A6.out).mono ?_); (case side1 => repeat (first | exact (Kd.C_below HR663.out HB.out) | (with_reducible refine Kd.C_alloc ?_ _) | (with_reducible refine Kd.C_drewN ?_ _) | (with_reducible refine Kd.C_drew ?_))); (case side2 => exact HC663.out); rintro e w' ⟨rfl, ⟨nd, rfl⟩⟩; refine ⟨_, rfl, ?_⟩; (try (first | (rw [drewN_self w45]; generalize hq_ : World.drewN w45 _ = w45; have n0_ := aS (blk_at hq_ BK659.out); have n1_ := aS (below_at hq_ HB.out); clear hq_ BK659 HB; have BK659 := n0_; have HB := n1_; clear n0_ n1_) | (rw [drewN_self w45]; generalize hq_ : World.drewN w45 _ = w45; have n0_ : Aside0 (w45.heap[gb659]? = some (.cells #[.int .u8 0, .int .u32 0, .int .u32 0, .int .i64 0, .int .i64 0, .int .u8 0, .int .u16 0] 61 (0, 0))) := ⟨by rw [← hq_]; exact (tk BK659.out)⟩; have n1_ : Aside0 (Below w.heap.size w w45) := ⟨by rw [← hq_]; exact (by repeat first | (with_reducible first | exact HB.out | apply mB | refine below_set ?_ GE659.out) | exact HB.out)⟩; clear BK659 HB hq_; have BK659 := n0_; have HB := n1_; clear n0_ n1_)))) | ((with_reducible refine gate_callee (f := 77) rfl ?_); refine goesL_ (some 29) rfl rfl Try.func77 (by kernel_rfl) rfl #[.slice A0 l0.length c0, .int .i64 6, .int .i64 2] rfl (by (try simp only [List.map_toArray, List.map_cons, List.map_nil]); first | done | rfl) ?_; (with_reducible refine (ip_num.calls k _ _ l0 6 2 t665 _ ?side1 ?side2 A8.out).mono ?_); (case side1 => repeat (first | exact (Kd.C_below HR0.out HB.out) | (with_reducible refine Kd.C_alloc ?_ _) | (with_reducible refine Kd.C_drewN ?_ _) | (with_reducible refine Kd.C_drew ?_))); (case side2 => exact HC0.out); rintro e w' ⟨rfl, ⟨nd, rfl⟩⟩; refine ⟨_, rfl, ?_⟩; (try (first | (rw [drewN_self w45]; generalize hq_ : World.drewN w45 _ = w45; have n0_ := aS (blk_at hq_ BK659.out); have n1_ := aS (below_at hq_ HB.out); clear hq_ BK659 HB; have BK659 := n0_; have HB := n1_; clear n0_ n1_) | (rw [drewN_self w45]; generalize hq_ : World.drewN w45 _ = w45; have n0_ : Aside0 (w45.heap[gb659]? = some (.cells #[.int .u8 0, .int .u32 0, .int .u32 0, .int .i64 0, .int .i64 0, .int .u8 0, .int .u16 0] 61 (0, 0))) := ⟨by rw [← hq_]; exact (tk BK659.out)⟩; have n1_ : Aside0 (Below w.heap.size w w45) := ⟨by rw [← hq_]; exact (by repeat first | (with_reducible first | exact HB.out | apply mB | refine below_set ?_ GE659.out) | exact HB.out)⟩; clear BK659 HB hq_; have BK659 := n0_; have HB := n1_; clear n0_ n1_))); have hcz47_0 : w45.cell? ⟨gb659, 0, none⟩ = some (.int .u8 0) := (blk_cell BK659.out 0).trans rfl; have hcz47_1 : w45.cell? ⟨gb659, 1, none⟩ = some (.int .u32 0) := (blk_cell BK659.out 1).trans rfl; have hcz47_2 : w45.cell? ⟨gb659, 2, none⟩ = some (.int .u32 0) := (blk_cell BK659.out 2).trans rfl; have hcz47_3 : w45.cell? ⟨gb659, 3, none⟩ = some (.int .i64 0) := (blk_cell BK659.out 3).trans rfl; have hcz47_4 : w45.cell? ⟨gb659, 4, none⟩ = some (.int .i64 0) := (blk_cell BK659.out 4).trans rfl; have hcz47_5 : w45.cell? ⟨gb659, 5, none⟩ = some (.int .u8 0) := (blk_cell BK659.out 5).trans rfl; have hcz47_6 : w45.cell? ⟨gb659, 6, none⟩ = some (.int .u16 0) := (blk_cell BK659.out 6).trans rfl; have hfz47_0 := blk_frozen BK659.out 0; have hfz47_1 := blk_frozen BK659.out 1; have hfz47_2 := blk_frozen BK659.out 2; have hfz47_3 := blk_frozen BK659.out 3; have hfz47_4 := blk_frozen BK659.out 4; have hfz47_5 := blk_frozen BK659.out 5; have hfz47_6 := blk_frozen BK659.out 6) | ((with_reducible refine gate_store (t := 61) (p := 2) rfl ?_); refine store_event (t := 61) (p := 2) (v := ?vo_w48) (w1 := (((((((w45.setCell ⟨gb659, 0, none⟩ (.int .u8 0)).setCell ⟨gb659, 1, none⟩ (.int .u32 0)).setCell ⟨gb659, 2, none⟩ (.int .u32 0)).setCell ⟨gb659, 3, none⟩ (.int .i64 0)).setCell ⟨gb659, 4, none⟩ (.int .i64 0)).setCell ⟨gb659, 5, none⟩ (.int .u8 0)).setCell ⟨gb659, 6, none⟩ (.int .u16 0))) ?hg ?ho ?hn ?hr ?_; (case ho => rfl); (case hg => rfl); (case hn => rfl); (case hr => first | (go_simp; done) | (go_simp; rfl)); intro w48 hw; replace BK659 : Aside0 (w48.heap[gb659]? = some (.cells #[.int .u8 0, .int .u32 0, .int .u32 0, .int .i64 0, .int .i64 0, .int .u8 0, .int .u16 0] 61 (0, 0))) := ⟨(by rw [hw]; exact (by (with_reducible repeat apply mk_); refine blk_put (cs := #[.int .u8 0, .int .u32 0, .int .u32 0, .int .i64 0, .int .i64 0, .int .u8 0, .int .u16 0]) ?_ 6 _ rfl; (with_reducible repeat apply mk_); refine blk_put (cs := #[.int .u8 0, .int .u32 0, .int .u32 0, .int .i64 0, .int .i64 0, .int .u8 0, .int .u16 0]) ?_ 5 _ rfl; (with_reducible repeat apply mk_); refine blk_put (cs := #[.int .u8 0, .int .u32 0, .int .u32 0, .int .i64 0, .int .i64 0, .int .u8 0, .int .u16 0]) ?_ 4 _ rfl; (with_reducible repeat apply mk_); refine blk_put (cs := #[.int .u8 0, .int .u32 0, .int .u32 0, .int .i64 0, .int .i64 0, .int .u8 0, .int .u16 0]) ?_ 3 _ rfl; (with_reducible repeat apply mk_); refine blk_put (cs := #[.int .u8 0, .int .u32 0, .int .u32 0, .int .i64 0, .int .i64 0, .int .u8 0, .int .u16 0]) ?_ 2 _ rfl; (with_reducible repeat apply mk_); refine blk_put (cs := #[.int .u8 0, .int .u32 0, .int .u32 0, .int .i64 0, .int .i64 0, .int .u8 0, .int .u16 0]) ?_ 1 _ rfl; (with_reducible repeat apply mk_); refine blk_put (cs := #[.int .u8 0, .int .u32 0, .int .u32 0, .int .i64 0, .int .i64 0, .int .u8 0, .int .u16 0]) ?_ 0 _ rfl; (with_reducible repeat apply mk_); exact BK659.out))⟩; replace HB : Aside0 (Below w.heap.size w w48) := ⟨(by rw [hw]; exact (by repeat first | (with_reducible first | exact HB.out | apply mB | refine below_set ?_ GE659.out) | exact HB.out))⟩; clear hw))
      refine bodyPost_ret (results_ctt rfl _ _ gb659 61 #[.int .u8 0, .int .u32 0, .int .u32 0, .int .i64 0, .int .i64 0, .int .u8 0, .int .u16 0] (0, 0) _ rfl (tk BK659.out) Try.underlying61 rfl (by kernel_rfl)) rfl ?_
      exact ⟨_, by first | rfl | (simp [errW_none, errW_some] <;> rfl) | (simp [*, errW_none, errW_some] <;> rfl), Kd.V_nil _ _ _ _ _, by repeat first | (with_reducible first | exact HB.out | apply mB | refine below_set ?_ GE659.out) | exact HB.out⟩
    ·rw [if_neg c7] at H
     have c7b0 : (t664 == 65535) = false := beq_eq_false_iff_ne.mpr c7
     have c7b1 : (t664 != 65535) = true := bne_iff_ne.mpr c7
     simp only [Option.some.injEq, Prod.mk.injEq] at H
     obtain ⟨rfl, rfl, rfl, rfl, rfl, rfl, rfl, rfl, rfl⟩ := H
     go_enter Try.func46, Try.ntmps46
     go_wp2_with (first | ((with_reducible refine gate_dst (N := 2) rfl ?_); refine box_event ?hg (N := 2) ?hd (cs := #[.int .u8 0, .int .u32 0, .int .u32 0, .int .i64 0, .int .i64 0, .int .u8 0, .int .u16 0]) (t := 61) ?hr ?_; (case hd => rfl); (case hg => rfl); (case hr => first | (go_simp; done) | (go_simp; rfl)); intro gb659 hg w49 hbox hb; have BK659 := aS (hbox); have GW659 := aS ((by rw [hg]; exact (below_size (tB HB.out)) : w.heap.size ≤ gb659)); have GE659 := aS ((by rw [hg]; exact (below_size (tB HB.out)) : w.heap.size ≤ gb659)); replace HB := aS (below_step (tB HB.out) hb); clear hb hbox hg) | ((with_reducible refine gate_callee (f := 76) rfl ?_); refine goesL_ (some 11) rfl rfl Try.func76 (by kernel_rfl) rfl #[.slice A0 l0.length c0] rfl (by (try simp only [List.map_toArray, List.map_cons, List.map_nil]); first | done | rfl) ?_; (with_reducible refine (ip_size.calls k _ _ l0 t660 t661 t662 _ ?side1 ?side2 A2.out).mono ?_); (case side1 => repeat (first | exact (Kd.C_below HR0.out HB.out) | (with_reducible refine Kd.C_alloc ?_ _) | (with_reducible refine Kd.C_drewN ?_ _) | (with_reducible refine Kd.C_drew ?_))); (case side2 => exact HC0.out); rintro e w' ⟨rfl, ⟨nd, rfl⟩⟩; refine ⟨_, rfl, ?_⟩; (try (first | (rw [drewN_self w49]; generalize hq_ : World.drewN w49 _ = w49; have n0_ := aS (blk_at hq_ BK659.out); have n1_ := aS (below_at hq_ HB.out); clear hq_ BK659 HB; have BK659 := n0_; have HB := n1_; clear n0_ n1_) | (rw [drewN_self w49]; generalize hq_ : World.drewN w49 _ = w49; have n0_ : Aside0 (w49.heap[gb659]? = some (.cells #[.int .u8 0, .int .u32 0, .int .u32 0, .int .i64 0, .int .i64 0, .int .u8 0, .int .u16 0] 61 (0, 0))) := ⟨by rw [← hq_]; exact (tk BK659.out)⟩; have n1_ : Aside0 (Below w.heap.size w w49) := ⟨by rw [← hq_]; exact (by repeat first | (with_reducible first | exact HB.out | apply mB | refine below_set ?_ GE659.out) | exact HB.out)⟩; clear BK659 HB hq_; have BK659 := n0_; have HB := n1_; clear n0_ n1_))); obtain ⟨i050, hi050, _, hsz50, _⟩ := info_parts info5; obtain ⟨hcut50, hA50, hC50⟩ := print_take_of (P := Try.prog) (Value.int .u8) 0 22 5 .i64 Try.underlying22 hi050 hsz50 A0 c0 l0 t660 (of_decide_eq_true (by first | (with_reducible assumption) | assumption)) (of_decide_eq_true (by first | (with_reducible assumption) | assumption)) HC0.out; have HR663 := aS (Kd.C_of_reads (h1 := fun _ => rfl) (hA50 _ (Kd.reads_of_C HR0.out))); have HC663 := aS hC50; clear hA50 hC50 hi050 hsz50) | ((with_reducible refine gate_callee (f := 62) rfl ?_); refine goesL_ (some 24) rfl rfl Try.func62 (by kernel_rfl) rfl #[.int .u16 0, .slice A0 (l0.take (t660 : Int).toNat).length c0] rfl (by (try simp only [List.map_toArray, List.map_cons, List.map_nil]); first | done | (rw [show (l0.take (t660 : Int).toNat).length = t660.toNat from (by rw [List.length_take]; have h_ : (t660 : Int) ≤ (l0.length : Int) := of_decide_eq_true (by first | (with_reducible assumption) | assumption); omega)] <;> rfl) | rfl | (simp only [List.length_drop, List.length_take]; rfl)) ?_; (with_reducible refine (sum_Add.calls k 0 _ _ (l0.take (t660 : Int).toNat) t664 _ ?side1 ?side2 A6.out).mono ?_); (case side1 => repeat (first | exact (Kd.C_below HR663.out HB.out) | (with_reducible refine Kd.C_alloc ?_ _) | (with_reducible refine Kd.C_drewN ?_ _) | (with_reducible refine Kd.C_drew ?_))); (case side2 => exact HC663.out); rintro e w' ⟨rfl, ⟨nd, rfl⟩⟩; refine ⟨_, rfl, ?_⟩; (try (first | (rw [drewN_self w49]; generalize hq_ : World.drewN w49 _ = w49; have n0_ := aS (blk_at hq_ BK659.out); have n1_ := aS (below_at hq_ HB.out); clear hq_ BK659 HB; have BK659 := n0_; have HB := n1_; clear n0_ n1_) | (rw [drewN_self w49]; generalize hq_ : World.drewN w49 _ = w49; have n0_ : Aside0 (w49.heap[gb659]? = some (.cells #[.int .u8 0, .int .u32 0, .int .u32 0, .int .i64 0, .int .i64 0, .int .u8 0, .int .u16 0] 61 (0, 0))) := ⟨by rw [← hq_]; exact (tk BK659.out)⟩; have n1_ : Aside0 (Below w.heap.size w w49) := ⟨by rw [← hq_]; exact (by repeat first | (with_reducible first | exact HB.out | apply mB | refine below_set ?_ GE659.out) | exact HB.out)⟩; clear BK659 HB hq_; have BK659 := n0_; have HB := n1_; clear n0_ n1_))); have hcz51_0 : w49.cell? ⟨gb659, 0, none⟩ = some (.int .u8 0) := (blk_cell BK659.out 0).trans rfl; have hcz51_1 : w49.cell? ⟨gb659, 1, none⟩ = some (.int .u32 0) := (blk_cell BK659.out 1).trans rfl; have hcz51_2 : w49.cell? ⟨gb659, 2, none⟩ = some (.int .u32 0) := (blk_cell BK659.out 2).trans rfl; have hcz51_3 : w49.cell? ⟨gb659, 3, none⟩ = some (.int .i64 0) := (blk_cell BK659.out 3).trans rfl; have hcz51_4 : w49.cell? ⟨gb659, 4, none⟩ = some (.int .i64 0) := (blk_cell BK659.out 4).trans rfl; have hcz51_5 : w49.cell? ⟨gb659, 5, none⟩ = some (.int .u8 0) := (blk_cell BK659.out 5).trans rfl; have hcz51_6 : w49.cell? ⟨gb659, 6, none⟩ = some (.int .u16 0) := (blk_cell BK659.out 6).trans rfl; have hfz51_0 := blk_frozen BK659.out 0; have hfz51_1 := blk_frozen BK659.out 1; have hfz51_2 := blk_frozen BK659.out 2; have hfz51_3 := blk_frozen BK659.out 3; have hfz51_4 := blk_frozen BK659.out 4; have hfz51_5 := blk_frozen BK659.out 5; have hfz51_6 := blk_frozen BK659.out 6) | ((with_reducible refine gate_store (t := 61) (p := 2) rfl ?_); refine store_event (t := 61) (p := 2) (v := ?vo_w52) (w1 := (((((((w49.setCell ⟨gb659, 0, none⟩ (.int .u8 0)).setCell ⟨gb659, 1, none⟩ (.int .u32 0)).setCell ⟨gb659, 2, none⟩ (.int .u32 0)).setCell ⟨gb659, 3, none⟩ (.int .i64 0)).setCell ⟨gb659, 4, none⟩ (.int .i64 0)).setCell ⟨gb659, 5, none⟩ (.int .u8 0)).setCell ⟨gb659, 6, none⟩ (.int .u16 0))) ?hg ?ho ?hn ?hr ?_; (case ho => rfl); (case hg => rfl); (case hn => rfl); (case hr => first | (go_simp; done) | (go_simp; rfl)); intro w52 hw; replace BK659 : Aside0 (w52.heap[gb659]? = some (.cells #[.int .u8 0, .int .u32 0, .int .u32 0, .int .i64 0, .int .i64 0, .int .u8 0, .int .u16 0] 61 (0, 0))) := ⟨(by rw [hw]; exact (by (with_reducible repeat apply mk_); refine blk_put (cs := #[.int .u8 0, .int .u32 0, .int .u32 0, .int .i64 0, .int .i64 0, .int .u8 0, .int .u16 0]) ?_ 6 _ rfl; (with_reducible repeat apply mk_); refine blk_put (cs := #[.int .u8 0, .int .u32 0, .int .u32 0, .int .i64 0, .int .i64 0, .int .u8 0, .int .u16 0]) ?_ 5 _ rfl; (with_reducible repeat apply mk_); refine blk_put (cs := #[.int .u8 0, .int .u32 0, .int .u32 0, .int .i64 0, .int .i64 0, .int .u8 0, .int .u16 0]) ?_ 4 _ rfl; (with_reducible repeat apply mk_); refine blk_put (cs := #[.int .u8 0, .int .u32 0, .int .u32 0, .int .i64 0, .int .i64 0, .int .u8 0, .int .u16 0]) ?_ 3 _ rfl; (with_reducible repeat apply mk_); refine blk_put (cs := #[.int .u8 0, .int .u32 0, .int .u32 0, .int .i64 0, .int .i64 0, .int .u8 0, .int .u16 0]) ?_ 2 _ rfl; (with_reducible repeat apply mk_); refine blk_put (cs := #[.int .u8 0, .int .u32 0, .int .u32 0, .int .i64 0, .int .i64 0, .int .u8 0, .int .u16 0]) ?_ 1 _ rfl; (with_reducible repeat apply mk_); refine blk_put (cs := #[.int .u8 0, .int .u32 0, .int .u32 0, .int .i64 0, .int .i64 0, .int .u8 0, .int .u16 0]) ?_ 0 _ rfl; (with_reducible repeat apply mk_); exact BK659.out))⟩; replace HB : Aside0 (Below w.heap.size w w52) := ⟨(by rw [hw]; exact (by repeat first | (with_reducible first | exact HB.out | apply mB | refine below_set ?_ GE659.out) | exact HB.out))⟩; clear hw))
     refine bodyPost_ret (results_ctt rfl _ _ gb659 61 #[.int .u8 0, .int .u32 0, .int .u32 0, .int .i64 0, .int .i64 0, .int .u8 0, .int .u16 0] (0, 0) _ rfl (tk BK659.out) Try.underlying61 rfl (by kernel_rfl)) rfl ?_
     exact ⟨_, by first | rfl | (simp [errW_none, errW_some] <;> rfl) | (simp [*, errW_none, errW_some] <;> rfl), Kd.V_nil _ _ _ _ _, by repeat first | (with_reducible first | exact HB.out | apply mB | refine below_set ?_ GE659.out) | exact HB.out⟩
   ·rw [if_neg c5] at H
    exact absurd H (by simp)
  ·rw [if_neg c4] at H
   exact absurd H (by simp)
 ·rw [if_neg c3] at H
  have c3b0 : (t662 == 0) = false := beq_eq_false_iff_ne.mpr c3
  have c3b1 : (t662 != 0) = true := bne_iff_ne.mpr c3
  simp only [Option.some.injEq, Prod.mk.injEq] at H
  obtain ⟨rfl, rfl, rfl, rfl, rfl, rfl, rfl, rfl, rfl⟩ := H
  go_enter Try.func46, Try.ntmps46
  go_wp2_with (first | ((with_reducible refine gate_dst (N := 2) rfl ?_); refine box_event ?hg (N := 2) ?hd (cs := #[.int .u8 0, .int .u32 0, .int .u32 0, .int .i64 0, .int .i64 0, .int .u8 0, .int .u16 0]) (t := 61) ?hr ?_; (case hd => rfl); (case hg => rfl); (case hr => first | (go_simp; done) | (go_simp; rfl)); intro gb659 hg w53 hbox hb; have BK659 := aS (hbox); have GW659 := aS ((by rw [hg]; exact (below_size (tB HB.out)) : w.heap.size ≤ gb659)); have GE659 := aS ((by rw [hg]; exact (below_size (tB HB.out)) : w.heap.size ≤ gb659)); replace HB := aS (below_step (tB HB.out) hb); clear hb hbox hg) | ((with_reducible refine gate_callee (f := 76) rfl ?_); refine goesL_ (some 11) rfl rfl Try.func76 (by kernel_rfl) rfl #[.slice A0 l0.length c0] rfl (by (try simp only [List.map_toArray, List.map_cons, List.map_nil]); first | done | rfl) ?_; (with_reducible refine (ip_size.calls k _ _ l0 t660 t661 t662 _ ?side1 ?side2 A2.out).mono ?_); (case side1 => repeat (first | exact (Kd.C_below HR0.out HB.out) | (with_reducible refine Kd.C_alloc ?_ _) | (with_reducible refine Kd.C_drewN ?_ _) | (with_reducible refine Kd.C_drew ?_))); (case side2 => exact HC0.out); rintro e w' ⟨rfl, ⟨nd, rfl⟩⟩; refine ⟨_, rfl, ?_⟩; (try (first | (rw [drewN_self w53]; generalize hq_ : World.drewN w53 _ = w53; have n0_ := aS (blk_at hq_ BK659.out); have n1_ := aS (below_at hq_ HB.out); clear hq_ BK659 HB; have BK659 := n0_; have HB := n1_; clear n0_ n1_) | (rw [drewN_self w53]; generalize hq_ : World.drewN w53 _ = w53; have n0_ : Aside0 (w53.heap[gb659]? = some (.cells #[.int .u8 0, .int .u32 0, .int .u32 0, .int .i64 0, .int .i64 0, .int .u8 0, .int .u16 0] 61 (0, 0))) := ⟨by rw [← hq_]; exact (tk BK659.out)⟩; have n1_ : Aside0 (Below w.heap.size w w53) := ⟨by rw [← hq_]; exact (by repeat first | (with_reducible first | exact HB.out | apply mB | refine below_set ?_ GE659.out) | exact HB.out)⟩; clear BK659 HB hq_; have BK659 := n0_; have HB := n1_; clear n0_ n1_))); have hcz54_0 : w53.cell? ⟨gb659, 0, none⟩ = some (.int .u8 0) := (blk_cell BK659.out 0).trans rfl; have hcz54_1 : w53.cell? ⟨gb659, 1, none⟩ = some (.int .u32 0) := (blk_cell BK659.out 1).trans rfl; have hcz54_2 : w53.cell? ⟨gb659, 2, none⟩ = some (.int .u32 0) := (blk_cell BK659.out 2).trans rfl; have hcz54_3 : w53.cell? ⟨gb659, 3, none⟩ = some (.int .i64 0) := (blk_cell BK659.out 3).trans rfl; have hcz54_4 : w53.cell? ⟨gb659, 4, none⟩ = some (.int .i64 0) := (blk_cell BK659.out 4).trans rfl; have hcz54_5 : w53.cell? ⟨gb659, 5, none⟩ = some (.int .u8 0) := (blk_cell BK659.out 5).trans rfl; have hcz54_6 : w53.cell? ⟨gb659, 6, none⟩ = some (.int .u16 0) := (blk_cell BK659.out 6).trans rfl; have hfz54_0 := blk_frozen BK659.out 0; have hfz54_1 := blk_frozen BK659.out 1; have hfz54_2 := blk_frozen BK659.out 2; have hfz54_3 := blk_frozen BK659.out 3; have hfz54_4 := blk_frozen BK659.out 4; have hfz54_5 := blk_frozen BK659.out 5; have hfz54_6 := blk_frozen BK659.out 6) | ((with_reducible refine gate_store (t := 61) (p := 2) rfl ?_); refine store_event (t := 61) (p := 2) (v := ?vo_w55) (w1 := (((((((w53.setCell ⟨gb659, 0, none⟩ (.int .u8 0)).setCell ⟨gb659, 1, none⟩ (.int .u32 0)).setCell ⟨gb659, 2, none⟩ (.int .u32 0)).setCell ⟨gb659, 3, none⟩ (.int .i64 0)).setCell ⟨gb659, 4, none⟩ (.int .i64 0)).setCell ⟨gb659, 5, none⟩ (.int .u8 0)).setCell ⟨gb659, 6, none⟩ (.int .u16 0))) ?hg ?ho ?hn ?hr ?_; (case ho => rfl); (case hg => rfl); (case hn => rfl); (case hr => first | (go_simp; done) | (go_simp; rfl)); intro w55 hw; replace BK659 : Aside0 (w55.heap[gb659]? = some (.cells #[.int .u8 0, .int .u32 0, .int .u32 0, .int .i64 0, .int .i64 0, .int .u8 0, .int .u16 0] 61 (0, 0))) := ⟨(by rw [hw]; exact (by (with_reducible repeat apply mk_); refine blk_put (cs := #[.int .u8 0, .int .u32 0, .int .u32 0, .int .i64 0, .int .i64 0, .int .u8 0, .int .u16 0]) ?_ 6 _ rfl; (with_reducible repeat apply mk_); refine blk_put (cs := #[.int .u8 0, .int .u32 0, .int .u32 0, .int .i64 0, .int .i64 0, .int .u8 0, .int .u16 0]) ?_ 5 _ rfl; (with_reducible repeat apply mk_); refine blk_put (cs := #[.int .u8 0, .int .u32 0, .int .u32 0, .int .i64 0, .int .i64 0, .int .u8 0, .int .u16 0]) ?_ 4 _ rfl; (with_reducible repeat apply mk_); refine blk_put (cs := #[.int .u8 0, .int .u32 0, .int .u32 0, .int .i64 0, .int .i64 0, .int .u8 0, .int .u16 0]) ?_ 3 _ rfl; (with_reducible repeat apply mk_); refine blk_put (cs := #[.int .u8 0, .int .u32 0, .int .u32 0, .int .i64 0, .int .i64 0, .int .u8 0, .int .u16 0]) ?_ 2 _ rfl; (with_reducible repeat apply mk_); refine blk_put (cs := #[.int .u8 0, .int .u32 0, .int .u32 0, .int .i64 0, .int .i64 0, .int .u8 0, .int .u16 0]) ?_ 1 _ rfl; (with_reducible repeat apply mk_); refine blk_put (cs := #[.int .u8 0, .int .u32 0, .int .u32 0, .int .i64 0, .int .i64 0, .int .u8 0, .int .u16 0]) ?_ 0 _ rfl; (with_reducible repeat apply mk_); exact BK659.out))⟩; replace HB : Aside0 (Below w.heap.size w w55) := ⟨(by rw [hw]; exact (by repeat first | (with_reducible first | exact HB.out | apply mB | refine below_set ?_ GE659.out) | exact HB.out))⟩; clear hw))
  refine bodyPost_ret (results_ctt rfl _ _ gb659 61 #[.int .u8 0, .int .u32 0, .int .u32 0, .int .i64 0, .int .i64 0, .int .u8 0, .int .u16 0] (0, 0) _ rfl (tk BK659.out) Try.underlying61 rfl (by kernel_rfl)) rfl ?_
  exact ⟨_, by first | rfl | (simp [errW_none, errW_some] <;> rfl) | (simp [*, errW_none, errW_some] <;> rfl), Kd.V_nil _ _ _ _ _, by repeat first | (with_reducible first | exact HB.out | apply mB | refine below_set ?_ GE659.out) | exact HB.out⟩

end Go.Proofs.Ytofjgdbiieanjaa.All
