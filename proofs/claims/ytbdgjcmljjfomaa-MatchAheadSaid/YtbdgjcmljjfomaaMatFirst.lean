-- match.First by hand: its closure, slices.IndexFunc at that closure, and the function (the printer takes no function values).
import Derived.Test.YtbdgjcmljjfomaaMatx0
import Derived.Test.YtbdgjcmljjfomaaMatx12
import Derived.Lib.Hide
import Derived.Deep.QuietTactic
import Derived.BigQuiet
namespace Go.Proofs.Ytbdgjcmljjfomaa.Mat
open Go.RowKit Go.Proofs.YtbdgjcmljjfomaaW.PrintWords Go.Proofs.YtbdgjcmljjfomaaW.PrintLast Go.Proofs.YtbdgjcmljjfomaaW.PrintMore
set_option linter.unusedVariables false
set_option linter.unusedSimpArgs false
/-- The place of the first rule that matches. -/
def idxL : List S32 → Int → Int → Int → Int → Int → Int → Int → Int → Option Int
  | [], _, _, _, _, _, _, _, _ => some (-1)
  | x :: l, i, p0, p1, p2, p3, p4, p5, p6 => (match_Matches.f x.f0 x.f1 x.f2.f0 x.f2.f1 x.f3.f0 x.f3.f1 x.f4.f0 x.f4.f1 x.f5.f0 x.f5.f1 p0 p1 p2 p3 p4 p5 p6).bind fun t => if t = true then some i else idxL l (i + 1) p0 p1 p2 p3 p4 p5 p6
def match_First.f (l0 : List S32) (p0 p1 p2 p3 p4 p5 p6 : Int) : Option (Int × Bool) :=
  (idxL l0 0 p0 p1 p2 p3 p4 p5 p6).bind fun n => if 0 ≤ n then (if n < (l0.length : Int) then some (n, (rd_T32 l0 n).f0) else none) else some (n, false)
theorem closure_calls (x : S32) (p0 p1 p2 p3 p4 p5 p6 : Int) (t : Bool) (g : Nat) (W : World) (hg : g < W.heap.size)
    (h0 : W.cell? ⟨g, 0, none⟩ = some (.int .u8 p0)) (h1 : W.cell? ⟨g, 1, none⟩ = some (.int .u32 p1)) (h2 : W.cell? ⟨g, 2, none⟩ = some (.int .u32 p2)) (h3 : W.cell? ⟨g, 3, none⟩ = some (.int .u16 p3)) (h4 : W.cell? ⟨g, 4, none⟩ = some (.int .u16 p4)) (h5 : W.cell? ⟨g, 5, none⟩ = some (.int .u8 p5)) (h6 : W.cell? ⟨g, 6, none⟩ = some (.int .u8 p6))
    (h : match_Matches.f x.f0 x.f1 x.f2.f0 x.f2.f1 x.f3.f0 x.f3.f1 x.f4.f0 x.f4.f1 x.f5.f0 x.f5.f1 p0 p1 p2 p3 p4 p5 p6 = some t) :
    Calls Try.prog 43 #[.agg #[.bool x.f0, .int .u8 x.f1, .int .u32 x.f2.f0, .int .i64 x.f2.f1, .int .u32 x.f3.f0, .int .i64 x.f3.f1, .int .u16 x.f4.f0, .int .u16 x.f4.f1, .int .u16 x.f5.f0, .int .u16 x.f5.f1], .pointer (some ⟨g, 0, none⟩)] W fun e w' => e = .returned (.bool t) ∧ Below W.heap.size W w' := by
  have hne : g ≠ W.heap.size := by omega
  have H := Aside0.mk h
  clear h
  go_enter Try.func43, Try.ntmps43
  go_wp2_with (go_at_call 18; refine (match_Matches.calls _ _ _ _ _ _ _ _ _ _ _ _ _ _ _ _ _ t _ H.out).mono ?_; rintro e w' ⟨rfl, hb'⟩)
  go_ret
  exact ⟨rfl, ((Below.refl _ W).alloc (Nat.le_refl _) _).trans (hb'.mono (by simp))⟩
theorem rd_drop {l : List S32} {i : Nat} (h : i < l.length) : l.drop i = rd_T32 l (i : Int) :: l.drop (i + 1) := by
  rw [List.drop_eq_getElem_cons h]
  unfold rd_T32
  rw [Int.toNat_natCast, List.getD_eq_getElem?_getD, List.getElem?_eq_getElem h]
  rfl
set_option maxHeartbeats 2000000 in
theorem index_calls (A : Option Addr) (c : Nat) (l : List S32) (p0 p1 p2 p3 p4 p5 p6 : Int) (r : Int) (g : Nat) (w : World) (hl : Kd.C k32 w A l.length l) (hmax : l.length ≤ 9223372036854775807) (hg : g < w.heap.size)
    (hb : w.heap[g]? = some (.cells #[.int .u8 p0, .int .u32 p1, .int .u32 p2, .int .u16 p3, .int .u16 p4, .int .u8 p5, .int .u8 p6] 26 (0, 0)))
    (h : idxL l 0 p0 p1 p2 p3 p4 p5 p6 = some r) :
    Calls Try.prog 42 #[.slice A l.length c, .func (.func 43) #[] #[.pointer (some ⟨g, 0, none⟩)]] w fun e w' => e = .returned (.int .i64 r) ∧ Below w.heap.size w w' := by
  have hu32 := Try.underlying32
  have HL := Aside0.mk hl
  have HG := Aside0.mk hb
  have H := Aside0.mk h
  clear hl hb h
  go_enter Try.func42, Try.ntmps42
  go_wp2
  go_loopg [5, 8] l.length (fun gg _ s8 wr => ∃ kk : Nat, kk ≤ l.length ∧ l.length - kk ≤ gg ∧ s8 = .int .i64 kk ∧ Aside0 (Below w.heap.size w wr) ∧ Aside0 (idxL (l.drop kk) kk p0 p1 p2 p3 p4 p5 p6 = some r))
  case atStart => exact ⟨0, Nat.zero_le _, by omega, rfl, ⟨Below.refl _ w⟩, ⟨H.out⟩⟩
  case round =>
    obtain ⟨kk, hkk, hgg, rfl, BW, HI⟩ := hrel
    by_cases hlt : kk < l.length
    · have hltz : (kk : Int) < (l.length : Int) := by omega
      have hgez : (0 : Int) ≤ (kk : Int) := by omega
      have hI := HI.out
      rw [rd_drop hlt, idxL] at hI
      obtain ⟨t, ht, hI⟩ := Option.bind_eq_some_iff.mp hI
      have HT := Aside0.mk ht
      have HI2 := Aside0.mk hI
      clear ht hI HI
      obtain ⟨ad, e, x0, x1, x2, x3, x4, x5, x6, x7, x8, x9⟩ := at_T32 HL.out (kk : Int) hgez hltz
      have e0 : w.heap.size ≤ wr.heap.size := BW.out.size
      have hcl := closure_calls (rd_T32 l (kk : Int)) p0 p1 p2 p3 p4 p5 p6 t g wr (by omega)
        (by rw [BW.out.cell (p := ⟨g, 0, none⟩) hg]; exact blk_cell HG.out 0) (by rw [BW.out.cell (p := ⟨g, 1, none⟩) hg]; exact blk_cell HG.out 1) (by rw [BW.out.cell (p := ⟨g, 2, none⟩) hg]; exact blk_cell HG.out 2)
        (by rw [BW.out.cell (p := ⟨g, 3, none⟩) hg]; exact blk_cell HG.out 3) (by rw [BW.out.cell (p := ⟨g, 4, none⟩) hg]; exact blk_cell HG.out 4) (by rw [BW.out.cell (p := ⟨g, 5, none⟩) hg]; exact blk_cell HG.out 5) (by rw [BW.out.cell (p := ⟨g, 6, none⟩) hg]; exact blk_cell HG.out 6) HT.out
      replace x0 := (BW.out.cell (World.block_lt_of_cell? w _ x0)).trans x0
      replace x1 := (BW.out.cell (World.block_lt_of_cell? w _ x1)).trans x1
      replace x2 := (BW.out.cell (World.block_lt_of_cell? w _ x2)).trans x2
      replace x3 := (BW.out.cell (World.block_lt_of_cell? w _ x3)).trans x3
      replace x4 := (BW.out.cell (World.block_lt_of_cell? w _ x4)).trans x4
      replace x5 := (BW.out.cell (World.block_lt_of_cell? w _ x5)).trans x5
      replace x6 := (BW.out.cell (World.block_lt_of_cell? w _ x6)).trans x6
      replace x7 := (BW.out.cell (World.block_lt_of_cell? w _ x7)).trans x7
      replace x8 := (BW.out.cell (World.block_lt_of_cell? w _ x8)).trans x8
      replace x9 := (BW.out.cell (World.block_lt_of_cell? w _ x9)).trans x9
      simp only [Int.toNat_natCast] at x0 x1 x2 x3 x4 x5 x6 x7 x8 x9
      cases e
      have HC := Aside0.mk hcl
      clear hcl
      cases t with
      | true =>
        go_wp2_with (go_at_call 43; refine HC.out.mono ?_; rintro e w' ⟨rfl, hb'⟩)
        go_ret
        obtain rfl : (kk : Int) = r := by simpa using HI2.out
        exact ⟨rfl, BW.out.trans (hb'.mono e0)⟩
      | false =>
        go_wp2_with (go_at_call 43; refine HC.out.mono ?_; rintro e w' ⟨rfl, hb'⟩)
        go_roundg (l.length - (kk + 1))
        case measure => omega
        case rel =>
          exact ⟨kk + 1, by omega, by omega, by go_num, ⟨BW.out.trans (hb'.mono e0)⟩, ⟨by simpa using HI2.out⟩⟩
    · have hltz : ¬ (kk : Int) < (l.length : Int) := by omega
      go_wp2
      go_ret
      have hI := HI.out
      rw [List.drop_eq_nil_of_le (by omega), idxL] at hI
      obtain rfl := Option.some.inj hI
      exact ⟨rfl, BW.out⟩
set_option maxHeartbeats 2000000 in
theorem match_First.calls (A0 : Option Addr) (c0 : Nat) (l0 : List S32) (a1_0 a1_1 a1_2 a1_3 a1_4 a1_5 a1_6 : Int) (r1 : Int) (r2 : Bool) (w : World) (hr0 : Kd.C k32 w A0 l0.length l0) (hc0 : l0.length ≤ c0) (h : match_First.f l0 a1_0 a1_1 a1_2 a1_3 a1_4 a1_5 a1_6 = some (r1, r2)) :
    Calls Try.prog 14 #[.slice A0 l0.length c0, .agg #[.int .u8 a1_0, .int .u32 a1_1, .int .u32 a1_2, .int .u16 a1_3, .int .u16 a1_4, .int .u8 a1_5, .int .u8 a1_6]] w fun e w' => e = .returned (.tuple #[.int .i64 r1, .bool r2]) ∧ Below w.heap.size w w' := by
  have hu26 := Try.underlying26
  have hu32 := Try.underlying32
  unfold match_First.f at h
  obtain ⟨n, hn, h⟩ := Option.bind_eq_some_iff.mp h
  have hmax : l0.length ≤ 9223372036854775807 := hr0.2.1
  have hcon := index_calls A0 c0 l0 a1_0 a1_1 a1_2 a1_3 a1_4 a1_5 a1_6 n w.heap.size (w.alloc (.cells #[.int .u8 a1_0, .int .u32 a1_1, .int .u32 a1_2, .int .u16 a1_3, .int .u16 a1_4, .int .u8 a1_5, .int .u8 a1_6] 26 (0, 0))) (Kd.C_below hr0 (below_alloc (Below.refl _ _) _)) hmax (by simp) (heap_alloc_new w _) hn
  have HL := Aside0.mk hr0
  clear hr0 hn
  by_cases h0 : 0 ≤ n
  · rw [if_pos h0] at h
    by_cases h1 : n < (l0.length : Int)
    · rw [if_pos h1] at h
      simp only [Option.some.injEq, Prod.mk.injEq] at h
      obtain ⟨rfl, rfl⟩ := h
      have h0b : decide (n ≥ 0) = true := decide_eq_true h0
      have h0c : decide (0 ≤ n) = true := decide_eq_true h0
      obtain ⟨ad, e, x0, _⟩ := at_T32 HL.out n h0 h1
      cases e
      go_enter Try.func14, Try.ntmps14
      go_wp2_with (go_at_call 42; refine hcon.mono ?_; rintro e w' ⟨rfl, hb'⟩)
      have hc : w'.cell? (ad.add (n.toNat * 10)) = some (.bool (rd_T32 l0 n).f0) := by
        rw [hb'.cell (p := ad.add (n.toNat * 10)) (by have := World.block_lt_of_cell? w _ x0; simp; omega)]
        rw [World.cell?_alloc_lt _ _ _ (World.block_lt_of_cell? w _ x0)]
        exact x0
      have p0 : (0 : Int) ≤ n := h0
      have q0 : n < (l0.length : Int) := h1
      go_quiet (fail)
      go_wp2
      go_ret2
      exact ⟨rfl, pw_below_drewN (((Below.refl _ w).alloc (Nat.le_refl _) _).trans (hb'.mono (by simp))) _⟩
    · rw [if_neg h1] at h
      cases h
  · rw [if_neg h0] at h
    simp only [Option.some.injEq, Prod.mk.injEq] at h
    obtain ⟨rfl, rfl⟩ := h
    have h0b : decide (n ≥ 0) = false := decide_eq_false h0
    have h0c : decide (0 ≤ n) = false := decide_eq_false h0
    go_enter Try.func14, Try.ntmps14
    go_wp2_with (go_at_call 42; refine hcon.mono ?_; rintro e w' ⟨rfl, hb'⟩)
    go_quiet (fail)
    go_wp2
    go_ret2
    exact ⟨rfl, pw_below_drewN (((Below.refl _ w).alloc (Nat.le_refl _) _).trans (hb'.mono (by simp))) _⟩
end Go.Proofs.Ytbdgjcmljjfomaa.Mat
