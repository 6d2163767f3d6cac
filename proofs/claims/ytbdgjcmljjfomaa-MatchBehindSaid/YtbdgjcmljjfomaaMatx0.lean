-- Made by a program of this workplace (wip/pr.sh) out of Lean's print of the translation; Lean checks it.
import Derived.Test.YtbdgjcmljjfomaaProg
import Derived.Below
import Derived.Deep.Draws
import Derived.Deep.AppendLies
import Derived.Maps.AppendAt
import Derived.OwnWalk
import Derived.Laws.BytesArg
import Derived.Laws.MakeOwn
import Derived.Laws.OwnMore
import Derived.Deep.OwnRows
import Derived.Tactics
import Derived.Lib.ConvBytes
import Derived.Laws.Slices
import Derived.WalkKit
import Derived.KernelRfl
import Derived.RowKit3
import Derived.Deep.LoopGhost
import Derived.Deep.QuietTactic
import Derived.BigQuiet
import Derived.WideLaws
import Derived.Deep.DeepCutAuto
import Derived.Deep.CutBlock
import Derived.Deep.RegionHeld3
import Derived.Laws.Rows
import Derived.Lib.AppendStr
import Derived.ArgAppend
import Derived.Laws.IdiomCopy
import Derived.OrdersHeld
import Derived.Laws.BitsLemmas
import Derived.RowKit
import Derived.Test.YtbdgjcmljjfomaaWWords
import Derived.Test.YtbdgjcmljjfomaaWLast
import Derived.Test.YtbdgjcmljjfomaaWTab
import Derived.Test.YtbdgjcmljjfomaaWFour
import Derived.Test.YtbdgjcmljjfomaaWQPut
import Derived.Test.YtbdgjcmljjfomaaWApart
import Derived.Test.YtbdgjcmljjfomaaWArr
import Derived.Test.YtbdgjcmljjfomaaWZeros
import Derived.Test.YtbdgjcmljjfomaaWFoot
import Derived.Test.YtbdgjcmljjfomaaWKept
import Derived.Test.YtbdgjcmljjfomaaWShare
import Derived.Test.YtbdgjcmljjfomaaWN
import Derived.Test.YtbdgjcmljjfomaaWFootNe
import Derived.Test.YtbdgjcmljjfomaaWAt
import Derived.Test.YtbdgjcmljjfomaaWEqStruct
import Derived.Test.YtbdgjcmljjfomaaWRepsOne
import Derived.Test.YtbdgjcmljjfomaaWInv
import Derived.Test.YtbdgjcmljjfomaaWInvWords
import Derived.Test.YtbdgjcmljjfomaaWGuard
import Derived.Test.YtbdgjcmljjfomaaWNEv
import Derived.Test.YtbdgjcmljjfomaaWMore
namespace Go.Proofs.Ytbdgjcmljjfomaa.Mat
open Go.RowKit Go.Proofs.YtbdgjcmljjfomaaW.PrintWords Go.Proofs.YtbdgjcmljjfomaaW.PrintLast Go.Proofs.YtbdgjcmljjfomaaW.PrintMore
attribute [local go_sem] max2_int min2_int max_two min_two max_three min_three max_four min_four   -- for this text's walks alone
set_option linter.unusedVariables false
set_option linter.unusedSimpArgs false



def errW : Option Int → Value
  | none => .nilIface
  | some c => .iface 0 (.int .i64 c)
theorem errW_none : errW none = .nilIface := rfl
theorem errW_some (c : Int) : errW (some c) = .iface 0 (.int .i64 c) := rfl

theorem info32 : (Try.prog.info? 32).map (fun i => (i.zero, i.size, i.bytes)) = some (some (.agg #[(.bool false), (.int .u8 0), (.int .u32 0), (.int .i64 0), (.int .u32 0), (.int .i64 0), (.int .u16 0), (.int .u16 0), (.int .u16 0), (.int .u16 0)]), 10, 48) := by kernel_rfl
-- the values' own types
/-! #### struct type 28 -/
structure S28 where
  f0 : Int
  f1 : Int
def z28 : S28 := ⟨(0 : Int), (0 : Int)⟩
def k28 : Kd S28 := Kd.iso (Kd.pair (Kd.int .u32) (Kd.int .i64)) (fun x : S28 => (x.f0, x.f1))
theorem k28_heap : Kd.Heap k28 := Kd.heap_iso _ (Kd.heap_pair (Kd.heap_int .u32) (Kd.heap_int .i64))
theorem k28_open {w : World} {x : S28} {cs : List Value} (h : k28.K w x cs) : cs = [.int .u32 x.f0, .int .i64 x.f1] := by
  obtain ⟨_, _, rfl, rfl, rfl⟩ := h
  exact rfl
theorem k28_openM {w : World} {base : Nat} {ok : Nat → Prop} {x : S28} {cs : List Value} (h : k28.M w base ok x cs) : cs = [.int .u32 x.f0, .int .i64 x.f1] := by
  obtain ⟨_, _, rfl, rfl, rfl⟩ := h
  exact rfl
theorem k28_mk (w : World) (x : S28)  : k28.K w x [.int .u32 x.f0, .int .i64 x.f1] := ⟨[.int .u32 x.f0], [.int .i64 x.f1], rfl, rfl, rfl⟩
theorem k28_mkM (w : World) (base : Nat) (ok : Nat → Prop) (x : S28)  : k28.M w base ok x [.int .u32 x.f0, .int .i64 x.f1] := ⟨[.int .u32 x.f0], [.int .i64 x.f1], rfl, rfl, rfl⟩
theorem k28_mkF (W : World) (ok : Nat → Prop) (x : S28) : Kd.FK k28 W ok x [.int .u32 x.f0, .int .i64 x.f1] := fun W2 _ => k28_mk W2 x
def rd_T28 (xs : List S28) (i : Int) : S28 := xs.getD i.toNat z28
theorem at_T28 {w : World} {A : Option Addr} {n : Nat} {xs : List S28} (h : Kd.C k28 w A n xs) (i : Int) (h0 : 0 ≤ i) (h1 : i < n) : ∃ ad , A = some ad ∧ w.cell? (ad.add (i.toNat * 2)) = some (.int .u32 (rd_T28 xs i).f0) ∧ w.cell? ⟨(ad.add (i.toNat * 2)).block, (ad.add (i.toNat * 2)).off + 1, none⟩ = some (.int .i64 (rd_T28 xs i).f1) := by
  obtain ⟨ad, c, e, _, hK, hc0⟩ := Kd.C_get h z28 i h0 h1
  have hc : ∀ j u, c[j]? = some u → w.cell? (ad.add (i.toNat * 2 + j)) = some u := hc0
  obtain rfl := k28_open hK
  exact ⟨ad, e, hc 0 _ rfl, by rw [← add_field _ _ 1 (by omega)]; exact hc 1 _ rfl⟩

/-! #### struct type 30 -/
structure S30 where
  f0 : Int
  f1 : Int
def z30 : S30 := ⟨(0 : Int), (0 : Int)⟩
def k30 : Kd S30 := Kd.iso (Kd.pair (Kd.int .u16) (Kd.int .u16)) (fun x : S30 => (x.f0, x.f1))
theorem k30_heap : Kd.Heap k30 := Kd.heap_iso _ (Kd.heap_pair (Kd.heap_int .u16) (Kd.heap_int .u16))
theorem k30_open {w : World} {x : S30} {cs : List Value} (h : k30.K w x cs) : cs = [.int .u16 x.f0, .int .u16 x.f1] := by
  obtain ⟨_, _, rfl, rfl, rfl⟩ := h
  exact rfl
theorem k30_openM {w : World} {base : Nat} {ok : Nat → Prop} {x : S30} {cs : List Value} (h : k30.M w base ok x cs) : cs = [.int .u16 x.f0, .int .u16 x.f1] := by
  obtain ⟨_, _, rfl, rfl, rfl⟩ := h
  exact rfl
theorem k30_mk (w : World) (x : S30)  : k30.K w x [.int .u16 x.f0, .int .u16 x.f1] := ⟨[.int .u16 x.f0], [.int .u16 x.f1], rfl, rfl, rfl⟩
theorem k30_mkM (w : World) (base : Nat) (ok : Nat → Prop) (x : S30)  : k30.M w base ok x [.int .u16 x.f0, .int .u16 x.f1] := ⟨[.int .u16 x.f0], [.int .u16 x.f1], rfl, rfl, rfl⟩
theorem k30_mkF (W : World) (ok : Nat → Prop) (x : S30) : Kd.FK k30 W ok x [.int .u16 x.f0, .int .u16 x.f1] := fun W2 _ => k30_mk W2 x
def rd_T30 (xs : List S30) (i : Int) : S30 := xs.getD i.toNat z30
theorem at_T30 {w : World} {A : Option Addr} {n : Nat} {xs : List S30} (h : Kd.C k30 w A n xs) (i : Int) (h0 : 0 ≤ i) (h1 : i < n) : ∃ ad , A = some ad ∧ w.cell? (ad.add (i.toNat * 2)) = some (.int .u16 (rd_T30 xs i).f0) ∧ w.cell? ⟨(ad.add (i.toNat * 2)).block, (ad.add (i.toNat * 2)).off + 1, none⟩ = some (.int .u16 (rd_T30 xs i).f1) := by
  obtain ⟨ad, c, e, _, hK, hc0⟩ := Kd.C_get h z30 i h0 h1
  have hc : ∀ j u, c[j]? = some u → w.cell? (ad.add (i.toNat * 2 + j)) = some u := hc0
  obtain rfl := k30_open hK
  exact ⟨ad, e, hc 0 _ rfl, by rw [← add_field _ _ 1 (by omega)]; exact hc 1 _ rfl⟩

/-! #### struct type 32 -/
structure S32 where
  f0 : Bool
  f1 : Int
  f2 : S28
  f3 : S28
  f4 : S30
  f5 : S30
def z32 : S32 := ⟨false, (0 : Int), z28, z28, z30, z30⟩
def k32 : Kd S32 := Kd.iso (Kd.pair Kd.bool (Kd.pair (Kd.int .u8) (Kd.pair k28 (Kd.pair k28 (Kd.pair k30 k30))))) (fun x : S32 => (x.f0, x.f1, x.f2, x.f3, x.f4, x.f5))
theorem k32_heap : Kd.Heap k32 := Kd.heap_iso _ (Kd.heap_pair Kd.heap_bool (Kd.heap_pair (Kd.heap_int .u8) (Kd.heap_pair k28_heap (Kd.heap_pair k28_heap (Kd.heap_pair k30_heap k30_heap)))))
theorem k32_open {w : World} {x : S32} {cs : List Value} (h : k32.K w x cs) : cs = [.bool x.f0, .int .u8 x.f1, .int .u32 x.f2.f0, .int .i64 x.f2.f1, .int .u32 x.f3.f0, .int .i64 x.f3.f1, .int .u16 x.f4.f0, .int .u16 x.f4.f1, .int .u16 x.f5.f0, .int .u16 x.f5.f1] := by
  obtain ⟨_, _, rfl, rfl, ⟨_, _, rfl, rfl, ⟨_, _, rfl, s2, ⟨_, _, rfl, s4, ⟨_, _, rfl, s6, s8⟩⟩⟩⟩⟩ := h
  obtain rfl := k28_open s2
  obtain rfl := k28_open s4
  obtain rfl := k30_open s6
  obtain rfl := k30_open s8
  exact rfl
theorem k32_openM {w : World} {base : Nat} {ok : Nat → Prop} {x : S32} {cs : List Value} (h : k32.M w base ok x cs) : cs = [.bool x.f0, .int .u8 x.f1, .int .u32 x.f2.f0, .int .i64 x.f2.f1, .int .u32 x.f3.f0, .int .i64 x.f3.f1, .int .u16 x.f4.f0, .int .u16 x.f4.f1, .int .u16 x.f5.f0, .int .u16 x.f5.f1] := by
  obtain ⟨_, _, rfl, rfl, ⟨_, _, rfl, rfl, ⟨_, _, rfl, s2, ⟨_, _, rfl, s4, ⟨_, _, rfl, s6, s8⟩⟩⟩⟩⟩ := h
  obtain rfl := k28_openM s2
  obtain rfl := k28_openM s4
  obtain rfl := k30_openM s6
  obtain rfl := k30_openM s8
  exact rfl
theorem k32_mk (w : World) (x : S32)  : k32.K w x [.bool x.f0, .int .u8 x.f1, .int .u32 x.f2.f0, .int .i64 x.f2.f1, .int .u32 x.f3.f0, .int .i64 x.f3.f1, .int .u16 x.f4.f0, .int .u16 x.f4.f1, .int .u16 x.f5.f0, .int .u16 x.f5.f1] := ⟨[.bool x.f0], [.int .u8 x.f1, .int .u32 x.f2.f0, .int .i64 x.f2.f1, .int .u32 x.f3.f0, .int .i64 x.f3.f1, .int .u16 x.f4.f0, .int .u16 x.f4.f1, .int .u16 x.f5.f0, .int .u16 x.f5.f1], rfl, rfl, ⟨[.int .u8 x.f1], [.int .u32 x.f2.f0, .int .i64 x.f2.f1, .int .u32 x.f3.f0, .int .i64 x.f3.f1, .int .u16 x.f4.f0, .int .u16 x.f4.f1, .int .u16 x.f5.f0, .int .u16 x.f5.f1], rfl, rfl, ⟨[.int .u32 x.f2.f0, .int .i64 x.f2.f1], [.int .u32 x.f3.f0, .int .i64 x.f3.f1, .int .u16 x.f4.f0, .int .u16 x.f4.f1, .int .u16 x.f5.f0, .int .u16 x.f5.f1], rfl, (k28_mk w x.f2 ), ⟨[.int .u32 x.f3.f0, .int .i64 x.f3.f1], [.int .u16 x.f4.f0, .int .u16 x.f4.f1, .int .u16 x.f5.f0, .int .u16 x.f5.f1], rfl, (k28_mk w x.f3 ), ⟨[.int .u16 x.f4.f0, .int .u16 x.f4.f1], [.int .u16 x.f5.f0, .int .u16 x.f5.f1], rfl, (k30_mk w x.f4 ), (k30_mk w x.f5 )⟩⟩⟩⟩⟩
theorem k32_mkM (w : World) (base : Nat) (ok : Nat → Prop) (x : S32)  : k32.M w base ok x [.bool x.f0, .int .u8 x.f1, .int .u32 x.f2.f0, .int .i64 x.f2.f1, .int .u32 x.f3.f0, .int .i64 x.f3.f1, .int .u16 x.f4.f0, .int .u16 x.f4.f1, .int .u16 x.f5.f0, .int .u16 x.f5.f1] := ⟨[.bool x.f0], [.int .u8 x.f1, .int .u32 x.f2.f0, .int .i64 x.f2.f1, .int .u32 x.f3.f0, .int .i64 x.f3.f1, .int .u16 x.f4.f0, .int .u16 x.f4.f1, .int .u16 x.f5.f0, .int .u16 x.f5.f1], rfl, rfl, ⟨[.int .u8 x.f1], [.int .u32 x.f2.f0, .int .i64 x.f2.f1, .int .u32 x.f3.f0, .int .i64 x.f3.f1, .int .u16 x.f4.f0, .int .u16 x.f4.f1, .int .u16 x.f5.f0, .int .u16 x.f5.f1], rfl, rfl, ⟨[.int .u32 x.f2.f0, .int .i64 x.f2.f1], [.int .u32 x.f3.f0, .int .i64 x.f3.f1, .int .u16 x.f4.f0, .int .u16 x.f4.f1, .int .u16 x.f5.f0, .int .u16 x.f5.f1], rfl, (k28_mkM w base ok x.f2 ), ⟨[.int .u32 x.f3.f0, .int .i64 x.f3.f1], [.int .u16 x.f4.f0, .int .u16 x.f4.f1, .int .u16 x.f5.f0, .int .u16 x.f5.f1], rfl, (k28_mkM w base ok x.f3 ), ⟨[.int .u16 x.f4.f0, .int .u16 x.f4.f1], [.int .u16 x.f5.f0, .int .u16 x.f5.f1], rfl, (k30_mkM w base ok x.f4 ), (k30_mkM w base ok x.f5 )⟩⟩⟩⟩⟩
theorem k32_mkF (W : World) (ok : Nat → Prop) (x : S32) : Kd.FK k32 W ok x [.bool x.f0, .int .u8 x.f1, .int .u32 x.f2.f0, .int .i64 x.f2.f1, .int .u32 x.f3.f0, .int .i64 x.f3.f1, .int .u16 x.f4.f0, .int .u16 x.f4.f1, .int .u16 x.f5.f0, .int .u16 x.f5.f1] := fun W2 _ => k32_mk W2 x
def rd_T32 (xs : List S32) (i : Int) : S32 := xs.getD i.toNat z32
theorem at_T32 {w : World} {A : Option Addr} {n : Nat} {xs : List S32} (h : Kd.C k32 w A n xs) (i : Int) (h0 : 0 ≤ i) (h1 : i < n) : ∃ ad , A = some ad ∧ w.cell? (ad.add (i.toNat * 10)) = some (.bool (rd_T32 xs i).f0) ∧ w.cell? ⟨(ad.add (i.toNat * 10)).block, (ad.add (i.toNat * 10)).off + 1, none⟩ = some (.int .u8 (rd_T32 xs i).f1) ∧ w.cell? ⟨(ad.add (i.toNat * 10)).block, (ad.add (i.toNat * 10)).off + 2, none⟩ = some (.int .u32 (rd_T32 xs i).f2.f0) ∧ w.cell? ⟨(ad.add (i.toNat * 10)).block, (ad.add (i.toNat * 10)).off + 3, none⟩ = some (.int .i64 (rd_T32 xs i).f2.f1) ∧ w.cell? ⟨(ad.add (i.toNat * 10)).block, (ad.add (i.toNat * 10)).off + 4, none⟩ = some (.int .u32 (rd_T32 xs i).f3.f0) ∧ w.cell? ⟨(ad.add (i.toNat * 10)).block, (ad.add (i.toNat * 10)).off + 5, none⟩ = some (.int .i64 (rd_T32 xs i).f3.f1) ∧ w.cell? ⟨(ad.add (i.toNat * 10)).block, (ad.add (i.toNat * 10)).off + 6, none⟩ = some (.int .u16 (rd_T32 xs i).f4.f0) ∧ w.cell? ⟨(ad.add (i.toNat * 10)).block, (ad.add (i.toNat * 10)).off + 7, none⟩ = some (.int .u16 (rd_T32 xs i).f4.f1) ∧ w.cell? ⟨(ad.add (i.toNat * 10)).block, (ad.add (i.toNat * 10)).off + 8, none⟩ = some (.int .u16 (rd_T32 xs i).f5.f0) ∧ w.cell? ⟨(ad.add (i.toNat * 10)).block, (ad.add (i.toNat * 10)).off + 9, none⟩ = some (.int .u16 (rd_T32 xs i).f5.f1) := by
  obtain ⟨ad, c, e, _, hK, hc0⟩ := Kd.C_get h z32 i h0 h1
  have hc : ∀ j u, c[j]? = some u → w.cell? (ad.add (i.toNat * 10 + j)) = some u := hc0
  obtain rfl := k32_open hK
  exact ⟨ad, e, hc 0 _ rfl, by rw [← add_field _ _ 1 (by omega)]; exact hc 1 _ rfl, by rw [← add_field _ _ 2 (by omega)]; exact hc 2 _ rfl, by rw [← add_field _ _ 3 (by omega)]; exact hc 3 _ rfl, by rw [← add_field _ _ 4 (by omega)]; exact hc 4 _ rfl, by rw [← add_field _ _ 5 (by omega)]; exact hc 5 _ rfl, by rw [← add_field _ _ 6 (by omega)]; exact hc 6 _ rfl, by rw [← add_field _ _ 7 (by omega)]; exact hc 7 _ rfl, by rw [← add_field _ _ 8 (by omega)]; exact hc 8 _ rfl, by rw [← add_field _ _ 9 (by omega)]; exact hc 9 _ rfl⟩

theorem V_hq {α : Type} {d : Kd α} {e base m : Nat} {ok : Nat → Prop} {w w' : World} {v : Value} {xs : List α} (hq : w.drewN m = w') (h : Kd.V d e w base ok v xs) : Kd.V d e w' base ok v xs := by subst hq; exact Kd.V_drewN h m
theorem V_string {P : Program} {w : World} {base : Nat} {e1 src dst e : TypeId} {ok : Nat → Prop} {v : Value} {xs : List Int} (hs : P.underlying src = some (.slice e)) (he : P.underlying e = some (.int .u8)) (hd : P.underlying dst = some .string) (h : Kd.V (Kd.int .u8) e1 w base ok v xs) : (convert src dst v).run P w = .ok (.string (strOfNums xs)) w := by
  obtain ⟨A, c, rfl, _, hf⟩ := h
  exact Kd.C_string hs he hd (Kd.F_now hf)
theorem w8_mod (n : Int) : IntKind.u8.wrap n = n % 256 := by simp [IntKind.wrap, IntKind.bits, IntKind.signed]
theorem w16_mod (n : Int) : IntKind.u16.wrap n = n % 65536 := by simp [IntKind.wrap, IntKind.bits, IntKind.signed]
theorem w32_mod (n : Int) : IntKind.u32.wrap n = n % 4294967296 := by simp [IntKind.wrap, IntKind.bits, IntKind.signed]
end Go.Proofs.Ytbdgjcmljjfomaa.Mat
