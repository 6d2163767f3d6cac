-- Contracts by hand for what the printer does not walk: slices.Clip, Grow (of nil), Clone, OnesCount8's table; copy into a row of one's own.
import Derived.Test.YtofjgdbiieanjaaProg
import Derived.Shelf.SlicesE.Clone
import Derived.Ground.SlgnProg
import Derived.Lib.SliceRun
import Derived.Laws.CopyOwn
import Derived.Deep.RegionHeld3
import Derived.Test.YtofjgdbiieanjaaV
namespace Go.Proofs
open Go.Shelf
shelf_lay_g SlLaysE0.n41 Slgn 41 at Try 78 as Try.cloneL
end Go.Proofs
namespace Go.Proofs.Ytofjgdbiieanjaa.Ext
open Go.RowKit Go.Proofs.YtofjgdbiieanjaaW.PrintWords Go.Proofs.YtofjgdbiieanjaaW.PrintLast Go.Proofs.YtofjgdbiieanjaaW.PrintMore
set_option linter.unusedVariables false

/-- A world that is another one but for new blocks and orders drawn, told by its form. -/
class Mv (w : outParam World) (w' : World) : Prop where
  out : Below w.heap.size w w'
instance (w : World) (o : Obj) : Mv w (w.alloc o) := ⟨below_alloc (Below.refl _ _) o⟩
instance (w : World) : Mv w w.drew := ⟨below_drew (Below.refl _ _)⟩
instance (w : World) (m : Nat) : Mv w (w.drewN m) := ⟨pw_below_drewN (Below.refl _ _) m⟩
theorem bindY {α β : Type} {x y : α} {f : α → Option β} {r : Option β} (h : y = x) (H : (some x).bind f = r) : f y = r := by
  subst h
  exact H
/-- Flags, told by a number. -/
def fl (n m : Nat) : Array Bool := ((List.range n).map fun i => m.testBit i).toArray
theorem aS {p : Prop} (h : p) : Aside0 p := ⟨h⟩
section
variable {α : Type} (l : List α) (i : Nat) (a b : α)
theorem q1_ : l.toArray.setIfInBounds i a = (l.set i a).toArray := List.setIfInBounds_toArray ..
theorem q2_ : (a :: l).set 0 b = b :: l := List.set_cons_zero
theorem q3_ : (a :: l).set (i + 1) b = a :: l.set i b := List.set_cons_succ
end
/-- As Mv, over any number of steps. -/
class Mvs (w : outParam World) (w' : World) : Prop where
  out : Below w.heap.size w w'
instance (priority := 10) (w : World) : Mvs w w := ⟨Below.refl _ _⟩
instance (w w' : World) [i : Mvs w w'] (o : Obj) : Mvs w (w'.alloc o) := ⟨below_alloc i.out o⟩
instance (w w' : World) [i : Mvs w w'] : Mvs w w'.drew := ⟨below_drew i.out⟩
instance (w w' : World) [i : Mvs w w'] (m : Nat) : Mvs w (w'.drewN m) := ⟨pw_below_drewN i.out m⟩
section
variable {α : Type} {d : Kd α} {e base g : Nat} {ok : Nat → Prop} {w W w' : World} {v : Value} {xs : List α} {o : Obj}
theorem tR [i : Mvs w w'] (h : Kd.R d e w base ok v xs) : Kd.R d e w' base ok v xs := Kd.R_below h i.out
theorem tV [i : Mvs w w'] (h : Kd.V d e w base ok v xs) : Kd.V d e w' base ok v xs := Kd.V_below h i.out
theorem tB [i : Mvs W w'] (h : Below w.heap.size w W) : Below w.heap.size w w' := below_step h i.out
theorem tk [i : Mvs w w'] (h : w.heap[g]? = some o) : w'.heap[g]? = some o := blk_below h i.out
end
section
variable {α : Type} {d : Kd α} {e base g : Nat} {ok : Nat → Prop} {w W w' : World} {v : Value} {xs : List α} {o : Obj}
theorem mR [i : Mv w w'] (h : Kd.R d e w base ok v xs) : Kd.R d e w' base ok v xs := Kd.R_below h i.out
theorem mV [i : Mv w w'] (h : Kd.V d e w base ok v xs) : Kd.V d e w' base ok v xs := Kd.V_below h i.out
theorem mB [i : Mv W w'] (h : Below w.heap.size w W) : Below w.heap.size w w' := below_step h i.out
theorem mk_ [i : Mv w w'] (h : w.heap[g]? = some o) : w'.heap[g]? = some o := blk_below h i.out
end

theorem grownBy_setRow (w : World) (g : Nat) (cs : Array Value) : w.grownBy (w.setRow g cs) (some g) :=
  ⟨rfl, rfl, rfl, by simp [World.setRow], fun k _ hk => setRow_other w g k cs (fun h => hk (by rw [h]))⟩

/-- A row of bytes into which others were copied. -/
theorem copied {base : Nat} {ok : Nat → Prop} {w0 W : World} {A0 : Option Addr} {c0 n0 : Nat} {xs ys : List Int} (k : Nat)
    (HO : Kd.R (Kd.int .u8) 5 W base ok (.slice A0 n0 c0) xs) (hfit : ys.length + k ≤ xs.length) (hpos : 0 < ys.length) :
    ∃ g cur, A0 = some ⟨g, 0, none⟩ ∧ base ≤ g ∧ k < c0 ∧ W.heap[g]? = some (.cells cur 5 (0, 0)) ∧ k + (nums .u8 ys).length ≤ cur.size ∧
      Kd.R (Kd.int .u8) 5 (W.setRow g (cur.toList.take k ++ (nums .u8 ys ++ cur.toList.drop (k + (nums .u8 ys).length))).toArray) base ok (.slice A0 n0 c0) (splice xs k ys) := by
  have hn : n0 = xs.length := (Kd.R_reads' HO).1
  have hok := HO.1
  obtain ⟨hl, h⟩ := Kd.own_of_R HO
  rcases h with ⟨h, h0⟩ | ⟨g, cap, cur, h, hb, hg, hnc, hmx, hsz, hcur⟩
  · omega
  · injection h with h1 h2 h3
    subst h1; subst h3
    have hln : (nums .u8 ys).length = ys.length := by simp [nums]
    have hcl : cur.toList.length = c0 := by simpa using hsz
    refine ⟨g, cur, rfl, hb, by omega, hg, by rw [hln]; omega, ?_⟩
    have hs : (splice xs k ys).length = xs.length := length_splice xs k ys (by omega)
    refine Kd.R_of_own ⟨by simp [encs, hs], .inr ⟨g, c0, (cur.toList.take k ++ (nums .u8 ys ++ cur.toList.drop (k + (nums .u8 ys).length))).toArray, ?_, hb, setRow_heap W g _ _ 5 _ hg, by omega, hmx, ?_, ?_⟩⟩ hok
    · rw [hn, hs]
    · simp [hln]; omega
    · rw [hs, Nat.mul_one]
      have he : encs (Value.int .u8) (splice xs k ys) = (encs (Value.int .u8) xs).take k ++ (nums .u8 ys ++ (encs (Value.int .u8) xs).drop (k + (nums .u8 ys).length)) := by
        simp [splice, encs, nums]
      rw [he, ← hcur, Nat.mul_one]
      have e1 : ∀ L : List Value, L.length = c0 → (L.take k ++ (nums .u8 ys ++ L.drop (k + (nums .u8 ys).length))).take xs.length = (L.take xs.length).take k ++ (nums .u8 ys ++ (L.take xs.length).drop (k + (nums .u8 ys).length)) := by
        intro L hL
        rw [hln]
        generalize nums .u8 ys = Y at hln
        have hm1 : min k L.length = k := by omega
        have hm2 : min k (min xs.length L.length) = k := by omega
        apply List.ext_getElem?
        intro j
        simp only [List.getElem?_append, List.getElem?_take, List.getElem?_drop, List.length_take, hm1, hm2, hln]
        by_cases hj : j < k
        · have h2 : j < xs.length := by omega
          simp only [hj, h2, if_true]
        · by_cases hj2 : j - k < ys.length
          · have h2 : j < xs.length := by omega
            simp only [hj, h2, hj2, if_true, if_false]
          · have h3 : k + ys.length + (j - k - ys.length) = j := by omega
            simp only [hj, hj2, if_false, h3]
      exact e1 cur.toList hcl

section
variable {P : Program} {ops : Array Oper} {rest : List Oper} {o : Oper} {a : Act} {Q : Exit → Act → World → Prop} {Kc : Act → World → Prop}

theorem copy_run {w0 W : World} {base : Nat} {ok : Nat → Prop} {T ty : TypeId} (ht : P.underlying T = some (.slice 5)) (hinfo : (P.info? 5).map (fun i => (i.zero, i.size, i.bytes)) = some (some (.int .u8 0), 1, 1))
    (k : Nat) (A0 Aq B : Option Addr) (n0 c0 m cq n cb : Nat) (xs ys : List Int)
    (hA : Aq = if c0 = k then A0 else A0.map (·.add (k * 1))) (hm : m = xs.length - k) (hk : ys.length + k ≤ xs.length)
    (HO : Kd.R (Kd.int .u8) 5 W base ok (.slice A0 n0 c0) xs) (HR : Kd.C (Kd.int .u8) W B n ys) (HB : Below base w0 W) :
    ∃ w1, (Builtin.copy_ #[T, T] ty #[.slice Aq m cq, .slice B n cb]).run P W = .ok (goInt ys.length) w1 ∧ Kd.R (Kd.int .u8) 5 w1 base ok (.slice A0 n0 c0) (splice xs k ys) ∧ Below base w0 w1 ∧ W.grownBy w1 (Value.slice A0 n0 c0).ownBlock := by
  obtain ⟨i0, hi, hz⟩ := Option.map_eq_some_iff.1 hinfo
  simp only [Prod.mk.injEq] at hz
  have hsz : (P.info? 5).map (·.size) = some 1 := by rw [hi]; simp [hz.2.1]
  have hR : ReadsOf (Value.int .u8) 0 W B n ys := Kd.reads_of_C HR
  have hny : ys.length = n := hR.1
  rcases Nat.eq_zero_or_pos ys.length with h0 | h0
  · have hrun := run_copy_none (P := P) W T T ty 5 Aq B m cq n cb ht hsz (by rw [← hny, h0]; exact Nat.zero_min _)
    refine ⟨W, by rw [h0]; exact hrun, ?_, HB, World.grownBy.refl W _⟩
    obtain rfl := List.eq_nil_of_length_eq_zero h0
    simpa [splice] using HO
  · obtain ⟨g, cur, rfl, hb, hlt, hg, hfit, hR1⟩ := copied (w0 := w0) k HO hk h0
    obtain ⟨ad, rfl, hc⟩ := hR.2.2 (by omega)
    rw [if_neg (by omega)] at hA
    have hAq : Aq = some ⟨g, k, none⟩ := by rw [hA]; simp [Addr.add]; omega
    subst hAq
    have hrun := run_copy_row (P := P) W T T ty 5 g k m cq ad n cb cur 5 (nums .u8 ys) ht hsz hg (by simp only [nums, List.length_map]; have : Nat.min n m = n := Nat.min_eq_left (by omega); rw [this]; exact hny)
      (fun j v hj => by
        have hjl : j < ys.length := by
          have := (List.getElem?_eq_some_iff.1 hj).1
          simpa [nums] using this
        have := hc j (by omega)
        rw [this]
        rw [nums, List.getElem?_map, List.getElem?_eq_getElem hjl] at hj
        simp only [Option.map_some, Option.some.injEq] at hj
        rw [← hj, List.getD_eq_getElem?_getD, List.getElem?_eq_getElem hjl]
        rfl) hfit (by intro v hv; simp only [nums, List.mem_map] at hv; obtain ⟨x, _, rfl⟩ := hv; rfl)
    have hl : ((nums .u8 ys).length : Int) = (ys.length : Int) := by simp [nums]
    refine ⟨_, by rw [hrun]; simp only [List.append_assoc]; rw [show (nums .u8 ys).length = ys.length by simp [nums]], ?_, ?_, ?_⟩
    · have : (nums .u8 ys).length = ys.length := by simp [nums]
      rw [this] at hR1
      exact hR1
    · exact below_setRow HB hb _
    · exact grownBy_setRow W g _

theorem R_copy {w0 W : World} (base : Nat) (hgd : o.guard = none) (d s : Operand) (T : TypeId)
    (ho : o.op = .call { callee := .builtin .copy, args := #[d, s], argTypes := #[T, T] })
    (ht : P.underlying T = some (.slice 5)) (hinfo : (P.info? 5).map (fun i => (i.zero, i.size, i.bytes)) = some (some (.int .u8 0), 1, 1))
    (k : Nat) (A0 Aq B : Option Addr) (n0 c0 m cq n cb : Nat) (xs ys : List Int) (ok : Nat → Prop)
    (hd : a.eval d = .slice Aq m cq) (hs : a.eval s = .slice B n cb)
    (hA : Aq = if c0 = k then A0 else A0.map (·.add (k * 1))) (hm : m = xs.length - k) (hk : ys.length + k ≤ xs.length)
    (HO : Kd.R (Kd.int .u8) 5 W base ok (.slice A0 n0 c0) xs) (HR : Kd.C (Kd.int .u8) W B n ys) (HB : Below base w0 W)
    (h : ∀ w1, Kd.R (Kd.int .u8) 5 w1 base ok (.slice A0 n0 c0) (splice xs k ys) → Below base w0 w1 → W.grownBy w1 (Value.slice A0 n0 c0).ownBlock → ((Value.slice A0 n0 c0).ownBlock = (Value.slice A0 n0 c0).ownBlock ∨ ∃ b, (Value.slice A0 n0 c0).ownBlock = some b ∧ W.heap.size ≤ b) → wpList P ops Q rest (a.put o.dst (.int .i64 ys.length)) w1) :
    wpList P ops Q (o :: rest) a W := by
  obtain ⟨w1, hrun, h1, h2, h3⟩ := copy_run (P := P) (T := T) (ty := o.type) (w0 := w0) ht hinfo k A0 Aq B n0 c0 m cq n cb xs ys hA hm hk HO HR HB
  refine wpList_plain hgd fun K hK => ?_
  unfold Oper.wp
  simp [execOp, ho, resolve, invoke, builtin, hd, hs, hrun, Result.andThen]
  exact hK _ _ (h w1 h1 h2 h3 (.inl rfl))

theorem R_copy_step {w0 W : World} (base : Nat) (hw : Region.wanted o (yielded ops a.tmps) = true) (d s : Operand) (T : TypeId)
    (ho : o.op = .call { callee := .builtin .copy, args := #[d, s], argTypes := #[T, T] })
    (ht : P.underlying T = some (.slice 5)) (hinfo : (P.info? 5).map (fun i => (i.zero, i.size, i.bytes)) = some (some (.int .u8 0), 1, 1))
    (k : Nat) (A0 Aq B : Option Addr) (n0 c0 m cq n cb : Nat) (xs ys : List Int) (ok : Nat → Prop)
    (hd : a.eval d = .slice Aq m cq) (hs : a.eval s = .slice B n cb)
    (hA : Aq = if c0 = k then A0 else A0.map (·.add (k * 1))) (hm : m = xs.length - k) (hk : ys.length + k ≤ xs.length)
    (HO : Kd.R (Kd.int .u8) 5 W base ok (.slice A0 n0 c0) xs) (HR : Kd.C (Kd.int .u8) W B n ys) (HB : Below base w0 W)
    (h : ∀ w1, Kd.R (Kd.int .u8) 5 w1 base ok (.slice A0 n0 c0) (splice xs k ys) → Below base w0 w1 → W.grownBy w1 (Value.slice A0 n0 c0).ownBlock → ((Value.slice A0 n0 c0).ownBlock = (Value.slice A0 n0 c0).ownBlock ∨ ∃ b, (Value.slice A0 n0 c0).ownBlock = some b ∧ W.heap.size ≤ b) → Kc (a.put o.dst (.int .i64 ys.length)) w1) :
    if Region.wanted o (yielded ops a.tmps) = true then Oper.wp P o a W Kc Q else Kc (a.put o.dst undef) W := by
  obtain ⟨w1, hrun, h1, h2, h3⟩ := copy_run (P := P) (T := T) (ty := o.type) (w0 := w0) ht hinfo k A0 Aq B n0 c0 m cq n cb xs ys hA hm hk HO HR HB
  rw [if_pos hw]
  unfold Oper.wp
  simp [execOp, ho, resolve, invoke, builtin, hd, hs, hrun, Result.andThen]
  exact h w1 h1 h2 h3 (.inl rfl)
end

theorem ext_info5 : (Try.prog.info? 5).map (fun i => (i.zero, i.size, i.bytes)) = some (some (.int .u8 0), 1, 1) := by kernel_rfl

def slices_Clip.f (l0 : List Int) : Option (List Int) := some l0
theorem slices_Clip.calls (P0_ : Nat → Prop) (A0 : Option Addr) (c0 : Nat) (l0 : List Int) (r : List Int) (w : World) (hs0 : Kd.V (Kd.int .u8) 5 w w.heap.size (fun k_ => P0_ k_) (.slice A0 l0.length c0) l0) (h : slices_Clip.f l0 = some r) :
    Calls Try.prog 70 #[.slice A0 l0.length c0] w fun e w' => ∃ v0_ : Value, e = .returned (v0_) ∧ Kd.V (Kd.int .u8) 5 w' w.heap.size (fun k_ => (P0_ k_ ∨ w.heap.size ≤ k_)) v0_ r ∧ Below w.heap.size w w' := by
  obtain rfl : l0 = r := Option.some.inj h
  have HV := Aside0.mk hs0
  have hlc : l0.length ≤ c0 := (Kd.V_reads' hs0).2.1
  have hmx : l0.length ≤ 9223372036854775807 := Kd.F_max (Kd.V_at hs0).2.2
  clear hs0 h
  obtain ⟨i05, hi05, _, hsz5, _⟩ := info_parts ext_info5
  go_enter Try.func70, Try.ntmps70
  go_wp2
  go_ret
  refine ⟨_, rfl, ?_, Below.refl _ _⟩
  show Kd.V (Kd.int .u8) 5 w w.heap.size _ (.slice A0 l0.length l0.length) l0
  exact Kd.V_mk (Nat.le_refl _) (Kd.F_mono (Kd.V_at HV.out).2.2 (fun k hk => .inl hk))

def slices_Clone.f (l0 : List Int) : Option (List Int) := if l0.length < 140737488355328 then some l0 else none
theorem slices_Clone.calls (A0 : Option Addr) (c0 : Nat) (l0 : List Int) (r : List Int) (w : World) (hr0 : Kd.C (Kd.int .u8) w A0 l0.length l0) (hc0 : l0.length ≤ c0) (h : slices_Clone.f l0 = some r) :
    Calls Try.prog 78 #[.slice A0 l0.length c0] w fun e w' => ∃ v0_ : Value, e = .returned (v0_) ∧ Kd.R (Kd.int .u8) 5 w' w.heap.size (fun _ => True) v0_ r ∧ Below w.heap.size w w' := by
  unfold slices_Clone.f at h
  split at h
  case isFalse => cases h
  case isTrue hlt =>
  obtain rfl : l0 = r := Option.some.inj h
  clear h
  obtain ⟨i05, hi05, hz5, hsz5, hb5⟩ := info_parts ext_info5
  rcases A0 with _ | ⟨b, off, mp⟩
  · have h0 : l0.length = 0 := by
      rcases Nat.eq_zero_or_pos l0.length with h0 | h0
      · exact h0
      · obtain ⟨ad, h, _⟩ := hr0.2.2 h0
        cases h
    obtain rfl := List.eq_nil_of_length_eq_zero h0
    have c := AnyE.slices_Clone_nil Try.cloneL 0 c0 w
    change Calls Try.prog 78 _ _ _ at c
    refine c.mono ?_
    rintro e w' ⟨rfl, rfl⟩
    exact ⟨_, rfl, Kd.R_nil _ _ _ _ _, Below.refl _ _⟩
  · have q22 : ∀ (w : World) (a : Option Addr) (n c n' c' : Nat), (binOp .eql 22 (.slice a n c) (.slice none n' c')).run Try.prog w = .ok (.bool a.isNone) w := fun w a n c n' c' => Lib.run_eql_slice_nil w _ _ a n c n' c' Try.underlying22
    have HR0 := Aside0.mk hr0
    clear hr0 hi05 hz5 hsz5 hb5
    go_enter Try.func78, Try.ntmps78
    go_wp2_with (at_builtin; refine Kd.R_append_rows (Kd.int .u8) (w0 := w) w.heap.size rfl (.tmp 5) (.tmp 6) 22 5 (.int .u8 0) 1 rfl Try.underlying22 ext_info5 rfl (by decide) (by omega) (.slice (some ⟨w.heap.size, 0, none⟩) 0 0) [] l0 (some ⟨b, off, mp⟩) l0.length c0 (fun _ => True) (fun _ => False) rfl rfl ?aO ?aR (fun _ _ h => h) (fun _ h => h.elim) (fun _ _ => trivial) ?aB ?aS ?aL ?_)
    case aO => exact Kd.R_of_own ⟨rfl, .inr ⟨w.heap.size, 0, #[], rfl, Nat.le_refl _, heap_alloc_new w _, Nat.le_refl _, Nat.zero_le _, rfl, rfl⟩⟩ (fun _ _ => trivial)
    case aR => exact Kd.C_below HR0.out (below_alloc (Below.refl _ _) _)
    case aB => exact below_alloc (Below.refl _ _) _
    case aS => simp
    case aL => simp; omega
    intro v1 w1 hR hB hg hat
    have hR2 := Aside0.mk hR
    have hB2 := Aside0.mk hB
    clear hR hB hg hat
    go_wp2
    go_ret
    exact ⟨_, rfl, hR2.out, hB2.out⟩

def slices_Grow.f (a1 : Int) : Option (List Int) := if 0 ≤ a1 ∧ a1 < 140737488355328 then some [] else none
theorem slices_Grow.calls (a1 : Int) (r : List Int) (w : World) (h : slices_Grow.f a1 = some r) :
    Calls Try.prog 83 #[.slice none 0 0, .int .i64 a1] w fun e w' => ∃ v0_ : Value, e = .returned (v0_) ∧ Kd.R (Kd.int .u8) 5 w' w.heap.size (fun _ => True) v0_ r ∧ Below w.heap.size w w' := by
  unfold slices_Grow.f at h
  split at h
  case isFalse => cases h
  case isTrue hc =>
  obtain ⟨h0, h1⟩ := hc
  obtain rfl : [] = r := Option.some.inj h
  clear h
  have e1 : wrap64 (a1 - 0) = a1 := by unfold wrap64; omega
  have e2 : wrap64 ((0 : Int) - 0) = 0 := by unfold wrap64; omega
  have g0 : ¬ a1 < 0 := by omega
  by_cases hp : a1 > 0
  · go_enter Try.func83, Try.ntmps83
    go_wp2_with (at_builtin; refine Kd.R_append_zeros (Kd.int .u8) (w0 := w) w.heap.size rfl (.tmp 20) (.tmp 21) 22 3 5 (.int .u8 0) 1 rfl Try.underlying22 Try.underlying3 ext_info5 rfl (by decide) (by omega) (.slice none 0 0) [] 0 a1 (fun _ => True) rfl rfl rfl (fun _ _ => trivial) (Kd.R_nil _ _ _ _ _) h0 (Below.refl _ _) (Nat.le_refl _) (by simp; omega) ?_)
    intro v1 w1 hR hB hg hat
    obtain ⟨A1, c1, rfl⟩ := Kd.R_slice hR
    obtain ⟨i05, hi05, _, hsz5, _⟩ := info_parts ext_info5
    have hl : (List.replicate a1.toNat (0 : Int)).length = a1.toNat := List.length_replicate
    rw [hl]
    have hroom : (List.replicate a1.toNat (0 : Int)).length ≤ c1 := (Kd.R_reads' hR).2.1
    have hcut := cut_to (P := Try.prog) 22 5 .i64 Try.underlying22 hi05 A1 a1.toNat c1 0 (by omega) (by omega) (by rw [← hl]; exact hroom)
    have hR2 := Aside0.mk (Kd.R_take (m := 0) hR (by omega))
    have hB2 := Aside0.mk hB
    clear hR hB hg hat hroom
    go_wp2
    go_ret
    exact ⟨_, rfl, by simpa using hR2.out, hB2.out⟩
  · obtain rfl : a1 = 0 := by omega
    go_enter Try.func83, Try.ntmps83
    go_wp2
    go_ret
    exact ⟨_, rfl, Kd.R_nil _ _ _ _ _, Below.refl _ _⟩

def ones8 (a : Int) : Int := a % 2 + a / 2 % 2 + a / 4 % 2 + a / 8 % 2 + a / 16 % 2 + a / 32 % 2 + a / 64 % 2 + a / 128 % 2
/-- bits.OnesCount8's table. -/
def tab8 : ByteArray :=
  { data := (([0, 1, 1, 2, 1, 2, 2, 3, 1, 2, 2, 3, 2, 3, 3, 4, 1, 2, 2, 3, 2, 3, 3, 4, 2, 3, 3, 4, 3, 4, 4, 5, 1, 2, 2, 3, 2, 3, 3, 4, 2, 3, 3, 4, 3, 4, 4, 5, 2, 3, 3, 4, 3, 4, 4, 5, 3, 4, 4, 5, 4, 5, 5, 6].append [1, 2, 2, 3, 2, 3, 3, 4, 2, 3, 3, 4, 3, 4, 4, 5, 2, 3, 3, 4, 3, 4, 4, 5, 3, 4, 4, 5, 4, 5, 5, 6, 2, 3, 3, 4, 3, 4, 4, 5, 3, 4, 4, 5, 4, 5, 5, 6, 3, 4, 4, 5, 4, 5, 5, 6, 4, 5, 5, 6, 5, 6, 6, 7]).append ([1, 2, 2, 3, 2, 3, 3, 4, 2, 3, 3, 4, 3, 4, 4, 5, 2, 3, 3, 4, 3, 4, 4, 5, 3, 4, 4, 5, 4, 5, 5, 6, 2, 3, 3, 4, 3, 4, 4, 5, 3, 4, 4, 5, 4, 5, 5, 6, 3, 4, 4, 5, 4, 5, 5, 6, 4, 5, 5, 6, 5, 6, 6, 7].append [2, 3, 3, 4, 3, 4, 4, 5, 3, 4, 4, 5, 4, 5, 5, 6, 3, 4, 4, 5, 4, 5, 5, 6, 4, 5, 5, 6, 5, 6, 6, 7, 3, 4, 4, 5, 4, 5, 5, 6, 4, 5, 5, 6, 5, 6, 6, 7, 4, 5, 5, 6, 5, 6, 6, 7, 5, 6, 6, 7, 6, 7, 7, 8])).toArray }
/-- bits.OnesCount8, its table by a name. -/
def f72' : Go.Func :=
{ name := "math/bits.OnesCount8", origin := "", params := #[5], resultTypes := #[3], nfree := 0, ntmps := 6,
  results := #[Go.ResultVar.tmp 2],
  body :=
    some
      ((Go.Code.region 0
            #[{ dst := some 2, op := Go.Op.assign (Go.Operand.const (Go.Value.int Go.IntKind.i64 0)), type := 3,
                pos := "bits.go:125", after := #[], guard := none }]
            false).seq
        ((Go.Code.region 1
              #[{ dst := some 3, op := Go.Op.move (Go.Operand.tmp 0), type := 5, pos := "bits.go:126", after := #[],
                  guard := none },
                { dst := some 4,
                  op :=
                    Go.Op.index 9
                      (Go.Operand.const
                        (Go.Value.string
                          tab8))
                      (Go.Operand.tmp 3),
                  type := 5, pos := "bits.go:126", after := #[{ on := 0, ground := Go.Ground.data }], guard := none },
                { dst := some 5, op := Go.Op.convert 5 3 (Go.Operand.tmp 4), type := 3, pos := "bits.go:126",
                  after := #[{ on := 1, ground := Go.Ground.data }], guard := none },
                { dst := some 2, op := Go.Op.assign (Go.Operand.tmp 5), type := 3, pos := "bits.go:126",
                  after :=
                    #[{ on := 2, ground := Go.Ground.data }, { on := 0, ground := Go.Ground.phase },
                      { on := 1, ground := Go.Ground.phase }, { on := 2, ground := Go.Ground.phase }],
                  guard := none }]
              false).seq
          Go.Code.ret)),
  norace := false, file := "math/bits/bits.go", endLine := 127, tmpNames := #["x", "x", "", "", "", ""] }
theorem func72' : Try.prog.funcs[72]? = some f72' := Try.func72
theorem ntmps72' : f72'.ntmps = 6 := rfl
theorem tab8_size : tab8.size = 256 := by kernel_rfl
theorem tab8_all : ((List.range 256).all fun n => bt tab8 (n : Int) == ones8 (n : Int)) = true := by kernel_rfl
theorem tab8_at (a : Int) (h0 : 0 ≤ a) (h1 : a < 256) : bt tab8 a = ones8 a := by
  have h := List.all_eq_true.1 tab8_all a.toNat (by simp; omega)
  rw [show ((a.toNat : Nat) : Int) = a by omega] at h
  exact eq_of_beq h
theorem ones8_range (a : Int) : 0 ≤ ones8 a ∧ ones8 a ≤ 8 := by unfold ones8; omega
attribute [irreducible] tab8
def bits_OnesCount8.f (a0 : Int) : Option Int := if 0 ≤ a0 ∧ a0 < 256 then some (ones8 a0) else none
theorem bits_OnesCount8.calls (a0 : Int) (r : Int) (w : World) (h : bits_OnesCount8.f a0 = some r) :
    Calls Try.prog 72 #[.int .u8 a0] w fun e w' => e = .returned (.int .i64 r) ∧ Drawn0 w w' := by
  unfold bits_OnesCount8.f at h
  split at h
  case isFalse => cases h
  case isTrue hc =>
  obtain rfl : ones8 a0 = r := Option.some.inj h
  obtain ⟨h0, h1⟩ := hc
  clear h
  have hx : ∀ h : a0.toNat < tab8.size, ((tab8[a0.toNat]'h).toNat : Int) = ones8 a0 := fun h => (bt_at tab8 a0 h).trans (tab8_at a0 h0 h1)
  have hs := tab8_size
  have hr := ones8_range a0
  have hw : wrap64 (ones8 a0) = ones8 a0 := by unfold wrap64; omega
  generalize ones8 a0 = R at hx hr hw
  replace h0 := eq_true h0
  replace h1 := eq_true h1
  go_enter func72', ntmps72'
  go_wp2
  go_ret
  exact ⟨by first | rfl | (simp; done) | (simp [*]; done), by repeat (first | exact Drawn0.refl _ | apply Drawn0.step)⟩

/-- Do flags go together? By counting. -/
def refSane (a : Int) : Bool := decide (a % 2 + a / 2 % 2 + a / 4 % 2 < 2) && (decide (a / 2 % 2 = 1) || decide (a / 4 % 2 = 1) || decide (a / 16 % 2 = 1))
def mantletref05_Sane.f (a0 : Int) : Option Bool := if 0 ≤ a0 ∧ a0 < 256 then some (refSane a0) else none
set_option maxHeartbeats 4000000 in
theorem mantletref05_Sane.calls (a0 : Int) (r : Bool) (w : World) (h : mantletref05_Sane.f a0 = some r) :
    Calls Try.prog 37 #[.int .u8 a0] w fun e w' => e = .returned (.bool r) ∧ Drawn0 w w' := by
  unfold mantletref05_Sane.f at h
  split at h
  case isFalse => cases h
  case isTrue hc =>
  obtain rfl : refSane a0 = r := Option.some.inj h
  obtain ⟨h0, h1⟩ := hc
  clear h
  have t1 : Int.tmod a0 2 = a0 % 2 := Int.tmod_eq_emod_of_nonneg h0
  have t2 : Int.tdiv a0 2 = a0 / 2 := Int.tdiv_eq_ediv_of_nonneg h0
  have t4 : Int.tdiv a0 4 = a0 / 4 := Int.tdiv_eq_ediv_of_nonneg h0
  have t16 : Int.tdiv a0 16 = a0 / 16 := Int.tdiv_eq_ediv_of_nonneg h0
  have e2 : (a0 / 2) % 256 = a0 / 2 := by omega
  have e4 : (a0 / 4) % 256 = a0 / 4 := by omega
  have e16 : (a0 / 16) % 256 = a0 / 16 := by omega
  have m2 : Int.tmod (a0 / 2) 2 = a0 / 2 % 2 := Int.tmod_eq_emod_of_nonneg (by omega)
  have m4 : Int.tmod (a0 / 4) 2 = a0 / 4 % 2 := Int.tmod_eq_emod_of_nonneg (by omega)
  have m16 : Int.tmod (a0 / 16) 2 = a0 / 16 % 2 := Int.tmod_eq_emod_of_nonneg (by omega)
  have b1 : a0 % 2 = 0 ∨ a0 % 2 = 1 := by omega
  have b2 : a0 / 2 % 2 = 0 ∨ a0 / 2 % 2 = 1 := by omega
  have b4 : a0 / 4 % 2 = 0 ∨ a0 / 4 % 2 = 1 := by omega
  have b16 : a0 / 16 % 2 = 0 ∨ a0 / 16 % 2 = 1 := by omega
  unfold refSane
  generalize a0 / 2 = q2 at *
  generalize a0 / 4 = q4 at *
  generalize a0 / 16 = q16 at *
  generalize a0 % 2 = p at *
  generalize q2 % 2 = x2 at *
  generalize q4 % 2 = x4 at *
  generalize q16 % 2 = x16 at *
  clear h0 h1
  rcases b1 with rfl | rfl <;> rcases b2 with rfl | rfl <;> rcases b4 with rfl | rfl <;> rcases b16 with rfl | rfl <;>
    (go_enter Try.func37, Try.ntmps37
     go_wp2
     go_ret
     exact ⟨by first | rfl | (simp; done) | (simp [*]; done), by repeat (first | exact Drawn0.refl _ | apply Drawn0.step)⟩)
end Go.Proofs.Ytofjgdbiieanjaa.Ext
