-- A row of bytes of the call's own, its capacity cut to its length (what slices.Clip hands back): K; and Clip's contract for it.
import Derived.ArgAppend
import Derived.Test.YtofjgdbiieanjaaExt
namespace Go.Proofs.Ytofjgdbiieanjaa.Ext
open Go.RowKit Go.Proofs.YtofjgdbiieanjaaW.PrintWords Go.Proofs.YtofjgdbiieanjaaW.PrintLast Go.Proofs.YtofjgdbiieanjaaW.PrintMore
set_option linter.unusedVariables false
/-- A row of the call's own under a slice whose capacity is its length. -/
def Kd.K {α : Type} (d : Kd α) (e : Nat) (w : World) (base : Nat) (ok : Nat → Prop) (v : Value) (xs : List α) : Prop := ∃ A cap, v = .slice A xs.length xs.length ∧ Kd.R d e w base ok (.slice A xs.length cap) xs
section
variable {α : Type} {d : Kd α} {e : Nat} {w w1 : World} {base base' : Nat} {ok ok' : Nat → Prop} {v : Value} {xs : List α}
theorem Kd.K_map (h : Kd.K d e w base ok v xs) (hm : ∀ v, Kd.R d e w base ok v xs → Kd.R d e w1 base' ok' v xs) : Kd.K d e w1 base' ok' v xs := by
  obtain ⟨A, cap, rfl, h⟩ := h
  exact ⟨A, cap, rfl, hm _ h⟩
theorem Kd.K_nil (d : Kd α) (e : Nat) (w : World) (base : Nat) (ok : Nat → Prop) : Kd.K d e w base ok (.slice none 0 0) [] := ⟨none, 0, rfl, Kd.R_nil _ _ _ _ _⟩
theorem Kd.K_mono (h : Kd.K d e w base ok v xs) (hok : ∀ k, ok k → ok' k) : Kd.K d e w base ok' v xs := Kd.K_map h fun _ h => Kd.R_mono h hok
theorem Kd.K_lower (h : Kd.K d e w base ok v xs) (hb : base' ≤ base) : Kd.K d e w base' ok v xs := Kd.K_map h fun _ h => Kd.R_lower h hb
theorem Kd.K_below (h : Kd.K d e w base ok v xs) (hb : Below w.heap.size w w1) : Kd.K d e w1 base ok v xs := Kd.K_map h fun _ h => Kd.R_below h hb
theorem Kd.K_alloc (h : Kd.K d e w base ok v xs) (o : Obj) : Kd.K d e (w.alloc o) base ok v xs := Kd.K_map h fun _ h => Kd.R_alloc h o
theorem Kd.K_drew (h : Kd.K d e w base ok v xs) : Kd.K d e w.drew base ok v xs := Kd.K_map h fun _ h => Kd.R_drew h
theorem tK {w' : World} [i : Mvs w w'] (h : Kd.K d e w base ok v xs) : Kd.K d e w' base ok v xs := Kd.K_below h i.out
theorem mK {w' : World} [i : Mv w w'] (h : Kd.K d e w base ok v xs) : Kd.K d e w' base ok v xs := Kd.K_below h i.out
theorem Kd.K_drewN (h : Kd.K d e w base ok v xs) (m : Nat) : Kd.K d e (w.drewN m) base ok v xs := Kd.K_map h fun _ h => Kd.R_drewN h m
theorem Kd.K_base (h : Kd.K d e w base ok v xs) : ∀ k, v.ownBlock = some k → base ≤ k := by
  obtain ⟨A, cap, rfl, h⟩ := h
  intro k hk
  cases A with
  | none => simp [Value.ownBlock] at hk
  | some x => exact Kd.R_base h k (by simpa [Value.ownBlock] using hk)
theorem Kd.K_slice (h : Kd.K d e w base ok v xs) : ∃ A c, v = .slice A xs.length c := by
  obtain ⟨A, cap, rfl, _⟩ := h
  exact ⟨A, _, rfl⟩
theorem Kd.K_reads' {A : Option Addr} {n c : Nat} (h : Kd.K d e w base ok (.slice A n c) xs) : n = xs.length ∧ n ≤ c ∧ d.C w A xs.length xs := by
  obtain ⟨A', cap, he, h⟩ := h
  injection he with h1 h2 h3
  subst h1
  exact ⟨h2, by omega, (Kd.R_reads' h).2.2⟩
theorem Kd.K_form (h : Kd.K d e w base ok v xs) (hp : 0 < xs.length) : ∃ g cap, v = .slice (some ⟨g, 0, none⟩) xs.length cap ∧ base ≤ g ∧ g < w.heap.size ∧ ∃ cells, w.heap[g]? = some (.cells cells e (0, 0)) := by
  obtain ⟨A, cap, rfl, h⟩ := h
  obtain ⟨g, cap', he, h1⟩ := Kd.R_form h hp
  injection he with h2 h3 h4
  subst h2
  exact ⟨g, _, rfl, h1⟩
theorem Kd.K_V (h : Kd.K d e w base ok v xs) : Kd.V d e w base' ok v xs := by
  obtain ⟨A, cap, rfl, h⟩ := h
  exact Kd.V_mk (Nat.le_refl _) (Kd.V_at (Kd.R_V (base' := base') h)).2.2
end
section
variable {α : Type} {enc : α → Value} {h1 : ∀ x, (enc x).oneCell' = true} {e g n cap : Nat} {W : World} {base : Nat} {ok : Nat → Prop} {xs : List α}
theorem Kd.K_celln (d : α) (h : Kd.K (Kd.scalar enc h1) e W base ok (.slice (some ⟨g, 0, none⟩) n cap) xs) (i : Int) (h0 : 0 ≤ i) (hi : i < n) : W.cell? ⟨g, i.toNat, none⟩ = some (enc (rdOf d xs i)) ∧ W.frozen? ⟨g, i.toNat, none⟩ = false := by
  obtain ⟨A, c, he, h⟩ := h
  injection he with h1 h2 h3
  subst h1
  exact Kd.R_celln d h i h0 (by omega)
theorem Kd.K_putg (h : Kd.K (Kd.scalar enc h1) e W base ok (.slice (some ⟨g, 0, none⟩) n cap) xs) (i : Int) (x : α) : Kd.K (Kd.scalar enc h1) e (W.setCell ⟨g, i.toNat, none⟩ (enc x)) base ok (.slice (some ⟨g, 0, none⟩) n cap) (xs.set i.toNat x) ∧ W.grownBy (W.setCell ⟨g, i.toNat, none⟩ (enc x)) (some g) := by
  obtain ⟨A, c, he, h⟩ := h
  injection he with h1 h2 h3
  subst h1
  obtain ⟨h4, h5⟩ := Kd.R_putg h i x
  refine ⟨⟨some ⟨g, 0, none⟩, c, ?_, ?_⟩, h5⟩
  · rw [List.length_set, h2, h3]
  · rw [List.length_set]; exact h4
end
theorem slices_Clip.strong {base n0 : Nat} {ok : Nat → Prop} {A0 : Option Addr} {c0 : Nat} {l0 r : List Int} {w : World} (hR : Kd.R (Kd.int .u8) 5 w base ok (.slice A0 n0 c0) l0) (h : slices_Clip.f l0 = some r) :
    Calls Try.prog 70 #[.slice A0 l0.length c0] w fun e w' => ∃ v0_ : Value, e = .returned (v0_) ∧ Kd.K (Kd.int .u8) 5 w' base ok v0_ r ∧ Below w.heap.size w w' := by
  obtain rfl : l0 = r := Option.some.inj h
  have hn : n0 = l0.length := (Kd.R_reads' hR).1
  subst hn
  have HV := Aside0.mk hR
  have hlc : l0.length ≤ c0 := (Kd.R_reads' hR).2.1
  have hmx : l0.length ≤ 9223372036854775807 := (Kd.R_reads' hR).2.2.2.1
  clear hR h
  obtain ⟨i05, hi05, _, hsz5, _⟩ := info_parts ext_info5
  go_enter Try.func70, Try.ntmps70
  go_wp2
  go_ret
  refine ⟨_, rfl, ?_, Below.refl _ _⟩
  show Kd.K (Kd.int .u8) 5 w base ok (.slice A0 l0.length l0.length) l0
  exact ⟨A0, c0, rfl, HV.out⟩
section
variable {α : Type} {d : Kd α} {e : Nat} {W w w1 : World} {base base' : Nat} {ok ok' : Nat → Prop} {u v v1 : Value} {xs : List α}
theorem Kd.K_own (h : Kd.K d e w base ok v xs) : ∃ c, Kd.R d e w base ok c xs ∧ c.ownBlock = v.ownBlock := by
  obtain ⟨A, cap, rfl, h⟩ := h
  exact ⟨_, h, by cases A <;> rfl⟩
theorem Kd.K_Vb (h : Kd.K d e w base ok v xs) (hok : ∀ k, base ≤ k → ok' k) : Kd.V d e w base' ok' v xs := Kd.V_mono (Kd.K_V (base' := base') (Kd.K_map h fun _ h => Kd.R_bound h)) (fun k hk => hok k hk.2.1)
theorem Kd.K_lt (h : Kd.K d e w base ok v xs) : ∀ k, v.ownBlock = some k → k < w.heap.size := by
  obtain ⟨c, h, e⟩ := Kd.K_own h
  rw [← e]
  exact Kd.R_lt h
theorem Kd.K_elder' (hu : Kd.K d e W base ok u xs) (hbase : ∀ k, v.ownBlock = some k → W.heap.size ≤ k) (hb : Below W.heap.size W w1) : Kd.K d e w1 base (fun k => ok k ∧ some k ≠ v.ownBlock) u xs := Kd.K_map hu fun _ h => Kd.R_elder' h hbase hb
theorem Kd.K_new' (h : Kd.K d e w1 W.heap.size ok v xs) (hlt : ∀ k, u.ownBlock = some k → k < W.heap.size) : Kd.K d e w1 W.heap.size (fun k => ok k ∧ some k ≠ u.ownBlock) v xs := Kd.K_map h fun _ h => Kd.R_new' h hlt
theorem Kd.K_far (h : Kd.K d e w base ok v xs) {p : Addr} (hok : ∀ k, ok k → k ≠ p.block) (u : Value) : Kd.K d e (w.setCell p u) base ok v xs := Kd.K_map h fun _ h => Kd.R_far h hok u
theorem Kd.K_types (h : Kd.K d e w base ok v xs) {g t : Nat} {cells : Array Value} (hb : w.heap[g]? = some (.cells cells t (0, 0))) (ht : ∀ q, q ∈ e :: d.E → q ≠ t) : Kd.K d e w base (fun k => ok k ∧ k ≠ g) v xs := Kd.K_map h fun _ h => Kd.R_types h hb ht
theorem Kd.K_ne (h : Kd.K d e w base ok v xs) {g t : Nat} {cells : Array Value} (hb : w.heap[g]? = some (.cells cells t (0, 0))) (ht : e ≠ t) : some g ≠ v.ownBlock := by
  obtain ⟨c, hR, he⟩ := Kd.K_own h
  rw [← he]
  exact Kd.R_ne hR hb ht
theorem Kd.K_after (h : Kd.K d e W base (fun k => ok k ∧ some k ≠ v.ownBlock) u xs) (hg : W.grownBy w1 v.ownBlock) (hat : v1.ownBlock = v.ownBlock ∨ ∃ b, v1.ownBlock = some b ∧ W.heap.size ≤ b) : Kd.K d e w1 base (fun k => ok k ∧ some k ≠ v1.ownBlock) u xs := Kd.K_map h fun _ h => Kd.R_after h hg hat
theorem Kd.K_grown (h : Kd.K d e w base ok v xs) {row : Option Nat} (hg : w.grownBy w1 row) (hok : ∀ k, ok k → some k ≠ row) : Kd.K d e w1 base ok v xs := Kd.K_map h fun _ h => Kd.R_grown h hg hok
end
section
variable {P : Program} {ops : Array Oper} {rest : List Oper} {o : Oper} {a : Act} {Q : Exit → Act → World → Prop}
/-- append(v, p), v's capacity its length: a new row; v as it was. -/
theorem Kd.K_append {w0 W : World} (base : Nat) (hgd : o.guard = none) (s x : Operand) (t : TypeId)
    (ho : o.op = .call { callee := .builtin .append, args := #[s, x], argTypes := #[t, t] })
    (ht : P.underlying t = some (.slice 5)) (hinfo : (P.info? 5).map (fun i => (i.zero, i.size, i.bytes)) = some (some (.int .u8 0), 1, 1))
    (v : Value) (xs : List Int) (p : Int) (ok : Nat → Prop) (hs : a.eval s = v) (hx : a.eval x = .slice (some ⟨W.heap.size, 0, none⟩) 1 1) (hfresh : ∀ k, W.heap.size ≤ k → ok k)
    (HO : Kd.K (Kd.int .u8) 5 W base ok v xs) (HB : Below base w0 W) (hbase : base ≤ W.heap.size) (hl : xs.length + 1 ≤ 140737488355328)
    (h : ∀ v1 w1, Kd.K (Kd.int .u8) 5 w1 base ok v xs → Kd.R (Kd.int .u8) 5 w1 base ok v1 (xs ++ [p]) → Below base w0 w1 → W.grownBy w1 v.ownBlock → (v1.ownBlock = v.ownBlock ∨ ∃ b, v1.ownBlock = some b ∧ W.heap.size ≤ b) → wpList P ops Q rest (a.put o.dst v1) w1) :
    wpList P ops Q (o :: rest) a (W.alloc (.cells #[.int .u8 p] 5)) := by
  obtain ⟨i0, hi, hzz⟩ := Option.map_eq_some_iff.1 hinfo
  simp only [Prod.mk.injEq] at hzz
  obtain ⟨hz0, hz1, hz2⟩ := hzz
  have HK := HO
  obtain ⟨A, cap, rfl, HR⟩ := HO
  have HRa := Kd.R_alloc HR (.cells #[.int .u8 p] 5)
  have hcell := (Kd.R_reads' HRa).2.2
  have hwx : ∀ j u, (nums .u8 xs)[j]? = some u → ∀ b, A = some b → (W.alloc (.cells #[.int .u8 p] 5)).cell? (b.add j) = some u := by
    intro j u hu b hb
    have hj : j < xs.length := by
      have := (List.getElem?_eq_some_iff.1 hu).1
      simpa [nums, encs] using this
    obtain ⟨ad, had, hc⟩ := Kd.at_int hcell (j : Int) (by omega) (by omega)
    rw [hb] at had
    injection had with had
    subst had
    rw [Int.toNat_natCast] at hc
    rw [hc]
    have h2 : (nums .u8 xs)[j]? = some (.int .u8 (rd xs (j : Int))) := by
      unfold nums rd
      rw [List.getElem?_map, List.getElem?_eq_getElem hj, Int.toNat_natCast, List.getD_eq_getElem?_getD, List.getElem?_eq_getElem hj]
      rfl
    rw [h2] at hu
    exact hu
  refine wpList_append_grows (W.alloc (.cells #[.int .u8 p] 5)) hgd s x t ho 5 i0 (.int .u8 0) 1 1 ht hi hz0 hz1 hz2 rfl (by decide) A xs.length xs.length (nums .u8 xs) hs ?_ (by simp [nums]) (fun b hb j u hu => hwx j u hu b hb)
    ⟨W.heap.size, 0, none⟩ 1 1 [.int .u8 p] hx rfl (by simpa using World.news_of_block (cs := #[.int .u8 p]) (t := 5) (fr := (0, 0)) (heap_alloc_new W (.cells #[.int .u8 p] 5))) (by simp [Value.oneCell']) (by omega) (by simp only [maxLen]; omega) (by omega) ?_
  · rintro rfl
    have := Kd.R_form HR
    by_cases h0 : 0 < xs.length
    · obtain ⟨g, c, hE, _⟩ := this h0
      cases hE
    · omega
  · intro v1 w1 hown hg
    have hg2 : W.grownBy w1 none := World.grownBy.trans (World.grownBy_alloc W _ none) hg
    have hb1 : ∃ b, v1.ownBlock = some b ∧ W.heap.size ≤ b := by
      obtain ⟨g, c, hv, hgb, _⟩ := hown.form (by omega)
      rw [hv]
      refine ⟨g, rfl, ?_⟩
      have : W.heap.size + 1 ≤ g := by simpa using hgb
      omega
    have hB2 : Below W.heap.size W w1 := by
      have h1 : Below W.heap.size W (W.alloc (.cells #[.int .u8 p] 5)) := below_alloc (Below.refl _ _) _
      exact h1.grown hg (by simp) (fun k hk => by cases hk)
    refine h v1 w1 (Kd.K_map HK fun _ hr => Kd.R_below hr hB2) ?_ (HB.trans (hB2.mono hbase)) ?_ (.inr hb1)
    · refine Kd.R_of_own ?_ ?_
      · have := own_weaken (base' := base) hown (by simp; omega)
        simpa [nums, encs] using this
      · intro k hk
        obtain ⟨b, hb, hle⟩ := hb1
        rw [hb] at hk
        injection hk with hk
        exact hfresh k (by omega)
    · exact grown_of_below hB2 _
end
end Go.Proofs.Ytofjgdbiieanjaa.Ext
