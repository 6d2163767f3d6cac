-- A row of bytes of the call's own, its capacity cut to its length (what slices.Clip hands back): K; and Clip's contract for it.
import Derived.Test.YtofjgdbiieanjaaExt
namespace Go.Proofs.Ytofjgdbiieanjaa.Ext
open Go.RowKit Go.Proofs.YtofjgdbiieanjaaW.PrintWords Go.Proofs.YtofjgdbiieanjaaW.PrintLast Go.Proofs.YtofjgdbiieanjaaW.PrintMore
set_option linter.unusedVariables false
/-- A row of the call's own under a slice whose capacity is its length. -/
def Kd.K {α : Type} (d : Kd α) (e : Nat) (w : World) (base : Nat) (ok : Nat → Prop) (v : Value) (xs : List α) : Prop := ∃ A cap, v = .slice A xs.length xs.length ∧ Kd.R d e w base ok (.slice A xs.length cap) xs
section
variable {α : Type} {d : Kd α} {e : Nat} {w w1 : World} {base base' : Nat} {ok ok' : Nat → Prop} {v : Value} {xs : List α}
theorem Kd.K_map (h : Kd.K d e w base ok v xs) (hm : ∀ v, Kd.R d e w base ok v xs → Kd.R d e w1 base' ok' v xs) : Kd.K d e w1 base' ok' v xs := by
  obtain ⟨A, cap, rfl, h⟩ := h
  exact ⟨A, cap, rfl, hm _ h⟩
theorem Kd.K_nil (d : Kd α) (e : Nat) (w : World) (base : Nat) (ok : Nat → Prop) : Kd.K d e w base ok (.slice none 0 0) [] := ⟨none, 0, rfl, Kd.R_nil _ _ _ _ _⟩
theorem Kd.K_mono (h : Kd.K d e w base ok v xs) (hok : ∀ k, ok k → ok' k) : Kd.K d e w base ok' v xs := Kd.K_map h fun _ h => Kd.R_mono h hok
theorem Kd.K_lower (h : Kd.K d e w base ok v xs) (hb : base' ≤ base) : Kd.K d e w base' ok v xs := Kd.K_map h fun _ h => Kd.R_lower h hb
theorem Kd.K_below (h : Kd.K d e w base ok v xs) (hb : Below w.heap.size w w1) : Kd.K d e w1 base ok v xs := Kd.K_map h fun _ h => Kd.R_below h hb
theorem Kd.K_alloc (h : Kd.K d e w base ok v xs) (o : Obj) : Kd.K d e (w.alloc o) base ok v xs := Kd.K_map h fun _ h => Kd.R_alloc h o
theorem Kd.K_drew (h : Kd.K d e w base ok v xs) : Kd.K d e w.drew base ok v xs := Kd.K_map h fun _ h => Kd.R_drew h
theorem Kd.K_drewN (h : Kd.K d e w base ok v xs) (m : Nat) : Kd.K d e (w.drewN m) base ok v xs := Kd.K_map h fun _ h => Kd.R_drewN h m
theorem Kd.K_base (h : Kd.K d e w base ok v xs) : ∀ k, v.ownBlock = some k → base ≤ k := by
  obtain ⟨A, cap, rfl, h⟩ := h
  intro k hk
  cases A with
  | none => simp [Value.ownBlock] at hk
  | some x => exact Kd.R_base h k (by simpa [Value.ownBlock] using hk)
theorem Kd.K_slice (h : Kd.K d e w base ok v xs) : ∃ A c, v = .slice A xs.length c := by
  obtain ⟨A, cap, rfl, _⟩ := h
  exact ⟨A, _, rfl⟩
theorem Kd.K_reads' {A : Option Addr} {n c : Nat} (h : Kd.K d e w base ok (.slice A n c) xs) : n = xs.length ∧ n ≤ c ∧ d.C w A xs.length xs := by
  obtain ⟨A', cap, he, h⟩ := h
  injection he with h1 h2 h3
  subst h1
  exact ⟨h2, by omega, (Kd.R_reads' h).2.2⟩
theorem Kd.K_form (h : Kd.K d e w base ok v xs) (hp : 0 < xs.length) : ∃ g cap, v = .slice (some ⟨g, 0, none⟩) xs.length cap ∧ base ≤ g ∧ g < w.heap.size ∧ ∃ cells, w.heap[g]? = some (.cells cells e (0, 0)) := by
  obtain ⟨A, cap, rfl, h⟩ := h
  obtain ⟨g, cap', he, h1⟩ := Kd.R_form h hp
  injection he with h2 h3 h4
  subst h2
  exact ⟨g, _, rfl, h1⟩
theorem Kd.K_V (h : Kd.K d e w base ok v xs) : Kd.V d e w base' ok v xs := by
  obtain ⟨A, cap, rfl, h⟩ := h
  exact Kd.V_mk (Nat.le_refl _) (Kd.V_at (Kd.R_V (base' := base') h)).2.2
end
section
variable {α : Type} {enc : α → Value} {h1 : ∀ x, (enc x).oneCell' = true} {e g n cap : Nat} {W : World} {base : Nat} {ok : Nat → Prop} {xs : List α}
theorem Kd.K_celln (d : α) (h : Kd.K (Kd.scalar enc h1) e W base ok (.slice (some ⟨g, 0, none⟩) n cap) xs) (i : Int) (h0 : 0 ≤ i) (hi : i < n) : W.cell? ⟨g, i.toNat, none⟩ = some (enc (rdOf d xs i)) ∧ W.frozen? ⟨g, i.toNat, none⟩ = false := by
  obtain ⟨A, c, he, h⟩ := h
  injection he with h1 h2 h3
  subst h1
  exact Kd.R_celln d h i h0 (by omega)
theorem Kd.K_putg (h : Kd.K (Kd.scalar enc h1) e W base ok (.slice (some ⟨g, 0, none⟩) n cap) xs) (i : Int) (x : α) : Kd.K (Kd.scalar enc h1) e (W.setCell ⟨g, i.toNat, none⟩ (enc x)) base ok (.slice (some ⟨g, 0, none⟩) n cap) (xs.set i.toNat x) ∧ W.grownBy (W.setCell ⟨g, i.toNat, none⟩ (enc x)) (some g) := by
  obtain ⟨A, c, he, h⟩ := h
  injection he with h1 h2 h3
  subst h1
  obtain ⟨h4, h5⟩ := Kd.R_putg h i x
  refine ⟨⟨some ⟨g, 0, none⟩, c, ?_, ?_⟩, h5⟩
  · rw [List.length_set, h2, h3]
  · rw [List.length_set]; exact h4
end
theorem slices_Clip.strong {base n0 : Nat} {ok : Nat → Prop} {A0 : Option Addr} {c0 : Nat} {l0 r : List Int} {w : World} (hR : Kd.R (Kd.int .u8) 5 w base ok (.slice A0 n0 c0) l0) (h : slices_Clip.f l0 = some r) :
    Calls Try.prog 70 #[.slice A0 l0.length c0] w fun e w' => ∃ v0_ : Value, e = .returned (v0_) ∧ Kd.K (Kd.int .u8) 5 w' base ok v0_ r ∧ Below w.heap.size w w' := by
  obtain rfl : l0 = r := Option.some.inj h
  have hn : n0 = l0.length := (Kd.R_reads' hR).1
  subst hn
  have HV := Aside0.mk hR
  have hlc : l0.length ≤ c0 := (Kd.R_reads' hR).2.1
  have hmx : l0.length ≤ 9223372036854775807 := (Kd.R_reads' hR).2.2.2.1
  clear hR h
  obtain ⟨i05, hi05, _, hsz5, _⟩ := info_parts ext_info5
  go_enter Try.func70, Try.ntmps70
  go_wp2
  go_ret
  refine ⟨_, rfl, ?_, Below.refl _ _⟩
  show Kd.K (Kd.int .u8) 5 w base ok (.slice A0 l0.length l0.length) l0
  exact ⟨A0, c0, rfl, HV.out⟩
end Go.Proofs.Ytofjgdbiieanjaa.Ext
