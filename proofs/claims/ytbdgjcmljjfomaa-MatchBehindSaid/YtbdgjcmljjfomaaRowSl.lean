import Derived.Test.YtbdgjcmljjfomaaWWords
import Derived.Test.YtbdgjcmljjfomaaWSized
import Derived.Test.YtbdgjcmljjfomaaRowAid
import Derived.Deep.Slices
namespace Go.Proofs.Ytbdgjcmljjfomaa.RowSl
open Go.Joins Go.ChangeShapes Go.WideShapes Go.RowKit Go.Deep Go.Proofs.YtbdgjcmljjfomaaW.PrintWords
/-! A slice of structs, as a law takes it: what it reads as, and how long it may be. -/
theorem list_of {α : Type} (G : Nat → α → Prop) (len : Nat) (h : ∀ i, i < len → ∃ x, G i x) : ∀ n, n ≤ len → ∃ l : List α, l.length = n ∧ ∀ j p, l[j]? = some p → G j p
  | 0, _ => ⟨[], rfl, fun j p hj => by simp at hj⟩
  | n + 1, hn => by
    obtain ⟨l, hl, hg⟩ := list_of G len h n (by omega)
    obtain ⟨x, hx⟩ := h n (by omega)
    refine ⟨l ++ [x], by simp [hl], fun j p hj => ?_⟩
    by_cases hjn : j < l.length
    · rw [List.getElem?_append_left hjn] at hj
      exact hg j p hj
    · rw [List.getElem?_append_right (by omega)] at hj
      have hj0 : j - l.length < 1 := by
        have := (List.getElem?_eq_some_iff.1 hj).1
        simpa using this
      obtain rfl : j = n := by omega
      rw [show j - l.length = 0 by omega] at hj
      obtain rfl : x = p := by simpa using hj
      exact hx
section
variable {H : Type} {enc : TypeId × Value → H} {P : Program} {w : World} {base : Nat} {spare : Nat → Bool} {held : Bool} {α : Type}
theorem open_structs (d : Kd α) {t e : TypeId} {a : Option Addr} {len cap : Nat} {dd : DataW H} {ps : List MemPlace} (ht : P.underlying t = some (.slice e)) (hC : P.cellsOf e = d.sz) (Q : α → Prop)
    (hrd : ∀ (n : Nat) (cs : List Value) (y : DataW H × List MemPlace), cs.length = d.sz → DataW.trod enc P w base spare held n e cs = some y → ∃ x, d.K w x cs ∧ Q x)
    (h : DataW.Trod enc P w base spare held t (.slice a len cap) dd ps) : ∃ l : List α, len = l.length ∧ Kd.C d w a l.length l ∧ l.length ≤ cap ∧ l.length ≤ maxLen ∧ ∀ x ∈ l, Q x := by
  obtain ⟨fuel, hf⟩ := h
  rcases open_slice ht hf with ⟨hcs, _⟩ | ⟨x, l, c, m, n, D, Pl, hcs, _, hl, hm, hmm, _, hx⟩
  · simp [Value.cells] at hcs
    obtain ⟨rfl, rfl, rfl⟩ := hcs
    exact ⟨[], rfl, ⟨rfl, by simp, fun h0 => absurd h0 (by simp)⟩, by simp, by simp, by simp⟩
  · simp [Value.cells] at hcs
    obtain ⟨rfl, rfl, rfl⟩ := hcs
    have hlm : len ≤ m := by rw [hmm]; split <;> omega
    obtain ⟨L, hL, hg⟩ := list_of (fun j p => Q p ∧ ∃ c, c.length = d.sz ∧ d.K w p c ∧ ∀ i u, c[i]? = some u → w.cell? (x.add (j * d.sz + i)) = some u) len (fun i hi => by
      obtain ⟨cs', h1, h2⟩ := hx i (by omega)
      obtain ⟨_, hlen, hat⟩ := World.cells?_some h1
      rw [hC] at hlen
      obtain ⟨p, hK, hQ⟩ := hrd n cs' _ hlen h2
      refine ⟨p, hQ, cs', hlen, hK, fun j u hj => ?_⟩
      have hjl := (List.getElem?_eq_some_iff.1 hj).1
      have h3 := hat j (by omega)
      rw [hj, hC] at h3
      rw [← Go.Deep.add_add]
      exact h3) len (Nat.le_refl _)
    subst hL
    refine ⟨L, rfl, ⟨rfl, by unfold maxLen at hm; omega, fun _ => ⟨x, rfl, fun j p hj => (hg j p hj).2⟩⟩, hl, by omega, fun p hp => ?_⟩
    obtain ⟨j, hj⟩ := List.getElem?_of_mem hp
    exact (hg j p hj).1
theorem sized_structs {t e : TypeId} {a : Option Addr} {len cap : Nat} {d : DataW H} {ps : List MemPlace} {ts : List TypeId} {ds : List (DataW H)} {j : Nat}
    (hsz : (DataW.weightsEach P ts ds).all (· ≤ reachBytes) = true) (ht : ts[j]? = some t) (hd : ds[j]? = some d) (hu : P.underlying t = some (.slice e)) {B : Nat} (hB : P.bytesOf e = B)
    (h : DataW.Trod enc P w base spare held t (.slice a len cap) d ps) : len * B ≤ 140737488351232 := by
  obtain ⟨fuel, hf⟩ := h
  rcases open_slice hu hf with ⟨hcs, _⟩ | ⟨x, l, c, m, n, D, Pl, hcs, _, hl, _, hmm, hx, _⟩
  · simp [Value.cells] at hcs
    obtain ⟨rfl, rfl, rfl⟩ := hcs
    simp
  · simp [Value.cells] at hcs
    obtain ⟨rfl, rfl, rfl⟩ := hcs
    obtain ⟨hx, _⟩ := Prod.mk.inj hx
    subst hx
    have z := sized_slice hsz ht hd hu
    rw [hB] at z
    simp only [List.length_map, List.length_range] at z
    exact Nat.le_trans (Nat.mul_le_mul_right _ (Nat.le_add_right _ _)) z
end
end Go.Proofs.Ytbdgjcmljjfomaa.RowSl
