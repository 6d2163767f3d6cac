/-
  mantletlaw02.SumParts: sums can be computed in parts of even length, and the order of words does not matter.
  No condition: any bytes.
-/
import Derived.Test.YtjmdidbhocmhgaaSumRef
namespace Go.Proofs.Ytjmdidbhocmhgaa.Pure
open Go.RowKit Go.Proofs.Ytjmdidbhocmhgaa.Sum Go.Proofs.Ytjmdidbhocmhgaa.Bits Go.Proofs.YtjmdidbhocmhgaaW.PrintWords Go.Proofs.YtjmdidbhocmhgaaW.PrintLast Go.Proofs.Ytjmdidbhocmhgaa.SumWordSum
/-- Enough rounds for not too many bytes. -/
theorem add_some (l : List Int) {s : Int} (k : Nat) (hb : ∀ x ∈ l, 0 ≤ x ∧ x < 256) (hl : l.length ≤ 6000) (hk : 6100 ≤ k) (s0 : 0 ≤ s) (s1 : s ≤ 65535) : sum_Add.f k s l = some (F (s + WL 0 l)) := by
  have h := add_eq l (s := s) (k - 5 - l.length) hb (by omega) s0 s1
  rwa [show k - 5 - l.length + 5 + l.length = k by omega] at h
theorem swapped (x y : List Int) (hx : ∀ c ∈ x, 0 ≤ c ∧ c < 256) (hy : ∀ c ∈ y, 0 ≤ c ∧ c < 256) (lx : x.length ≤ 3000) (ly : y.length ≤ 3000) :
    mantletlaw02_SumParts.j1 6501 x y = some true := by
  have wx := WL_nonneg x 0 hx
  have wy := WL_nonneg y 0 hy
  have fx := F_range (0 + WL 0 x)
  have fy := F_range (0 + WL 0 y)
  simp only [mantletlaw02_SumParts.j1]
  rw [awake_from 6400, Option.bind_some, if_pos rfl, add_some y 6500 hy (by omega) (by omega) (by omega) (by omega), Option.bind_some, add_some x 6500 hx (by omega) (by omega) fy.1 fy.2, Option.bind_some, add_some x 6500 hx (by omega) (by omega) (by omega) (by omega), Option.bind_some, add_some y 6500 hy (by omega) (by omega) fx.1 fx.2, Option.bind_some,
    F_add (by omega) wx, F_add (by omega) wy, show 0 + WL 0 y + WL 0 x = 0 + WL 0 x + WL 0 y by omega, beq_self_eq_true]
theorem parts (x y : List Int) (hx : ∀ c ∈ x, 0 ≤ c ∧ c < 256) (hy : ∀ c ∈ y, 0 ≤ c ∧ c < 256) (lx : x.length ≤ 3000) (ly : y.length ≤ 3000) (he : x.length % 2 = 0) :
    mantletlaw02_SumParts.j0 6502 x y = some true := by
  have wx := WL_nonneg x 0 hx
  have wy := WL_nonneg y 0 hy
  have fx := F_range (0 + WL 0 x)
  have hall : ∀ c ∈ x ++ y, 0 ≤ c ∧ c < 256 := fun c hc => (List.mem_append.mp hc).elim (hx c) (hy c)
  simp only [mantletlaw02_SumParts.j0]
  rw [Option.bind_some, List.nil_append, if_pos (by simp; omega), Option.bind_some, if_pos (by omega), add_some x 6501 hx (by omega) (by omega) (by omega) (by omega), Option.bind_some, add_some y 6501 hy (by omega) (by omega) fx.1 fx.2, Option.bind_some, add_some (x ++ y) 6501 hall (by simp; omega) (by omega) (by omega) (by omega), Option.bind_some,
    F_add (by omega) wy, WL_append, WL_even y (0 + x.length) 0 (by omega), Int.add_assoc, if_pos rfl]
  by_cases c : (y.length : Int) % 2 = 1
  · rw [if_pos c, w64 (by omega) (by omega), if_pos (by omega), if_pos (by omega)]
    exact swapped x _ hx (fun c hc => hy c (List.mem_of_mem_take hc)) lx (by rw [List.length_take]; omega)
  · rw [if_neg c]
    exact swapped x y hx hy lx ly
theorem SumParts : mantletlaw02_SumParts.Pure := by
  intro a b _ _ ha _ _ hb
  have la := short_length a
  have lb := short_length b
  have ha' : ∀ x ∈ shortL a, 0 ≤ x ∧ x < 256 := fun x hx => wf_u8 (ha x (short_mem hx))
  have hb' : ∀ x ∈ shortL b, 0 ≤ x ∧ x < 256 := fun x hx => wf_u8 (hb x (short_mem hx))
  refine ⟨6502, ?_⟩
  unfold mantletlaw02_SumParts.f
  rw [short_eq, Option.bind_some, short_eq, Option.bind_some]
  by_cases c : ((shortL a).length : Int) % 2 = 1
  · rw [if_pos c, w64 (by omega) (by omega), if_pos (by omega), if_pos (by omega)]
    exact parts _ _ (fun c hc => ha' c (List.mem_of_mem_take hc)) hb' (by rw [List.length_take]; omega) lb (by rw [List.length_take]; omega)
  · rw [if_neg c]
    exact parts _ _ ha' hb' la lb (by omega)
end Go.Proofs.Ytjmdidbhocmhgaa.Pure
