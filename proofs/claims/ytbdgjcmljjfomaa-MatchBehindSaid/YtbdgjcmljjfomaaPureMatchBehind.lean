import Derived.Test.YtbdgjcmljjfomaaMatx16
import Derived.Test.YtbdgjcmljjfomaaNetMatch
namespace Go.Proofs.Ytbdgjcmljjfomaa.Pure
open Go.RowKit Go.Proofs.Ytbdgjcmljjfomaa.Mat Go.Proofs.Ytbdgjcmljjfomaa.Bits Go.Proofs.Ytbdgjcmljjfomaa.NetMatch Go.Proofs.YtbdgjcmljjfomaaW.PrintWords Go.Proofs.YtbdgjcmljjfomaaW.PrintLast
theorem behind_end {m : S32 → Bool} {p0 p1 p2 p3 p4 p5 p6 : Int} (l l1 : List S32) (hl : l.length * 48 ≤ 140737488351232)
    (h : ∀ x, x ∈ l ∨ x ∈ l1 → match_Matches.f x.f0 x.f1 x.f2.f0 x.f2.f1 x.f3.f0 x.f3.f1 x.f4.f0 x.f4.f1 x.f5.f0 x.f5.f1 p0 p1 p2 p3 p4 p5 p6 = some (m x))
    (j : Nat) (hj : j < l.length) (hj1 : j < 100) (hm : m l[j] = true) (hb : ∀ i (hi : i < j), m l[i] = false) (d : Nat) : ∀ (k i : Nat), i + d = j →
    mantletlaw13_MatchBehind.l0 (k + 1 + d) l l1 (j : Int) (l[j]).f0 (i : Int) p0 p1 p2 p3 p4 p5 p6 = some true := by
  induction d with
  | zero =>
    intro k i hi
    obtain rfl : i = j := by omega
    have ht : (l1.take 100).length ≤ 100 := List.length_take_le _ _
    have hk : (l.take (i + 1)).length = i + 1 := by rw [List.length_take]; omega
    have e := first_eq (m := m) (p0 := p0) (p1 := p1) (p2 := p2) (p3 := p3) (p4 := p4) (p5 := p5) (p6 := p6) (l.take (i + 1) ++ l1.take 100) (fun x hx => by
      rcases List.mem_append.1 hx with hx | hx
      · exact h x (.inl (List.mem_of_mem_take hx))
      · exact h x (.inr (List.mem_of_mem_take hx)))
    have hf : (l.take (i + 1) ++ l1.take 100).findIdx? m = some i := by
      rw [List.findIdx?_eq_some_iff_getElem]
      refine ⟨by rw [List.length_append]; omega, ?_, ?_⟩
      · rw [List.getElem_append_left (by omega), List.getElem_take]; exact hm
      · intro q hq
        rw [List.getElem_append_left (by omega), List.getElem_take, hb q hq]; decide
    have hr : rd_T32 (l.take (i + 1) ++ l1.take 100) (i : Int) = l[i] := by
      rw [rd_at_ (by rw [List.length_append]; omega), List.getElem_append_left (by omega), List.getElem_take]
    unfold first at e
    rw [hf] at e
    dsimp only at e
    rw [hr] at e
    simp only [mantletlaw13_MatchBehind.l0]
    rw [if_neg (by omega), Option.bind_some, w64 (n := (i : Int) + 1) (by omega) (by omega), if_pos (by omega), if_pos (by omega), Option.bind_some, show ((i : Int) + 1).toNat = i + 1 by omega, List.nil_append, List.length_nil, if_pos (by omega), Option.bind_some, few_eq, Option.bind_some, if_pos (by omega), e, Option.bind_some, awake, Option.bind_some, if_pos rfl, if_pos rfl, if_pos (beq_self_eq_true _), if_pos (by omega), if_pos (by omega), rd_at_ hj, beq_self_eq_true]
  | succ d ih =>
    intro k i hi
    rw [show k + 1 + (d + 1) = (k + 1 + d) + 1 by omega]
    have hil : i < l.length := by omega
    simp only [mantletlaw13_MatchBehind.l0]
    rw [if_pos (by omega), if_pos (by omega), if_pos (by omega), rd_at_ hil, h _ (.inl (List.getElem_mem hil)), Option.bind_some, hb i (by omega), if_neg (by decide), w64 (by omega) (by omega), show (i : Int) + 1 = ((i + 1 : Nat) : Int) by omega]
    exact ih k (i + 1) (by omega)
theorem MatchBehind : mantletlaw13_MatchBehind.Pure := by
  intro l l1 p0 p1 p2 p3 p4 p5 p6 _ hz hl _ _ hl1 _ g1 g2 _ _ _ _
  obtain ⟨h10, h11⟩ := wf_u32 g1
  obtain ⟨h20, h21⟩ := wf_u32 g2
  have hok : ∀ x, x ∈ l ∨ x ∈ l1 → OkR x := fun x hx => by
    rcases hx with hx | hx
    · obtain ⟨_, a, _, b, _⟩ := hl x hx
      exact ⟨(wf_u32 a).1, (wf_u32 a).2, (wf_u32 b).1, (wf_u32 b).2⟩
    · obtain ⟨_, a, _, b, _⟩ := hl1 x hx
      exact ⟨(wf_u32 a).1, (wf_u32 a).2, (wf_u32 b).1, (wf_u32 b).2⟩
  have hM : ∀ x, x ∈ l ∨ x ∈ l1 → match_Matches.f x.f0 x.f1 x.f2.f0 x.f2.f1 x.f3.f0 x.f3.f1 x.f4.f0 x.f4.f1 x.f5.f0 x.f5.f1 p0 p1 p2 p3 p4 p5 p6 = some (matchP p0 p1 p2 p3 p4 x) := fun x hx => matches_eq (hok x hx) h10 h11 h20 h21
  clear hl hl1 g1 g2 hok
  have hn : (l.take 100).length ≤ 100 := List.length_take_le _ _
  have hnl : (l.take 100).length ≤ l.length := by rw [List.length_take]; omega
  have e1 := first_eq (m := matchP p0 p1 p2 p3 p4) (p5 := p5) (p6 := p6) (l.take 100) (fun x hx => hM x (.inl (List.mem_of_mem_take hx)))
  unfold first at e1
  cases hf : (l.take 100).findIdx? (matchP p0 p1 p2 p3 p4) with
  | none =>
    rw [hf] at e1
    refine ⟨1, ?_⟩
    unfold mantletlaw13_MatchBehind.f
    rw [few_eq, Option.bind_some, e1, Option.bind_some]
    dsimp only
    rw [if_pos (by decide), awake, Option.bind_some, if_pos rfl]
    rfl
  | some j =>
    rw [hf] at e1
    obtain ⟨hj, hm, hb⟩ := List.findIdx?_eq_some_iff_getElem.1 hf
    have hjl : j < l.length := by omega
    rw [List.getElem_take] at hm
    have hb2 : ∀ i (hi : i < j), matchP p0 p1 p2 p3 p4 l[i] = false := fun i hi => by
      have := hb i hi
      rw [List.getElem_take] at this
      simpa using this
    have hen := behind_end l l1 hz hM j hjl (by omega) hm hb2 j 1 0 (by omega)
    refine ⟨1 + 1 + j + 1, ?_⟩
    unfold mantletlaw13_MatchBehind.f
    rw [few_eq, Option.bind_some, e1, Option.bind_some]
    dsimp only
    rw [if_neg (by omega), if_neg (by omega), if_pos (by omega), if_pos (by omega), rd_at_ hjl, hM _ (.inl (List.getElem_mem hjl)), Option.bind_some, hm]
    simp only [mantletlaw13_MatchBehind.j0]
    rw [if_neg (by decide), rd_at_ hj, List.getElem_take]
    exact hen
end Go.Proofs.Ytbdgjcmljjfomaa.Pure
