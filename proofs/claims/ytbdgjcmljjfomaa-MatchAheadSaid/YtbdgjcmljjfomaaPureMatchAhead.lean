import Derived.Test.YtbdgjcmljjfomaaMatx15
import Derived.Test.YtbdgjcmljjfomaaNetMatch
namespace Go.Proofs.Ytbdgjcmljjfomaa.Pure
open Go.RowKit Go.Proofs.Ytbdgjcmljjfomaa.Mat Go.Proofs.Ytbdgjcmljjfomaa.Bits Go.Proofs.Ytbdgjcmljjfomaa.NetMatch Go.Proofs.YtbdgjcmljjfomaaW.PrintWords Go.Proofs.YtbdgjcmljjfomaaW.PrintLast
theorem MatchAhead : mantletlaw13_MatchAhead.Pure := by
  intro l r0 r1 r2 r3 r4 r5 r6 r7 r8 r9 p0 p1 p2 p3 p4 p5 p6 _ _ hl _ s2 _ s4 _ _ _ _ _ _ g1 g2 _ _ _ _
  obtain ⟨h10, h11⟩ := wf_u32 g1
  obtain ⟨h20, h21⟩ := wf_u32 g2
  have hok : ∀ x ∈ l.take 100, OkR x := fun x hx => by
    obtain ⟨_, a, _, b, _⟩ := hl x (List.mem_of_mem_take hx)
    exact ⟨(wf_u32 a).1, (wf_u32 a).2, (wf_u32 b).1, (wf_u32 b).2⟩
  have hr : OkR ⟨r0, r1, ⟨r2, r3⟩, ⟨r4, r5⟩, ⟨r6, r7⟩, ⟨r8, r9⟩⟩ := ⟨(wf_u32 s2).1, (wf_u32 s2).2, (wf_u32 s4).1, (wf_u32 s4).2⟩
  clear hl g1 g2 s2 s4
  have hn : (l.take 100).length ≤ 100 := List.length_take_le _ _
  have e1 := first_eq (m := matchP p0 p1 p2 p3 p4) (p5 := p5) (p6 := p6) (l.take 100) (fun x hx => matches_eq (hok x hx) h10 h11 h20 h21)
  have e2 := first_eq (m := matchP p0 p1 p2 p3 p4) (p5 := p5) (p6 := p6) (⟨r0, r1, ⟨r2, r3⟩, ⟨r4, r5⟩, ⟨r6, r7⟩, ⟨r8, r9⟩⟩ :: l.take 100) (fun x hx => by
    rcases List.mem_cons.1 hx with rfl | hx
    · exact matches_eq hr h10 h11 h20 h21
    · exact matches_eq (hok x hx) h10 h11 h20 h21)
  have e3 := matches_eq (p0 := p0) (p3 := p3) (p4 := p4) (p5 := p5) (p6 := p6) hr h10 h11 h20 h21
  dsimp only at e3
  generalize hL : l.take 100 = L at hok hn e1 e2
  have hfew : mantletlaw13_few.f l = some L := by rw [few_eq, hL]
  have hlen : ([(⟨r0, r1, ⟨r2, r3⟩, ⟨r4, r5⟩, ⟨r6, r7⟩, ⟨r8, r9⟩⟩ : S32)] : List S32).length + L.length < 2932031007402 := by rw [List.length_singleton]; omega
  have hap : [(⟨r0, r1, ⟨r2, r3⟩, ⟨r4, r5⟩, ⟨r6, r7⟩, ⟨r8, r9⟩⟩ : S32)] ++ L = ⟨r0, r1, ⟨r2, r3⟩, ⟨r4, r5⟩, ⟨r6, r7⟩, ⟨r8, r9⟩⟩ :: L := rfl
  generalize hR : (⟨r0, r1, ⟨r2, r3⟩, ⟨r4, r5⟩, ⟨r6, r7⟩, ⟨r8, r9⟩⟩ : S32) = R at e2 e3 hlen hap
  have hR0 : R.f0 = r0 := by rw [← hR]
  unfold mantletlaw13_MatchAhead.f
  rw [hfew, Option.bind_some, e1, Option.bind_some, hR, Option.bind_some, Option.bind_some, if_pos hlen, hap, e2, Option.bind_some, e3, Option.bind_some, awake]
  rcases Bool.eq_false_or_eq_true (matchP p0 p1 p2 p3 p4 R) with hm | hm
  · have f2 : first (matchP p0 p1 p2 p3 p4) (R :: L) = (((0 : Nat) : Int), R.f0) := by
      unfold first
      rw [List.findIdx?_cons, if_pos hm]
      dsimp only
      rw [rd_at_ (show 0 < (R :: L).length by rw [List.length_cons]; omega), List.getElem_cons_zero]
    rw [f2, if_pos hm, Option.bind_some, if_pos rfl, if_pos (show ((((0 : Nat) : Int), R.f0) : Int × Bool).1 = 0 from rfl)]
    exact congrArg some (beq_iff_eq.2 hR0)
  · have hmf : ¬ matchP p0 p1 p2 p3 p4 R = true := by rw [hm]; decide
    cases hf : L.findIdx? (matchP p0 p1 p2 p3 p4) with
    | none =>
      have f1 : first (matchP p0 p1 p2 p3 p4) L = (-1, false) := by unfold first; rw [hf]
      have f2 : first (matchP p0 p1 p2 p3 p4) (R :: L) = (-1, false) := by unfold first; rw [List.findIdx?_cons, if_neg hmf, hf]; rfl
      rw [f1, f2, if_neg hmf, if_pos (show (((-1 : Int), false) : Int × Bool).1 < 0 by decide), Option.bind_some, if_pos rfl, if_pos (show (((-1 : Int), false) : Int × Bool).1 = -1 from rfl), if_neg (show ¬ (((-1 : Int), false) : Int × Bool).2 = true by decide)]
      rfl
    | some j =>
      have hj : j < L.length := (List.findIdx?_eq_some_iff_getElem.1 hf).1
      have f1 : first (matchP p0 p1 p2 p3 p4) L = ((j : Int), (L[j]).f0) := by
        unfold first
        rw [hf]
        dsimp only
        rw [rd_at_ hj]
      have f2 : first (matchP p0 p1 p2 p3 p4) (R :: L) = (((j + 1 : Nat) : Int), (L[j]).f0) := by
        unfold first
        rw [List.findIdx?_cons, if_neg hmf, hf]
        simp only [Option.map_some]
        rw [rd_at_ (show j + 1 < (R :: L).length by rw [List.length_cons]; omega), List.getElem_cons_succ]
      rw [f1, f2, if_neg hmf, if_neg (show ¬ (((j : Int), (L[j]).f0) : Int × Bool).1 < 0 from Int.not_lt.2 (Int.natCast_nonneg j)), Option.bind_some, if_pos rfl]
      have hw : wrap64 ((j : Int) + 1) = ((j + 1 : Nat) : Int) := by rw [w64 (by omega) (by omega)]; omega
      rw [show (((j : Int), (L[j]).f0) : Int × Bool).1 = (j : Int) from rfl, hw, if_pos (show ((((j + 1 : Nat) : Int), (L[j]).f0) : Int × Bool).1 = ((j + 1 : Nat) : Int) from rfl)]
      exact congrArg some (beq_iff_eq.2 rfl)
end Go.Proofs.Ytbdgjcmljjfomaa.Pure
