import Derived.Test.YtbdgjcmljjfomaaMatx14
import Derived.Test.YtbdgjcmljjfomaaNetMatch
namespace Go.Proofs.Ytbdgjcmljjfomaa.Pure
open Go.RowKit Go.Proofs.Ytbdgjcmljjfomaa.Mat Go.Proofs.Ytbdgjcmljjfomaa.Bits Go.Proofs.Ytbdgjcmljjfomaa.NetMatch Go.Proofs.YtbdgjcmljjfomaaW.PrintWords Go.Proofs.YtbdgjcmljjfomaaW.PrintLast
theorem MatchFirst : mantletlaw13_MatchFirst.Pure := by
  intro l p0 p1 p2 p3 p4 p5 p6 r0 r1 r2 r3 r4 r5 r6 r7 r8 r9 _ _ hl _ g1 g2 _ _ _ _ _ s2 _ s4 _ _ _ _ _
  obtain ⟨h10, h11⟩ := wf_u32 g1
  obtain ⟨h20, h21⟩ := wf_u32 g2
  have hok : ∀ x ∈ l.take 100, OkR x := fun x hx => by
    obtain ⟨_, a, _, b, _⟩ := hl x (List.mem_of_mem_take hx)
    exact ⟨(wf_u32 a).1, (wf_u32 a).2, (wf_u32 b).1, (wf_u32 b).2⟩
  have hr : OkR ⟨r0, r1, ⟨r2, r3⟩, ⟨r4, r5⟩, ⟨r6, r7⟩, ⟨r8, r9⟩⟩ := ⟨(wf_u32 s2).1, (wf_u32 s2).2, (wf_u32 s4).1, (wf_u32 s4).2⟩
  clear hl g1 g2 s2 s4
  have hn : (l.take 100).length ≤ 100 := List.length_take_le _ _
  have e1 := first_eq (m := matchP p0 p1 p2 p3 p4) (p5 := p5) (p6 := p6) (l.take 100) (fun x hx => matches_eq (hok x hx) h10 h11 h20 h21)
  have e2 := refFirst_eq (m := matchP p0 p1 p2 p3 p4) (p5 := p5) (p6 := p6) (l.take 100) (by omega) (fun k x hx => refMatches_eq k (hok x hx) h10 h11 h20 h21) (100 - (l.take 100).length)
  rw [show 100 - (l.take 100).length + 42 + (l.take 100).length = 142 by omega] at e2
  have e3 := matches_eq (p0 := p0) (p3 := p3) (p4 := p4) (p5 := p5) (p6 := p6) hr h10 h11 h20 h21
  have e4 := refMatches_eq 101 (p0 := p0) (p3 := p3) (p4 := p4) (p5 := p5) (p6 := p6) hr h10 h11 h20 h21
  dsimp only at e3 e4
  refine ⟨142, ?_⟩
  unfold mantletlaw13_MatchFirst.f
  rw [few_eq, Option.bind_some, e1, Option.bind_some, Option.bind_some, e2, Option.bind_some, awake, Option.bind_some, if_pos rfl, if_pos rfl, if_pos (beq_self_eq_true _), e3, Option.bind_some, e4, Option.bind_some, beq_self_eq_true]
end Go.Proofs.Ytbdgjcmljjfomaa.Pure
