/-
  No cell of these rows narrows 'for every input' (looked for: loops, veiled, ifaces, maps, wideKeys, modest, calm, conditions, laid).
  DERIVED. THE GIVEN ROWS OF THIS SEAT. 11 by the template 'for every input the law returns true; each argument reads behind the call as it read before'; 0 by the template 'total and deterministic' (their statements: YtbdgjcmljjfomaaTotals.lean).
  GIVEN WITH THE SEED: the statements are not yours to turn. If you find one false, say at which input.
  Laid BY PROGRAM, IN A SANDBOX (cutbox-rows.mjs): the forced cells as the released guide's own fill.sh prints them over the translation d085f61e40e8f132… (all of the seat's roots in one cut). By AI agents, Wed Nov 11 2026. No macro, syntax, notation, axiom, sorry.
-/
import Derived.Test.YtbdgjcmljjfomaaChecked
import GoSem.Claim
import GoSem.ClaimJoined
import GoSem.ClaimMapViews
import Derived.JoinedTies
import Derived.KernelRfl
namespace Go.Proofs.Ytbdgjcmljjfomaa
/- THE CELL 'sum', in the pinned program and in every row, IS THE sha256 OF THE DUMP (.gsa) THAT YtbdgjcmljjfomaaProg.lean LOADS. Nothing in Lean hashes anything: it is a label: what it is worth is what the hold of that sum in a sandbox is worth. -/
noncomputable def Try.pinned : Pinned := { name := "ytbdgjcmljjfomaa", sum := "d085f61e40e8f132147609da3476b79d57a3146b7299bd833b66ec18ee0c9547", checked := Try.checked }
namespace Rows
def none {H : Type} : Left H := { results := [], args := [] }

/-- 'mantletlaw13.MatchFirst': WHATEVER THE INPUT: true; the input reads as it did. -/
def matchFirstSpec : ChangeSpec := { name := "matchFirst", fn := fun _ => fun
  | [d1, d2, d3] => { results := [.lit (.bool true)], args := [d1, d2, d3] }
  | _ => none }
def matchFirstRow : OpenClaim := { program := "ytbdgjcmljjfomaa", sum := "d085f61e40e8f132147609da3476b79d57a3146b7299bd833b66ec18ee0c9547", func := "mantlet/mantletlaw13.MatchFirst", spec := "matchFirst", unfollowed := true, recurses := true, apart := false }
def MatchFirstSaid : Prop := matchFirstRow.holds Try.pinned (OpenSpec.ofChange matchFirstSpec)

/-- ITS FALSE NEIGHBOUR: 'it returns false'. Refute it at one input. -/
def matchFirstWrong : ChangeSpec := { name := "matchFirst", fn := fun _ => fun
  | [d1, d2, d3] => { results := [.lit (.bool false)], args := [d1, d2, d3] }
  | _ => none }
def MatchFirstWrongFalsely : Prop := matchFirstRow.holds Try.pinned (OpenSpec.ofChange matchFirstWrong)

/-- 'mantletlaw13.MatchAhead': WHATEVER THE INPUT: true; the input reads as it did. -/
def matchAheadSpec : ChangeSpec := { name := "matchAhead", fn := fun _ => fun
  | [d1, d2, d3] => { results := [.lit (.bool true)], args := [d1, d2, d3] }
  | _ => none }
def matchAheadRow : OpenClaim := { program := "ytbdgjcmljjfomaa", sum := "d085f61e40e8f132147609da3476b79d57a3146b7299bd833b66ec18ee0c9547", func := "mantlet/mantletlaw13.MatchAhead", spec := "matchAhead", unfollowed := true, recurses := true, apart := false }
def MatchAheadSaid : Prop := matchAheadRow.holds Try.pinned (OpenSpec.ofChange matchAheadSpec)

/-- ITS FALSE NEIGHBOUR: 'it returns false'. Refute it at one input. -/
def matchAheadWrong : ChangeSpec := { name := "matchAhead", fn := fun _ => fun
  | [d1, d2, d3] => { results := [.lit (.bool false)], args := [d1, d2, d3] }
  | _ => none }
def MatchAheadWrongFalsely : Prop := matchAheadRow.holds Try.pinned (OpenSpec.ofChange matchAheadWrong)

/-- 'mantletlaw13.MatchBehind': WHATEVER THE INPUT: true; the input reads as it did. -/
def matchBehindSpec : ChangeSpec := { name := "matchBehind", fn := fun _ => fun
  | [d1, d2, d3] => { results := [.lit (.bool true)], args := [d1, d2, d3] }
  | _ => none }
def matchBehindRow : OpenClaim := { program := "ytbdgjcmljjfomaa", sum := "d085f61e40e8f132147609da3476b79d57a3146b7299bd833b66ec18ee0c9547", func := "mantlet/mantletlaw13.MatchBehind", spec := "matchBehind", unfollowed := true, recurses := true, apart := false }
def MatchBehindSaid : Prop := matchBehindRow.holds Try.pinned (OpenSpec.ofChange matchBehindSpec)

/-- ITS FALSE NEIGHBOUR: 'it returns false'. Refute it at one input. -/
def matchBehindWrong : ChangeSpec := { name := "matchBehind", fn := fun _ => fun
  | [d1, d2, d3] => { results := [.lit (.bool false)], args := [d1, d2, d3] }
  | _ => none }
def MatchBehindWrongFalsely : Prop := matchBehindRow.holds Try.pinned (OpenSpec.ofChange matchBehindWrong)

/-- 'mantletlaw14.GatePacks': WHATEVER THE INPUT: true; the input reads as it did. -/
def gatePacksSpec : ChangeSpec := { name := "gatePacks", fn := fun _ => fun
  | [d1, d2] => { results := [.lit (.bool true)], args := [d1, d2] }
  | _ => none }
def gatePacksRow : OpenClaim := { program := "ytbdgjcmljjfomaa", sum := "d085f61e40e8f132147609da3476b79d57a3146b7299bd833b66ec18ee0c9547", func := "mantlet/mantletlaw14.GatePacks", spec := "gatePacks", apart := false }
def GatePacksSaid : Prop := gatePacksRow.holds Try.pinned (OpenSpec.ofChange gatePacksSpec)

/-- ITS FALSE NEIGHBOUR: 'it returns false'. Refute it at one input. -/
def gatePacksWrong : ChangeSpec := { name := "gatePacks", fn := fun _ => fun
  | [d1, d2] => { results := [.lit (.bool false)], args := [d1, d2] }
  | _ => none }
def GatePacksWrongFalsely : Prop := gatePacksRow.holds Try.pinned (OpenSpec.ofChange gatePacksWrong)

/-- 'mantletlaw14.GateBack': WHATEVER THE INPUT: true; the input reads as it did. -/
def gateBackSpec : ChangeSpec := { name := "gateBack", fn := fun _ => fun
  | [d1, d2] => { results := [.lit (.bool true)], args := [d1, d2] }
  | _ => none }
def gateBackRow : OpenClaim := { program := "ytbdgjcmljjfomaa", sum := "d085f61e40e8f132147609da3476b79d57a3146b7299bd833b66ec18ee0c9547", func := "mantlet/mantletlaw14.GateBack", spec := "gateBack", apart := false }
def GateBackSaid : Prop := gateBackRow.holds Try.pinned (OpenSpec.ofChange gateBackSpec)

/-- ITS FALSE NEIGHBOUR: 'it returns false'. Refute it at one input. -/
def gateBackWrong : ChangeSpec := { name := "gateBack", fn := fun _ => fun
  | [d1, d2] => { results := [.lit (.bool false)], args := [d1, d2] }
  | _ => none }
def GateBackWrongFalsely : Prop := gateBackRow.holds Try.pinned (OpenSpec.ofChange gateBackWrong)

/-- 'mantletlaw15.FlowPacks': WHATEVER THE INPUT: true; the input reads as it did. -/
def flowPacksSpec : ChangeSpec := { name := "flowPacks", fn := fun _ => fun
  | [d1, d2, d3] => { results := [.lit (.bool true)], args := [d1, d2, d3] }
  | _ => none }
def flowPacksRow : OpenClaim := { program := "ytbdgjcmljjfomaa", sum := "d085f61e40e8f132147609da3476b79d57a3146b7299bd833b66ec18ee0c9547", func := "mantlet/mantletlaw15.FlowPacks", spec := "flowPacks", apart := false }
def FlowPacksSaid : Prop := flowPacksRow.holds Try.pinned (OpenSpec.ofChange flowPacksSpec)

/-- ITS FALSE NEIGHBOUR: 'it returns false'. Refute it at one input. -/
def flowPacksWrong : ChangeSpec := { name := "flowPacks", fn := fun _ => fun
  | [d1, d2, d3] => { results := [.lit (.bool false)], args := [d1, d2, d3] }
  | _ => none }
def FlowPacksWrongFalsely : Prop := flowPacksRow.holds Try.pinned (OpenSpec.ofChange flowPacksWrong)

/-- 'mantletlaw15.FlowNexts': WHATEVER THE INPUT: true; the input reads as it did. -/
def flowNextsSpec : ChangeSpec := { name := "flowNexts", fn := fun _ => fun
  | [d1, d2, d3] => { results := [.lit (.bool true)], args := [d1, d2, d3] }
  | _ => none }
def flowNextsRow : OpenClaim := { program := "ytbdgjcmljjfomaa", sum := "d085f61e40e8f132147609da3476b79d57a3146b7299bd833b66ec18ee0c9547", func := "mantlet/mantletlaw15.FlowNexts", spec := "flowNexts", apart := false }
def FlowNextsSaid : Prop := flowNextsRow.holds Try.pinned (OpenSpec.ofChange flowNextsSpec)

/-- ITS FALSE NEIGHBOUR: 'it returns false'. Refute it at one input. -/
def flowNextsWrong : ChangeSpec := { name := "flowNexts", fn := fun _ => fun
  | [d1, d2, d3] => { results := [.lit (.bool false)], args := [d1, d2, d3] }
  | _ => none }
def FlowNextsWrongFalsely : Prop := flowNextsRow.holds Try.pinned (OpenSpec.ofChange flowNextsWrong)

/-- 'mantletlaw15.FlowBack': WHATEVER THE INPUT: true; the input reads as it did. -/
def flowBackSpec : ChangeSpec := { name := "flowBack", fn := fun _ => fun
  | [d1, d2] => { results := [.lit (.bool true)], args := [d1, d2] }
  | _ => none }
def flowBackRow : OpenClaim := { program := "ytbdgjcmljjfomaa", sum := "d085f61e40e8f132147609da3476b79d57a3146b7299bd833b66ec18ee0c9547", func := "mantlet/mantletlaw15.FlowBack", spec := "flowBack", apart := false }
def FlowBackSaid : Prop := flowBackRow.holds Try.pinned (OpenSpec.ofChange flowBackSpec)

/-- ITS FALSE NEIGHBOUR: 'it returns false'. Refute it at one input. -/
def flowBackWrong : ChangeSpec := { name := "flowBack", fn := fun _ => fun
  | [d1, d2] => { results := [.lit (.bool false)], args := [d1, d2] }
  | _ => none }
def FlowBackWrongFalsely : Prop := flowBackRow.holds Try.pinned (OpenSpec.ofChange flowBackWrong)

/-- 'mantletlaw15.FlowLater': WHATEVER THE INPUT: true; the input reads as it did. -/
def flowLaterSpec : ChangeSpec := { name := "flowLater", fn := fun _ => fun
  | [d1, d2, d3, d4, d5] => { results := [.lit (.bool true)], args := [d1, d2, d3, d4, d5] }
  | _ => none }
def flowLaterRow : OpenClaim := { program := "ytbdgjcmljjfomaa", sum := "d085f61e40e8f132147609da3476b79d57a3146b7299bd833b66ec18ee0c9547", func := "mantlet/mantletlaw15.FlowLater", spec := "flowLater", apart := false }
def FlowLaterSaid : Prop := flowLaterRow.holds Try.pinned (OpenSpec.ofChange flowLaterSpec)

/-- ITS FALSE NEIGHBOUR: 'it returns false'. Refute it at one input. -/
def flowLaterWrong : ChangeSpec := { name := "flowLater", fn := fun _ => fun
  | [d1, d2, d3, d4, d5] => { results := [.lit (.bool false)], args := [d1, d2, d3, d4, d5] }
  | _ => none }
def FlowLaterWrongFalsely : Prop := flowLaterRow.holds Try.pinned (OpenSpec.ofChange flowLaterWrong)

/-- 'mantletlaw14.GateMoves': WHATEVER THE INPUT: true; the input reads as it did. -/
def gateMovesSpec : ChangeSpec := { name := "gateMoves", fn := fun _ => fun
  | [d1, d2, d3] => { results := [.lit (.bool true)], args := [d1, d2, d3] }
  | _ => none }
def gateMovesRow : OpenClaim := { program := "ytbdgjcmljjfomaa", sum := "d085f61e40e8f132147609da3476b79d57a3146b7299bd833b66ec18ee0c9547", func := "mantlet/mantletlaw14.GateMoves", spec := "gateMoves", apart := false }
def GateMovesSaid : Prop := gateMovesRow.holds Try.pinned (OpenSpec.ofChange gateMovesSpec)

/-- ITS FALSE NEIGHBOUR: 'it returns false'. Refute it at one input. -/
def gateMovesWrong : ChangeSpec := { name := "gateMoves", fn := fun _ => fun
  | [d1, d2, d3] => { results := [.lit (.bool false)], args := [d1, d2, d3] }
  | _ => none }
def GateMovesWrongFalsely : Prop := gateMovesRow.holds Try.pinned (OpenSpec.ofChange gateMovesWrong)

/-- 'mantletlaw14.GateApart': WHATEVER THE INPUT: true; the input reads as it did. -/
def gateApartSpec : ChangeSpec := { name := "gateApart", fn := fun _ => fun
  | [d1, d2, d3] => { results := [.lit (.bool true)], args := [d1, d2, d3] }
  | _ => none }
def gateApartRow : OpenClaim := { program := "ytbdgjcmljjfomaa", sum := "d085f61e40e8f132147609da3476b79d57a3146b7299bd833b66ec18ee0c9547", func := "mantlet/mantletlaw14.GateApart", spec := "gateApart", apart := false }
def GateApartSaid : Prop := gateApartRow.holds Try.pinned (OpenSpec.ofChange gateApartSpec)

/-- ITS FALSE NEIGHBOUR: 'it returns false'. Refute it at one input. -/
def gateApartWrong : ChangeSpec := { name := "gateApart", fn := fun _ => fun
  | [d1, d2, d3] => { results := [.lit (.bool false)], args := [d1, d2, d3] }
  | _ => none }
def GateApartWrongFalsely : Prop := gateApartRow.holds Try.pinned (OpenSpec.ofChange gateApartWrong)

/- THE SECOND FORM. 'bulk': how many values and letters a reading holds, each counted each time it is reached (what is shared counts as often as it is met; a slice's spare places count too). A statement '..UptoSaid' is the law's where the arguments, and the package variables that the reading takes, are together of bulk at most 1048576: NARROWER than '..Said'. Prove '..Said' where nothing that the law and all that it calls make is longer than what came in: it says more and counts as full. Else prove '..UptoSaid'. A law counts once. -/
mutual
def uptoBulk {H : Type} : DataW H → Nat
  | .lit (.string bytes) => bytes.length + 1
  | .lit _ => 1
  | .nil => 1
  | .ptr d => uptoBulk d + 1
  | .slice elems spare => uptoBulkAll elems + uptoBulkAll spare + 1
  | .agg parts => uptoBulkAll parts + 1
  | .iface _ d => uptoBulk d + 1
  | .map entries => uptoBulkEntries entries + 1
  | .held _ => 1
def uptoBulkAll {H : Type} : List (DataW H) → Nat
  | [] => 0
  | d :: r => uptoBulk d + uptoBulkAll r
def uptoBulkEntries {H : Type} : List (Lit × DataW H) → Nat
  | [] => 0
  | x :: r => uptoBulkEntry x + uptoBulkEntries r
def uptoBulkEntry {H : Type} : Lit × DataW H → Nat
  | (.string bytes, d) => bytes.length + uptoBulk d + 1
  | (_, d) => uptoBulk d + 1
 end
def uptoSmall : (H : Type) → List (DataW H) → Bool := fun _ ds => decide (uptoBulkAll ds ≤ 1048576)
def OpenSpec.upto (s : _root_.Go.ChangeSpec) : _root_.Go.OpenSpec := { _root_.Go.OpenSpec.ofChange s with cond := some uptoSmall }

/-- 'mantletlaw13.MatchFirst', WHERE WHAT IT READS IS OF BULK AT MOST 1048576: true; the input reads as it did. -/
def matchFirstUptoRow : OpenClaim := { program := "ytbdgjcmljjfomaa", sum := "d085f61e40e8f132147609da3476b79d57a3146b7299bd833b66ec18ee0c9547", func := "mantlet/mantletlaw13.MatchFirst", spec := "matchFirst", unfollowed := true, recurses := true, apart := false, narrowed := true }
def MatchFirstUptoSaid : Prop := matchFirstUptoRow.holds Try.pinned (OpenSpec.upto matchFirstSpec)

/-- 'mantletlaw13.MatchAhead', WHERE WHAT IT READS IS OF BULK AT MOST 1048576: true; the input reads as it did. -/
def matchAheadUptoRow : OpenClaim := { program := "ytbdgjcmljjfomaa", sum := "d085f61e40e8f132147609da3476b79d57a3146b7299bd833b66ec18ee0c9547", func := "mantlet/mantletlaw13.MatchAhead", spec := "matchAhead", unfollowed := true, recurses := true, apart := false, narrowed := true }
def MatchAheadUptoSaid : Prop := matchAheadUptoRow.holds Try.pinned (OpenSpec.upto matchAheadSpec)

/-- 'mantletlaw13.MatchBehind', WHERE WHAT IT READS IS OF BULK AT MOST 1048576: true; the input reads as it did. -/
def matchBehindUptoRow : OpenClaim := { program := "ytbdgjcmljjfomaa", sum := "d085f61e40e8f132147609da3476b79d57a3146b7299bd833b66ec18ee0c9547", func := "mantlet/mantletlaw13.MatchBehind", spec := "matchBehind", unfollowed := true, recurses := true, apart := false, narrowed := true }
def MatchBehindUptoSaid : Prop := matchBehindUptoRow.holds Try.pinned (OpenSpec.upto matchBehindSpec)

/-- 'mantletlaw14.GatePacks', WHERE WHAT IT READS IS OF BULK AT MOST 1048576: true; the input reads as it did. -/
def gatePacksUptoRow : OpenClaim := { program := "ytbdgjcmljjfomaa", sum := "d085f61e40e8f132147609da3476b79d57a3146b7299bd833b66ec18ee0c9547", func := "mantlet/mantletlaw14.GatePacks", spec := "gatePacks", apart := false, narrowed := true }
def GatePacksUptoSaid : Prop := gatePacksUptoRow.holds Try.pinned (OpenSpec.upto gatePacksSpec)

/-- 'mantletlaw14.GateBack', WHERE WHAT IT READS IS OF BULK AT MOST 1048576: true; the input reads as it did. -/
def gateBackUptoRow : OpenClaim := { program := "ytbdgjcmljjfomaa", sum := "d085f61e40e8f132147609da3476b79d57a3146b7299bd833b66ec18ee0c9547", func := "mantlet/mantletlaw14.GateBack", spec := "gateBack", apart := false, narrowed := true }
def GateBackUptoSaid : Prop := gateBackUptoRow.holds Try.pinned (OpenSpec.upto gateBackSpec)

/-- 'mantletlaw15.FlowPacks', WHERE WHAT IT READS IS OF BULK AT MOST 1048576: true; the input reads as it did. -/
def flowPacksUptoRow : OpenClaim := { program := "ytbdgjcmljjfomaa", sum := "d085f61e40e8f132147609da3476b79d57a3146b7299bd833b66ec18ee0c9547", func := "mantlet/mantletlaw15.FlowPacks", spec := "flowPacks", apart := false, narrowed := true }
def FlowPacksUptoSaid : Prop := flowPacksUptoRow.holds Try.pinned (OpenSpec.upto flowPacksSpec)

/-- 'mantletlaw15.FlowNexts', WHERE WHAT IT READS IS OF BULK AT MOST 1048576: true; the input reads as it did. -/
def flowNextsUptoRow : OpenClaim := { program := "ytbdgjcmljjfomaa", sum := "d085f61e40e8f132147609da3476b79d57a3146b7299bd833b66ec18ee0c9547", func := "mantlet/mantletlaw15.FlowNexts", spec := "flowNexts", apart := false, narrowed := true }
def FlowNextsUptoSaid : Prop := flowNextsUptoRow.holds Try.pinned (OpenSpec.upto flowNextsSpec)

/-- 'mantletlaw15.FlowBack', WHERE WHAT IT READS IS OF BULK AT MOST 1048576: true; the input reads as it did. -/
def flowBackUptoRow : OpenClaim := { program := "ytbdgjcmljjfomaa", sum := "d085f61e40e8f132147609da3476b79d57a3146b7299bd833b66ec18ee0c9547", func := "mantlet/mantletlaw15.FlowBack", spec := "flowBack", apart := false, narrowed := true }
def FlowBackUptoSaid : Prop := flowBackUptoRow.holds Try.pinned (OpenSpec.upto flowBackSpec)

/-- 'mantletlaw15.FlowLater', WHERE WHAT IT READS IS OF BULK AT MOST 1048576: true; the input reads as it did. -/
def flowLaterUptoRow : OpenClaim := { program := "ytbdgjcmljjfomaa", sum := "d085f61e40e8f132147609da3476b79d57a3146b7299bd833b66ec18ee0c9547", func := "mantlet/mantletlaw15.FlowLater", spec := "flowLater", apart := false, narrowed := true }
def FlowLaterUptoSaid : Prop := flowLaterUptoRow.holds Try.pinned (OpenSpec.upto flowLaterSpec)

/-- 'mantletlaw14.GateMoves', WHERE WHAT IT READS IS OF BULK AT MOST 1048576: true; the input reads as it did. -/
def gateMovesUptoRow : OpenClaim := { program := "ytbdgjcmljjfomaa", sum := "d085f61e40e8f132147609da3476b79d57a3146b7299bd833b66ec18ee0c9547", func := "mantlet/mantletlaw14.GateMoves", spec := "gateMoves", apart := false, narrowed := true }
def GateMovesUptoSaid : Prop := gateMovesUptoRow.holds Try.pinned (OpenSpec.upto gateMovesSpec)

/-- 'mantletlaw14.GateApart', WHERE WHAT IT READS IS OF BULK AT MOST 1048576: true; the input reads as it did. -/
def gateApartUptoRow : OpenClaim := { program := "ytbdgjcmljjfomaa", sum := "d085f61e40e8f132147609da3476b79d57a3146b7299bd833b66ec18ee0c9547", func := "mantlet/mantletlaw14.GateApart", spec := "gateApart", apart := false, narrowed := true }
def GateApartUptoSaid : Prop := gateApartUptoRow.holds Try.pinned (OpenSpec.upto gateApartSpec)

end Rows
end Go.Proofs.Ytbdgjcmljjfomaa
