/-
  No cell of these rows narrows 'for every input' (looked for: loops, veiled, ifaces, maps, wideKeys, modest, calm, conditions, laid).
  DERIVED. THE GIVEN ROWS OF THIS SEAT. 5 by the template 'for every input the law returns true; each argument reads behind the call as it read before'; 0 by the template 'total and deterministic' (their statements: YtplioggeccoleaaTotals.lean).
  GIVEN WITH THE SEED: the statements are not yours to turn. If you find one false, say at which input.
  Laid BY PROGRAM, IN A SANDBOX (cutbox-rows.mjs): the forced cells as the released guide's own fill.sh prints them over the translation 9fef1de5148858bf… (all of the seat's roots in one cut). By AI agents, Wed Nov 11 2026. No macro, syntax, notation, axiom, sorry.
-/
import Derived.Test.YtplioggeccoleaaChecked
import GoSem.Claim
import GoSem.ClaimJoined
import GoSem.ClaimMapViews
import Derived.JoinedTies
import Derived.KernelRfl
namespace Go.Proofs.Ytplioggeccoleaa
/- THE CELL 'sum', in the pinned program and in every row, IS THE sha256 OF THE DUMP (.gsa) THAT YtplioggeccoleaaProg.lean LOADS. Nothing in Lean hashes anything: it is a label: what it is worth is what the hold of that sum in a sandbox is worth. -/
noncomputable def Try.pinned : Pinned := { name := "ytplioggeccoleaa", sum := "9fef1de5148858bf6fc490b2fa99021f91d5199f960387a4a490fc5a14ce530d", checked := Try.checked }
namespace Rows
def none {H : Type} : Left H := { results := [], args := [] }

/-- 'mantletlaw10.KeyOf': WHATEVER THE INPUT: true; the input reads as it did. -/
def keyOfSpec : ChangeSpec := { name := "keyOf", fn := fun _ => fun
  | [d] => { results := [.lit (.bool true)], args := [d] }
  | _ => none }
def keyOfRow : OpenClaim := { program := "ytplioggeccoleaa", sum := "9fef1de5148858bf6fc490b2fa99021f91d5199f960387a4a490fc5a14ce530d", func := "mantlet/mantletlaw10.KeyOf", spec := "keyOf", apart := false }
def KeyOfSaid : Prop := keyOfRow.holds Try.pinned (OpenSpec.ofChange keyOfSpec)

/-- ITS FALSE NEIGHBOUR: 'it returns false'. Refute it at one input. -/
def keyOfWrong : ChangeSpec := { name := "keyOf", fn := fun _ => fun
  | [d] => { results := [.lit (.bool false)], args := [d] }
  | _ => none }
def KeyOfWrongFalsely : Prop := keyOfRow.holds Try.pinned (OpenSpec.ofChange keyOfWrong)

/-- 'mantletlaw10.KeyHash': WHATEVER THE INPUT: true; the input reads as it did. -/
def keyHashSpec : ChangeSpec := { name := "keyHash", fn := fun _ => fun
  | [d1, d2, d3] => { results := [.lit (.bool true)], args := [d1, d2, d3] }
  | _ => none }
def keyHashRow : OpenClaim := { program := "ytplioggeccoleaa", sum := "9fef1de5148858bf6fc490b2fa99021f91d5199f960387a4a490fc5a14ce530d", func := "mantlet/mantletlaw10.KeyHash", spec := "keyHash", apart := false }
def KeyHashSaid : Prop := keyHashRow.holds Try.pinned (OpenSpec.ofChange keyHashSpec)

/-- ITS FALSE NEIGHBOUR: 'it returns false'. Refute it at one input. -/
def keyHashWrong : ChangeSpec := { name := "keyHash", fn := fun _ => fun
  | [d1, d2, d3] => { results := [.lit (.bool false)], args := [d1, d2, d3] }
  | _ => none }
def KeyHashWrongFalsely : Prop := keyHashRow.holds Try.pinned (OpenSpec.ofChange keyHashWrong)

/-- 'mantletlaw10.KeyTurns': WHATEVER THE INPUT: true; the input reads as it did. -/
def keyTurnsSpec : ChangeSpec := { name := "keyTurns", fn := fun _ => fun
  | [d] => { results := [.lit (.bool true)], args := [d] }
  | _ => none }
def keyTurnsRow : OpenClaim := { program := "ytplioggeccoleaa", sum := "9fef1de5148858bf6fc490b2fa99021f91d5199f960387a4a490fc5a14ce530d", func := "mantlet/mantletlaw10.KeyTurns", spec := "keyTurns", apart := false }
def KeyTurnsSaid : Prop := keyTurnsRow.holds Try.pinned (OpenSpec.ofChange keyTurnsSpec)

/-- ITS FALSE NEIGHBOUR: 'it returns false'. Refute it at one input. -/
def keyTurnsWrong : ChangeSpec := { name := "keyTurns", fn := fun _ => fun
  | [d] => { results := [.lit (.bool false)], args := [d] }
  | _ => none }
def KeyTurnsWrongFalsely : Prop := keyTurnsRow.holds Try.pinned (OpenSpec.ofChange keyTurnsWrong)

/-- 'mantletlaw10.KeySame': WHATEVER THE INPUT: true; the input reads as it did. -/
def keySameSpec : ChangeSpec := { name := "keySame", fn := fun _ => fun
  | [d1, d2] => { results := [.lit (.bool true)], args := [d1, d2] }
  | _ => none }
def keySameRow : OpenClaim := { program := "ytplioggeccoleaa", sum := "9fef1de5148858bf6fc490b2fa99021f91d5199f960387a4a490fc5a14ce530d", func := "mantlet/mantletlaw10.KeySame", spec := "keySame", apart := false }
def KeySameSaid : Prop := keySameRow.holds Try.pinned (OpenSpec.ofChange keySameSpec)

/-- ITS FALSE NEIGHBOUR: 'it returns false'. Refute it at one input. -/
def keySameWrong : ChangeSpec := { name := "keySame", fn := fun _ => fun
  | [d1, d2] => { results := [.lit (.bool false)], args := [d1, d2] }
  | _ => none }
def KeySameWrongFalsely : Prop := keySameRow.holds Try.pinned (OpenSpec.ofChange keySameWrong)

/-- 'mantletlaw10.KeyOrders': WHATEVER THE INPUT: true; the input reads as it did. -/
def keyOrdersSpec : ChangeSpec := { name := "keyOrders", fn := fun _ => fun
  | [d1, d2, d3, d4] => { results := [.lit (.bool true)], args := [d1, d2, d3, d4] }
  | _ => none }
def keyOrdersRow : OpenClaim := { program := "ytplioggeccoleaa", sum := "9fef1de5148858bf6fc490b2fa99021f91d5199f960387a4a490fc5a14ce530d", func := "mantlet/mantletlaw10.KeyOrders", spec := "keyOrders", apart := false }
def KeyOrdersSaid : Prop := keyOrdersRow.holds Try.pinned (OpenSpec.ofChange keyOrdersSpec)

/-- ITS FALSE NEIGHBOUR: 'it returns false'. Refute it at one input. -/
def keyOrdersWrong : ChangeSpec := { name := "keyOrders", fn := fun _ => fun
  | [d1, d2, d3, d4] => { results := [.lit (.bool false)], args := [d1, d2, d3, d4] }
  | _ => none }
def KeyOrdersWrongFalsely : Prop := keyOrdersRow.holds Try.pinned (OpenSpec.ofChange keyOrdersWrong)

/- THE SECOND FORM. 'bulk': how many values and letters a reading holds, each counted each time it is reached (what is shared counts as often as it is met; a slice's spare places count too). A statement '..UptoSaid' is the law's where the arguments, and the package variables that the reading takes, are together of bulk at most 1048576: NARROWER than '..Said'. Prove '..Said' where nothing that the law and all that it calls make is longer than what came in: it says more and counts as full. Else prove '..UptoSaid'. A law counts once. -/
mutual
def uptoBulk {H : Type} : DataW H → Nat
  | .lit (.string bytes) => bytes.length + 1
  | .lit _ => 1
  | .nil => 1
  | .ptr d => uptoBulk d + 1
  | .slice elems spare => uptoBulkAll elems + uptoBulkAll spare + 1
  | .agg parts => uptoBulkAll parts + 1
  | .iface _ d => uptoBulk d + 1
  | .map entries => uptoBulkEntries entries + 1
  | .held _ => 1
def uptoBulkAll {H : Type} : List (DataW H) → Nat
  | [] => 0
  | d :: r => uptoBulk d + uptoBulkAll r
def uptoBulkEntries {H : Type} : List (Lit × DataW H) → Nat
  | [] => 0
  | x :: r => uptoBulkEntry x + uptoBulkEntries r
def uptoBulkEntry {H : Type} : Lit × DataW H → Nat
  | (.string bytes, d) => bytes.length + uptoBulk d + 1
  | (_, d) => uptoBulk d + 1
 end
def uptoSmall : (H : Type) → List (DataW H) → Bool := fun _ ds => decide (uptoBulkAll ds ≤ 1048576)
def OpenSpec.upto (s : _root_.Go.ChangeSpec) : _root_.Go.OpenSpec := { _root_.Go.OpenSpec.ofChange s with cond := some uptoSmall }

/-- 'mantletlaw10.KeyOf', WHERE WHAT IT READS IS OF BULK AT MOST 1048576: true; the input reads as it did. -/
def keyOfUptoRow : OpenClaim := { program := "ytplioggeccoleaa", sum := "9fef1de5148858bf6fc490b2fa99021f91d5199f960387a4a490fc5a14ce530d", func := "mantlet/mantletlaw10.KeyOf", spec := "keyOf", apart := false, narrowed := true }
def KeyOfUptoSaid : Prop := keyOfUptoRow.holds Try.pinned (OpenSpec.upto keyOfSpec)

/-- 'mantletlaw10.KeyHash', WHERE WHAT IT READS IS OF BULK AT MOST 1048576: true; the input reads as it did. -/
def keyHashUptoRow : OpenClaim := { program := "ytplioggeccoleaa", sum := "9fef1de5148858bf6fc490b2fa99021f91d5199f960387a4a490fc5a14ce530d", func := "mantlet/mantletlaw10.KeyHash", spec := "keyHash", apart := false, narrowed := true }
def KeyHashUptoSaid : Prop := keyHashUptoRow.holds Try.pinned (OpenSpec.upto keyHashSpec)

/-- 'mantletlaw10.KeyTurns', WHERE WHAT IT READS IS OF BULK AT MOST 1048576: true; the input reads as it did. -/
def keyTurnsUptoRow : OpenClaim := { program := "ytplioggeccoleaa", sum := "9fef1de5148858bf6fc490b2fa99021f91d5199f960387a4a490fc5a14ce530d", func := "mantlet/mantletlaw10.KeyTurns", spec := "keyTurns", apart := false, narrowed := true }
def KeyTurnsUptoSaid : Prop := keyTurnsUptoRow.holds Try.pinned (OpenSpec.upto keyTurnsSpec)

/-- 'mantletlaw10.KeySame', WHERE WHAT IT READS IS OF BULK AT MOST 1048576: true; the input reads as it did. -/
def keySameUptoRow : OpenClaim := { program := "ytplioggeccoleaa", sum := "9fef1de5148858bf6fc490b2fa99021f91d5199f960387a4a490fc5a14ce530d", func := "mantlet/mantletlaw10.KeySame", spec := "keySame", apart := false, narrowed := true }
def KeySameUptoSaid : Prop := keySameUptoRow.holds Try.pinned (OpenSpec.upto keySameSpec)

/-- 'mantletlaw10.KeyOrders', WHERE WHAT IT READS IS OF BULK AT MOST 1048576: true; the input reads as it did. -/
def keyOrdersUptoRow : OpenClaim := { program := "ytplioggeccoleaa", sum := "9fef1de5148858bf6fc490b2fa99021f91d5199f960387a4a490fc5a14ce530d", func := "mantlet/mantletlaw10.KeyOrders", spec := "keyOrders", apart := false, narrowed := true }
def KeyOrdersUptoSaid : Prop := keyOrdersUptoRow.holds Try.pinned (OpenSpec.upto keyOrdersSpec)

end Rows
end Go.Proofs.Ytplioggeccoleaa
