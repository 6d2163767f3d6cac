/-
  No cell of these rows narrows 'for every input' (looked for: loops, veiled, ifaces, maps, wideKeys, modest, calm, conditions, laid).
  DERIVED. THE GIVEN ROWS OF THIS SEAT. 10 by the template 'for every input the law returns true; each argument reads behind the call as it read before'; 0 by the template 'total and deterministic' (their statements: YtjmdidbhocmhgaaTotals.lean).
  GIVEN WITH THE SEED: the statements are not yours to turn. If you find one false, say at which input.
  Laid BY PROGRAM, IN A SANDBOX (cutbox-rows.mjs): the forced cells as the released guide's own fill.sh prints them over the translation c5db6246c646806f… (all of the seat's roots in one cut). By AI agents, Wed Nov 11 2026. No macro, syntax, notation, axiom, sorry.
-/
import Derived.Test.YtjmdidbhocmhgaaChecked
import GoSem.Claim
import GoSem.ClaimJoined
import GoSem.ClaimMapViews
import Derived.JoinedTies
import Derived.KernelRfl
namespace Go.Proofs.Ytjmdidbhocmhgaa
/- THE CELL 'sum', in the pinned program and in every row, IS THE sha256 OF THE DUMP (.gsa) THAT YtjmdidbhocmhgaaProg.lean LOADS. Nothing in Lean hashes anything: it is a label: what it is worth is what the hold of that sum in a sandbox is worth. -/
noncomputable def Try.pinned : Pinned := { name := "ytjmdidbhocmhgaa", sum := "c5db6246c646806f540e86222923063fa645793696290c68fb958d2296cadc77", checked := Try.checked }
namespace Rows
def none {H : Type} : Left H := { results := [], args := [] }

/-- 'mantletlaw02.SumAdds': WHATEVER THE INPUT: true; the input reads as it did. -/
def sumAddsSpec : ChangeSpec := { name := "sumAdds", fn := fun _ => fun
  | [d1, d2] => { results := [.lit (.bool true)], args := [d1, d2] }
  | _ => none }
def sumAddsRow : OpenClaim := { program := "ytjmdidbhocmhgaa", sum := "c5db6246c646806f540e86222923063fa645793696290c68fb958d2296cadc77", func := "mantlet/mantletlaw02.SumAdds", spec := "sumAdds", apart := false }
def SumAddsSaid : Prop := sumAddsRow.holds Try.pinned (OpenSpec.ofChange sumAddsSpec)

/-- ITS FALSE NEIGHBOUR: 'it returns false'. Refute it at one input. -/
def sumAddsWrong : ChangeSpec := { name := "sumAdds", fn := fun _ => fun
  | [d1, d2] => { results := [.lit (.bool false)], args := [d1, d2] }
  | _ => none }
def SumAddsWrongFalsely : Prop := sumAddsRow.holds Try.pinned (OpenSpec.ofChange sumAddsWrong)

/-- 'mantletlaw02.SumEdits': WHATEVER THE INPUT: true; the input reads as it did. -/
def sumEditsSpec : ChangeSpec := { name := "sumEdits", fn := fun _ => fun
  | [d1, d2, d3] => { results := [.lit (.bool true)], args := [d1, d2, d3] }
  | _ => none }
def sumEditsRow : OpenClaim := { program := "ytjmdidbhocmhgaa", sum := "c5db6246c646806f540e86222923063fa645793696290c68fb958d2296cadc77", func := "mantlet/mantletlaw02.SumEdits", spec := "sumEdits", apart := false }
def SumEditsSaid : Prop := sumEditsRow.holds Try.pinned (OpenSpec.ofChange sumEditsSpec)

/-- ITS FALSE NEIGHBOUR: 'it returns false'. Refute it at one input. -/
def sumEditsWrong : ChangeSpec := { name := "sumEdits", fn := fun _ => fun
  | [d1, d2, d3] => { results := [.lit (.bool false)], args := [d1, d2, d3] }
  | _ => none }
def SumEditsWrongFalsely : Prop := sumEditsRow.holds Try.pinned (OpenSpec.ofChange sumEditsWrong)

/-- 'mantletlaw02.SumZero': WHATEVER THE INPUT: true; the input reads as it did. -/
def sumZeroSpec : ChangeSpec := { name := "sumZero", fn := fun _ => fun
  | [d1, d2, d3] => { results := [.lit (.bool true)], args := [d1, d2, d3] }
  | _ => none }
def sumZeroRow : OpenClaim := { program := "ytjmdidbhocmhgaa", sum := "c5db6246c646806f540e86222923063fa645793696290c68fb958d2296cadc77", func := "mantlet/mantletlaw02.SumZero", spec := "sumZero", apart := false }
def SumZeroSaid : Prop := sumZeroRow.holds Try.pinned (OpenSpec.ofChange sumZeroSpec)

/-- ITS FALSE NEIGHBOUR: 'it returns false'. Refute it at one input. -/
def sumZeroWrong : ChangeSpec := { name := "sumZero", fn := fun _ => fun
  | [d1, d2, d3] => { results := [.lit (.bool false)], args := [d1, d2, d3] }
  | _ => none }
def SumZeroWrongFalsely : Prop := sumZeroRow.holds Try.pinned (OpenSpec.ofChange sumZeroWrong)

/-- 'mantletlaw02.SumChanges': WHATEVER THE INPUT: true; the input reads as it did. -/
def sumChangesSpec : ChangeSpec := { name := "sumChanges", fn := fun _ => fun
  | [d1, d2, d3] => { results := [.lit (.bool true)], args := [d1, d2, d3] }
  | _ => none }
def sumChangesRow : OpenClaim := { program := "ytjmdidbhocmhgaa", sum := "c5db6246c646806f540e86222923063fa645793696290c68fb958d2296cadc77", func := "mantlet/mantletlaw02.SumChanges", spec := "sumChanges", apart := false }
def SumChangesSaid : Prop := sumChangesRow.holds Try.pinned (OpenSpec.ofChange sumChangesSpec)

/-- ITS FALSE NEIGHBOUR: 'it returns false'. Refute it at one input. -/
def sumChangesWrong : ChangeSpec := { name := "sumChanges", fn := fun _ => fun
  | [d1, d2, d3] => { results := [.lit (.bool false)], args := [d1, d2, d3] }
  | _ => none }
def SumChangesWrongFalsely : Prop := sumChangesRow.holds Try.pinned (OpenSpec.ofChange sumChangesWrong)

/-- 'mantletlaw02.SumParts': WHATEVER THE INPUT: true; the input reads as it did. -/
def sumPartsSpec : ChangeSpec := { name := "sumParts", fn := fun _ => fun
  | [d1, d2] => { results := [.lit (.bool true)], args := [d1, d2] }
  | _ => none }
def sumPartsRow : OpenClaim := { program := "ytjmdidbhocmhgaa", sum := "c5db6246c646806f540e86222923063fa645793696290c68fb958d2296cadc77", func := "mantlet/mantletlaw02.SumParts", spec := "sumParts", apart := false }
def SumPartsSaid : Prop := sumPartsRow.holds Try.pinned (OpenSpec.ofChange sumPartsSpec)

/-- ITS FALSE NEIGHBOUR: 'it returns false'. Refute it at one input. -/
def sumPartsWrong : ChangeSpec := { name := "sumParts", fn := fun _ => fun
  | [d1, d2] => { results := [.lit (.bool false)], args := [d1, d2] }
  | _ => none }
def SumPartsWrongFalsely : Prop := sumPartsRow.holds Try.pinned (OpenSpec.ofChange sumPartsWrong)

/-- 'mantletlaw01.FieldGets': WHATEVER THE INPUT: true; the input reads as it did. -/
def fieldGetsSpec : ChangeSpec := { name := "fieldGets", fn := fun _ => fun
  | [d1, d2, d3, d4] => { results := [.lit (.bool true)], args := [d1, d2, d3, d4] }
  | _ => none }
def fieldGetsRow : OpenClaim := { program := "ytjmdidbhocmhgaa", sum := "c5db6246c646806f540e86222923063fa645793696290c68fb958d2296cadc77", func := "mantlet/mantletlaw01.FieldGets", spec := "fieldGets", apart := false }
def FieldGetsSaid : Prop := fieldGetsRow.holds Try.pinned (OpenSpec.ofChange fieldGetsSpec)

/-- ITS FALSE NEIGHBOUR: 'it returns false'. Refute it at one input. -/
def fieldGetsWrong : ChangeSpec := { name := "fieldGets", fn := fun _ => fun
  | [d1, d2, d3, d4] => { results := [.lit (.bool false)], args := [d1, d2, d3, d4] }
  | _ => none }
def FieldGetsWrongFalsely : Prop := fieldGetsRow.holds Try.pinned (OpenSpec.ofChange fieldGetsWrong)

/-- 'mantletlaw01.FieldSigns': WHATEVER THE INPUT: true; the input reads as it did. -/
def fieldSignsSpec : ChangeSpec := { name := "fieldSigns", fn := fun _ => fun
  | [d1, d2] => { results := [.lit (.bool true)], args := [d1, d2] }
  | _ => none }
def fieldSignsRow : OpenClaim := { program := "ytjmdidbhocmhgaa", sum := "c5db6246c646806f540e86222923063fa645793696290c68fb958d2296cadc77", func := "mantlet/mantletlaw01.FieldSigns", spec := "fieldSigns", apart := false }
def FieldSignsSaid : Prop := fieldSignsRow.holds Try.pinned (OpenSpec.ofChange fieldSignsSpec)

/-- ITS FALSE NEIGHBOUR: 'it returns false'. Refute it at one input. -/
def fieldSignsWrong : ChangeSpec := { name := "fieldSigns", fn := fun _ => fun
  | [d1, d2] => { results := [.lit (.bool false)], args := [d1, d2] }
  | _ => none }
def FieldSignsWrongFalsely : Prop := fieldSignsRow.holds Try.pinned (OpenSpec.ofChange fieldSignsWrong)

/-- 'mantletlaw01.FieldNums': WHATEVER THE INPUT: true; the input reads as it did. -/
def fieldNumsSpec : ChangeSpec := { name := "fieldNums", fn := fun _ => fun
  | [d1, d2, d3, d4] => { results := [.lit (.bool true)], args := [d1, d2, d3, d4] }
  | _ => none }
def fieldNumsRow : OpenClaim := { program := "ytjmdidbhocmhgaa", sum := "c5db6246c646806f540e86222923063fa645793696290c68fb958d2296cadc77", func := "mantlet/mantletlaw01.FieldNums", spec := "fieldNums", apart := false }
def FieldNumsSaid : Prop := fieldNumsRow.holds Try.pinned (OpenSpec.ofChange fieldNumsSpec)

/-- ITS FALSE NEIGHBOUR: 'it returns false'. Refute it at one input. -/
def fieldNumsWrong : ChangeSpec := { name := "fieldNums", fn := fun _ => fun
  | [d1, d2, d3, d4] => { results := [.lit (.bool false)], args := [d1, d2, d3, d4] }
  | _ => none }
def FieldNumsWrongFalsely : Prop := fieldNumsRow.holds Try.pinned (OpenSpec.ofChange fieldNumsWrong)

/-- 'mantletlaw01.FieldApart': WHATEVER THE INPUT: true; the input reads as it did. -/
def fieldApartSpec : ChangeSpec := { name := "fieldApart", fn := fun _ => fun
  | [d1, d2, d3, d4, d5, d6] => { results := [.lit (.bool true)], args := [d1, d2, d3, d4, d5, d6] }
  | _ => none }
def fieldApartRow : OpenClaim := { program := "ytjmdidbhocmhgaa", sum := "c5db6246c646806f540e86222923063fa645793696290c68fb958d2296cadc77", func := "mantlet/mantletlaw01.FieldApart", spec := "fieldApart", apart := false }
def FieldApartSaid : Prop := fieldApartRow.holds Try.pinned (OpenSpec.ofChange fieldApartSpec)

/-- ITS FALSE NEIGHBOUR: 'it returns false'. Refute it at one input. -/
def fieldApartWrong : ChangeSpec := { name := "fieldApart", fn := fun _ => fun
  | [d1, d2, d3, d4, d5, d6] => { results := [.lit (.bool false)], args := [d1, d2, d3, d4, d5, d6] }
  | _ => none }
def FieldApartWrongFalsely : Prop := fieldApartRow.holds Try.pinned (OpenSpec.ofChange fieldApartWrong)

/-- 'mantletlaw01.FieldBack': WHATEVER THE INPUT: true; the input reads as it did. -/
def fieldBackSpec : ChangeSpec := { name := "fieldBack", fn := fun _ => fun
  | [d1, d2, d3] => { results := [.lit (.bool true)], args := [d1, d2, d3] }
  | _ => none }
def fieldBackRow : OpenClaim := { program := "ytjmdidbhocmhgaa", sum := "c5db6246c646806f540e86222923063fa645793696290c68fb958d2296cadc77", func := "mantlet/mantletlaw01.FieldBack", spec := "fieldBack", apart := false }
def FieldBackSaid : Prop := fieldBackRow.holds Try.pinned (OpenSpec.ofChange fieldBackSpec)

/-- ITS FALSE NEIGHBOUR: 'it returns false'. Refute it at one input. -/
def fieldBackWrong : ChangeSpec := { name := "fieldBack", fn := fun _ => fun
  | [d1, d2, d3] => { results := [.lit (.bool false)], args := [d1, d2, d3] }
  | _ => none }
def FieldBackWrongFalsely : Prop := fieldBackRow.holds Try.pinned (OpenSpec.ofChange fieldBackWrong)

/- THE SECOND FORM. 'bulk': how many values and letters a reading holds, each counted each time it is reached (what is shared counts as often as it is met; a slice's spare places count too). A statement '..UptoSaid' is the law's where the arguments, and the package variables that the reading takes, are together of bulk at most 1048576: NARROWER than '..Said'. Prove '..Said' where nothing that the law and all that it calls make is longer than what came in: it says more and counts as full. Else prove '..UptoSaid'. A law counts once. -/
mutual
def uptoBulk {H : Type} : DataW H → Nat
  | .lit (.string bytes) => bytes.length + 1
  | .lit _ => 1
  | .nil => 1
  | .ptr d => uptoBulk d + 1
  | .slice elems spare => uptoBulkAll elems + uptoBulkAll spare + 1
  | .agg parts => uptoBulkAll parts + 1
  | .iface _ d => uptoBulk d + 1
  | .map entries => uptoBulkEntries entries + 1
  | .held _ => 1
def uptoBulkAll {H : Type} : List (DataW H) → Nat
  | [] => 0
  | d :: r => uptoBulk d + uptoBulkAll r
def uptoBulkEntries {H : Type} : List (Lit × DataW H) → Nat
  | [] => 0
  | x :: r => uptoBulkEntry x + uptoBulkEntries r
def uptoBulkEntry {H : Type} : Lit × DataW H → Nat
  | (.string bytes, d) => bytes.length + uptoBulk d + 1
  | (_, d) => uptoBulk d + 1
 end
def uptoSmall : (H : Type) → List (DataW H) → Bool := fun _ ds => decide (uptoBulkAll ds ≤ 1048576)
def OpenSpec.upto (s : _root_.Go.ChangeSpec) : _root_.Go.OpenSpec := { _root_.Go.OpenSpec.ofChange s with cond := some uptoSmall }

/-- 'mantletlaw02.SumAdds', WHERE WHAT IT READS IS OF BULK AT MOST 1048576: true; the input reads as it did. -/
def sumAddsUptoRow : OpenClaim := { program := "ytjmdidbhocmhgaa", sum := "c5db6246c646806f540e86222923063fa645793696290c68fb958d2296cadc77", func := "mantlet/mantletlaw02.SumAdds", spec := "sumAdds", apart := false, narrowed := true }
def SumAddsUptoSaid : Prop := sumAddsUptoRow.holds Try.pinned (OpenSpec.upto sumAddsSpec)

/-- 'mantletlaw02.SumEdits', WHERE WHAT IT READS IS OF BULK AT MOST 1048576: true; the input reads as it did. -/
def sumEditsUptoRow : OpenClaim := { program := "ytjmdidbhocmhgaa", sum := "c5db6246c646806f540e86222923063fa645793696290c68fb958d2296cadc77", func := "mantlet/mantletlaw02.SumEdits", spec := "sumEdits", apart := false, narrowed := true }
def SumEditsUptoSaid : Prop := sumEditsUptoRow.holds Try.pinned (OpenSpec.upto sumEditsSpec)

/-- 'mantletlaw02.SumZero', WHERE WHAT IT READS IS OF BULK AT MOST 1048576: true; the input reads as it did. -/
def sumZeroUptoRow : OpenClaim := { program := "ytjmdidbhocmhgaa", sum := "c5db6246c646806f540e86222923063fa645793696290c68fb958d2296cadc77", func := "mantlet/mantletlaw02.SumZero", spec := "sumZero", apart := false, narrowed := true }
def SumZeroUptoSaid : Prop := sumZeroUptoRow.holds Try.pinned (OpenSpec.upto sumZeroSpec)

/-- 'mantletlaw02.SumChanges', WHERE WHAT IT READS IS OF BULK AT MOST 1048576: true; the input reads as it did. -/
def sumChangesUptoRow : OpenClaim := { program := "ytjmdidbhocmhgaa", sum := "c5db6246c646806f540e86222923063fa645793696290c68fb958d2296cadc77", func := "mantlet/mantletlaw02.SumChanges", spec := "sumChanges", apart := false, narrowed := true }
def SumChangesUptoSaid : Prop := sumChangesUptoRow.holds Try.pinned (OpenSpec.upto sumChangesSpec)

/-- 'mantletlaw02.SumParts', WHERE WHAT IT READS IS OF BULK AT MOST 1048576: true; the input reads as it did. -/
def sumPartsUptoRow : OpenClaim := { program := "ytjmdidbhocmhgaa", sum := "c5db6246c646806f540e86222923063fa645793696290c68fb958d2296cadc77", func := "mantlet/mantletlaw02.SumParts", spec := "sumParts", apart := false, narrowed := true }
def SumPartsUptoSaid : Prop := sumPartsUptoRow.holds Try.pinned (OpenSpec.upto sumPartsSpec)

/-- 'mantletlaw01.FieldGets', WHERE WHAT IT READS IS OF BULK AT MOST 1048576: true; the input reads as it did. -/
def fieldGetsUptoRow : OpenClaim := { program := "ytjmdidbhocmhgaa", sum := "c5db6246c646806f540e86222923063fa645793696290c68fb958d2296cadc77", func := "mantlet/mantletlaw01.FieldGets", spec := "fieldGets", apart := false, narrowed := true }
def FieldGetsUptoSaid : Prop := fieldGetsUptoRow.holds Try.pinned (OpenSpec.upto fieldGetsSpec)

/-- 'mantletlaw01.FieldSigns', WHERE WHAT IT READS IS OF BULK AT MOST 1048576: true; the input reads as it did. -/
def fieldSignsUptoRow : OpenClaim := { program := "ytjmdidbhocmhgaa", sum := "c5db6246c646806f540e86222923063fa645793696290c68fb958d2296cadc77", func := "mantlet/mantletlaw01.FieldSigns", spec := "fieldSigns", apart := false, narrowed := true }
def FieldSignsUptoSaid : Prop := fieldSignsUptoRow.holds Try.pinned (OpenSpec.upto fieldSignsSpec)

/-- 'mantletlaw01.FieldNums', WHERE WHAT IT READS IS OF BULK AT MOST 1048576: true; the input reads as it did. -/
def fieldNumsUptoRow : OpenClaim := { program := "ytjmdidbhocmhgaa", sum := "c5db6246c646806f540e86222923063fa645793696290c68fb958d2296cadc77", func := "mantlet/mantletlaw01.FieldNums", spec := "fieldNums", apart := false, narrowed := true }
def FieldNumsUptoSaid : Prop := fieldNumsUptoRow.holds Try.pinned (OpenSpec.upto fieldNumsSpec)

/-- 'mantletlaw01.FieldApart', WHERE WHAT IT READS IS OF BULK AT MOST 1048576: true; the input reads as it did. -/
def fieldApartUptoRow : OpenClaim := { program := "ytjmdidbhocmhgaa", sum := "c5db6246c646806f540e86222923063fa645793696290c68fb958d2296cadc77", func := "mantlet/mantletlaw01.FieldApart", spec := "fieldApart", apart := false, narrowed := true }
def FieldApartUptoSaid : Prop := fieldApartUptoRow.holds Try.pinned (OpenSpec.upto fieldApartSpec)

/-- 'mantletlaw01.FieldBack', WHERE WHAT IT READS IS OF BULK AT MOST 1048576: true; the input reads as it did. -/
def fieldBackUptoRow : OpenClaim := { program := "ytjmdidbhocmhgaa", sum := "c5db6246c646806f540e86222923063fa645793696290c68fb958d2296cadc77", func := "mantlet/mantletlaw01.FieldBack", spec := "fieldBack", apart := false, narrowed := true }
def FieldBackUptoSaid : Prop := fieldBackUptoRow.holds Try.pinned (OpenSpec.upto fieldBackSpec)

end Rows
end Go.Proofs.Ytjmdidbhocmhgaa
