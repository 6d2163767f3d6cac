-- Made by a program of this workplace (wip/pr.sh) out of Lean's print of the translation; Lean checks it.
import Derived.Test.YtjmdidbhocmhgaaProg
import Derived.Below
import Derived.Deep.Draws
import Derived.Deep.AppendLies
import Derived.Maps.AppendAt
import Derived.OwnWalk
import Derived.Laws.BytesArg
import Derived.Laws.MakeOwn
import Derived.Laws.OwnMore
import Derived.Deep.OwnRows
import Derived.Tactics
import Derived.Lib.ConvBytes
import Derived.Laws.Slices
import Derived.WalkKit
import Derived.KernelRfl
import Derived.RowKit3
import Derived.Deep.LoopGhost
import Derived.Deep.QuietTactic
import Derived.BigQuiet
import Derived.WideLaws
import Derived.Deep.DeepCutAuto
import Derived.Deep.CutBlock
import Derived.Deep.RegionHeld3
import Derived.Laws.Rows
import Derived.Lib.AppendStr
import Derived.ArgAppend
import Derived.Laws.IdiomCopy
import Derived.OrdersHeld
import Derived.Laws.BitsLemmas
import Derived.RowKit
import Derived.Test.YtjmdidbhocmhgaaWWords
import Derived.Test.YtjmdidbhocmhgaaWLast
import Derived.Test.YtjmdidbhocmhgaaWTab
import Derived.Test.YtjmdidbhocmhgaaWFour
import Derived.Test.YtjmdidbhocmhgaaWQPut
import Derived.Test.YtjmdidbhocmhgaaWApart
import Derived.Test.YtjmdidbhocmhgaaWArr
import Derived.Test.YtjmdidbhocmhgaaWZeros
import Derived.Test.YtjmdidbhocmhgaaWFoot
import Derived.Test.YtjmdidbhocmhgaaWKept
import Derived.Test.YtjmdidbhocmhgaaWShare
import Derived.Test.YtjmdidbhocmhgaaWN
import Derived.Test.YtjmdidbhocmhgaaWFootNe
import Derived.Test.YtjmdidbhocmhgaaWAt
import Derived.Test.YtjmdidbhocmhgaaWEqStruct
import Derived.Test.YtjmdidbhocmhgaaWRepsOne
import Derived.Test.YtjmdidbhocmhgaaWInv
import Derived.Test.YtjmdidbhocmhgaaWInvWords
import Derived.Test.YtjmdidbhocmhgaaWGuard
import Derived.Test.YtjmdidbhocmhgaaWNEv
import Derived.Test.YtjmdidbhocmhgaaWMore
namespace Go.Proofs.Ytjmdidbhocmhgaa.Smz
open Go.RowKit Go.Proofs.YtjmdidbhocmhgaaW.PrintWords Go.Proofs.YtjmdidbhocmhgaaW.PrintLast Go.Proofs.YtjmdidbhocmhgaaW.PrintMore
attribute [local go_sem] max2_int min2_int max_two min_two max_three min_three max_four min_four   -- for this text's walks alone
set_option linter.unusedVariables false
set_option linter.unusedSimpArgs false



def errW : Option Int → Value
  | none => .nilIface
  | some c => .iface 0 (.int .i64 c)
theorem errW_none : errW none = .nilIface := rfl
theorem errW_some (c : Int) : errW (some c) = .iface 0 (.int .i64 c) := rfl

theorem info5 : (Try.prog.info? 5).map (fun i => (i.zero, i.size, i.bytes)) = some (some (.int .u8 0), 1, 1) := by kernel_rfl
-- the values' own types

theorem V_hq {α : Type} {d : Kd α} {e base m : Nat} {ok : Nat → Prop} {w w' : World} {v : Value} {xs : List α} (hq : w.drewN m = w') (h : Kd.V d e w base ok v xs) : Kd.V d e w' base ok v xs := by subst hq; exact Kd.V_drewN h m
end Go.Proofs.Ytjmdidbhocmhgaa.Smz
