/-
  No cell of these rows narrows 'for every input' (looked for: loops, veiled, ifaces, maps, wideKeys, modest, calm, conditions, laid).
  DERIVED. THE GIVEN ROWS OF THIS SEAT. 21 by the template 'for every input the law returns true; each argument reads behind the call as it read before'; 0 by the template 'total and deterministic' (their statements: YtofjgdbiieanjaaTotals.lean).
  GIVEN WITH THE SEED: the statements are not yours to turn. If you find one false, say at which input.
  Laid BY PROGRAM, IN A SANDBOX (cutbox-rows.mjs): the forced cells as the released guide's own fill.sh prints them over the translation 271ae86224d6f3c2… (all of the seat's roots in one cut). By AI agents, Wed Nov 11 2026. No macro, syntax, notation, axiom, sorry.
-/
import Derived.Test.YtofjgdbiieanjaaChecked
import GoSem.Claim
import GoSem.ClaimJoined
import GoSem.ClaimMapViews
import Derived.JoinedTies
import Derived.KernelRfl
namespace Go.Proofs.Ytofjgdbiieanjaa
/- THE CELL 'sum', in the pinned program and in every row, IS THE sha256 OF THE DUMP (.gsa) THAT YtofjgdbiieanjaaProg.lean LOADS. Nothing in Lean hashes anything: it is a label: what it is worth is what the hold of that sum in a sandbox is worth. -/
noncomputable def Try.pinned : Pinned := { name := "ytofjgdbiieanjaa", sum := "271ae86224d6f3c279bbca0e14d0672f3759cd8076a1be936021d7a6ae50e450", checked := Try.checked }
namespace Rows
def none {H : Type} : Left H := { results := [], args := [] }

/-- 'mantletlaw07.IcmpParses': WHATEVER THE INPUT: true; the input reads as it did. -/
def icmpParsesSpec : ChangeSpec := { name := "icmpParses", fn := fun _ => fun
  | [d] => { results := [.lit (.bool true)], args := [d] }
  | _ => none }
def icmpParsesRow : OpenClaim := { program := "ytofjgdbiieanjaa", sum := "271ae86224d6f3c279bbca0e14d0672f3759cd8076a1be936021d7a6ae50e450", func := "mantlet/mantletlaw07.IcmpParses", spec := "icmpParses", apart := false }
def IcmpParsesSaid : Prop := icmpParsesRow.holds Try.pinned (OpenSpec.ofChange icmpParsesSpec)

/-- ITS FALSE NEIGHBOUR: 'it returns false'. Refute it at one input. -/
def icmpParsesWrong : ChangeSpec := { name := "icmpParses", fn := fun _ => fun
  | [d] => { results := [.lit (.bool false)], args := [d] }
  | _ => none }
def IcmpParsesWrongFalsely : Prop := icmpParsesRow.holds Try.pinned (OpenSpec.ofChange icmpParsesWrong)

/-- 'mantletlaw07.IcmpBuilds': WHATEVER THE INPUT: true; the input reads as it did. -/
def icmpBuildsSpec : ChangeSpec := { name := "icmpBuilds", fn := fun _ => fun
  | [d1, d2, d3] => { results := [.lit (.bool true)], args := [d1, d2, d3] }
  | _ => none }
def icmpBuildsRow : OpenClaim := { program := "ytofjgdbiieanjaa", sum := "271ae86224d6f3c279bbca0e14d0672f3759cd8076a1be936021d7a6ae50e450", func := "mantlet/mantletlaw07.IcmpBuilds", spec := "icmpBuilds", apart := false }
def IcmpBuildsSaid : Prop := icmpBuildsRow.holds Try.pinned (OpenSpec.ofChange icmpBuildsSpec)

/-- ITS FALSE NEIGHBOUR: 'it returns false'. Refute it at one input. -/
def icmpBuildsWrong : ChangeSpec := { name := "icmpBuilds", fn := fun _ => fun
  | [d1, d2, d3] => { results := [.lit (.bool false)], args := [d1, d2, d3] }
  | _ => none }
def IcmpBuildsWrongFalsely : Prop := icmpBuildsRow.holds Try.pinned (OpenSpec.ofChange icmpBuildsWrong)

/-- 'mantletlaw07.IcmpBack': WHATEVER THE INPUT: true; the input reads as it did. -/
def icmpBackSpec : ChangeSpec := { name := "icmpBack", fn := fun _ => fun
  | [d1, d2, d3, d4] => { results := [.lit (.bool true)], args := [d1, d2, d3, d4] }
  | _ => none }
def icmpBackRow : OpenClaim := { program := "ytofjgdbiieanjaa", sum := "271ae86224d6f3c279bbca0e14d0672f3759cd8076a1be936021d7a6ae50e450", func := "mantlet/mantletlaw07.IcmpBack", spec := "icmpBack", apart := false }
def IcmpBackSaid : Prop := icmpBackRow.holds Try.pinned (OpenSpec.ofChange icmpBackSpec)

/-- ITS FALSE NEIGHBOUR: 'it returns false'. Refute it at one input. -/
def icmpBackWrong : ChangeSpec := { name := "icmpBack", fn := fun _ => fun
  | [d1, d2, d3, d4] => { results := [.lit (.bool false)], args := [d1, d2, d3, d4] }
  | _ => none }
def IcmpBackWrongFalsely : Prop := icmpBackRow.holds Try.pinned (OpenSpec.ofChange icmpBackWrong)

/-- 'mantletlaw05.TcpParses': WHATEVER THE INPUT: true; the input reads as it did. -/
def tcpParsesSpec : ChangeSpec := { name := "tcpParses", fn := fun _ => fun
  | [d1, d2, d3] => { results := [.lit (.bool true)], args := [d1, d2, d3] }
  | _ => none }
def tcpParsesRow : OpenClaim := { program := "ytofjgdbiieanjaa", sum := "271ae86224d6f3c279bbca0e14d0672f3759cd8076a1be936021d7a6ae50e450", func := "mantlet/mantletlaw05.TcpParses", spec := "tcpParses", apart := false }
def TcpParsesSaid : Prop := tcpParsesRow.holds Try.pinned (OpenSpec.ofChange tcpParsesSpec)

/-- ITS FALSE NEIGHBOUR: 'it returns false'. Refute it at one input. -/
def tcpParsesWrong : ChangeSpec := { name := "tcpParses", fn := fun _ => fun
  | [d1, d2, d3] => { results := [.lit (.bool false)], args := [d1, d2, d3] }
  | _ => none }
def TcpParsesWrongFalsely : Prop := tcpParsesRow.holds Try.pinned (OpenSpec.ofChange tcpParsesWrong)

/-- 'mantletlaw05.TcpBuilds': WHATEVER THE INPUT: true; the input reads as it did. -/
def tcpBuildsSpec : ChangeSpec := { name := "tcpBuilds", fn := fun _ => fun
  | [d1, d2, d3, d4, d5, d6, d7, d8] => { results := [.lit (.bool true)], args := [d1, d2, d3, d4, d5, d6, d7, d8] }
  | _ => none }
def tcpBuildsRow : OpenClaim := { program := "ytofjgdbiieanjaa", sum := "271ae86224d6f3c279bbca0e14d0672f3759cd8076a1be936021d7a6ae50e450", func := "mantlet/mantletlaw05.TcpBuilds", spec := "tcpBuilds", apart := false }
def TcpBuildsSaid : Prop := tcpBuildsRow.holds Try.pinned (OpenSpec.ofChange tcpBuildsSpec)

/-- ITS FALSE NEIGHBOUR: 'it returns false'. Refute it at one input. -/
def tcpBuildsWrong : ChangeSpec := { name := "tcpBuilds", fn := fun _ => fun
  | [d1, d2, d3, d4, d5, d6, d7, d8] => { results := [.lit (.bool false)], args := [d1, d2, d3, d4, d5, d6, d7, d8] }
  | _ => none }
def TcpBuildsWrongFalsely : Prop := tcpBuildsRow.holds Try.pinned (OpenSpec.ofChange tcpBuildsWrong)

/-- 'mantletlaw05.TcpBack': WHATEVER THE INPUT: true; the input reads as it did. -/
def tcpBackSpec : ChangeSpec := { name := "tcpBack", fn := fun _ => fun
  | [d1, d2, d3, d4, d5, d6, d7] => { results := [.lit (.bool true)], args := [d1, d2, d3, d4, d5, d6, d7] }
  | _ => none }
def tcpBackRow : OpenClaim := { program := "ytofjgdbiieanjaa", sum := "271ae86224d6f3c279bbca0e14d0672f3759cd8076a1be936021d7a6ae50e450", func := "mantlet/mantletlaw05.TcpBack", spec := "tcpBack", apart := false }
def TcpBackSaid : Prop := tcpBackRow.holds Try.pinned (OpenSpec.ofChange tcpBackSpec)

/-- ITS FALSE NEIGHBOUR: 'it returns false'. Refute it at one input. -/
def tcpBackWrong : ChangeSpec := { name := "tcpBack", fn := fun _ => fun
  | [d1, d2, d3, d4, d5, d6, d7] => { results := [.lit (.bool false)], args := [d1, d2, d3, d4, d5, d6, d7] }
  | _ => none }
def TcpBackWrongFalsely : Prop := tcpBackRow.holds Try.pinned (OpenSpec.ofChange tcpBackWrong)

/-- 'mantletlaw05.TcpFlags': WHATEVER THE INPUT: true; the input reads as it did. -/
def tcpFlagsSpec : ChangeSpec := { name := "tcpFlags", fn := fun _ => fun
  | [d] => { results := [.lit (.bool true)], args := [d] }
  | _ => none }
def tcpFlagsRow : OpenClaim := { program := "ytofjgdbiieanjaa", sum := "271ae86224d6f3c279bbca0e14d0672f3759cd8076a1be936021d7a6ae50e450", func := "mantlet/mantletlaw05.TcpFlags", spec := "tcpFlags", apart := false }
def TcpFlagsSaid : Prop := tcpFlagsRow.holds Try.pinned (OpenSpec.ofChange tcpFlagsSpec)

/-- ITS FALSE NEIGHBOUR: 'it returns false'. Refute it at one input. -/
def tcpFlagsWrong : ChangeSpec := { name := "tcpFlags", fn := fun _ => fun
  | [d] => { results := [.lit (.bool false)], args := [d] }
  | _ => none }
def TcpFlagsWrongFalsely : Prop := tcpFlagsRow.holds Try.pinned (OpenSpec.ofChange tcpFlagsWrong)

/-- 'mantletlaw06.UdpParses': WHATEVER THE INPUT: true; the input reads as it did. -/
def udpParsesSpec : ChangeSpec := { name := "udpParses", fn := fun _ => fun
  | [d1, d2, d3] => { results := [.lit (.bool true)], args := [d1, d2, d3] }
  | _ => none }
def udpParsesRow : OpenClaim := { program := "ytofjgdbiieanjaa", sum := "271ae86224d6f3c279bbca0e14d0672f3759cd8076a1be936021d7a6ae50e450", func := "mantlet/mantletlaw06.UdpParses", spec := "udpParses", apart := false }
def UdpParsesSaid : Prop := udpParsesRow.holds Try.pinned (OpenSpec.ofChange udpParsesSpec)

/-- ITS FALSE NEIGHBOUR: 'it returns false'. Refute it at one input. -/
def udpParsesWrong : ChangeSpec := { name := "udpParses", fn := fun _ => fun
  | [d1, d2, d3] => { results := [.lit (.bool false)], args := [d1, d2, d3] }
  | _ => none }
def UdpParsesWrongFalsely : Prop := udpParsesRow.holds Try.pinned (OpenSpec.ofChange udpParsesWrong)

/-- 'mantletlaw06.UdpBuilds': WHATEVER THE INPUT: true; the input reads as it did. -/
def udpBuildsSpec : ChangeSpec := { name := "udpBuilds", fn := fun _ => fun
  | [d1, d2, d3, d4, d5] => { results := [.lit (.bool true)], args := [d1, d2, d3, d4, d5] }
  | _ => none }
def udpBuildsRow : OpenClaim := { program := "ytofjgdbiieanjaa", sum := "271ae86224d6f3c279bbca0e14d0672f3759cd8076a1be936021d7a6ae50e450", func := "mantlet/mantletlaw06.UdpBuilds", spec := "udpBuilds", apart := false }
def UdpBuildsSaid : Prop := udpBuildsRow.holds Try.pinned (OpenSpec.ofChange udpBuildsSpec)

/-- ITS FALSE NEIGHBOUR: 'it returns false'. Refute it at one input. -/
def udpBuildsWrong : ChangeSpec := { name := "udpBuilds", fn := fun _ => fun
  | [d1, d2, d3, d4, d5] => { results := [.lit (.bool false)], args := [d1, d2, d3, d4, d5] }
  | _ => none }
def UdpBuildsWrongFalsely : Prop := udpBuildsRow.holds Try.pinned (OpenSpec.ofChange udpBuildsWrong)

/-- 'mantletlaw06.UdpBack': WHATEVER THE INPUT: true; the input reads as it did. -/
def udpBackSpec : ChangeSpec := { name := "udpBack", fn := fun _ => fun
  | [d1, d2, d3, d4, d5, d6, d7] => { results := [.lit (.bool true)], args := [d1, d2, d3, d4, d5, d6, d7] }
  | _ => none }
def udpBackRow : OpenClaim := { program := "ytofjgdbiieanjaa", sum := "271ae86224d6f3c279bbca0e14d0672f3759cd8076a1be936021d7a6ae50e450", func := "mantlet/mantletlaw06.UdpBack", spec := "udpBack", apart := false }
def UdpBackSaid : Prop := udpBackRow.holds Try.pinned (OpenSpec.ofChange udpBackSpec)

/-- ITS FALSE NEIGHBOUR: 'it returns false'. Refute it at one input. -/
def udpBackWrong : ChangeSpec := { name := "udpBack", fn := fun _ => fun
  | [d1, d2, d3, d4, d5, d6, d7] => { results := [.lit (.bool false)], args := [d1, d2, d3, d4, d5, d6, d7] }
  | _ => none }
def UdpBackWrongFalsely : Prop := udpBackRow.holds Try.pinned (OpenSpec.ofChange udpBackWrong)

/-- 'mantletlaw06.UdpPlain': WHATEVER THE INPUT: true; the input reads as it did. -/
def udpPlainSpec : ChangeSpec := { name := "udpPlain", fn := fun _ => fun
  | [d1, d2, d3, d4, d5] => { results := [.lit (.bool true)], args := [d1, d2, d3, d4, d5] }
  | _ => none }
def udpPlainRow : OpenClaim := { program := "ytofjgdbiieanjaa", sum := "271ae86224d6f3c279bbca0e14d0672f3759cd8076a1be936021d7a6ae50e450", func := "mantlet/mantletlaw06.UdpPlain", spec := "udpPlain", apart := false }
def UdpPlainSaid : Prop := udpPlainRow.holds Try.pinned (OpenSpec.ofChange udpPlainSpec)

/-- ITS FALSE NEIGHBOUR: 'it returns false'. Refute it at one input. -/
def udpPlainWrong : ChangeSpec := { name := "udpPlain", fn := fun _ => fun
  | [d1, d2, d3, d4, d5] => { results := [.lit (.bool false)], args := [d1, d2, d3, d4, d5] }
  | _ => none }
def UdpPlainWrongFalsely : Prop := udpPlainRow.holds Try.pinned (OpenSpec.ofChange udpPlainWrong)

/-- 'mantletlaw04.IpParses': WHATEVER THE INPUT: true; the input reads as it did. -/
def ipParsesSpec : ChangeSpec := { name := "ipParses", fn := fun _ => fun
  | [d] => { results := [.lit (.bool true)], args := [d] }
  | _ => none }
def ipParsesRow : OpenClaim := { program := "ytofjgdbiieanjaa", sum := "271ae86224d6f3c279bbca0e14d0672f3759cd8076a1be936021d7a6ae50e450", func := "mantlet/mantletlaw04.IpParses", spec := "ipParses", apart := false }
def IpParsesSaid : Prop := ipParsesRow.holds Try.pinned (OpenSpec.ofChange ipParsesSpec)

/-- ITS FALSE NEIGHBOUR: 'it returns false'. Refute it at one input. -/
def ipParsesWrong : ChangeSpec := { name := "ipParses", fn := fun _ => fun
  | [d] => { results := [.lit (.bool false)], args := [d] }
  | _ => none }
def IpParsesWrongFalsely : Prop := ipParsesRow.holds Try.pinned (OpenSpec.ofChange ipParsesWrong)

/-- 'mantletlaw04.IpBuilds': WHATEVER THE INPUT: true; the input reads as it did. -/
def ipBuildsSpec : ChangeSpec := { name := "ipBuilds", fn := fun _ => fun
  | [d1, d2] => { results := [.lit (.bool true)], args := [d1, d2] }
  | _ => none }
def ipBuildsRow : OpenClaim := { program := "ytofjgdbiieanjaa", sum := "271ae86224d6f3c279bbca0e14d0672f3759cd8076a1be936021d7a6ae50e450", func := "mantlet/mantletlaw04.IpBuilds", spec := "ipBuilds", apart := false }
def IpBuildsSaid : Prop := ipBuildsRow.holds Try.pinned (OpenSpec.ofChange ipBuildsSpec)

/-- ITS FALSE NEIGHBOUR: 'it returns false'. Refute it at one input. -/
def ipBuildsWrong : ChangeSpec := { name := "ipBuilds", fn := fun _ => fun
  | [d1, d2] => { results := [.lit (.bool false)], args := [d1, d2] }
  | _ => none }
def IpBuildsWrongFalsely : Prop := ipBuildsRow.holds Try.pinned (OpenSpec.ofChange ipBuildsWrong)

/-- 'mantletlaw04.IpBack': WHATEVER THE INPUT: true; the input reads as it did. -/
def ipBackSpec : ChangeSpec := { name := "ipBack", fn := fun _ => fun
  | [d1, d2, d3, d4] => { results := [.lit (.bool true)], args := [d1, d2, d3, d4] }
  | _ => none }
def ipBackRow : OpenClaim := { program := "ytofjgdbiieanjaa", sum := "271ae86224d6f3c279bbca0e14d0672f3759cd8076a1be936021d7a6ae50e450", func := "mantlet/mantletlaw04.IpBack", spec := "ipBack", apart := false }
def IpBackSaid : Prop := ipBackRow.holds Try.pinned (OpenSpec.ofChange ipBackSpec)

/-- ITS FALSE NEIGHBOUR: 'it returns false'. Refute it at one input. -/
def ipBackWrong : ChangeSpec := { name := "ipBack", fn := fun _ => fun
  | [d1, d2, d3, d4] => { results := [.lit (.bool false)], args := [d1, d2, d3, d4] }
  | _ => none }
def IpBackWrongFalsely : Prop := ipBackRow.holds Try.pinned (OpenSpec.ofChange ipBackWrong)

/-- 'mantletlaw04.IpCuts': WHATEVER THE INPUT: true; the input reads as it did. -/
def ipCutsSpec : ChangeSpec := { name := "ipCuts", fn := fun _ => fun
  | [d1, d2] => { results := [.lit (.bool true)], args := [d1, d2] }
  | _ => none }
def ipCutsRow : OpenClaim := { program := "ytofjgdbiieanjaa", sum := "271ae86224d6f3c279bbca0e14d0672f3759cd8076a1be936021d7a6ae50e450", func := "mantlet/mantletlaw04.IpCuts", spec := "ipCuts", apart := false }
def IpCutsSaid : Prop := ipCutsRow.holds Try.pinned (OpenSpec.ofChange ipCutsSpec)

/-- ITS FALSE NEIGHBOUR: 'it returns false'. Refute it at one input. -/
def ipCutsWrong : ChangeSpec := { name := "ipCuts", fn := fun _ => fun
  | [d1, d2] => { results := [.lit (.bool false)], args := [d1, d2] }
  | _ => none }
def IpCutsWrongFalsely : Prop := ipCutsRow.holds Try.pinned (OpenSpec.ofChange ipCutsWrong)

/-- 'mantletlaw08.WireParses': WHATEVER THE INPUT: true; the input reads as it did. -/
def wireParsesSpec : ChangeSpec := { name := "wireParses", fn := fun _ => fun
  | [d] => { results := [.lit (.bool true)], args := [d] }
  | _ => none }
def wireParsesRow : OpenClaim := { program := "ytofjgdbiieanjaa", sum := "271ae86224d6f3c279bbca0e14d0672f3759cd8076a1be936021d7a6ae50e450", func := "mantlet/mantletlaw08.WireParses", spec := "wireParses", apart := false }
def WireParsesSaid : Prop := wireParsesRow.holds Try.pinned (OpenSpec.ofChange wireParsesSpec)

/-- ITS FALSE NEIGHBOUR: 'it returns false'. Refute it at one input. -/
def wireParsesWrong : ChangeSpec := { name := "wireParses", fn := fun _ => fun
  | [d] => { results := [.lit (.bool false)], args := [d] }
  | _ => none }
def WireParsesWrongFalsely : Prop := wireParsesRow.holds Try.pinned (OpenSpec.ofChange wireParsesWrong)

/-- 'mantletlaw08.WireSane': WHATEVER THE INPUT: true; the input reads as it did. -/
def wireSaneSpec : ChangeSpec := { name := "wireSane", fn := fun _ => fun
  | [d] => { results := [.lit (.bool true)], args := [d] }
  | _ => none }
def wireSaneRow : OpenClaim := { program := "ytofjgdbiieanjaa", sum := "271ae86224d6f3c279bbca0e14d0672f3759cd8076a1be936021d7a6ae50e450", func := "mantlet/mantletlaw08.WireSane", spec := "wireSane", apart := false }
def WireSaneSaid : Prop := wireSaneRow.holds Try.pinned (OpenSpec.ofChange wireSaneSpec)

/-- ITS FALSE NEIGHBOUR: 'it returns false'. Refute it at one input. -/
def wireSaneWrong : ChangeSpec := { name := "wireSane", fn := fun _ => fun
  | [d] => { results := [.lit (.bool false)], args := [d] }
  | _ => none }
def WireSaneWrongFalsely : Prop := wireSaneRow.holds Try.pinned (OpenSpec.ofChange wireSaneWrong)

/-- 'mantletlaw08.WireBehind': WHATEVER THE INPUT: true; the input reads as it did. -/
def wireBehindSpec : ChangeSpec := { name := "wireBehind", fn := fun _ => fun
  | [d1, d2] => { results := [.lit (.bool true)], args := [d1, d2] }
  | _ => none }
def wireBehindRow : OpenClaim := { program := "ytofjgdbiieanjaa", sum := "271ae86224d6f3c279bbca0e14d0672f3759cd8076a1be936021d7a6ae50e450", func := "mantlet/mantletlaw08.WireBehind", spec := "wireBehind", apart := false }
def WireBehindSaid : Prop := wireBehindRow.holds Try.pinned (OpenSpec.ofChange wireBehindSpec)

/-- ITS FALSE NEIGHBOUR: 'it returns false'. Refute it at one input. -/
def wireBehindWrong : ChangeSpec := { name := "wireBehind", fn := fun _ => fun
  | [d1, d2] => { results := [.lit (.bool false)], args := [d1, d2] }
  | _ => none }
def WireBehindWrongFalsely : Prop := wireBehindRow.holds Try.pinned (OpenSpec.ofChange wireBehindWrong)

/-- 'mantletlaw09.PackBuilds': WHATEVER THE INPUT: true; the input reads as it did. -/
def packBuildsSpec : ChangeSpec := { name := "packBuilds", fn := fun _ => fun
  | [d1, d2] => { results := [.lit (.bool true)], args := [d1, d2] }
  | _ => none }
def packBuildsRow : OpenClaim := { program := "ytofjgdbiieanjaa", sum := "271ae86224d6f3c279bbca0e14d0672f3759cd8076a1be936021d7a6ae50e450", func := "mantlet/mantletlaw09.PackBuilds", spec := "packBuilds", apart := false }
def PackBuildsSaid : Prop := packBuildsRow.holds Try.pinned (OpenSpec.ofChange packBuildsSpec)

/-- ITS FALSE NEIGHBOUR: 'it returns false'. Refute it at one input. -/
def packBuildsWrong : ChangeSpec := { name := "packBuilds", fn := fun _ => fun
  | [d1, d2] => { results := [.lit (.bool false)], args := [d1, d2] }
  | _ => none }
def PackBuildsWrongFalsely : Prop := packBuildsRow.holds Try.pinned (OpenSpec.ofChange packBuildsWrong)

/-- 'mantletlaw09.PackBack': WHATEVER THE INPUT: true; the input reads as it did. -/
def packBackSpec : ChangeSpec := { name := "packBack", fn := fun _ => fun
  | [d1, d2, d3] => { results := [.lit (.bool true)], args := [d1, d2, d3] }
  | _ => none }
def packBackRow : OpenClaim := { program := "ytofjgdbiieanjaa", sum := "271ae86224d6f3c279bbca0e14d0672f3759cd8076a1be936021d7a6ae50e450", func := "mantlet/mantletlaw09.PackBack", spec := "packBack", apart := false }
def PackBackSaid : Prop := packBackRow.holds Try.pinned (OpenSpec.ofChange packBackSpec)

/-- ITS FALSE NEIGHBOUR: 'it returns false'. Refute it at one input. -/
def packBackWrong : ChangeSpec := { name := "packBack", fn := fun _ => fun
  | [d1, d2, d3] => { results := [.lit (.bool false)], args := [d1, d2, d3] }
  | _ => none }
def PackBackWrongFalsely : Prop := packBackRow.holds Try.pinned (OpenSpec.ofChange packBackWrong)

/-- 'mantletlaw09.PackUnlike': WHATEVER THE INPUT: true; the input reads as it did. -/
def packUnlikeSpec : ChangeSpec := { name := "packUnlike", fn := fun _ => fun
  | [d1, d2, d3, d4] => { results := [.lit (.bool true)], args := [d1, d2, d3, d4] }
  | _ => none }
def packUnlikeRow : OpenClaim := { program := "ytofjgdbiieanjaa", sum := "271ae86224d6f3c279bbca0e14d0672f3759cd8076a1be936021d7a6ae50e450", func := "mantlet/mantletlaw09.PackUnlike", spec := "packUnlike", apart := false }
def PackUnlikeSaid : Prop := packUnlikeRow.holds Try.pinned (OpenSpec.ofChange packUnlikeSpec)

/-- ITS FALSE NEIGHBOUR: 'it returns false'. Refute it at one input. -/
def packUnlikeWrong : ChangeSpec := { name := "packUnlike", fn := fun _ => fun
  | [d1, d2, d3, d4] => { results := [.lit (.bool false)], args := [d1, d2, d3, d4] }
  | _ => none }
def PackUnlikeWrongFalsely : Prop := packUnlikeRow.holds Try.pinned (OpenSpec.ofChange packUnlikeWrong)

/- THE SECOND FORM. 'bulk': how many values and letters a reading holds, each counted each time it is reached (what is shared counts as often as it is met; a slice's spare places count too). A statement '..UptoSaid' is the law's where the arguments, and the package variables that the reading takes, are together of bulk at most 1048576: NARROWER than '..Said'. Prove '..Said' where nothing that the law and all that it calls make is longer than what came in: it says more and counts as full. Else prove '..UptoSaid'. A law counts once. -/
mutual
def uptoBulk {H : Type} : DataW H → Nat
  | .lit (.string bytes) => bytes.length + 1
  | .lit _ => 1
  | .nil => 1
  | .ptr d => uptoBulk d + 1
  | .slice elems spare => uptoBulkAll elems + uptoBulkAll spare + 1
  | .agg parts => uptoBulkAll parts + 1
  | .iface _ d => uptoBulk d + 1
  | .map entries => uptoBulkEntries entries + 1
  | .held _ => 1
def uptoBulkAll {H : Type} : List (DataW H) → Nat
  | [] => 0
  | d :: r => uptoBulk d + uptoBulkAll r
def uptoBulkEntries {H : Type} : List (Lit × DataW H) → Nat
  | [] => 0
  | x :: r => uptoBulkEntry x + uptoBulkEntries r
def uptoBulkEntry {H : Type} : Lit × DataW H → Nat
  | (.string bytes, d) => bytes.length + uptoBulk d + 1
  | (_, d) => uptoBulk d + 1
 end
def uptoSmall : (H : Type) → List (DataW H) → Bool := fun _ ds => decide (uptoBulkAll ds ≤ 1048576)
def OpenSpec.upto (s : _root_.Go.ChangeSpec) : _root_.Go.OpenSpec := { _root_.Go.OpenSpec.ofChange s with cond := some uptoSmall }

/-- 'mantletlaw07.IcmpParses', WHERE WHAT IT READS IS OF BULK AT MOST 1048576: true; the input reads as it did. -/
def icmpParsesUptoRow : OpenClaim := { program := "ytofjgdbiieanjaa", sum := "271ae86224d6f3c279bbca0e14d0672f3759cd8076a1be936021d7a6ae50e450", func := "mantlet/mantletlaw07.IcmpParses", spec := "icmpParses", apart := false, narrowed := true }
def IcmpParsesUptoSaid : Prop := icmpParsesUptoRow.holds Try.pinned (OpenSpec.upto icmpParsesSpec)

/-- 'mantletlaw07.IcmpBuilds', WHERE WHAT IT READS IS OF BULK AT MOST 1048576: true; the input reads as it did. -/
def icmpBuildsUptoRow : OpenClaim := { program := "ytofjgdbiieanjaa", sum := "271ae86224d6f3c279bbca0e14d0672f3759cd8076a1be936021d7a6ae50e450", func := "mantlet/mantletlaw07.IcmpBuilds", spec := "icmpBuilds", apart := false, narrowed := true }
def IcmpBuildsUptoSaid : Prop := icmpBuildsUptoRow.holds Try.pinned (OpenSpec.upto icmpBuildsSpec)

/-- 'mantletlaw07.IcmpBack', WHERE WHAT IT READS IS OF BULK AT MOST 1048576: true; the input reads as it did. -/
def icmpBackUptoRow : OpenClaim := { program := "ytofjgdbiieanjaa", sum := "271ae86224d6f3c279bbca0e14d0672f3759cd8076a1be936021d7a6ae50e450", func := "mantlet/mantletlaw07.IcmpBack", spec := "icmpBack", apart := false, narrowed := true }
def IcmpBackUptoSaid : Prop := icmpBackUptoRow.holds Try.pinned (OpenSpec.upto icmpBackSpec)

/-- 'mantletlaw05.TcpParses', WHERE WHAT IT READS IS OF BULK AT MOST 1048576: true; the input reads as it did. -/
def tcpParsesUptoRow : OpenClaim := { program := "ytofjgdbiieanjaa", sum := "271ae86224d6f3c279bbca0e14d0672f3759cd8076a1be936021d7a6ae50e450", func := "mantlet/mantletlaw05.TcpParses", spec := "tcpParses", apart := false, narrowed := true }
def TcpParsesUptoSaid : Prop := tcpParsesUptoRow.holds Try.pinned (OpenSpec.upto tcpParsesSpec)

/-- 'mantletlaw05.TcpBuilds', WHERE WHAT IT READS IS OF BULK AT MOST 1048576: true; the input reads as it did. -/
def tcpBuildsUptoRow : OpenClaim := { program := "ytofjgdbiieanjaa", sum := "271ae86224d6f3c279bbca0e14d0672f3759cd8076a1be936021d7a6ae50e450", func := "mantlet/mantletlaw05.TcpBuilds", spec := "tcpBuilds", apart := false, narrowed := true }
def TcpBuildsUptoSaid : Prop := tcpBuildsUptoRow.holds Try.pinned (OpenSpec.upto tcpBuildsSpec)

/-- 'mantletlaw05.TcpBack', WHERE WHAT IT READS IS OF BULK AT MOST 1048576: true; the input reads as it did. -/
def tcpBackUptoRow : OpenClaim := { program := "ytofjgdbiieanjaa", sum := "271ae86224d6f3c279bbca0e14d0672f3759cd8076a1be936021d7a6ae50e450", func := "mantlet/mantletlaw05.TcpBack", spec := "tcpBack", apart := false, narrowed := true }
def TcpBackUptoSaid : Prop := tcpBackUptoRow.holds Try.pinned (OpenSpec.upto tcpBackSpec)

/-- 'mantletlaw05.TcpFlags', WHERE WHAT IT READS IS OF BULK AT MOST 1048576: true; the input reads as it did. -/
def tcpFlagsUptoRow : OpenClaim := { program := "ytofjgdbiieanjaa", sum := "271ae86224d6f3c279bbca0e14d0672f3759cd8076a1be936021d7a6ae50e450", func := "mantlet/mantletlaw05.TcpFlags", spec := "tcpFlags", apart := false, narrowed := true }
def TcpFlagsUptoSaid : Prop := tcpFlagsUptoRow.holds Try.pinned (OpenSpec.upto tcpFlagsSpec)

/-- 'mantletlaw06.UdpParses', WHERE WHAT IT READS IS OF BULK AT MOST 1048576: true; the input reads as it did. -/
def udpParsesUptoRow : OpenClaim := { program := "ytofjgdbiieanjaa", sum := "271ae86224d6f3c279bbca0e14d0672f3759cd8076a1be936021d7a6ae50e450", func := "mantlet/mantletlaw06.UdpParses", spec := "udpParses", apart := false, narrowed := true }
def UdpParsesUptoSaid : Prop := udpParsesUptoRow.holds Try.pinned (OpenSpec.upto udpParsesSpec)

/-- 'mantletlaw06.UdpBuilds', WHERE WHAT IT READS IS OF BULK AT MOST 1048576: true; the input reads as it did. -/
def udpBuildsUptoRow : OpenClaim := { program := "ytofjgdbiieanjaa", sum := "271ae86224d6f3c279bbca0e14d0672f3759cd8076a1be936021d7a6ae50e450", func := "mantlet/mantletlaw06.UdpBuilds", spec := "udpBuilds", apart := false, narrowed := true }
def UdpBuildsUptoSaid : Prop := udpBuildsUptoRow.holds Try.pinned (OpenSpec.upto udpBuildsSpec)

/-- 'mantletlaw06.UdpBack', WHERE WHAT IT READS IS OF BULK AT MOST 1048576: true; the input reads as it did. -/
def udpBackUptoRow : OpenClaim := { program := "ytofjgdbiieanjaa", sum := "271ae86224d6f3c279bbca0e14d0672f3759cd8076a1be936021d7a6ae50e450", func := "mantlet/mantletlaw06.UdpBack", spec := "udpBack", apart := false, narrowed := true }
def UdpBackUptoSaid : Prop := udpBackUptoRow.holds Try.pinned (OpenSpec.upto udpBackSpec)

/-- 'mantletlaw06.UdpPlain', WHERE WHAT IT READS IS OF BULK AT MOST 1048576: true; the input reads as it did. -/
def udpPlainUptoRow : OpenClaim := { program := "ytofjgdbiieanjaa", sum := "271ae86224d6f3c279bbca0e14d0672f3759cd8076a1be936021d7a6ae50e450", func := "mantlet/mantletlaw06.UdpPlain", spec := "udpPlain", apart := false, narrowed := true }
def UdpPlainUptoSaid : Prop := udpPlainUptoRow.holds Try.pinned (OpenSpec.upto udpPlainSpec)

/-- 'mantletlaw04.IpParses', WHERE WHAT IT READS IS OF BULK AT MOST 1048576: true; the input reads as it did. -/
def ipParsesUptoRow : OpenClaim := { program := "ytofjgdbiieanjaa", sum := "271ae86224d6f3c279bbca0e14d0672f3759cd8076a1be936021d7a6ae50e450", func := "mantlet/mantletlaw04.IpParses", spec := "ipParses", apart := false, narrowed := true }
def IpParsesUptoSaid : Prop := ipParsesUptoRow.holds Try.pinned (OpenSpec.upto ipParsesSpec)

/-- 'mantletlaw04.IpBuilds', WHERE WHAT IT READS IS OF BULK AT MOST 1048576: true; the input reads as it did. -/
def ipBuildsUptoRow : OpenClaim := { program := "ytofjgdbiieanjaa", sum := "271ae86224d6f3c279bbca0e14d0672f3759cd8076a1be936021d7a6ae50e450", func := "mantlet/mantletlaw04.IpBuilds", spec := "ipBuilds", apart := false, narrowed := true }
def IpBuildsUptoSaid : Prop := ipBuildsUptoRow.holds Try.pinned (OpenSpec.upto ipBuildsSpec)

/-- 'mantletlaw04.IpBack', WHERE WHAT IT READS IS OF BULK AT MOST 1048576: true; the input reads as it did. -/
def ipBackUptoRow : OpenClaim := { program := "ytofjgdbiieanjaa", sum := "271ae86224d6f3c279bbca0e14d0672f3759cd8076a1be936021d7a6ae50e450", func := "mantlet/mantletlaw04.IpBack", spec := "ipBack", apart := false, narrowed := true }
def IpBackUptoSaid : Prop := ipBackUptoRow.holds Try.pinned (OpenSpec.upto ipBackSpec)

/-- 'mantletlaw04.IpCuts', WHERE WHAT IT READS IS OF BULK AT MOST 1048576: true; the input reads as it did. -/
def ipCutsUptoRow : OpenClaim := { program := "ytofjgdbiieanjaa", sum := "271ae86224d6f3c279bbca0e14d0672f3759cd8076a1be936021d7a6ae50e450", func := "mantlet/mantletlaw04.IpCuts", spec := "ipCuts", apart := false, narrowed := true }
def IpCutsUptoSaid : Prop := ipCutsUptoRow.holds Try.pinned (OpenSpec.upto ipCutsSpec)

/-- 'mantletlaw08.WireParses', WHERE WHAT IT READS IS OF BULK AT MOST 1048576: true; the input reads as it did. -/
def wireParsesUptoRow : OpenClaim := { program := "ytofjgdbiieanjaa", sum := "271ae86224d6f3c279bbca0e14d0672f3759cd8076a1be936021d7a6ae50e450", func := "mantlet/mantletlaw08.WireParses", spec := "wireParses", apart := false, narrowed := true }
def WireParsesUptoSaid : Prop := wireParsesUptoRow.holds Try.pinned (OpenSpec.upto wireParsesSpec)

/-- 'mantletlaw08.WireSane', WHERE WHAT IT READS IS OF BULK AT MOST 1048576: true; the input reads as it did. -/
def wireSaneUptoRow : OpenClaim := { program := "ytofjgdbiieanjaa", sum := "271ae86224d6f3c279bbca0e14d0672f3759cd8076a1be936021d7a6ae50e450", func := "mantlet/mantletlaw08.WireSane", spec := "wireSane", apart := false, narrowed := true }
def WireSaneUptoSaid : Prop := wireSaneUptoRow.holds Try.pinned (OpenSpec.upto wireSaneSpec)

/-- 'mantletlaw08.WireBehind', WHERE WHAT IT READS IS OF BULK AT MOST 1048576: true; the input reads as it did. -/
def wireBehindUptoRow : OpenClaim := { program := "ytofjgdbiieanjaa", sum := "271ae86224d6f3c279bbca0e14d0672f3759cd8076a1be936021d7a6ae50e450", func := "mantlet/mantletlaw08.WireBehind", spec := "wireBehind", apart := false, narrowed := true }
def WireBehindUptoSaid : Prop := wireBehindUptoRow.holds Try.pinned (OpenSpec.upto wireBehindSpec)

/-- 'mantletlaw09.PackBuilds', WHERE WHAT IT READS IS OF BULK AT MOST 1048576: true; the input reads as it did. -/
def packBuildsUptoRow : OpenClaim := { program := "ytofjgdbiieanjaa", sum := "271ae86224d6f3c279bbca0e14d0672f3759cd8076a1be936021d7a6ae50e450", func := "mantlet/mantletlaw09.PackBuilds", spec := "packBuilds", apart := false, narrowed := true }
def PackBuildsUptoSaid : Prop := packBuildsUptoRow.holds Try.pinned (OpenSpec.upto packBuildsSpec)

/-- 'mantletlaw09.PackBack', WHERE WHAT IT READS IS OF BULK AT MOST 1048576: true; the input reads as it did. -/
def packBackUptoRow : OpenClaim := { program := "ytofjgdbiieanjaa", sum := "271ae86224d6f3c279bbca0e14d0672f3759cd8076a1be936021d7a6ae50e450", func := "mantlet/mantletlaw09.PackBack", spec := "packBack", apart := false, narrowed := true }
def PackBackUptoSaid : Prop := packBackUptoRow.holds Try.pinned (OpenSpec.upto packBackSpec)

/-- 'mantletlaw09.PackUnlike', WHERE WHAT IT READS IS OF BULK AT MOST 1048576: true; the input reads as it did. -/
def packUnlikeUptoRow : OpenClaim := { program := "ytofjgdbiieanjaa", sum := "271ae86224d6f3c279bbca0e14d0672f3759cd8076a1be936021d7a6ae50e450", func := "mantlet/mantletlaw09.PackUnlike", spec := "packUnlike", apart := false, narrowed := true }
def PackUnlikeUptoSaid : Prop := packUnlikeUptoRow.holds Try.pinned (OpenSpec.upto packUnlikeSpec)

end Rows
end Go.Proofs.Ytofjgdbiieanjaa
