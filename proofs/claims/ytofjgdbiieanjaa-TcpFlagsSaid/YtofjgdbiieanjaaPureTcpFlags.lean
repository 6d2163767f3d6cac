/-
  mantletlaw05.TcpFlags: consistency does not depend on Psh and Urg; two of Fin, Syn and Rst are never consistent.
-/
import Derived.Test.YtofjgdbiieanjaaAllx35
import Derived.Test.YtofjgdbiieanjaaNetTcp
namespace Go.Proofs.Ytofjgdbiieanjaa.Pure
open Go.RowKit Go.Proofs.Ytofjgdbiieanjaa.All Go.Proofs.Ytofjgdbiieanjaa.Ext Go.Proofs.Ytofjgdbiieanjaa.Bits Go.Proofs.YtofjgdbiieanjaaW.PrintWords Go.Proofs.YtofjgdbiieanjaaW.PrintLast Go.Proofs.Ytofjgdbiieanjaa.NetRef Go.Proofs.Ytofjgdbiieanjaa.NetTcp
/-- What the law says of flags, its fixed fact left out. -/
def flagsF (a0 : Int) : Option Bool := (tcp_Sane.f a0).bind fun t488 => ((some true).bind fun t489 => (if t489 = true then ((tcp_Sane.f (Go.bits .xor .u8 a0 8)).bind fun t490 => (if (t490 == t488) = true then ((tcp_Sane.f (Go.bits .xor .u8 a0 32)).bind fun t491 => (if (t491 == t488) = true then ((tcp_Sane.f (Go.bits .or .u8 (Go.bits .or .u8 a0 1) 2)).bind fun t492 => (if t492 = true then (some false) else ((tcp_Sane.f (Go.bits .or .u8 (Go.bits .or .u8 a0 4) 2)).bind fun t493 => (if t493 = true then (some false) else ((tcp_Sane.f (Go.bits .or .u8 (Go.bits .or .u8 a0 4) 1)).bind fun t494 => (if t494 = true then (some false) else (if t488 = true then ((tcp_Sane.f (Go.bits .or .u8 a0 16)).bind fun t495 => (some t495)) else (some true)))))))) else (some false))) else (some false))) else (some false)))
theorem flags_all : ((List.range 256).all fun n => flagsF (n : Int) == some true) = true := by kernel_rfl
theorem TcpFlags : mantletlaw05_TcpFlags.Pure := by
  intro a ha
  obtain ⟨a0, a1⟩ := wf_u8 ha
  refine ⟨80, ?_⟩
  unfold mantletlaw05_TcpFlags.f
  rw [awake]
  exact eq_of_beq (byte_all (f := fun a => flagsF a == some true) flags_all a0 a1)
end Go.Proofs.Ytofjgdbiieanjaa.Pure
