-- Printed by the session's own program wip/prx.py.
import Derived.Test.YtjdpifafijcpbaaDoorQFnOncex13
import Derived.Test.YtjdpifafijcpbaaDoorOpen
namespace Go.Proofs.YtjdpifafijcpbaaDoor.OpnFnOnce
open Go.RowKit Go.Proofs.YtjdpifafijcpbaaDoor.QFnOnce Go.Proofs.YtjdpifafijcpbaaDoorW.PrintWords Go.Proofs.YtjdpifafijcpbaaDoorW.PrintLast

def fnOnce_wf0 : List Int → Prop := (fun xs : List Int => xs.length ≤ maxLen ∧ ∀ x ∈ xs, (fun x : Int => (Lit.int .u8 x).wf = true) x)
theorem fnOnce_wf0_o : Go.Proofs.YtjdpifafijcpbaaDoor.Open.Opens Tryd.prog 44 (Kd.slice 5 (Kd.int .u8)) fnOnce_wf0 := (Go.Proofs.YtjdpifafijcpbaaDoor.Open.opens_slice Tryd.underlying44 (by kernel_rfl) (Go.Proofs.YtjdpifafijcpbaaDoor.Open.opens_int Tryd.underlying5 (by kernel_rfl)) (0 : Int))

/-- The pure statement. -/
def Stated : Prop := ∀ (l0 : List Int), fnOnce_wf0 l0 → ∃ k, laws_FnOnce.f k l0 = some true

end Go.Proofs.YtjdpifafijcpbaaDoor.OpnFnOnce
