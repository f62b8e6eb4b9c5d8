-- Printed by the session's own program wip/prx.py.
import Derived.Test.YtjdpifafijcpbaaDoorQFnForgottenx13
import Derived.Test.YtjdpifafijcpbaaDoorOpen
namespace Go.Proofs.YtjdpifafijcpbaaDoor.OpnFnForgotten
open Go.RowKit Go.Proofs.YtjdpifafijcpbaaDoor.QFnForgotten Go.Proofs.YtjdpifafijcpbaaDoorW.PrintWords Go.Proofs.YtjdpifafijcpbaaDoorW.PrintLast

def fnForgotten_wf0 : List Int → Prop := (fun xs : List Int => xs.length ≤ maxLen ∧ ∀ x ∈ xs, (fun x : Int => (Lit.int .u8 x).wf = true) x)
theorem fnForgotten_wf0_o : Go.Proofs.YtjdpifafijcpbaaDoor.Open.Opens Tryd.prog 44 (Kd.slice 5 (Kd.int .u8)) fnForgotten_wf0 := (Go.Proofs.YtjdpifafijcpbaaDoor.Open.opens_slice Tryd.underlying44 (by kernel_rfl) (Go.Proofs.YtjdpifafijcpbaaDoor.Open.opens_int Tryd.underlying5 (by kernel_rfl)) (0 : Int))

/-- The pure statement. -/
def Stated : Prop := ∀ (l0 : List Int), fnForgotten_wf0 l0 → ∃ k, laws_FnForgotten.f k l0 = some true

end Go.Proofs.YtjdpifafijcpbaaDoor.OpnFnForgotten
