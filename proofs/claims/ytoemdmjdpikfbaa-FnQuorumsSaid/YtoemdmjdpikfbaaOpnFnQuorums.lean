-- Printed by the session's own program wip/prx.py.
import Derived.Test.YtoemdmjdpikfbaaQFnQuorumsx13
import Derived.Test.YtoemdmjdpikfbaaOpen
namespace Go.Proofs.Ytoemdmjdpikfbaa.OpnFnQuorums
open Go.RowKit Go.Proofs.Ytoemdmjdpikfbaa.QFnQuorums Go.Proofs.YtoemdmjdpikfbaaW.PrintWords Go.Proofs.YtoemdmjdpikfbaaW.PrintLast

def fnQuorums_wf0 : List Int → Prop := (fun xs : List Int => xs.length ≤ maxLen ∧ ∀ x ∈ xs, (fun x : Int => (Lit.int .u8 x).wf = true) x)
theorem fnQuorums_wf0_o : Go.Proofs.Ytoemdmjdpikfbaa.Open.Opens Try.prog 22 (Kd.slice 5 (Kd.int .u8)) fnQuorums_wf0 := (Go.Proofs.Ytoemdmjdpikfbaa.Open.opens_slice Try.underlying22 (by kernel_rfl) (Go.Proofs.Ytoemdmjdpikfbaa.Open.opens_int Try.underlying5 (by kernel_rfl)) (0 : Int))

/-- The pure statement. -/
def Stated : Prop := ∀ (l0 : List Int), fnQuorums_wf0 l0 → ∃ k, laws_FnQuorums.f k l0 = some true

end Go.Proofs.Ytoemdmjdpikfbaa.OpnFnQuorums
