-- Printed by the session's own program wip/prx.py.
import Derived.Test.YtdbfjakhkclggaaQFnHoldsx12
import Derived.Test.YtdbfjakhkclggaaOpen
namespace Go.Proofs.Ytdbfjakhkclggaa.OpnFnHolds
open Go.RowKit Go.Proofs.Ytdbfjakhkclggaa.QFnHolds Go.Proofs.YtdbfjakhkclggaaW.PrintWords Go.Proofs.YtdbfjakhkclggaaW.PrintLast

def fnHolds_wf0 : List Int → Prop := (fun xs : List Int => xs.length ≤ maxLen ∧ ∀ x ∈ xs, (fun x : Int => (Lit.int .u8 x).wf = true) x)
theorem fnHolds_wf0_o : Go.Proofs.Ytdbfjakhkclggaa.Open.Opens Try.prog 48 (Kd.slice 5 (Kd.int .u8)) fnHolds_wf0 := (Go.Proofs.Ytdbfjakhkclggaa.Open.opens_slice Try.underlying48 (by kernel_rfl) (Go.Proofs.Ytdbfjakhkclggaa.Open.opens_int Try.underlying5 (by kernel_rfl)) (0 : Int))

/-- The pure statement. -/
def Stated : Prop := ∀ (l0 : List Int), fnHolds_wf0 l0 → ∃ k, laws_FnHolds.f k l0 = some true

end Go.Proofs.Ytdbfjakhkclggaa.OpnFnHolds
