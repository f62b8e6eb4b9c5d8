-- Printed by the session's own program wip/prx.py.
import Derived.Test.YtkcadcoohmofcaaQFnExactNewNodex3
import Derived.Test.YtkcadcoohmofcaaOpen
namespace Go.Proofs.Ytkcadcoohmofcaa.OpnFnExactNewNode
open Go.RowKit Go.Proofs.Ytkcadcoohmofcaa.QFnExactNewNode Go.Proofs.YtkcadcoohmofcaaW.PrintWords Go.Proofs.YtkcadcoohmofcaaW.PrintLast



/-- The pure statement. -/
def Stated : Prop := ∀ (a0 : Int) (a1 : Int), (Lit.int .i64 a0).wf = true → (Lit.int .i64 a1).wf = true → ∃ k, laws_FnExactNewNode.f k a0 a1 = some true

end Go.Proofs.Ytkcadcoohmofcaa.OpnFnExactNewNode
