-- Printed by the session's own program wip/prx.py.
import Derived.Test.YtkcadcoohmofcaaQFnExactNewGroupx7
import Derived.Test.YtkcadcoohmofcaaOpen
namespace Go.Proofs.Ytkcadcoohmofcaa.OpnFnExactNewGroup
open Go.RowKit Go.Proofs.Ytkcadcoohmofcaa.QFnExactNewGroup Go.Proofs.YtkcadcoohmofcaaW.PrintWords Go.Proofs.YtkcadcoohmofcaaW.PrintLast



/-- The pure statement. -/
def Stated : Prop := ∀ (a0 : Int), (Lit.int .i64 a0).wf = true → ∃ k, laws_FnExactNewGroup.f k a0 = some true

end Go.Proofs.Ytkcadcoohmofcaa.OpnFnExactNewGroup
