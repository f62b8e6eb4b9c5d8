-- Printed by the session's own program wip/prx.py.
import Derived.Test.YtfabcjkaoidmeaaQFnExactNewChartx2
import Derived.Test.YtfabcjkaoidmeaaOpen
namespace Go.Proofs.Ytfabcjkaoidmeaa.OpnFnExactNewChart
open Go.RowKit Go.Proofs.Ytfabcjkaoidmeaa.QFnExactNewChart Go.Proofs.YtfabcjkaoidmeaaW.PrintWords Go.Proofs.YtfabcjkaoidmeaaW.PrintLast



/-- The pure statement. -/
def Stated : Prop := ∀ (a0 : Int), (Lit.int .i64 a0).wf = true → ∃ k, laws_FnExactNewChart.f k a0 = some true

end Go.Proofs.Ytfabcjkaoidmeaa.OpnFnExactNewChart
