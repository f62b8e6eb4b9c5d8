import Derived.Test.YtfabcjkaoidmeaaWInv
import Derived.Test.YtfabcjkaoidmeaaWFootNe
/- Words that these texts use, taken out of the print's. No condition. -/
namespace Go.Proofs.YtfabcjkaoidmeaaW.PrintWords
open Go.RowKit
end Go.Proofs.YtfabcjkaoidmeaaW.PrintWords
namespace Go.Proofs.YtfabcjkaoidmeaaW.PrintLast
section
variable {ops : Array Oper} {a : Act} {o og : Oper} {g : Nat} {t : Tmp} {u : Bool}
end
end Go.Proofs.YtfabcjkaoidmeaaW.PrintLast
