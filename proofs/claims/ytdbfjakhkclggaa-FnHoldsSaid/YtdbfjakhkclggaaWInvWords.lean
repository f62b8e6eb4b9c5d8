import Derived.Test.YtdbfjakhkclggaaWInv
import Derived.Test.YtdbfjakhkclggaaWFootNe
/- Words that these texts use, taken out of the print's. No condition. -/
namespace Go.Proofs.YtdbfjakhkclggaaW.PrintWords
open Go.RowKit
end Go.Proofs.YtdbfjakhkclggaaW.PrintWords
namespace Go.Proofs.YtdbfjakhkclggaaW.PrintLast
section
variable {ops : Array Oper} {a : Act} {o og : Oper} {g : Nat} {t : Tmp} {u : Bool}
end
end Go.Proofs.YtdbfjakhkclggaaW.PrintLast
