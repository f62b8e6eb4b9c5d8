import Derived.Test.YtkcadcoohmofcaaWInv
import Derived.Test.YtkcadcoohmofcaaWFootNe
/- Words that these texts use, taken out of the print's. No condition. -/
namespace Go.Proofs.YtkcadcoohmofcaaW.PrintWords
open Go.RowKit
end Go.Proofs.YtkcadcoohmofcaaW.PrintWords
namespace Go.Proofs.YtkcadcoohmofcaaW.PrintLast
section
variable {ops : Array Oper} {a : Act} {o og : Oper} {g : Nat} {t : Tmp} {u : Bool}
end
end Go.Proofs.YtkcadcoohmofcaaW.PrintLast
