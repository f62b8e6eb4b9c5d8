import Derived.Test.YtjdpifafijcpbaaWInv
import Derived.Test.YtjdpifafijcpbaaWFootNe
/- Words that these texts use, taken out of the print's. No condition. -/
namespace Go.Proofs.YtjdpifafijcpbaaW.PrintWords
open Go.RowKit
end Go.Proofs.YtjdpifafijcpbaaW.PrintWords
namespace Go.Proofs.YtjdpifafijcpbaaW.PrintLast
section
variable {ops : Array Oper} {a : Act} {o og : Oper} {g : Nat} {t : Tmp} {u : Bool}
end
end Go.Proofs.YtjdpifafijcpbaaW.PrintLast
