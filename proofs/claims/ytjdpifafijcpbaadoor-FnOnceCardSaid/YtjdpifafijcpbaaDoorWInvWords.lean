import Derived.Test.YtjdpifafijcpbaaDoorWInv
import Derived.Test.YtjdpifafijcpbaaDoorWFootNe
/- Words that these texts use, taken out of the print's. No condition. -/
namespace Go.Proofs.YtjdpifafijcpbaaDoorW.PrintWords
open Go.RowKit
end Go.Proofs.YtjdpifafijcpbaaDoorW.PrintWords
namespace Go.Proofs.YtjdpifafijcpbaaDoorW.PrintLast
section
variable {ops : Array Oper} {a : Act} {o og : Oper} {g : Nat} {t : Tmp} {u : Bool}
end
end Go.Proofs.YtjdpifafijcpbaaDoorW.PrintLast
