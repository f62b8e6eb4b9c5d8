import Derived.Test.YtoemdmjdpikfbaaWInv
import Derived.Test.YtoemdmjdpikfbaaWFootNe
/- Words that these texts use, taken out of the print's. No condition. -/
namespace Go.Proofs.YtoemdmjdpikfbaaW.PrintWords
open Go.RowKit
end Go.Proofs.YtoemdmjdpikfbaaW.PrintWords
namespace Go.Proofs.YtoemdmjdpikfbaaW.PrintLast
section
variable {ops : Array Oper} {a : Act} {o og : Oper} {g : Nat} {t : Tmp} {u : Bool}
end
end Go.Proofs.YtoemdmjdpikfbaaW.PrintLast
