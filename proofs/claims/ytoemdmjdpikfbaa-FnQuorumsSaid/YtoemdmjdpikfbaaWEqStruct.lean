import Derived.Test.YtoemdmjdpikfbaaWWords
import Derived.Laws.StructEq
/- Words that these texts use, taken out of the print's. No condition. -/
namespace Go.Proofs.YtoemdmjdpikfbaaW.PrintWords
open Go.RowKit
section
variable {P : Program} {d : Nat} {xs ys : Array Value} {f : Field} {fs : List Field} {a b : Value} {r s : Bool} {w : World}
end
end Go.Proofs.YtoemdmjdpikfbaaW.PrintWords
