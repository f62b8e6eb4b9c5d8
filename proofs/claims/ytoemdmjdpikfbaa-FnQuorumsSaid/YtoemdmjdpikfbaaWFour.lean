import Derived.Test.YtoemdmjdpikfbaaWTab
/- Words that these texts use, taken out of the print's. No condition. -/
namespace Go.Proofs.YtoemdmjdpikfbaaW.PrintLast
section
variable {P : Program} {ops : Array Oper} {Q : Exit → Act → World → Prop} {md : Region.Mode} {S : World → Prop} {ds : List Nat} {T : Bool × List (List Nat × List Nat)}
end
end Go.Proofs.YtoemdmjdpikfbaaW.PrintLast
