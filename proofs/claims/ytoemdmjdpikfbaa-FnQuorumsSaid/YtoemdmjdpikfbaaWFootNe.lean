import Derived.Test.YtoemdmjdpikfbaaWN
/- Words that these texts use, taken out of the print's. No condition. -/
namespace Go.Proofs.YtoemdmjdpikfbaaW.PrintWords
open Go.RowKit
namespace Kd
section
variable {α : Type} {d : Kd α} {W : World} {g n : Nat} {S ok : Nat → Prop} {A : Option Addr} {ad : Addr} {xs : List α}
end
end Kd
end Go.Proofs.YtoemdmjdpikfbaaW.PrintWords
