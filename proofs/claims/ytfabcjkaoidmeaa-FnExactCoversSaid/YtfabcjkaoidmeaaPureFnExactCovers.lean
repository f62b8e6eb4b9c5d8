/- The program's Covers and the reference's Covers answer alike at every range and id. No condition. -/
import Derived.Test.YtfabcjkaoidmeaaOpnFnExactCovers
import Derived.Test.YtfabcjkaoidmeaaBase
namespace Go.Proofs.Ytfabcjkaoidmeaa.Pure
open Go.RowKit Go.Proofs.Ytfabcjkaoidmeaa.QFnExactCovers Go.Proofs.Ytfabcjkaoidmeaa.OpnFnExactCovers Go.Proofs.Ytfabcjkaoidmeaa.Base Go.Proofs.YtfabcjkaoidmeaaW.PrintWords Go.Proofs.YtfabcjkaoidmeaaW.PrintLast
set_option linter.unusedVariables false

theorem FnExactCovers : Stated := by
  intro x a _ _
  unfold laws_FnExactCovers.f laws_toRange.f spec_Covers.f impl_Covers.f
  simp only [Option.bind_some]
  split <;> simp

end Go.Proofs.Ytfabcjkaoidmeaa.Pure
