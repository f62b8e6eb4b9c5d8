-- Printed by the session's own program wip/prx.py.
import Derived.Test.YtfabcjkaoidmeaaQFnRangesx14
import Derived.Test.YtfabcjkaoidmeaaOpen
namespace Go.Proofs.Ytfabcjkaoidmeaa.OpnFnRanges
open Go.RowKit Go.Proofs.Ytfabcjkaoidmeaa.QFnRanges Go.Proofs.YtfabcjkaoidmeaaW.PrintWords Go.Proofs.YtfabcjkaoidmeaaW.PrintLast

def fnRanges_wf0 : List Int → Prop := (fun xs : List Int => xs.length ≤ maxLen ∧ ∀ x ∈ xs, (fun x : Int => (Lit.int .u8 x).wf = true) x)
theorem fnRanges_wf0_o : Go.Proofs.Ytfabcjkaoidmeaa.Open.Opens Try.prog 48 (Kd.slice 5 (Kd.int .u8)) fnRanges_wf0 := (Go.Proofs.Ytfabcjkaoidmeaa.Open.opens_slice Try.underlying48 (by kernel_rfl) (Go.Proofs.Ytfabcjkaoidmeaa.Open.opens_int Try.underlying5 (by kernel_rfl)) (0 : Int))

/-- The pure statement. -/
def Stated : Prop := ∀ (l0 : List Int), fnRanges_wf0 l0 → ∃ k, laws_FnRanges.f k l0 = some true

end Go.Proofs.Ytfabcjkaoidmeaa.OpnFnRanges
