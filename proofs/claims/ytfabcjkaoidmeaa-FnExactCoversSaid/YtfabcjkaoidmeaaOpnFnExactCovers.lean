-- Printed by the session's own program wip/prx.py.
import Derived.Test.YtfabcjkaoidmeaaQFnExactCoversx1
import Derived.Test.YtfabcjkaoidmeaaOpen
namespace Go.Proofs.Ytfabcjkaoidmeaa.OpnFnExactCovers
open Go.RowKit Go.Proofs.Ytfabcjkaoidmeaa.QFnExactCovers Go.Proofs.YtfabcjkaoidmeaaW.PrintWords Go.Proofs.YtfabcjkaoidmeaaW.PrintLast

def wf24 (x : S24) : Prop := (fun x : Int => (Lit.int .u64 x).wf = true) x.f0 ∧ (fun x : Int => (Lit.int .u64 x).wf = true) x.f1 ∧ (fun x : Int => (Lit.int .i64 x).wf = true) x.f2
theorem open24 : Go.Proofs.Ytfabcjkaoidmeaa.Open.Opens Try.prog 24 k24 wf24 :=
  Go.Proofs.Ytfabcjkaoidmeaa.Open.opens_iso (fun x : S24 => (x.f0, x.f1, x.f2)) (fun p : Int × Int × Int => ⟨p.1, p.2.1, p.2.2⟩) (fun _ => rfl) (Go.Proofs.Ytfabcjkaoidmeaa.Open.opens_struct Try.underlying24 (by kernel_rfl) (.more rfl (Go.Proofs.Ytfabcjkaoidmeaa.Open.opens_int Try.underlying22 (by kernel_rfl)) (.more rfl (Go.Proofs.Ytfabcjkaoidmeaa.Open.opens_int Try.underlying22 (by kernel_rfl)) (.last rfl (Go.Proofs.Ytfabcjkaoidmeaa.Open.opens_int Try.underlying3 (by kernel_rfl))))))

/-- The pure statement. -/
def Stated : Prop := ∀ (x0 : S24) (a1 : Int), wf24 x0 → (Lit.int .u64 a1).wf = true → laws_FnExactCovers.f x0.f0 x0.f1 x0.f2 a1 = some true

end Go.Proofs.Ytfabcjkaoidmeaa.OpnFnExactCovers
