-- Printed by the session's own program wip/prx.py.
import Derived.Test.YtfabcjkaoidmeaaQFnExactChartOkx7
import Derived.Test.YtfabcjkaoidmeaaOpen
namespace Go.Proofs.Ytfabcjkaoidmeaa.OpnFnExactChartOk
open Go.RowKit Go.Proofs.Ytfabcjkaoidmeaa.QFnExactChartOk Go.Proofs.YtfabcjkaoidmeaaW.PrintWords Go.Proofs.YtfabcjkaoidmeaaW.PrintLast

def wf24 (x : S24) : Prop := (fun x : Int => (Lit.int .u64 x).wf = true) x.f0 ∧ (fun x : Int => (Lit.int .u64 x).wf = true) x.f1 ∧ (fun x : Int => (Lit.int .i64 x).wf = true) x.f2
theorem open24 : Go.Proofs.Ytfabcjkaoidmeaa.Open.Opens Try.prog 24 k24 wf24 :=
  Go.Proofs.Ytfabcjkaoidmeaa.Open.opens_iso (fun x : S24 => (x.f0, x.f1, x.f2)) (fun p : Int × Int × Int => ⟨p.1, p.2.1, p.2.2⟩) (fun _ => rfl) (Go.Proofs.Ytfabcjkaoidmeaa.Open.opens_struct Try.underlying24 (by kernel_rfl) (.more rfl (Go.Proofs.Ytfabcjkaoidmeaa.Open.opens_int Try.underlying22 (by kernel_rfl)) (.more rfl (Go.Proofs.Ytfabcjkaoidmeaa.Open.opens_int Try.underlying22 (by kernel_rfl)) (.last rfl (Go.Proofs.Ytfabcjkaoidmeaa.Open.opens_int Try.underlying3 (by kernel_rfl))))))
def wf61 (x : S61) : Prop := (fun x : Int => (Lit.int .i64 x).wf = true) x.f0 ∧ (fun xs : List (S24) => xs.length ≤ maxLen ∧ ∀ x ∈ xs, wf24 x) x.f1 ∧ (fun _ : Bool => True) x.f2 ∧ (fun x : Int => (Lit.int .u64 x).wf = true) x.f3 ∧ (fun x : Int => (Lit.int .i64 x).wf = true) x.f4
theorem open61 : Go.Proofs.Ytfabcjkaoidmeaa.Open.Opens Try.prog 61 k61 wf61 :=
  Go.Proofs.Ytfabcjkaoidmeaa.Open.opens_iso (fun x : S61 => (x.f0, x.f1, x.f2, x.f3, x.f4)) (fun p : Int × (List (S24)) × Bool × Int × Int => ⟨p.1, p.2.1, p.2.2.1, p.2.2.2.1, p.2.2.2.2⟩) (fun _ => rfl) (Go.Proofs.Ytfabcjkaoidmeaa.Open.opens_struct Try.underlying61 (by kernel_rfl) (.more rfl (Go.Proofs.Ytfabcjkaoidmeaa.Open.opens_int Try.underlying3 (by kernel_rfl)) (.more rfl (Go.Proofs.Ytfabcjkaoidmeaa.Open.opens_slice Try.underlying29 (by kernel_rfl) open24 z24) (.more rfl (Go.Proofs.Ytfabcjkaoidmeaa.Open.opens_bool Try.underlying4 (by kernel_rfl)) (.more rfl (Go.Proofs.Ytfabcjkaoidmeaa.Open.opens_int Try.underlying22 (by kernel_rfl)) (.last rfl (Go.Proofs.Ytfabcjkaoidmeaa.Open.opens_int Try.underlying3 (by kernel_rfl))))))))

/-- The pure statement. -/
def Stated : Prop := ∀ (x0 : S61), wf61 x0 → ∃ k, laws_FnExactChartOk.f k x0.f0 x0.f1 x0.f2 x0.f3 x0.f4 = some true

end Go.Proofs.Ytfabcjkaoidmeaa.OpnFnExactChartOk
