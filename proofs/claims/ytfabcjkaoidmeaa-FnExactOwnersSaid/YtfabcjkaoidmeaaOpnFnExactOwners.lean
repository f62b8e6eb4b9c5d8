-- Printed by the session's own program wip/prx.py.
import Derived.Test.YtfabcjkaoidmeaaQFnExactOwnersx6
import Derived.Test.YtfabcjkaoidmeaaOpen
namespace Go.Proofs.Ytfabcjkaoidmeaa.OpnFnExactOwners
open Go.RowKit Go.Proofs.Ytfabcjkaoidmeaa.QFnExactOwners Go.Proofs.YtfabcjkaoidmeaaW.PrintWords Go.Proofs.YtfabcjkaoidmeaaW.PrintLast

def wf24 (x : S24) : Prop := (fun x : Int => (Lit.int .u64 x).wf = true) x.f0 ∧ (fun x : Int => (Lit.int .u64 x).wf = true) x.f1 ∧ (fun x : Int => (Lit.int .i64 x).wf = true) x.f2
theorem open24 : Go.Proofs.Ytfabcjkaoidmeaa.Open.Opens Try.prog 24 k24 wf24 :=
  Go.Proofs.Ytfabcjkaoidmeaa.Open.opens_iso (fun x : S24 => (x.f0, x.f1, x.f2)) (fun p : Int × Int × Int => ⟨p.1, p.2.1, p.2.2⟩) (fun _ => rfl) (Go.Proofs.Ytfabcjkaoidmeaa.Open.opens_struct Try.underlying24 (by kernel_rfl) (.more rfl (Go.Proofs.Ytfabcjkaoidmeaa.Open.opens_int Try.underlying22 (by kernel_rfl)) (.more rfl (Go.Proofs.Ytfabcjkaoidmeaa.Open.opens_int Try.underlying22 (by kernel_rfl)) (.last rfl (Go.Proofs.Ytfabcjkaoidmeaa.Open.opens_int Try.underlying3 (by kernel_rfl))))))
def fnExactOwners_wf0 : List (S24) → Prop := (fun xs : List (S24) => xs.length ≤ maxLen ∧ ∀ x ∈ xs, wf24 x)
theorem fnExactOwners_wf0_o : Go.Proofs.Ytfabcjkaoidmeaa.Open.Opens Try.prog 29 (Kd.slice 24 k24) fnExactOwners_wf0 := (Go.Proofs.Ytfabcjkaoidmeaa.Open.opens_slice Try.underlying29 (by kernel_rfl) open24 z24)

/-- The pure statement. -/
def Stated : Prop := ∀ (l0 : List (S24)), fnExactOwners_wf0 l0 → ∃ k, laws_FnExactOwners.f k l0 = some true

end Go.Proofs.Ytfabcjkaoidmeaa.OpnFnExactOwners
