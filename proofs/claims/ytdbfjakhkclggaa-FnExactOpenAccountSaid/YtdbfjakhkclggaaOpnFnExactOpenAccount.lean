-- Printed by the session's own program wip/prx.py.
import Derived.Test.YtdbfjakhkclggaaQFnExactOpenAccountx7
import Derived.Test.YtdbfjakhkclggaaOpen
namespace Go.Proofs.Ytdbfjakhkclggaa.OpnFnExactOpenAccount
open Go.RowKit Go.Proofs.Ytdbfjakhkclggaa.QFnExactOpenAccount Go.Proofs.YtdbfjakhkclggaaW.PrintWords Go.Proofs.YtdbfjakhkclggaaW.PrintLast

def wf77 (x : S77) : Prop := (fun x : Int => (Lit.int .u64 x).wf = true) x.f0 ∧ (fun x : Int => (Lit.int .u64 x).wf = true) x.f1 ∧ (fun x : Int => (Lit.int .u64 x).wf = true) x.f2 ∧ (fun x : Int => (Lit.int .u64 x).wf = true) x.f3 ∧ (fun x : Int => (Lit.int .i64 x).wf = true) x.f4
theorem open77 : Go.Proofs.Ytdbfjakhkclggaa.Open.Opens Try.prog 77 k77 wf77 :=
  Go.Proofs.Ytdbfjakhkclggaa.Open.opens_iso (fun x : S77 => (x.f0, x.f1, x.f2, x.f3, x.f4)) (fun p : Int × Int × Int × Int × Int => ⟨p.1, p.2.1, p.2.2.1, p.2.2.2.1, p.2.2.2.2⟩) (fun _ => rfl) (Go.Proofs.Ytdbfjakhkclggaa.Open.opens_struct Try.underlying77 (by kernel_rfl) (.more rfl (Go.Proofs.Ytdbfjakhkclggaa.Open.opens_int Try.underlying33 (by kernel_rfl)) (.more rfl (Go.Proofs.Ytdbfjakhkclggaa.Open.opens_int Try.underlying33 (by kernel_rfl)) (.more rfl (Go.Proofs.Ytdbfjakhkclggaa.Open.opens_int Try.underlying33 (by kernel_rfl)) (.more rfl (Go.Proofs.Ytdbfjakhkclggaa.Open.opens_int Try.underlying33 (by kernel_rfl)) (.last rfl (Go.Proofs.Ytdbfjakhkclggaa.Open.opens_int Try.underlying3 (by kernel_rfl))))))))
def wf24 (x : S24) : Prop := (fun xs : List (S77) => xs.length ≤ maxLen ∧ ∀ x ∈ xs, wf77 x) x.f0
theorem open24 : Go.Proofs.Ytdbfjakhkclggaa.Open.Opens Try.prog 24 k24 wf24 :=
  Go.Proofs.Ytdbfjakhkclggaa.Open.opens_iso (fun x : S24 => x.f0) (fun p : (List (S77)) => ⟨p⟩) (fun _ => rfl) (Go.Proofs.Ytdbfjakhkclggaa.Open.opens_struct Try.underlying24 (by kernel_rfl) (.last rfl (Go.Proofs.Ytdbfjakhkclggaa.Open.opens_slice Try.underlying22 (by kernel_rfl) open77 z77)))

/-- The pure statement. -/
def Stated : Prop := ∀ (x0 : S24) (a1 : Int), wf24 x0 → (Lit.int .u64 a1).wf = true → ∃ k, laws_FnExactOpenAccount.f k x0.f0 a1 = some true

end Go.Proofs.Ytdbfjakhkclggaa.OpnFnExactOpenAccount
