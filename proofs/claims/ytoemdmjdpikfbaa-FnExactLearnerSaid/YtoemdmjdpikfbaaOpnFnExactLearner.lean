-- Printed by the session's own program wip/prx.py.
import Derived.Test.YtoemdmjdpikfbaaQFnExactLearnerx9
import Derived.Test.YtoemdmjdpikfbaaOpen
namespace Go.Proofs.Ytoemdmjdpikfbaa.OpnFnExactLearner
open Go.RowKit Go.Proofs.Ytoemdmjdpikfbaa.QFnExactLearner Go.Proofs.YtoemdmjdpikfbaaW.PrintWords Go.Proofs.YtoemdmjdpikfbaaW.PrintLast

def wf39 (x : S39) : Prop := (fun xs : List Int => xs.length ≤ maxLen ∧ ∀ x ∈ xs, (fun x : Int => (Lit.int .i64 x).wf = true) x) x.f0 ∧ (fun xs : List Int => xs.length ≤ maxLen ∧ ∀ x ∈ xs, (fun x : Int => (Lit.int .i64 x).wf = true) x) x.f1 ∧ (fun xs : List Int => xs.length ≤ maxLen ∧ ∀ x ∈ xs, (fun x : Int => (Lit.int .i64 x).wf = true) x) x.f2
theorem open39 : Go.Proofs.Ytoemdmjdpikfbaa.Open.Opens Try.prog 39 k39 wf39 :=
  Go.Proofs.Ytoemdmjdpikfbaa.Open.opens_iso (fun x : S39 => (x.f0, x.f1, x.f2)) (fun p : (List Int) × (List Int) × (List Int) => ⟨p.1, p.2.1, p.2.2⟩) (fun _ => rfl) (Go.Proofs.Ytoemdmjdpikfbaa.Open.opens_struct Try.underlying39 (by kernel_rfl) (.more rfl (Go.Proofs.Ytoemdmjdpikfbaa.Open.opens_slice Try.underlying24 (by kernel_rfl) (Go.Proofs.Ytoemdmjdpikfbaa.Open.opens_int Try.underlying3 (by kernel_rfl)) (0 : Int)) (.more rfl (Go.Proofs.Ytoemdmjdpikfbaa.Open.opens_slice Try.underlying24 (by kernel_rfl) (Go.Proofs.Ytoemdmjdpikfbaa.Open.opens_int Try.underlying3 (by kernel_rfl)) (0 : Int)) (.last rfl (Go.Proofs.Ytoemdmjdpikfbaa.Open.opens_slice Try.underlying24 (by kernel_rfl) (Go.Proofs.Ytoemdmjdpikfbaa.Open.opens_int Try.underlying3 (by kernel_rfl)) (0 : Int))))))

/-- The pure statement. -/
def Stated : Prop := ∀ (x0 : S39) (a1 : Int) (a2 : Bool), wf39 x0 → (Lit.int .i64 a1).wf = true → ∃ k, laws_FnExactLearner.f k x0.f0 x0.f1 x0.f2 a1 a2 = some true

end Go.Proofs.Ytoemdmjdpikfbaa.OpnFnExactLearner
