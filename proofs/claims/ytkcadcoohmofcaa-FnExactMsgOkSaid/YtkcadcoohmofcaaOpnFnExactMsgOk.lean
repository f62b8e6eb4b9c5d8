-- Printed by the session's own program wip/prx.py.
import Derived.Test.YtkcadcoohmofcaaQFnExactMsgOkx6
import Derived.Test.YtkcadcoohmofcaaOpen
namespace Go.Proofs.Ytkcadcoohmofcaa.OpnFnExactMsgOk
open Go.RowKit Go.Proofs.Ytkcadcoohmofcaa.QFnExactMsgOk Go.Proofs.YtkcadcoohmofcaaW.PrintWords Go.Proofs.YtkcadcoohmofcaaW.PrintLast

def wf112 (x : S112) : Prop := (fun x : Int => (Lit.int .i64 x).wf = true) x.f0 ∧ (fun s : ByteArray => s.size ≤ maxLen) x.f1
theorem open112 : Go.Proofs.Ytkcadcoohmofcaa.Open.Opens Try.prog 112 k112 wf112 :=
  Go.Proofs.Ytkcadcoohmofcaa.Open.opens_iso (fun x : S112 => (x.f0, x.f1)) (fun p : Int × ByteArray => ⟨p.1, p.2⟩) (fun _ => rfl) (Go.Proofs.Ytkcadcoohmofcaa.Open.opens_struct Try.underlying112 (by kernel_rfl) (.more rfl (Go.Proofs.Ytkcadcoohmofcaa.Open.opens_int Try.underlying3 (by kernel_rfl)) (.last rfl (Go.Proofs.Ytkcadcoohmofcaa.Open.opens_string Try.underlying9 (by kernel_rfl)))))
def wf24 (x : S24) : Prop := (fun x : Int => (Lit.int .i64 x).wf = true) x.f0 ∧ (fun x : Int => (Lit.int .i64 x).wf = true) x.f1 ∧ (fun x : Int => (Lit.int .i64 x).wf = true) x.f2 ∧ (fun x : Int => (Lit.int .i64 x).wf = true) x.f3 ∧ (fun x : Int => (Lit.int .i64 x).wf = true) x.f4 ∧ (fun x : Int => (Lit.int .i64 x).wf = true) x.f5 ∧ (fun x : Int => (Lit.int .i64 x).wf = true) x.f6 ∧ (fun _ : Bool => True) x.f7 ∧ (fun xs : List (S112) => xs.length ≤ maxLen ∧ ∀ x ∈ xs, wf112 x) x.f8
theorem open24 : Go.Proofs.Ytkcadcoohmofcaa.Open.Opens Try.prog 24 k24 wf24 :=
  Go.Proofs.Ytkcadcoohmofcaa.Open.opens_iso (fun x : S24 => (x.f0, x.f1, x.f2, x.f3, x.f4, x.f5, x.f6, x.f7, x.f8)) (fun p : Int × Int × Int × Int × Int × Int × Int × Bool × (List (S112)) => ⟨p.1, p.2.1, p.2.2.1, p.2.2.2.1, p.2.2.2.2.1, p.2.2.2.2.2.1, p.2.2.2.2.2.2.1, p.2.2.2.2.2.2.2.1, p.2.2.2.2.2.2.2.2⟩) (fun _ => rfl) (Go.Proofs.Ytkcadcoohmofcaa.Open.opens_struct Try.underlying24 (by kernel_rfl) (.more rfl (Go.Proofs.Ytkcadcoohmofcaa.Open.opens_int Try.underlying3 (by kernel_rfl)) (.more rfl (Go.Proofs.Ytkcadcoohmofcaa.Open.opens_int Try.underlying3 (by kernel_rfl)) (.more rfl (Go.Proofs.Ytkcadcoohmofcaa.Open.opens_int Try.underlying3 (by kernel_rfl)) (.more rfl (Go.Proofs.Ytkcadcoohmofcaa.Open.opens_int Try.underlying3 (by kernel_rfl)) (.more rfl (Go.Proofs.Ytkcadcoohmofcaa.Open.opens_int Try.underlying3 (by kernel_rfl)) (.more rfl (Go.Proofs.Ytkcadcoohmofcaa.Open.opens_int Try.underlying3 (by kernel_rfl)) (.more rfl (Go.Proofs.Ytkcadcoohmofcaa.Open.opens_int Try.underlying3 (by kernel_rfl)) (.more rfl (Go.Proofs.Ytkcadcoohmofcaa.Open.opens_bool Try.underlying4 (by kernel_rfl)) (.last rfl (Go.Proofs.Ytkcadcoohmofcaa.Open.opens_slice Try.underlying22 (by kernel_rfl) open112 z112)))))))))))

/-- The pure statement. -/
def Stated : Prop := ∀ (x0 : S24) (a1 : Int), wf24 x0 → (Lit.int .i64 a1).wf = true → ∃ k, laws_FnExactMsgOk.f k x0.f0 x0.f1 x0.f2 x0.f3 x0.f4 x0.f5 x0.f6 x0.f7 x0.f8 a1 = some true

end Go.Proofs.Ytkcadcoohmofcaa.OpnFnExactMsgOk
