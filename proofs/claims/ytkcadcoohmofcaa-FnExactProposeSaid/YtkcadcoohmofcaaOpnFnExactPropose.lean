-- Printed by the session's own program wip/prx.py.
import Derived.Test.YtkcadcoohmofcaaQFnExactProposex16
import Derived.Test.YtkcadcoohmofcaaOpen
namespace Go.Proofs.Ytkcadcoohmofcaa.OpnFnExactPropose
open Go.RowKit Go.Proofs.Ytkcadcoohmofcaa.QFnExactPropose Go.Proofs.YtkcadcoohmofcaaW.PrintWords Go.Proofs.YtkcadcoohmofcaaW.PrintLast

def wf112 (x : S112) : Prop := (fun x : Int => (Lit.int .i64 x).wf = true) x.f0 ∧ (fun s : ByteArray => s.size ≤ maxLen) x.f1
theorem open112 : Go.Proofs.Ytkcadcoohmofcaa.Open.Opens Try.prog 112 k112 wf112 :=
  Go.Proofs.Ytkcadcoohmofcaa.Open.opens_iso (fun x : S112 => (x.f0, x.f1)) (fun p : Int × ByteArray => ⟨p.1, p.2⟩) (fun _ => rfl) (Go.Proofs.Ytkcadcoohmofcaa.Open.opens_struct Try.underlying112 (by kernel_rfl) (.more rfl (Go.Proofs.Ytkcadcoohmofcaa.Open.opens_int Try.underlying3 (by kernel_rfl)) (.last rfl (Go.Proofs.Ytkcadcoohmofcaa.Open.opens_string Try.underlying9 (by kernel_rfl)))))
def wf43 (x : S43) : Prop := (fun x : Int => (Lit.int .i64 x).wf = true) x.f0 ∧ (fun x : Int => (Lit.int .i64 x).wf = true) x.f1 ∧ (fun xs : List (S112) => xs.length ≤ maxLen ∧ ∀ x ∈ xs, wf112 x) x.f2
theorem open43 : Go.Proofs.Ytkcadcoohmofcaa.Open.Opens Try.prog 43 k43 wf43 :=
  Go.Proofs.Ytkcadcoohmofcaa.Open.opens_iso (fun x : S43 => (x.f0, x.f1, x.f2)) (fun p : Int × Int × (List (S112)) => ⟨p.1, p.2.1, p.2.2⟩) (fun _ => rfl) (Go.Proofs.Ytkcadcoohmofcaa.Open.opens_struct Try.underlying43 (by kernel_rfl) (.more rfl (Go.Proofs.Ytkcadcoohmofcaa.Open.opens_int Try.underlying3 (by kernel_rfl)) (.more rfl (Go.Proofs.Ytkcadcoohmofcaa.Open.opens_int Try.underlying3 (by kernel_rfl)) (.last rfl (Go.Proofs.Ytkcadcoohmofcaa.Open.opens_slice Try.underlying22 (by kernel_rfl) open112 z112)))))
def wf45 (x : S45) : Prop := (fun x : Int => (Lit.int .i64 x).wf = true) x.f0 ∧ (fun x : Int => (Lit.int .i64 x).wf = true) x.f1 ∧ (fun x : Int => (Lit.int .i64 x).wf = true) x.f2 ∧ (fun x : Int => (Lit.int .i64 x).wf = true) x.f3 ∧ (fun x : Int => (Lit.int .i64 x).wf = true) x.f4 ∧ wf43 x.f5 ∧ (fun xs : List Int => xs.length ≤ maxLen ∧ ∀ x ∈ xs, (fun x : Int => (Lit.int .i64 x).wf = true) x) x.f6 ∧ (fun xs : List Int => xs.length ≤ maxLen ∧ ∀ x ∈ xs, (fun x : Int => (Lit.int .i64 x).wf = true) x) x.f7
theorem open45 : Go.Proofs.Ytkcadcoohmofcaa.Open.Opens Try.prog 45 k45 wf45 :=
  Go.Proofs.Ytkcadcoohmofcaa.Open.opens_iso (fun x : S45 => (x.f0, x.f1, x.f2, x.f3, x.f4, x.f5, x.f6, x.f7)) (fun p : Int × Int × Int × Int × Int × S43 × (List Int) × (List Int) => ⟨p.1, p.2.1, p.2.2.1, p.2.2.2.1, p.2.2.2.2.1, p.2.2.2.2.2.1, p.2.2.2.2.2.2.1, p.2.2.2.2.2.2.2⟩) (fun _ => rfl) (Go.Proofs.Ytkcadcoohmofcaa.Open.opens_struct Try.underlying45 (by kernel_rfl) (.more rfl (Go.Proofs.Ytkcadcoohmofcaa.Open.opens_int Try.underlying3 (by kernel_rfl)) (.more rfl (Go.Proofs.Ytkcadcoohmofcaa.Open.opens_int Try.underlying3 (by kernel_rfl)) (.more rfl (Go.Proofs.Ytkcadcoohmofcaa.Open.opens_int Try.underlying3 (by kernel_rfl)) (.more rfl (Go.Proofs.Ytkcadcoohmofcaa.Open.opens_int Try.underlying3 (by kernel_rfl)) (.more rfl (Go.Proofs.Ytkcadcoohmofcaa.Open.opens_int Try.underlying3 (by kernel_rfl)) (.more rfl open43 (.more rfl (Go.Proofs.Ytkcadcoohmofcaa.Open.opens_slice Try.underlying35 (by kernel_rfl) (Go.Proofs.Ytkcadcoohmofcaa.Open.opens_int Try.underlying3 (by kernel_rfl)) (0 : Int)) (.last rfl (Go.Proofs.Ytkcadcoohmofcaa.Open.opens_slice Try.underlying35 (by kernel_rfl) (Go.Proofs.Ytkcadcoohmofcaa.Open.opens_int Try.underlying3 (by kernel_rfl)) (0 : Int)))))))))))

/-- The pure statement. -/
def Stated : Prop := ∀ (x0 : S45) (a1 : Int) (a2 : ByteArray), wf45 x0 → (Lit.int .i64 a1).wf = true → a2.size ≤ 140737488351232 → ∃ k, laws_FnExactPropose.f k x0.f0 x0.f1 x0.f2 x0.f3 x0.f4 x0.f5.f0 x0.f5.f1 x0.f5.f2 x0.f6 x0.f7 a1 a2 = some true

end Go.Proofs.Ytkcadcoohmofcaa.OpnFnExactPropose
