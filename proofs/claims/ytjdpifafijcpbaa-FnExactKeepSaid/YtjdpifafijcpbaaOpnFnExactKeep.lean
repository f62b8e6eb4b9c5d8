-- Printed by the session's own program wip/prx.py.
import Derived.Test.YtjdpifafijcpbaaQFnExactKeepx11
import Derived.Test.YtjdpifafijcpbaaOpen
namespace Go.Proofs.Ytjdpifafijcpbaa.OpnFnExactKeep
open Go.RowKit Go.Proofs.Ytjdpifafijcpbaa.QFnExactKeep Go.Proofs.YtjdpifafijcpbaaW.PrintWords Go.Proofs.YtjdpifafijcpbaaW.PrintLast

def wf54 (x : S54) : Prop := (fun x : Int => (Lit.int .i64 x).wf = true) x.f0 ∧ (fun x : Int => (Lit.int .i64 x).wf = true) x.f1 ∧ (fun x : Int => (Lit.int .i64 x).wf = true) x.f2 ∧ (fun s : ByteArray => s.size ≤ maxLen) x.f3
theorem open54 : Go.Proofs.Ytjdpifafijcpbaa.Open.Opens Try.prog 54 k54 wf54 :=
  Go.Proofs.Ytjdpifafijcpbaa.Open.opens_iso (fun x : S54 => (x.f0, x.f1, x.f2, x.f3)) (fun p : Int × Int × Int × ByteArray => ⟨p.1, p.2.1, p.2.2.1, p.2.2.2⟩) (fun _ => rfl) (Go.Proofs.Ytjdpifafijcpbaa.Open.opens_struct Try.underlying54 (by kernel_rfl) (.more rfl (Go.Proofs.Ytjdpifafijcpbaa.Open.opens_int Try.underlying3 (by kernel_rfl)) (.more rfl (Go.Proofs.Ytjdpifafijcpbaa.Open.opens_int Try.underlying3 (by kernel_rfl)) (.more rfl (Go.Proofs.Ytjdpifafijcpbaa.Open.opens_int Try.underlying3 (by kernel_rfl)) (.last rfl (Go.Proofs.Ytjdpifafijcpbaa.Open.opens_string Try.underlying9 (by kernel_rfl)))))))
def wf24 (x : S24) : Prop := (fun x : Int => (Lit.int .i64 x).wf = true) x.f0 ∧ (fun x : Int => (Lit.int .i64 x).wf = true) x.f1 ∧ (fun xs : List (S54) => xs.length ≤ maxLen ∧ ∀ x ∈ xs, wf54 x) x.f2
theorem open24 : Go.Proofs.Ytjdpifafijcpbaa.Open.Opens Try.prog 24 k24 wf24 :=
  Go.Proofs.Ytjdpifafijcpbaa.Open.opens_iso (fun x : S24 => (x.f0, x.f1, x.f2)) (fun p : Int × Int × (List (S54)) => ⟨p.1, p.2.1, p.2.2⟩) (fun _ => rfl) (Go.Proofs.Ytjdpifafijcpbaa.Open.opens_struct Try.underlying24 (by kernel_rfl) (.more rfl (Go.Proofs.Ytjdpifafijcpbaa.Open.opens_int Try.underlying3 (by kernel_rfl)) (.more rfl (Go.Proofs.Ytjdpifafijcpbaa.Open.opens_int Try.underlying3 (by kernel_rfl)) (.last rfl (Go.Proofs.Ytjdpifafijcpbaa.Open.opens_slice Try.underlying22 (by kernel_rfl) open54 z54)))))

/-- The pure statement. -/
def Stated : Prop := ∀ (x0 : S24) (a1 : Int) (a2 : Int) (a3 : ByteArray), wf24 x0 → (Lit.int .i64 a1).wf = true → (Lit.int .i64 a2).wf = true → a3.size ≤ 140737488351232 → ∃ k, laws_FnExactKeep.f k x0.f0 x0.f1 x0.f2 a1 a2 a3 = some true

end Go.Proofs.Ytjdpifafijcpbaa.OpnFnExactKeep
