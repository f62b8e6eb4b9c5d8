-- Printed by the session's own program wip/prx.py.
import Derived.Test.YtjdpifafijcpbaaDoorQFnExactOnceEachx16
import Derived.Test.YtjdpifafijcpbaaDoorOpen
namespace Go.Proofs.YtjdpifafijcpbaaDoor.OpnFnExactOnceEach
open Go.RowKit Go.Proofs.YtjdpifafijcpbaaDoor.QFnExactOnceEach Go.Proofs.YtjdpifafijcpbaaDoorW.PrintWords Go.Proofs.YtjdpifafijcpbaaDoorW.PrintLast

def wf74 (x : S74) : Prop := (fun x : Int => (Lit.int .i64 x).wf = true) x.f0 ∧ (fun x : Int => (Lit.int .i64 x).wf = true) x.f1 ∧ (fun x : Int => (Lit.int .i64 x).wf = true) x.f2 ∧ (fun s : ByteArray => s.size ≤ maxLen) x.f3
theorem open74 : Go.Proofs.YtjdpifafijcpbaaDoor.Open.Opens Tryd.prog 74 k74 wf74 :=
  Go.Proofs.YtjdpifafijcpbaaDoor.Open.opens_iso (fun x : S74 => (x.f0, x.f1, x.f2, x.f3)) (fun p : Int × Int × Int × ByteArray => ⟨p.1, p.2.1, p.2.2.1, p.2.2.2⟩) (fun _ => rfl) (Go.Proofs.YtjdpifafijcpbaaDoor.Open.opens_struct Tryd.underlying74 (by kernel_rfl) (.more rfl (Go.Proofs.YtjdpifafijcpbaaDoor.Open.opens_int Tryd.underlying3 (by kernel_rfl)) (.more rfl (Go.Proofs.YtjdpifafijcpbaaDoor.Open.opens_int Tryd.underlying3 (by kernel_rfl)) (.more rfl (Go.Proofs.YtjdpifafijcpbaaDoor.Open.opens_int Tryd.underlying3 (by kernel_rfl)) (.last rfl (Go.Proofs.YtjdpifafijcpbaaDoor.Open.opens_string Tryd.underlying9 (by kernel_rfl)))))))
def wf24 (x : S24) : Prop := (fun x : Int => (Lit.int .i64 x).wf = true) x.f0 ∧ (fun x : Int => (Lit.int .i64 x).wf = true) x.f1 ∧ (fun xs : List (S74) => xs.length ≤ maxLen ∧ ∀ x ∈ xs, wf74 x) x.f2
theorem open24 : Go.Proofs.YtjdpifafijcpbaaDoor.Open.Opens Tryd.prog 24 k24 wf24 :=
  Go.Proofs.YtjdpifafijcpbaaDoor.Open.opens_iso (fun x : S24 => (x.f0, x.f1, x.f2)) (fun p : Int × Int × (List (S74)) => ⟨p.1, p.2.1, p.2.2⟩) (fun _ => rfl) (Go.Proofs.YtjdpifafijcpbaaDoor.Open.opens_struct Tryd.underlying24 (by kernel_rfl) (.more rfl (Go.Proofs.YtjdpifafijcpbaaDoor.Open.opens_int Tryd.underlying3 (by kernel_rfl)) (.more rfl (Go.Proofs.YtjdpifafijcpbaaDoor.Open.opens_int Tryd.underlying3 (by kernel_rfl)) (.last rfl (Go.Proofs.YtjdpifafijcpbaaDoor.Open.opens_slice Tryd.underlying22 (by kernel_rfl) open74 z74)))))
def wf59 (x : S59) : Prop := (fun x : Int => (Lit.int .i64 x).wf = true) x.f0 ∧ (fun x : Int => (Lit.int .i64 x).wf = true) x.f1 ∧ (fun s : ByteArray => s.size ≤ maxLen) x.f2
theorem open59 : Go.Proofs.YtjdpifafijcpbaaDoor.Open.Opens Tryd.prog 59 k59 wf59 :=
  Go.Proofs.YtjdpifafijcpbaaDoor.Open.opens_iso (fun x : S59 => (x.f0, x.f1, x.f2)) (fun p : Int × Int × ByteArray => ⟨p.1, p.2.1, p.2.2⟩) (fun _ => rfl) (Go.Proofs.YtjdpifafijcpbaaDoor.Open.opens_struct Tryd.underlying59 (by kernel_rfl) (.more rfl (Go.Proofs.YtjdpifafijcpbaaDoor.Open.opens_int Tryd.underlying3 (by kernel_rfl)) (.more rfl (Go.Proofs.YtjdpifafijcpbaaDoor.Open.opens_int Tryd.underlying3 (by kernel_rfl)) (.last rfl (Go.Proofs.YtjdpifafijcpbaaDoor.Open.opens_string Tryd.underlying9 (by kernel_rfl))))))
def fnExactOnceEach_wf1 : List (S59) → Prop := (fun xs : List (S59) => xs.length ≤ maxLen ∧ ∀ x ∈ xs, wf59 x)
theorem fnExactOnceEach_wf1_o : Go.Proofs.YtjdpifafijcpbaaDoor.Open.Opens Tryd.prog 25 (Kd.slice 59 k59) fnExactOnceEach_wf1 := (Go.Proofs.YtjdpifafijcpbaaDoor.Open.opens_slice Tryd.underlying25 (by kernel_rfl) open59 z59)

/-- The pure statement. -/
def Stated : Prop := ∀ (x0 : S24) (l1 : List (S59)), wf24 x0 → fnExactOnceEach_wf1 l1 → ∃ k, laws_FnExactOnceEach.f k x0.f0 x0.f1 x0.f2 l1 = some true

end Go.Proofs.YtjdpifafijcpbaaDoor.OpnFnExactOnceEach
