-- Printed by the session's own program wip/prx.py.
import Derived.Test.YtoemdmjdpikfbaaQFnExactPlayConfx16
import Derived.Test.YtoemdmjdpikfbaaOpen
namespace Go.Proofs.Ytoemdmjdpikfbaa.OpnFnExactPlayConf
open Go.RowKit Go.Proofs.Ytoemdmjdpikfbaa.QFnExactPlayConf Go.Proofs.YtoemdmjdpikfbaaW.PrintWords Go.Proofs.YtoemdmjdpikfbaaW.PrintLast

def wf39 (x : S39) : Prop := (fun xs : List Int => xs.length ≤ maxLen ∧ ∀ x ∈ xs, (fun x : Int => (Lit.int .i64 x).wf = true) x) x.f0 ∧ (fun xs : List Int => xs.length ≤ maxLen ∧ ∀ x ∈ xs, (fun x : Int => (Lit.int .i64 x).wf = true) x) x.f1 ∧ (fun xs : List Int => xs.length ≤ maxLen ∧ ∀ x ∈ xs, (fun x : Int => (Lit.int .i64 x).wf = true) x) x.f2
theorem open39 : Go.Proofs.Ytoemdmjdpikfbaa.Open.Opens Try.prog 39 k39 wf39 :=
  Go.Proofs.Ytoemdmjdpikfbaa.Open.opens_iso (fun x : S39 => (x.f0, x.f1, x.f2)) (fun p : (List Int) × (List Int) × (List Int) => ⟨p.1, p.2.1, p.2.2⟩) (fun _ => rfl) (Go.Proofs.Ytoemdmjdpikfbaa.Open.opens_struct Try.underlying39 (by kernel_rfl) (.more rfl (Go.Proofs.Ytoemdmjdpikfbaa.Open.opens_slice Try.underlying24 (by kernel_rfl) (Go.Proofs.Ytoemdmjdpikfbaa.Open.opens_int Try.underlying3 (by kernel_rfl)) (0 : Int)) (.more rfl (Go.Proofs.Ytoemdmjdpikfbaa.Open.opens_slice Try.underlying24 (by kernel_rfl) (Go.Proofs.Ytoemdmjdpikfbaa.Open.opens_int Try.underlying3 (by kernel_rfl)) (0 : Int)) (.last rfl (Go.Proofs.Ytoemdmjdpikfbaa.Open.opens_slice Try.underlying24 (by kernel_rfl) (Go.Proofs.Ytoemdmjdpikfbaa.Open.opens_int Try.underlying3 (by kernel_rfl)) (0 : Int))))))
def wf76 (x : S76) : Prop := (fun x : Int => (Lit.int .i64 x).wf = true) x.f0 ∧ (fun x : Int => (Lit.int .i64 x).wf = true) x.f1 ∧ (fun xs : List Int => xs.length ≤ maxLen ∧ ∀ x ∈ xs, (fun x : Int => (Lit.int .i64 x).wf = true) x) x.f2
theorem open76 : Go.Proofs.Ytoemdmjdpikfbaa.Open.Opens Try.prog 76 k76 wf76 :=
  Go.Proofs.Ytoemdmjdpikfbaa.Open.opens_iso (fun x : S76 => (x.f0, x.f1, x.f2)) (fun p : Int × Int × (List Int) => ⟨p.1, p.2.1, p.2.2⟩) (fun _ => rfl) (Go.Proofs.Ytoemdmjdpikfbaa.Open.opens_struct Try.underlying76 (by kernel_rfl) (.more rfl (Go.Proofs.Ytoemdmjdpikfbaa.Open.opens_int Try.underlying3 (by kernel_rfl)) (.more rfl (Go.Proofs.Ytoemdmjdpikfbaa.Open.opens_int Try.underlying3 (by kernel_rfl)) (.last rfl (Go.Proofs.Ytoemdmjdpikfbaa.Open.opens_slice Try.underlying24 (by kernel_rfl) (Go.Proofs.Ytoemdmjdpikfbaa.Open.opens_int Try.underlying3 (by kernel_rfl)) (0 : Int))))))
def fnExactPlayConf_wf1 : List (S76) → Prop := (fun xs : List (S76) => xs.length ≤ maxLen ∧ ∀ x ∈ xs, wf76 x)
theorem fnExactPlayConf_wf1_o : Go.Proofs.Ytoemdmjdpikfbaa.Open.Opens Try.prog 46 (Kd.slice 76 k76) fnExactPlayConf_wf1 := (Go.Proofs.Ytoemdmjdpikfbaa.Open.opens_slice Try.underlying46 (by kernel_rfl) open76 z76)

/-- The pure statement. -/
def Stated : Prop := ∀ (x0 : S39) (l1 : List (S76)), wf39 x0 → fnExactPlayConf_wf1 l1 → ∃ k, laws_FnExactPlayConf.f k x0.f0 x0.f1 x0.f2 l1 = some true

end Go.Proofs.Ytoemdmjdpikfbaa.OpnFnExactPlayConf
