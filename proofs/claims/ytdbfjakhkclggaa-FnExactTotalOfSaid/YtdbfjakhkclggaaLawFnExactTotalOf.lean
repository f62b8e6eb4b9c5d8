-- Printed by the session's own program wip/prx.py.
import Derived.Test.YtdbfjakhkclggaaRows
import Derived.Test.YtdbfjakhkclggaaQFnExactTotalOfx4
import Derived.Test.YtdbfjakhkclggaaOpnFnExactTotalOf
import Derived.Test.YtdbfjakhkclggaaPureFnExactTotalOf
import Derived.WalkKit
import Derived.ProofKit
import Derived.OpenShut
import Derived.ShutString
import Derived.ChangeOld
import Derived.Below
import Derived.SizedLaws
namespace Go.Proofs.Ytdbfjakhkclggaa.fnExactTotalOf
open Go.ChangeShapes Go.WideShapes Go.ChangeAt Go.RowKit Go.Proofs.Ytdbfjakhkclggaa.QFnExactTotalOf Go.Proofs.Ytdbfjakhkclggaa.OpnFnExactTotalOf
open Go.ChangeMaps (open_string shut_string)
set_option linter.unusedVariables false
theorem own : ownKnob Try.prog.godebug = none := by kernel_rfl
theorem laidOut : laidOutB Try.prog = true := by kernel_rfl
set_option maxRecDepth 100000 in
theorem lifted (os : Os) (started : os.Started) (H : Type) (enc : TypeId × Value → H) :
    ReturnsInHanded {} Try.checked os 4 .any (Rows.fnExactTotalOfSpec.pre6 enc Try.prog Try.f4 Rows.fnExactTotalOfRow.domain false) (Rows.fnExactTotalOfSpec.post enc Try.prog Try.f4 false true false false) := by
  refine returnsInHanded_of_change_sized (C := Try.checked) own started (by kernel_rfl) Try.func4
    (ChangeSpec.witness6 (enc := enc) (C := Try.checked) false ⟨#[], #[.agg #[.slice none 0 0]], []⟩ 8 (by kernel_rfl) (by kernel_rfl) (by kernel_rfl) (by kernel_rfl)) ?_
  intro W base args ds gs before hval0 hW hcnd hsz0 _
  have hsz : (DataW.weightsEach Try.prog (Try.f4.params.toList ++ Rows.fnExactTotalOfSpec.plain.varTypes Try.prog) (ds ++ gs)).all (· ≤ reachBytes) = true := hsz0
  have hval : ∀ (j : Nat) t v, Try.f4.params[j]? = some t → args[j]? = some v → Value.okWide Try.prog W .any base t v := hval0
  have hW' := hW
  obtain ⟨p, q, hA0, hV, rfl, hfz, hnd⟩ := hW
  have hA : DataW.TrodAll enc Try.prog W 0 (fun _ => true) true Try.f4.params.toList args.toList ds p := hA0
  rw [Try.params4] at hA hval hsz
  obtain ⟨v0, vs0, d0, ds0, p0, q0, hargs, rfl, rfl, h0, r0⟩ := trodAll_cons hA
  obtain ⟨rfl, rfl, rfl⟩ := trodAll_nil r0
  obtain rfl : args = #[v0] := by cases args; simp_all
  obtain ⟨rfl, rfl⟩ := trodVars_none hV
  have k0 := h0
  have lt0 : ∀ x ∈ p0, x.block < W.heap.size := by obtain ⟨m, hm⟩ := k0; exact DataW.trod_lt m _ _ _ hm
  obtain ⟨x0, cs0, rfl, hK0, w0⟩ := Go.Proofs.Ytdbfjakhkclggaa.Open.opens_struct_arg Try.underlying24 OpnFnExactTotalOf.open24 (hval 0 24 v0 rfl rfl) h0
  obtain ⟨A0_0, c0_0, rfl, hc0_0, hr0_0⟩ := k24_open hK0
  clear hA0 hval0 hsz0 hsz
  obtain ⟨k, h⟩ := Go.Proofs.Ytdbfjakhkclggaa.Pure.FnExactTotalOf x0 w0
  refine (laws_FnExactTotalOf.calls k A0_0 c0_0 x0.f0 true W hr0_0 hc0_0 h ⟨rfl⟩).mono fun e W' ⟨he, bel0⟩ => ?_
  have bel : Below W.heap.size W W' := bel0
  subst he
  exact ⟨_, rfl, _, _, _, [], _, [], hW', trodAll_mk1 (shut_bool Try.underlying4 _), (trodAll_cons_mk (Below.trod laidOut (by kernel_rfl) (of_decide_eq_true (by kernel_rfl)) k0 bel lt0) trodAll_mk0), rfl, bel.frame _, fun h => by cases h⟩
theorem over : Rows.fnExactTotalOfRow.holds Try.pinned (OpenSpec.ofChange Rows.fnExactTotalOfSpec) :=
  OpenClaim.holds_of_wide 4 Try.f4 rfl rfl rfl rfl rfl rfl rfl ⟨rfl, rfl, rfl, rfl, rfl⟩ rfl rfl rfl rfl rfl (by kernel_rfl) Try.func4 (by kernel_rfl)
    (of_decide_eq_true (by kernel_rfl)) (by unfold Func.isWrapper; first | (rw [if_pos (by decide +kernel)]; kernel_rfl) | (rw [if_neg (by decide +kernel)]; exact ⟨rfl, rfl⟩))
    (fun os started H enc _ => lifted os started H enc)
theorem proved : Rows.FnExactTotalOfSaid := over
#print axioms proved
end Go.Proofs.Ytdbfjakhkclggaa.fnExactTotalOf
namespace Go.Proofs.Ytdbfjakhkclggaa
/-- The row, under a short name, for the claim. -/
theorem fnExactTotalOf_holds : Rows.FnExactTotalOfSaid := fnExactTotalOf.proved
end Go.Proofs.Ytdbfjakhkclggaa
