-- Printed by the session's own program wip/prx.py.
import Derived.Test.YtkcadcoohmofcaaRows
import Derived.Test.YtkcadcoohmofcaaQFnExactSettledx21
import Derived.Test.YtkcadcoohmofcaaOpnFnExactSettled
import Derived.Test.YtkcadcoohmofcaaPureFnExactSettled
import Derived.WalkKit
import Derived.ProofKit
import Derived.OpenShut
import Derived.ShutString
import Derived.ChangeOld
import Derived.Below
import Derived.SizedLaws
namespace Go.Proofs.Ytkcadcoohmofcaa.fnExactSettled
open Go.ChangeShapes Go.WideShapes Go.ChangeAt Go.RowKit Go.Proofs.Ytkcadcoohmofcaa.QFnExactSettled Go.Proofs.Ytkcadcoohmofcaa.OpnFnExactSettled
open Go.ChangeMaps (open_string shut_string)
set_option linter.unusedVariables false
theorem own : ownKnob Try.prog.godebug = none := by kernel_rfl
theorem laidOut : laidOutB Try.prog = true := by kernel_rfl
set_option maxRecDepth 100000 in
theorem lifted (os : Os) (started : os.Started) (H : Type) (enc : TypeId × Value → H) :
    ReturnsInHanded {} Try.checked os 14 .any (Rows.fnExactSettledSpec.pre6 enc Try.prog Try.f14 Rows.fnExactSettledRow.domain false) (Rows.fnExactSettledSpec.post enc Try.prog Try.f14 false true false false) := by
  refine returnsInHanded_of_change_sized (C := Try.checked) own started (by kernel_rfl) Try.func14
    (ChangeSpec.witness6 (enc := enc) (C := Try.checked) false ⟨#[], #[.agg #[.int .i64 0, .slice none 0 0, .slice none 0 0]], []⟩ 8 (by kernel_rfl) (by kernel_rfl) (by kernel_rfl) (by kernel_rfl)) ?_
  intro W base args ds gs before hval0 hW hcnd hsz0 _
  have hsz : (DataW.weightsEach Try.prog (Try.f14.params.toList ++ Rows.fnExactSettledSpec.plain.varTypes Try.prog) (ds ++ gs)).all (· ≤ reachBytes) = true := hsz0
  have hval : ∀ (j : Nat) t v, Try.f14.params[j]? = some t → args[j]? = some v → Value.okWide Try.prog W .any base t v := hval0
  have hW' := hW
  obtain ⟨p, q, hA0, hV, rfl, hfz, hnd⟩ := hW
  have hA : DataW.TrodAll enc Try.prog W 0 (fun _ => true) true Try.f14.params.toList args.toList ds p := hA0
  rw [Try.params14] at hA hval hsz
  obtain ⟨v0, vs0, d0, ds0, p0, q0, hargs, rfl, rfl, h0, r0⟩ := trodAll_cons hA
  obtain ⟨rfl, rfl, rfl⟩ := trodAll_nil r0
  obtain rfl : args = #[v0] := by cases args; simp_all
  obtain ⟨rfl, rfl⟩ := trodVars_none hV
  have k0 := h0
  have lt0 : ∀ x ∈ p0, x.block < W.heap.size := by obtain ⟨m, hm⟩ := k0; exact DataW.trod_lt m _ _ _ hm
  obtain ⟨x0, cs0, rfl, hK0, w0⟩ := Go.Proofs.Ytkcadcoohmofcaa.Open.opens_struct_arg Try.underlying68 OpnFnExactSettled.open68 (hval 0 68 v0 rfl rfl) h0
  obtain ⟨A0_1, c0_1, A0_2, c0_2, rfl, hc0_1, hr0_1, hc0_2, hr0_2⟩ := k68_open hK0
  clear hA0 hval0 hsz0 hsz
  obtain ⟨k, h⟩ := Go.Proofs.Ytkcadcoohmofcaa.Pure.FnExactSettled x0 w0
  refine (laws_FnExactSettled.calls k x0.f0 A0_1 c0_1 x0.f1 A0_2 c0_2 x0.f2 true W hr0_1 hc0_1 hr0_2 hc0_2 h ⟨rfl⟩).mono fun e W' ⟨he, bel0⟩ => ?_
  have bel : Below W.heap.size W W' := bel0
  subst he
  exact ⟨_, rfl, _, _, _, [], _, [], hW', trodAll_mk1 (shut_bool Try.underlying4 _), (trodAll_cons_mk (Below.trod laidOut (by kernel_rfl) (of_decide_eq_true (by kernel_rfl)) k0 bel lt0) trodAll_mk0), rfl, bel.frame _, fun h => by cases h⟩
theorem over : Rows.fnExactSettledRow.holds Try.pinned (OpenSpec.ofChange Rows.fnExactSettledSpec) :=
  OpenClaim.holds_of_wide 14 Try.f14 rfl rfl rfl rfl rfl rfl rfl ⟨rfl, rfl, rfl, rfl, rfl⟩ rfl rfl rfl rfl rfl (by kernel_rfl) Try.func14 (by kernel_rfl)
    (of_decide_eq_true (by kernel_rfl)) (by unfold Func.isWrapper; first | (rw [if_pos (by decide +kernel)]; kernel_rfl) | (rw [if_neg (by decide +kernel)]; exact ⟨rfl, rfl⟩))
    (fun os started H enc _ => lifted os started H enc)
theorem proved : Rows.FnExactSettledSaid := over
#print axioms proved
end Go.Proofs.Ytkcadcoohmofcaa.fnExactSettled
namespace Go.Proofs.Ytkcadcoohmofcaa
/-- The row, under a short name, for the claim. -/
theorem fnExactSettled_holds : Rows.FnExactSettledSaid := fnExactSettled.proved
end Go.Proofs.Ytkcadcoohmofcaa
