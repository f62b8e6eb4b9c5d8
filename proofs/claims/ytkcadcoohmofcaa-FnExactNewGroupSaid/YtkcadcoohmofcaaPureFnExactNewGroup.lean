/- The law FnExactNewGroup answers true at every input. No condition. -/
import Derived.Test.YtkcadcoohmofcaaOpnFnExactNewGroup
import Derived.Test.YtkcadcoohmofcaaBase
namespace Go.Proofs.Ytkcadcoohmofcaa.Pure
open Go.RowKit Go.Proofs.Ytkcadcoohmofcaa.QFnExactNewGroup Go.Proofs.Ytkcadcoohmofcaa.OpnFnExactNewGroup Go.Proofs.Ytkcadcoohmofcaa.Base Go.Proofs.YtkcadcoohmofcaaW.PrintWords Go.Proofs.YtkcadcoohmofcaaW.PrintLast
set_option linter.unusedVariables false
set_option linter.unusedSimpArgs false

theorem FnExactNewGroup : Stated := by
  intro a0 _
  by_cases h : 1 ≤ a0 ∧ a0 ≤ 5
  · have hc : a0 = 1 ∨ a0 = 2 ∨ a0 = 3 ∨ a0 = 4 ∨ a0 = 5 := by omega
    rcases hc with rfl | rfl | rfl | rfl | rfl
    · exact ⟨40, by kernel_rfl⟩
    · exact ⟨40, by kernel_rfl⟩
    · exact ⟨40, by kernel_rfl⟩
    · exact ⟨40, by kernel_rfl⟩
    · exact ⟨40, by kernel_rfl⟩
  · have hz : spec_l07Size.f a0 = some false := by
      unfold spec_l07Size.f spec_l01In.f
      by_cases h1 : 1 ≤ a0
      · rw [if_pos h1]; simp [show ¬ a0 ≤ 5 by omega]
      · rw [if_neg h1]; rfl
    have hs : spec_NewGroup.f 3 a0 = some (0, [], []) := by
      unfold spec_NewGroup.f
      rw [hz]
      rfl
    have hi : impl_NewGroup.f 3 a0 = some (0, [], []) := by
      unfold impl_NewGroup.f impl_newGroup.f
      by_cases h1 : a0 < 1
      · rw [if_pos h1]; rfl
      · rw [if_neg h1, decide_eq_true (show a0 > 5 by omega)]; rfl
    refine ⟨3, ?_⟩
    unfold laws_FnExactNewGroup.f
    rw [hs, hi]
    rfl

end Go.Proofs.Ytkcadcoohmofcaa.Pure
