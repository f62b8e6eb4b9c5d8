/- The law FnExactNewNode answers true at every input. No condition. -/
import Derived.Test.YtkcadcoohmofcaaOpnFnExactNewNode
import Derived.Test.YtkcadcoohmofcaaBase
namespace Go.Proofs.Ytkcadcoohmofcaa.Pure
open Go.RowKit Go.Proofs.Ytkcadcoohmofcaa.QFnExactNewNode Go.Proofs.Ytkcadcoohmofcaa.OpnFnExactNewNode Go.Proofs.Ytkcadcoohmofcaa.Base Go.Proofs.YtkcadcoohmofcaaW.PrintWords Go.Proofs.YtkcadcoohmofcaaW.PrintLast
set_option linter.unusedVariables false
set_option linter.unusedSimpArgs false

theorem eqN (k : Nat) (a b c d e f g : Int) : laws_eqNode.f (k + 1) a b c d e f g [] [] [] a b c d e f g [] [] [] = some true := by
  simp [laws_eqNode.f, laws_eqRLog.f, laws_eqEntryS.f, laws_eqEntryS.l0, laws_eqIntS.f, laws_eqIntS.l0]
theorem markN (k : Nat) (a b c d e f g : Int) : laws_markNode.f (k + 1) a b c d e f g [] [] [] 1 = some (1, [], [], []) := by
  simp [laws_markNode.f, laws_markRLog.f, laws_markEntryS.f, laws_markEntryS.l0, laws_markIntS.f, laws_markIntS.l0]
theorem heldN (k : Nat) (a b c d e f g : Int) : laws_heldNode.f (k + 1) a b c d e f g [] [] [] 1 = some 1 := by
  simp [laws_heldNode.f, laws_heldRLog.f, laws_heldEntryS.f, laws_heldEntryS.l0, laws_heldIntS.f, laws_heldIntS.l0]
theorem newNode (a0 a1 : Int) : ∃ a c : Int, spec_NewNode.f a0 a1 = some (a, 0, c, 0, 0, 0, 0, [], [], []) ∧ impl_NewNode.f a0 a1 = some (a, 0, c, 0, 0, 0, 0, [], [], []) := by
  unfold spec_NewNode.f impl_NewNode.f spec_l07Size.f spec_l01In.f
  by_cases h1 : a1 < 1
  · exact ⟨0, 0, by rw [if_neg (show ¬ (1 : Int) ≤ a1 by omega)]; simp, by rw [if_pos h1]⟩
  by_cases h2 : a1 > 5
  · exact ⟨0, 0, by rw [if_pos (show (1 : Int) ≤ a1 by omega)]; simp [show ¬ a1 ≤ 5 by omega], by rw [if_neg h1, if_pos h2]⟩
  have hw : wrap64 (a1 - 1) = a1 - 1 := w64 (by omega) (by omega)
  by_cases h3 : a0 < 0
  · refine ⟨0, 0, ?_, by rw [if_neg h1, if_neg h2, if_pos h3]⟩
    rw [if_pos (show (1 : Int) ≤ a1 by omega), if_neg (show ¬ (0 : Int) ≤ a0 by omega)]
    simp [show a1 ≤ 5 by omega]
  by_cases h4 : a0 ≥ a1
  · refine ⟨0, 0, ?_, by rw [if_neg h1, if_neg h2, if_neg h3, if_pos h4]⟩
    rw [if_pos (show (1 : Int) ≤ a1 by omega), if_pos (show (0 : Int) ≤ a0 by omega), hw]
    simp [show a1 ≤ 5 by omega, show ¬ a0 ≤ a1 - 1 by omega]
  refine ⟨a0, -1, ?_, by rw [if_neg h1, if_neg h2, if_neg h3, if_neg h4]⟩
  rw [if_pos (show (1 : Int) ≤ a1 by omega), if_pos (show (0 : Int) ≤ a0 by omega), hw]
  simp [show a1 ≤ 5 by omega, show a0 ≤ a1 - 1 by omega]
theorem FnExactNewNode : Stated := by
  intro a0 a1 _ _
  obtain ⟨a, c, hs, hi⟩ := newNode a0 a1
  refine ⟨1, ?_⟩
  unfold laws_FnExactNewNode.f
  rw [hs, hi]
  simp only [Option.bind_some, eqN, markN, heldN, if_true]
  simp

end Go.Proofs.Ytkcadcoohmofcaa.Pure
