-- Printed by the session's own program wip/prx.py.
import Derived.Test.YtoemdmjdpikfbaaQFnQuorumsx0
import Derived.Test.YtoemdmjdpikfbaaQFnQuorumsx1
import Derived.Test.YtoemdmjdpikfbaaQFnQuorumsx7
import Derived.Test.YtoemdmjdpikfbaaQFnQuorumsx10
import Derived.Test.YtoemdmjdpikfbaaQFnQuorumsx11
import Derived.Test.YtoemdmjdpikfbaaQFnQuorumsx12
namespace Go.Proofs.Ytoemdmjdpikfbaa.QFnQuorums
open Go.RowKit Go.Proofs.YtoemdmjdpikfbaaW.PrintWords Go.Proofs.YtoemdmjdpikfbaaW.PrintLast Go.Proofs.YtoemdmjdpikfbaaW.PrintMore
attribute [local go_sem] max2_int min2_int max_two min_two max_three min_three max_four min_four Go.Proofs.Ytoemdmjdpikfbaa.Set.isSome_setCell   -- for this text's walks alone
set_option linter.unusedVariables false
set_option linter.unusedSimpArgs false

-- squeezed
/-! ### laws_FnQuorums: function 8 -/
mutual
def laws_FnQuorums.l0 : Nat → List Int → List (S26) → List (List Int) → Int → List Int → List Int → List Int → Option (Bool)
  | 0, _, _, _, _, _, _, _ => none
  | k + 1, x0, x9, x10, x11, x605000, x605001, x605002 => if x11 < 4 then (laws_FnQuorums.l1 k x0 x9 x10 x11 (([] : List Int)) 0 x605000 x605001 x605002) else (laws_FnQuorums.l2 k x9 x10 0 x605000 x605001 x605002)
def laws_FnQuorums.l1 : Nat → List Int → List (S26) → List (List Int) → Int → List Int → Int → List Int → List Int → List Int → Option (Bool)
  | 0, _, _, _, _, _, _, _, _, _ => none
  | k + 1, x0, x9, x10, x11, x12, x13, x605000, x605001, x605002 => if x13 < 12 then ((laws_at.f x0 (wrap64 ((wrap64 (x11 * 2)) + (wrap64 (Int.tdiv x13 8))))).bind fun t637 => (if 0 ≤ (IntKind.u64.wrap (Int.tmod x13 8)) then (if (Go.bits .and .i64 (shr .i64 t637 (IntKind.u64.wrap (Int.tmod x13 8))) 1) = 1 then (if x12.length < 17592186044416 then (laws_FnQuorums.l1 k x0 x9 x10 x11 (x12 ++ [x13]) (wrap64 (x13 + 1)) x605000 x605001 x605002) else (none)) else (if x11 = 3 then (if x12.length < 17592186044416 then (laws_FnQuorums.l1 k x0 x9 x10 x11 (x12 ++ [x13]) (wrap64 (x13 + 1)) x605000 x605001 x605002) else (none)) else (laws_FnQuorums.l1 k x0 x9 x10 x11 x12 (wrap64 (x13 + 1)) x605000 x605001 x605002))) else (none))) else (if x10.length < 5864062014805 then (laws_FnQuorums.l0 k x0 x9 (x10 ++ [x12]) (wrap64 (x11 + 1)) x605000 x605001 x605002) else (none))
def laws_FnQuorums.l2 : Nat → List (S26) → List (List Int) → Int → List Int → List Int → List Int → Option (Bool)
  | 0, _, _, _, _, _, _ => none
  | k + 1, x9, x10, x14, x605000, x605001, x605002 => if x14 < 3 then (laws_FnQuorums.l3 k x9 x10 x14 0 x605000 x605001 x605002) else ((impl_Voters.f k x605000 x605001 x605002).bind fun t668 => ((impl_Quorum.f k x605000 x605001 x605002 t668).bind fun t671 => (if t671 = true then ((impl_Quorum.f k x605000 x605001 x605002 ([] : List Int)).bind fun t672 => (if t672 = true then (some false) else (if 3 < (x10.length : Int) then ((impl_Quorum.f k x605000 x605001 x605002 (rd_L2 x10 3)).bind fun t674 => ((spec_Quorum.f k x605000 x605001 x605002 (rd_L2 x10 3)).bind fun t676 => (some (t674 == t676)))) else (none)))) else (some false))))
def laws_FnQuorums.l3 : Nat → List (S26) → List (List Int) → Int → Int → List Int → List Int → List Int → Option (Bool)
  | 0, _, _, _, _, _, _, _ => none
  | k + 1, x9, x10, x14, x15, x605000, x605001, x605002 => if x15 < 4 then (laws_FnQuorums.l4 k x9 x10 x14 x15 0 x605000 x605001 x605002) else (laws_FnQuorums.l2 k x9 x10 (wrap64 (x14 + 1)) x605000 x605001 x605002)
def laws_FnQuorums.l4 : Nat → List (S26) → List (List Int) → Int → Int → Int → List Int → List Int → List Int → Option (Bool)
  | 0, _, _, _, _, _, _, _, _ => none
  | k + 1, x9, x10, x14, x15, x16, x605000, x605001, x605002 => if x16 < 4 then (laws_FnQuorums.l5 k x9 x10 x14 x15 x16 x14 x605000 x605001 x605002) else (laws_FnQuorums.l3 k x9 x10 x14 (wrap64 (x15 + 1)) x605000 x605001 x605002)
def laws_FnQuorums.l5 : Nat → List (S26) → List (List Int) → Int → Int → Int → Int → List Int → List Int → List Int → Option (Bool)
  | 0, _, _, _, _, _, _, _, _, _ => none
  | k + 1, x9, x10, x14, x15, x16, x17, x605000, x605001, x605002 => if x17 < 3 then (if x17 ≤ (wrap64 (x14 + 1)) then (if 0 ≤ x14 then (if x14 < (x9.length : Int) then (if 0 ≤ x15 then (if x15 < (x10.length : Int) then ((impl_Quorum.f k ((rd_T26 x9 x14).f0) ((rd_T26 x9 x14).f1) ((rd_T26 x9 x14).f2) (rd_L2 x10 x15)).bind fun t649 => (if t649 = true then (if 0 ≤ x17 then (if x17 < (x9.length : Int) then (if 0 ≤ x16 then (if x16 < (x10.length : Int) then ((impl_Quorum.f k ((rd_T26 x9 x17).f0) ((rd_T26 x9 x17).f1) ((rd_T26 x9 x17).f2) (rd_L2 x10 x16)).bind fun t652 => (if t652 = true then (laws_FnQuorums.l6 k x9 x10 x14 x15 x16 x17 false 0 x605000 x605001 x605002) else (laws_FnQuorums.l5 k x9 x10 x14 x15 x16 (wrap64 (x17 + 1)) x605000 x605001 x605002))) else (none)) else (none)) else (none)) else (none)) else (laws_FnQuorums.l5 k x9 x10 x14 x15 x16 (wrap64 (x17 + 1)) x605000 x605001 x605002))) else (none)) else (none)) else (none)) else (none)) else (laws_FnQuorums.l4 k x9 x10 x14 x15 (wrap64 (x16 + 1)) x605000 x605001 x605002)) else (laws_FnQuorums.l4 k x9 x10 x14 x15 (wrap64 (x16 + 1)) x605000 x605001 x605002)
def laws_FnQuorums.l6 : Nat → List (S26) → List (List Int) → Int → Int → Int → Int → Bool → Int → List Int → List Int → List Int → Option (Bool)
  | 0, _, _, _, _, _, _, _, _, _, _, _ => none
  | k + 1, x9, x10, x14, x15, x16, x17, x18, x19, x605000, x605001, x605002 => if 0 ≤ x15 then (if x15 < (x10.length : Int) then (if x19 < ((rd_L2 x10 x15).length : Int) then (if 0 ≤ x19 then (if 0 ≤ x16 then (if x16 < (x10.length : Int) then ((laws_within.f k (rd_L2 x10 x16) (rd (rd_L2 x10 x15) x19)).bind fun t657 => (if t657 = true then (if 0 ≤ x14 then (if x14 < (x9.length : Int) then ((spec_Voters.f k ((rd_T26 x9 x14).f0) ((rd_T26 x9 x14).f1) ((rd_T26 x9 x14).f2)).bind fun t659 => ((laws_within.f k t659 (rd (rd_L2 x10 x15) x19)).bind fun t662 => (if t662 = true then (laws_FnQuorums.l6 k x9 x10 x14 x15 x16 x17 true (wrap64 (x19 + 1)) x605000 x605001 x605002) else (if 0 ≤ x17 then (if x17 < (x9.length : Int) then ((spec_Voters.f k ((rd_T26 x9 x17).f0) ((rd_T26 x9 x17).f1) ((rd_T26 x9 x17).f2)).bind fun t664 => ((laws_within.f k t664 (rd (rd_L2 x10 x15) x19)).bind fun t667 => (if t667 = true then (laws_FnQuorums.l6 k x9 x10 x14 x15 x16 x17 true (wrap64 (x19 + 1)) x605000 x605001 x605002) else (laws_FnQuorums.l6 k x9 x10 x14 x15 x16 x17 x18 (wrap64 (x19 + 1)) x605000 x605001 x605002)))) else (none)) else (none))))) else (none)) else (none)) else (laws_FnQuorums.l6 k x9 x10 x14 x15 x16 x17 x18 (wrap64 (x19 + 1)) x605000 x605001 x605002))) else (none)) else (none)) else (none)) else (if x18 = true then (laws_FnQuorums.l5 k x9 x10 x14 x15 x16 (wrap64 (x17 + 1)) x605000 x605001 x605002) else (some false))) else (none)) else (none)
end
def laws_FnQuorums.f (k : Nat) (l0 : List Int) : Option (Bool) := (laws_big.f l0).bind fun t591 => (if t591 = true then (some true) else ((spec_DrawRightConf.f k l0).bind fun bt592 => ((impl_Begin.f k bt592.1 bt592.2.1 bt592.2.2.1 bt592.2.2.2).bind fun bt605 => ((impl_Finish.f k bt605.1 bt605.2.1 bt605.2.2.1).bind fun bt616 => ((impl_ConfOk.f k bt592.1 bt592.2.1 bt592.2.2.1).bind fun t627 => (if t627 = true then (if bt605.2.2.2 = true then (if bt616.2.2.2 = true then (laws_FnQuorums.l0 k l0 (([(⟨bt592.1, bt592.2.1, bt592.2.2.1⟩ : S26), (⟨bt605.1, bt605.2.1, bt605.2.2.1⟩ : S26), (⟨bt616.1, bt616.2.1, bt616.2.2.1⟩ : S26)] : List (S26))) (([] : List (List Int))) 0 bt592.1 bt592.2.1 bt592.2.2.1) else (some false)) else ((laws_sameConf.f k bt605.1 bt605.2.1 bt605.2.2.1 bt592.1 bt592.2.1 bt592.2.2.1).bind fun t677 => (if t677 = true then (laws_FnQuorums.l0 k l0 (([(⟨bt592.1, bt592.2.1, bt592.2.2.1⟩ : S26), (⟨bt605.1, bt605.2.1, bt605.2.2.1⟩ : S26), (⟨bt616.1, bt616.2.1, bt616.2.2.1⟩ : S26)] : List (S26))) (([] : List (List Int))) 0 bt592.1 bt592.2.1 bt592.2.2.1) else (some false)))) else (some false)))))))
theorem laws_FnQuorums.mono_l : ∀ k, (∀ y0 y1 y2 y3 y4 y5 y6, LeO (laws_FnQuorums.l0 k y0 y1 y2 y3 y4 y5 y6) (laws_FnQuorums.l0 (k + 1) y0 y1 y2 y3 y4 y5 y6)) ∧ (∀ y0 y1 y2 y3 y4 y5 y6 y7 y8, LeO (laws_FnQuorums.l1 k y0 y1 y2 y3 y4 y5 y6 y7 y8) (laws_FnQuorums.l1 (k + 1) y0 y1 y2 y3 y4 y5 y6 y7 y8)) ∧ (∀ y0 y1 y2 y3 y4 y5, LeO (laws_FnQuorums.l2 k y0 y1 y2 y3 y4 y5) (laws_FnQuorums.l2 (k + 1) y0 y1 y2 y3 y4 y5)) ∧ (∀ y0 y1 y2 y3 y4 y5 y6, LeO (laws_FnQuorums.l3 k y0 y1 y2 y3 y4 y5 y6) (laws_FnQuorums.l3 (k + 1) y0 y1 y2 y3 y4 y5 y6)) ∧ (∀ y0 y1 y2 y3 y4 y5 y6 y7, LeO (laws_FnQuorums.l4 k y0 y1 y2 y3 y4 y5 y6 y7) (laws_FnQuorums.l4 (k + 1) y0 y1 y2 y3 y4 y5 y6 y7)) ∧ (∀ y0 y1 y2 y3 y4 y5 y6 y7 y8, LeO (laws_FnQuorums.l5 k y0 y1 y2 y3 y4 y5 y6 y7 y8) (laws_FnQuorums.l5 (k + 1) y0 y1 y2 y3 y4 y5 y6 y7 y8)) ∧ (∀ y0 y1 y2 y3 y4 y5 y6 y7 y8 y9 y10, LeO (laws_FnQuorums.l6 k y0 y1 y2 y3 y4 y5 y6 y7 y8 y9 y10) (laws_FnQuorums.l6 (k + 1) y0 y1 y2 y3 y4 y5 y6 y7 y8 y9 y10))
  | 0 => ⟨fun _ _ _ _ _ _ _ r h => by simp [laws_FnQuorums.l0] at h, fun _ _ _ _ _ _ _ _ _ r h => by simp [laws_FnQuorums.l1] at h, fun _ _ _ _ _ _ r h => by simp [laws_FnQuorums.l2] at h, fun _ _ _ _ _ _ _ r h => by simp [laws_FnQuorums.l3] at h, fun _ _ _ _ _ _ _ _ r h => by simp [laws_FnQuorums.l4] at h, fun _ _ _ _ _ _ _ _ _ r h => by simp [laws_FnQuorums.l5] at h, fun _ _ _ _ _ _ _ _ _ _ _ r h => by simp [laws_FnQuorums.l6] at h⟩
  | k + 1 => by
    obtain ⟨ih0, ih1, ih2, ih3, ih4, ih5, ih6⟩ := laws_FnQuorums.mono_l k
    refine ⟨?_, ?_, ?_, ?_, ?_, ?_, ?_⟩
    · intro y0 y1 y2 y3 y4 y5 y6
      unfold laws_FnQuorums.l0
      repeat' first
      | (with_reducible exact ih0 _ _ _ _ _ _ _)
      | (with_reducible exact ih1 _ _ _ _ _ _ _ _ _)
      | (with_reducible exact ih2 _ _ _ _ _ _)
      | (with_reducible exact ih3 _ _ _ _ _ _ _)
      | (with_reducible exact ih4 _ _ _ _ _ _ _ _)
      | (with_reducible exact ih5 _ _ _ _ _ _ _ _ _)
      | (with_reducible exact ih6 _ _ _ _ _ _ _ _ _ _ _)
      | (with_reducible exact impl_Begin.mono _ _ _ _ _)
      | (with_reducible exact impl_ConfOk.mono _ _ _ _)
      | (with_reducible exact impl_Finish.mono _ _ _ _)
      | (with_reducible exact impl_Quorum.mono _ _ _ _ _)
      | (with_reducible exact impl_Voters.mono _ _ _ _)
      | (with_reducible exact laws_sameConf.mono _ _ _ _ _ _ _)
      | (with_reducible exact laws_within.mono _ _ _)
      | (with_reducible exact spec_DrawRightConf.mono _ _)
      | (with_reducible exact spec_Quorum.mono _ _ _ _ _)
      | (with_reducible exact spec_Voters.mono _ _ _ _)
      | (with_reducible exact LeO.refl _)
      | (with_reducible exact LeO.none _)
      | (with_reducible refine LeO.ite ?_ ?_)
      | (with_reducible refine LeO.bind ?_ (fun _ => ?_))
      | exact ih0 _ _ _ _ _ _ _
      | exact ih1 _ _ _ _ _ _ _ _ _
      | exact ih2 _ _ _ _ _ _
      | exact ih3 _ _ _ _ _ _ _
      | exact ih4 _ _ _ _ _ _ _ _
      | exact ih5 _ _ _ _ _ _ _ _ _
      | exact ih6 _ _ _ _ _ _ _ _ _ _ _
      | exact impl_Begin.mono _ _ _ _ _
      | exact impl_ConfOk.mono _ _ _ _
      | exact impl_Finish.mono _ _ _ _
      | exact impl_Quorum.mono _ _ _ _ _
      | exact impl_Voters.mono _ _ _ _
      | exact laws_sameConf.mono _ _ _ _ _ _ _
      | exact laws_within.mono _ _ _
      | exact spec_DrawRightConf.mono _ _
      | exact spec_Quorum.mono _ _ _ _ _
      | exact spec_Voters.mono _ _ _ _
      | exact LeO.none _
      | refine LeO.ite ?_ ?_
      | refine LeO.bind ?_ (fun _ => ?_)
    · intro y0 y1 y2 y3 y4 y5 y6 y7 y8
      unfold laws_FnQuorums.l1
      repeat' first
      | (with_reducible exact ih0 _ _ _ _ _ _ _)
      | (with_reducible exact ih1 _ _ _ _ _ _ _ _ _)
      | (with_reducible exact ih2 _ _ _ _ _ _)
      | (with_reducible exact ih3 _ _ _ _ _ _ _)
      | (with_reducible exact ih4 _ _ _ _ _ _ _ _)
      | (with_reducible exact ih5 _ _ _ _ _ _ _ _ _)
      | (with_reducible exact ih6 _ _ _ _ _ _ _ _ _ _ _)
      | (with_reducible exact impl_Begin.mono _ _ _ _ _)
      | (with_reducible exact impl_ConfOk.mono _ _ _ _)
      | (with_reducible exact impl_Finish.mono _ _ _ _)
      | (with_reducible exact impl_Quorum.mono _ _ _ _ _)
      | (with_reducible exact impl_Voters.mono _ _ _ _)
      | (with_reducible exact laws_sameConf.mono _ _ _ _ _ _ _)
      | (with_reducible exact laws_within.mono _ _ _)
      | (with_reducible exact spec_DrawRightConf.mono _ _)
      | (with_reducible exact spec_Quorum.mono _ _ _ _ _)
      | (with_reducible exact spec_Voters.mono _ _ _ _)
      | (with_reducible exact LeO.refl _)
      | (with_reducible exact LeO.none _)
      | (with_reducible refine LeO.ite ?_ ?_)
      | (with_reducible refine LeO.bind ?_ (fun _ => ?_))
      | exact ih0 _ _ _ _ _ _ _
      | exact ih1 _ _ _ _ _ _ _ _ _
      | exact ih2 _ _ _ _ _ _
      | exact ih3 _ _ _ _ _ _ _
      | exact ih4 _ _ _ _ _ _ _ _
      | exact ih5 _ _ _ _ _ _ _ _ _
      | exact ih6 _ _ _ _ _ _ _ _ _ _ _
      | exact impl_Begin.mono _ _ _ _ _
      | exact impl_ConfOk.mono _ _ _ _
      | exact impl_Finish.mono _ _ _ _
      | exact impl_Quorum.mono _ _ _ _ _
      | exact impl_Voters.mono _ _ _ _
      | exact laws_sameConf.mono _ _ _ _ _ _ _
      | exact laws_within.mono _ _ _
      | exact spec_DrawRightConf.mono _ _
      | exact spec_Quorum.mono _ _ _ _ _
      | exact spec_Voters.mono _ _ _ _
      | exact LeO.none _
      | refine LeO.ite ?_ ?_
      | refine LeO.bind ?_ (fun _ => ?_)
    · intro y0 y1 y2 y3 y4 y5
      unfold laws_FnQuorums.l2
      repeat' first
      | (with_reducible exact ih0 _ _ _ _ _ _ _)
      | (with_reducible exact ih1 _ _ _ _ _ _ _ _ _)
      | (with_reducible exact ih2 _ _ _ _ _ _)
      | (with_reducible exact ih3 _ _ _ _ _ _ _)
      | (with_reducible exact ih4 _ _ _ _ _ _ _ _)
      | (with_reducible exact ih5 _ _ _ _ _ _ _ _ _)
      | (with_reducible exact ih6 _ _ _ _ _ _ _ _ _ _ _)
      | (with_reducible exact impl_Begin.mono _ _ _ _ _)
      | (with_reducible exact impl_ConfOk.mono _ _ _ _)
      | (with_reducible exact impl_Finish.mono _ _ _ _)
      | (with_reducible exact impl_Quorum.mono _ _ _ _ _)
      | (with_reducible exact impl_Voters.mono _ _ _ _)
      | (with_reducible exact laws_sameConf.mono _ _ _ _ _ _ _)
      | (with_reducible exact laws_within.mono _ _ _)
      | (with_reducible exact spec_DrawRightConf.mono _ _)
      | (with_reducible exact spec_Quorum.mono _ _ _ _ _)
      | (with_reducible exact spec_Voters.mono _ _ _ _)
      | (with_reducible exact LeO.refl _)
      | (with_reducible exact LeO.none _)
      | (with_reducible refine LeO.ite ?_ ?_)
      | (with_reducible refine LeO.bind ?_ (fun _ => ?_))
      | exact ih0 _ _ _ _ _ _ _
      | exact ih1 _ _ _ _ _ _ _ _ _
      | exact ih2 _ _ _ _ _ _
      | exact ih3 _ _ _ _ _ _ _
      | exact ih4 _ _ _ _ _ _ _ _
      | exact ih5 _ _ _ _ _ _ _ _ _
      | exact ih6 _ _ _ _ _ _ _ _ _ _ _
      | exact impl_Begin.mono _ _ _ _ _
      | exact impl_ConfOk.mono _ _ _ _
      | exact impl_Finish.mono _ _ _ _
      | exact impl_Quorum.mono _ _ _ _ _
      | exact impl_Voters.mono _ _ _ _
      | exact laws_sameConf.mono _ _ _ _ _ _ _
      | exact laws_within.mono _ _ _
      | exact spec_DrawRightConf.mono _ _
      | exact spec_Quorum.mono _ _ _ _ _
      | exact spec_Voters.mono _ _ _ _
      | exact LeO.none _
      | refine LeO.ite ?_ ?_
      | refine LeO.bind ?_ (fun _ => ?_)
    · intro y0 y1 y2 y3 y4 y5 y6
      unfold laws_FnQuorums.l3
      repeat' first
      | (with_reducible exact ih0 _ _ _ _ _ _ _)
      | (with_reducible exact ih1 _ _ _ _ _ _ _ _ _)
      | (with_reducible exact ih2 _ _ _ _ _ _)
      | (with_reducible exact ih3 _ _ _ _ _ _ _)
      | (with_reducible exact ih4 _ _ _ _ _ _ _ _)
      | (with_reducible exact ih5 _ _ _ _ _ _ _ _ _)
      | (with_reducible exact ih6 _ _ _ _ _ _ _ _ _ _ _)
      | (with_reducible exact impl_Begin.mono _ _ _ _ _)
      | (with_reducible exact impl_ConfOk.mono _ _ _ _)
      | (with_reducible exact impl_Finish.mono _ _ _ _)
      | (with_reducible exact impl_Quorum.mono _ _ _ _ _)
      | (with_reducible exact impl_Voters.mono _ _ _ _)
      | (with_reducible exact laws_sameConf.mono _ _ _ _ _ _ _)
      | (with_reducible exact laws_within.mono _ _ _)
      | (with_reducible exact spec_DrawRightConf.mono _ _)
      | (with_reducible exact spec_Quorum.mono _ _ _ _ _)
      | (with_reducible exact spec_Voters.mono _ _ _ _)
      | (with_reducible exact LeO.refl _)
      | (with_reducible exact LeO.none _)
      | (with_reducible refine LeO.ite ?_ ?_)
      | (with_reducible refine LeO.bind ?_ (fun _ => ?_))
      | exact ih0 _ _ _ _ _ _ _
      | exact ih1 _ _ _ _ _ _ _ _ _
      | exact ih2 _ _ _ _ _ _
      | exact ih3 _ _ _ _ _ _ _
      | exact ih4 _ _ _ _ _ _ _ _
      | exact ih5 _ _ _ _ _ _ _ _ _
      | exact ih6 _ _ _ _ _ _ _ _ _ _ _
      | exact impl_Begin.mono _ _ _ _ _
      | exact impl_ConfOk.mono _ _ _ _
      | exact impl_Finish.mono _ _ _ _
      | exact impl_Quorum.mono _ _ _ _ _
      | exact impl_Voters.mono _ _ _ _
      | exact laws_sameConf.mono _ _ _ _ _ _ _
      | exact laws_within.mono _ _ _
      | exact spec_DrawRightConf.mono _ _
      | exact spec_Quorum.mono _ _ _ _ _
      | exact spec_Voters.mono _ _ _ _
      | exact LeO.none _
      | refine LeO.ite ?_ ?_
      | refine LeO.bind ?_ (fun _ => ?_)
    · intro y0 y1 y2 y3 y4 y5 y6 y7
      unfold laws_FnQuorums.l4
      repeat' first
      | (with_reducible exact ih0 _ _ _ _ _ _ _)
      | (with_reducible exact ih1 _ _ _ _ _ _ _ _ _)
      | (with_reducible exact ih2 _ _ _ _ _ _)
      | (with_reducible exact ih3 _ _ _ _ _ _ _)
      | (with_reducible exact ih4 _ _ _ _ _ _ _ _)
      | (with_reducible exact ih5 _ _ _ _ _ _ _ _ _)
      | (with_reducible exact ih6 _ _ _ _ _ _ _ _ _ _ _)
      | (with_reducible exact impl_Begin.mono _ _ _ _ _)
      | (with_reducible exact impl_ConfOk.mono _ _ _ _)
      | (with_reducible exact impl_Finish.mono _ _ _ _)
      | (with_reducible exact impl_Quorum.mono _ _ _ _ _)
      | (with_reducible exact impl_Voters.mono _ _ _ _)
      | (with_reducible exact laws_sameConf.mono _ _ _ _ _ _ _)
      | (with_reducible exact laws_within.mono _ _ _)
      | (with_reducible exact spec_DrawRightConf.mono _ _)
      | (with_reducible exact spec_Quorum.mono _ _ _ _ _)
      | (with_reducible exact spec_Voters.mono _ _ _ _)
      | (with_reducible exact LeO.refl _)
      | (with_reducible exact LeO.none _)
      | (with_reducible refine LeO.ite ?_ ?_)
      | (with_reducible refine LeO.bind ?_ (fun _ => ?_))
      | exact ih0 _ _ _ _ _ _ _
      | exact ih1 _ _ _ _ _ _ _ _ _
      | exact ih2 _ _ _ _ _ _
      | exact ih3 _ _ _ _ _ _ _
      | exact ih4 _ _ _ _ _ _ _ _
      | exact ih5 _ _ _ _ _ _ _ _ _
      | exact ih6 _ _ _ _ _ _ _ _ _ _ _
      | exact impl_Begin.mono _ _ _ _ _
      | exact impl_ConfOk.mono _ _ _ _
      | exact impl_Finish.mono _ _ _ _
      | exact impl_Quorum.mono _ _ _ _ _
      | exact impl_Voters.mono _ _ _ _
      | exact laws_sameConf.mono _ _ _ _ _ _ _
      | exact laws_within.mono _ _ _
      | exact spec_DrawRightConf.mono _ _
      | exact spec_Quorum.mono _ _ _ _ _
      | exact spec_Voters.mono _ _ _ _
      | exact LeO.none _
      | refine LeO.ite ?_ ?_
      | refine LeO.bind ?_ (fun _ => ?_)
    · intro y0 y1 y2 y3 y4 y5 y6 y7 y8
      unfold laws_FnQuorums.l5
      repeat' first
      | (with_reducible exact ih0 _ _ _ _ _ _ _)
      | (with_reducible exact ih1 _ _ _ _ _ _ _ _ _)
      | (with_reducible exact ih2 _ _ _ _ _ _)
      | (with_reducible exact ih3 _ _ _ _ _ _ _)
      | (with_reducible exact ih4 _ _ _ _ _ _ _ _)
      | (with_reducible exact ih5 _ _ _ _ _ _ _ _ _)
      | (with_reducible exact ih6 _ _ _ _ _ _ _ _ _ _ _)
      | (with_reducible exact impl_Begin.mono _ _ _ _ _)
      | (with_reducible exact impl_ConfOk.mono _ _ _ _)
      | (with_reducible exact impl_Finish.mono _ _ _ _)
      | (with_reducible exact impl_Quorum.mono _ _ _ _ _)
      | (with_reducible exact impl_Voters.mono _ _ _ _)
      | (with_reducible exact laws_sameConf.mono _ _ _ _ _ _ _)
      | (with_reducible exact laws_within.mono _ _ _)
      | (with_reducible exact spec_DrawRightConf.mono _ _)
      | (with_reducible exact spec_Quorum.mono _ _ _ _ _)
      | (with_reducible exact spec_Voters.mono _ _ _ _)
      | (with_reducible exact LeO.refl _)
      | (with_reducible exact LeO.none _)
      | (with_reducible refine LeO.ite ?_ ?_)
      | (with_reducible refine LeO.bind ?_ (fun _ => ?_))
      | exact ih0 _ _ _ _ _ _ _
      | exact ih1 _ _ _ _ _ _ _ _ _
      | exact ih2 _ _ _ _ _ _
      | exact ih3 _ _ _ _ _ _ _
      | exact ih4 _ _ _ _ _ _ _ _
      | exact ih5 _ _ _ _ _ _ _ _ _
      | exact ih6 _ _ _ _ _ _ _ _ _ _ _
      | exact impl_Begin.mono _ _ _ _ _
      | exact impl_ConfOk.mono _ _ _ _
      | exact impl_Finish.mono _ _ _ _
      | exact impl_Quorum.mono _ _ _ _ _
      | exact impl_Voters.mono _ _ _ _
      | exact laws_sameConf.mono _ _ _ _ _ _ _
      | exact laws_within.mono _ _ _
      | exact spec_DrawRightConf.mono _ _
      | exact spec_Quorum.mono _ _ _ _ _
      | exact spec_Voters.mono _ _ _ _
      | exact LeO.none _
      | refine LeO.ite ?_ ?_
      | refine LeO.bind ?_ (fun _ => ?_)
    · intro y0 y1 y2 y3 y4 y5 y6 y7 y8 y9 y10
      unfold laws_FnQuorums.l6
      repeat' first
      | (with_reducible exact ih0 _ _ _ _ _ _ _)
      | (with_reducible exact ih1 _ _ _ _ _ _ _ _ _)
      | (with_reducible exact ih2 _ _ _ _ _ _)
      | (with_reducible exact ih3 _ _ _ _ _ _ _)
      | (with_reducible exact ih4 _ _ _ _ _ _ _ _)
      | (with_reducible exact ih5 _ _ _ _ _ _ _ _ _)
      | (with_reducible exact ih6 _ _ _ _ _ _ _ _ _ _ _)
      | (with_reducible exact impl_Begin.mono _ _ _ _ _)
      | (with_reducible exact impl_ConfOk.mono _ _ _ _)
      | (with_reducible exact impl_Finish.mono _ _ _ _)
      | (with_reducible exact impl_Quorum.mono _ _ _ _ _)
      | (with_reducible exact impl_Voters.mono _ _ _ _)
      | (with_reducible exact laws_sameConf.mono _ _ _ _ _ _ _)
      | (with_reducible exact laws_within.mono _ _ _)
      | (with_reducible exact spec_DrawRightConf.mono _ _)
      | (with_reducible exact spec_Quorum.mono _ _ _ _ _)
      | (with_reducible exact spec_Voters.mono _ _ _ _)
      | (with_reducible exact LeO.refl _)
      | (with_reducible exact LeO.none _)
      | (with_reducible refine LeO.ite ?_ ?_)
      | (with_reducible refine LeO.bind ?_ (fun _ => ?_))
      | exact ih0 _ _ _ _ _ _ _
      | exact ih1 _ _ _ _ _ _ _ _ _
      | exact ih2 _ _ _ _ _ _
      | exact ih3 _ _ _ _ _ _ _
      | exact ih4 _ _ _ _ _ _ _ _
      | exact ih5 _ _ _ _ _ _ _ _ _
      | exact ih6 _ _ _ _ _ _ _ _ _ _ _
      | exact impl_Begin.mono _ _ _ _ _
      | exact impl_ConfOk.mono _ _ _ _
      | exact impl_Finish.mono _ _ _ _
      | exact impl_Quorum.mono _ _ _ _ _
      | exact impl_Voters.mono _ _ _ _
      | exact laws_sameConf.mono _ _ _ _ _ _ _
      | exact laws_within.mono _ _ _
      | exact spec_DrawRightConf.mono _ _
      | exact spec_Quorum.mono _ _ _ _ _
      | exact spec_Voters.mono _ _ _ _
      | exact LeO.none _
      | refine LeO.ite ?_ ?_
      | refine LeO.bind ?_ (fun _ => ?_)
theorem laws_FnQuorums.mono : ∀ a0 k, LeO (laws_FnQuorums.f k a0) (laws_FnQuorums.f (k + 1) a0) := by
  intro a0 k
  obtain ⟨ih0, ih1, ih2, ih3, ih4, ih5, ih6⟩ := laws_FnQuorums.mono_l k
  unfold laws_FnQuorums.f
  repeat' first
      | (with_reducible exact ih0 _ _ _ _ _ _ _)
      | (with_reducible exact ih1 _ _ _ _ _ _ _ _ _)
      | (with_reducible exact ih2 _ _ _ _ _ _)
      | (with_reducible exact ih3 _ _ _ _ _ _ _)
      | (with_reducible exact ih4 _ _ _ _ _ _ _ _)
      | (with_reducible exact ih5 _ _ _ _ _ _ _ _ _)
      | (with_reducible exact ih6 _ _ _ _ _ _ _ _ _ _ _)
      | (with_reducible exact impl_Begin.mono _ _ _ _ _)
      | (with_reducible exact impl_ConfOk.mono _ _ _ _)
      | (with_reducible exact impl_Finish.mono _ _ _ _)
      | (with_reducible exact impl_Quorum.mono _ _ _ _ _)
      | (with_reducible exact impl_Voters.mono _ _ _ _)
      | (with_reducible exact laws_sameConf.mono _ _ _ _ _ _ _)
      | (with_reducible exact laws_within.mono _ _ _)
      | (with_reducible exact spec_DrawRightConf.mono _ _)
      | (with_reducible exact spec_Quorum.mono _ _ _ _ _)
      | (with_reducible exact spec_Voters.mono _ _ _ _)
      | (with_reducible exact LeO.refl _)
      | (with_reducible exact LeO.none _)
      | (with_reducible refine LeO.ite ?_ ?_)
      | (with_reducible refine LeO.bind ?_ (fun _ => ?_))
      | exact ih0 _ _ _ _ _ _ _
      | exact ih1 _ _ _ _ _ _ _ _ _
      | exact ih2 _ _ _ _ _ _
      | exact ih3 _ _ _ _ _ _ _
      | exact ih4 _ _ _ _ _ _ _ _
      | exact ih5 _ _ _ _ _ _ _ _ _
      | exact ih6 _ _ _ _ _ _ _ _ _ _ _
      | exact impl_Begin.mono _ _ _ _ _
      | exact impl_ConfOk.mono _ _ _ _
      | exact impl_Finish.mono _ _ _ _
      | exact impl_Quorum.mono _ _ _ _ _
      | exact impl_Voters.mono _ _ _ _
      | exact laws_sameConf.mono _ _ _ _ _ _ _
      | exact laws_within.mono _ _ _
      | exact spec_DrawRightConf.mono _ _
      | exact spec_Quorum.mono _ _ _ _ _
      | exact spec_Voters.mono _ _ _ _
      | exact LeO.none _
      | refine LeO.ite ?_ ?_
      | refine LeO.bind ?_ (fun _ => ?_)
theorem quor_lit_ {P : Program} {ops : Array Oper} {rest : List Oper} {o : Oper} {a : Act} {Q : Exit → Act → World → Prop} {α : Type} (d : Kd α) {W : World} (e : Nat) (hgd : o.guard = none) {N : Tmp} (_hd : o.dst = some N) {xs ys : List α} {inner : List Value} (hy : ys = xs)
    (hrun : (execOp a.eval o).run P W = .ok (.value (.slice (some ⟨W.heap.size, 0, none⟩) xs.length xs.length)) (W.alloc (.cells inner.toArray e)))
    (hrep : Reps (d.K W) d.sz xs inner) (hm : xs.length ≤ 9223372036854775807)
    (h : ∀ A1 c1 w1, d.C w1 A1 ys.length ys → ys.length ≤ c1 → Below W.heap.size W w1 → wpList P ops Q rest (a.put o.dst (.slice A1 ys.length c1)) w1) : wpList P ops Q (o :: rest) a W := by
  subst hy
  have h2 := World.ownsRow_lit (base := W.heap.size) (e := e) (size := d.sz) W inner.toArray ys.length (Nat.le_refl _) (by simpa [maxLen] using hm) (by simpa using hrep.1)
  have hR : Reps (d.K (W.alloc (.cells inner.toArray e))) d.sz ys inner := hrep.imp_ (fun p c hp => d.K_below (below_alloc (Below.refl _ _) _) hp)
  obtain ⟨A, c, hv, hr⟩ := own_reads_row (cs := inner) h2 hR rfl
  injection hv with hv _ _
  subst hv
  exact Kd.event_run hgd hrun (h _ _ _ hr (Nat.le_refl _) (below_alloc (Below.refl _ _) _))
def laws_FnQuorums.T32 : Bool × List (List Nat × List Nat) := (true, [([], []), ([], []), ([0, 1], [0, 1]), ([2], [2]), ([], []), ([], []), ([4, 5], [4, 5]), ([6], [6]), ([3, 7], [3, 7]), ([8], [8]), ([9, 8], [9]), ([10], [10]), ([10], [10]), ([11, 12, 10], [10, 11, 12]), ([13, 10], [10, 13]), ([10], [10]), ([10], [10]), ([15, 16, 10], [10, 15, 16]), ([17, 10], [10, 17]), ([14, 18, 10, 10], [10, 14, 18]), ([19, 10], [10, 19]), ([10, 20], [10, 20])])
def laws_FnQuorums.B32 : List Nat := [0, 0, 3, 7, 0, 0, 48, 112, 255, 511, 1023, 2047, 2047, 8191, 16383, 2047, 2047, 100351, 231423, 524287, 1048575, 2097151]
theorem laws_FnQuorums.tab32 : rtab .any (opsOf Try.f8 32) = laws_FnQuorums.T32 := by kernel_rfl
theorem laws_FnQuorums.bits32 : waitsOk laws_FnQuorums.T32.2 laws_FnQuorums.B32 = true := by kernel_rfl
def laws_FnQuorums.T42 : Bool × List (List Nat × List Nat) := (true, [([], []), ([], []), ([1], [1]), ([0, 2, 2], [0, 2]), ([3, 3], [3]), ([4], [4]), ([5, 4, 4], [4, 5]), ([6, 4], [4, 6]), ([4, 7], [4, 7]), ([8, 6], [8]), ([9], [9]), ([9], [9]), ([11, 9], [9, 11]), ([12, 9], [9, 12]), ([10, 13, 9, 9], [9, 10, 13]), ([9], [9]), ([9], [9]), ([16, 9], [9, 16]), ([17, 9], [9, 17]), ([15, 18, 14, 9], [9, 15, 18]), ([14, 19, 9], [9, 14, 19]), ([9, 20], [9, 20]), ([21, 19, 0, 1, 2, 3, 4, 5, 6, 7, 8, 9, 10, 11, 12, 13, 14, 15, 16, 17, 18, 19, 20, 21], [21])])
def laws_FnQuorums.B42 : List Nat := [0, 0, 2, 7, 15, 31, 63, 127, 255, 511, 1023, 1023, 3071, 7167, 16383, 1023, 1023, 66559, 197631, 524287, 1048575, 2097151, 4194303]
theorem laws_FnQuorums.tab42 : rtab .any (opsOf Try.f8 42) = laws_FnQuorums.T42 := by kernel_rfl
theorem laws_FnQuorums.bits42 : waitsOk laws_FnQuorums.T42.2 laws_FnQuorums.B42 = true := by kernel_rfl
set_option maxHeartbeats 8000000 in
set_option maxRecDepth 100000 in
theorem laws_FnQuorums.calls (k : Nat) (A0 : Option Addr) (c0 : Nat) (l0 : List Int) (r : Bool) (w : World) (hr0 : Kd.C (Kd.int .u8) w A0 l0.length l0) (hc0 : l0.length ≤ c0) (h : laws_FnQuorums.f k l0 = some r) (hr_ : Aside0 (r = true)) :
    Calls Try.prog 8 #[.slice A0 l0.length c0] w fun e w' => e = .returned (.bool r) ∧ Below w.heap.size w w' := by
  have hu26 := Try.underlying26
  have HR0 := Aside0.mk hr0
  have HC0 := Aside0.mk hc0
  clear hr0 hc0
  have HB := Aside0.mk (Below.refl w.heap.size w)
  have H : ((laws_big.f l0).bind fun t591 => (if t591 = true then (some true) else ((spec_DrawRightConf.f k l0).bind fun bt592 => ((impl_Begin.f k bt592.1 bt592.2.1 bt592.2.2.1 bt592.2.2.2).bind fun bt605 => ((impl_Finish.f k bt605.1 bt605.2.1 bt605.2.2.1).bind fun bt616 => ((impl_ConfOk.f k bt592.1 bt592.2.1 bt592.2.2.1).bind fun t627 => (if t627 = true then (if bt605.2.2.2 = true then (if bt616.2.2.2 = true then (laws_FnQuorums.l0 k l0 (([(⟨bt592.1, bt592.2.1, bt592.2.2.1⟩ : S26), (⟨bt605.1, bt605.2.1, bt605.2.2.1⟩ : S26), (⟨bt616.1, bt616.2.1, bt616.2.2.1⟩ : S26)] : List (S26))) (([] : List (List Int))) 0 bt592.1 bt592.2.1 bt592.2.2.1) else (some false)) else ((laws_sameConf.f k bt605.1 bt605.2.1 bt605.2.2.1 bt592.1 bt592.2.1 bt592.2.2.1).bind fun t677 => (if t677 = true then (laws_FnQuorums.l0 k l0 (([(⟨bt592.1, bt592.2.1, bt592.2.2.1⟩ : S26), (⟨bt605.1, bt605.2.1, bt605.2.2.1⟩ : S26), (⟨bt616.1, bt616.2.1, bt616.2.2.1⟩ : S26)] : List (S26))) (([] : List (List Int))) 0 bt592.1 bt592.2.1 bt592.2.2.1) else (some false)))) else (some false)))))))) = some r := h
  clear h
  replace H := Option.bind_eq_some_iff.mp H
  obtain ⟨t591, A20, H⟩ := H
  have A2 := Aside0.mk A20
  clear A20
  have H9 := Aside0.mk H
  clear H
  go_enter Try.func8, Try.ntmps8
  go_upto_if 22 with (first | ((with_reducible refine gate_callee (f := 9) rfl ?_); refine goesL_ (some 22) rfl rfl Try.func9 (by kernel_rfl) rfl #[.slice A0 l0.length c0] rfl (by (try simp only [List.map_toArray, List.map_cons, List.map_nil]); first | done | rfl) ?_; (with_reducible refine (laws_big.calls _ _ l0 t591 _ ?side1 ?side2 A2.out).mono ?_); (case side1 => repeat (first | exact HR0.out | (with_reducible refine Kd.C_alloc ?_ _) | (with_reducible refine Kd.C_drewN ?_ _) | (with_reducible refine Kd.C_drew ?_))); (case side2 => exact HC0.out); rintro e w' ⟨rfl, ⟨nd, rfl⟩⟩; refine ⟨_, rfl, ?_⟩))
  have H := H9.out
  clear H9
  by_cases c3 : t591 = true
  · subst c3
    have H1 : (some true) = some r := by rw [if_pos rfl] at H; exact H
    clear H
    obtain rfl := Option.some.inj H1
    go_wp2
    go_ret
    exact ⟨rfl, by repeat (first | (with_reducible first | exact HB.out | apply below_alloc | apply pw_below_drewN | apply below_drew1) | exact HB.out)⟩
  replace c3 := Bool.eq_false_iff.mpr c3
  subst c3
  rw [if_neg (show ¬ (false = true) by decide)] at H
  replace H := Option.bind_eq_some_iff.mp H
  obtain ⟨⟨l2_0, l2_1, l2_2, tw⟩, A40, H⟩ := H
  (try dsimp only at A40)
  have A4 := Aside0.mk A40
  clear A40
  replace H := Option.bind_eq_some_iff.mp H
  obtain ⟨⟨tj0, tj1, tj2, tb⟩, A50, H⟩ := H
  (try dsimp only at A50)
  have A5 := Aside0.mk A50
  clear A50
  replace H := Option.bind_eq_some_iff.mp H
  obtain ⟨⟨tl0, tl1, tl2, te⟩, A60, H⟩ := H
  (try dsimp only at A60)
  have A6 := Aside0.mk A60
  clear A60
  replace H := Option.bind_eq_some_iff.mp H
  obtain ⟨t627, A70, H⟩ := H
  obtain ⟨l1, hl1⟩ : ∃ y_ : List S26, y_ = [(⟨l2_0, l2_1, l2_2⟩ : S26), (⟨tj0, tj1, tj2⟩ : S26), (⟨tl0, tl1, tl2⟩ : S26)] := ⟨_, rfl⟩
  replace H : (if t627 = true then (if tb = true then (if te = true then (laws_FnQuorums.l0 k l0 l1 (([] : List (List Int))) 0 l2_0 l2_1 l2_2) else (some false)) else ((laws_sameConf.f k tj0 tj1 tj2 l2_0 l2_1 l2_2).bind fun t677 => (if t677 = true then (laws_FnQuorums.l0 k l0 l1 (([] : List (List Int))) 0 l2_0 l2_1 l2_2) else (some false)))) else (some false)) = some r := by rw [hl1]; exact H
  have HW : t627 = true ∧ laws_FnQuorums.l0 k l0 l1 (([] : List (List Int))) 0 l2_0 l2_1 l2_2 = some r ∧ ((tb = true ∧ te = true) ∨ (tb = false ∧ laws_sameConf.f k tj0 tj1 tj2 l2_0 l2_1 l2_2 = some true)) := by
    have no : ¬ some false = some r := fun q => absurd ((Option.some.inj q).trans hr_.out) (by decide)
    by_cases e1 : t627 = true
    · rw [if_pos e1] at H
      by_cases e2 : tb = true
      · rw [if_pos e2] at H
        by_cases e3 : te = true
        · rw [if_pos e3] at H; exact ⟨e1, H, .inl ⟨e2, e3⟩⟩
        · rw [if_neg e3] at H; exact absurd H no
      · rw [if_neg e2] at H
        obtain ⟨t, h1, h2⟩ := Option.bind_eq_some_iff.mp H
        by_cases e3 : t = true
        · rw [if_pos e3] at h2; exact ⟨e1, h2, .inr ⟨Bool.eq_false_iff.mpr e2, by rw [e3] at h1; exact h1⟩⟩
        · rw [if_neg e3] at h2; exact absurd h2 no
    · rw [if_neg e1] at H; exact absurd H no
  obtain ⟨e1, H1, HWY⟩ := HW
  subst e1
  (try dsimp only at A70)
  have A7 := Aside0.mk A70
  have HWAY := Aside0.mk HWY
  have X1 := Aside0.mk hl1
  clear A70 HWY hl1 H
  obtain ⟨y592, hy592⟩ : ∃ y_ : List (List Int), y_ = (([] : List (List Int))) := ⟨_, rfl⟩
  rw [← hy592] at H1
  have Ny592 := Aside0.mk hy592
  have H' := Aside0.mk H1
  clear hy592 H1
  go_upto_region 3 with (fail)
  (try simp only [Act.put, List.setIfInBounds_toArray, List.set_cons_zero, List.set_cons_succ])
  go_cut [3, 4] (fun s3 s4 wc => ∃ (gb591 : Nat) (A2_0 : Option Addr) (c2_0 : Nat) (A2_1 : Option Addr) (c2_1 : Nat) (A2_2 : Option Addr) (c2_2 : Nat) (Aw : Option Addr) (cw : Nat), s3 = .pointer (some ⟨gb591, 0, none⟩) ∧ s4 = .slice Aw tw.length cw ∧ Aside0 (Kd.C (Kd.int .i64) wc A2_0 l2_0.length l2_0) ∧ Aside0 (l2_0.length ≤ c2_0) ∧ Aside0 (Kd.C (Kd.int .i64) wc A2_1 l2_1.length l2_1) ∧ Aside0 (l2_1.length ≤ c2_1) ∧ Aside0 (Kd.C (Kd.int .i64) wc A2_2 l2_2.length l2_2) ∧ Aside0 (l2_2.length ≤ c2_2) ∧ Aside0 (Kd.C (Kd.int .i64) wc Aw tw.length tw) ∧ Aside0 (tw.length ≤ cw) ∧ Aside0 (wc.heap[gb591]? = some (.cells #[.slice A2_0 l2_0.length c2_0, .slice A2_1 l2_1.length c2_1, .slice A2_2 l2_2.length c2_2] 26 (0, 0))) ∧ Aside0 (Below w.heap.size w wc))
  case first =>
    go_wp2_with (first | ((with_reducible refine gate_callee (f := 10) rfl ?_); refine goesL_ (some 25) rfl rfl Try.func10 (by kernel_rfl) rfl #[.slice A0 l0.length c0] rfl (by (try simp only [List.map_toArray, List.map_cons, List.map_nil]); first | done | rfl) ?_; (with_reducible refine (spec_DrawRightConf.calls k _ _ l0 l2_0 l2_1 l2_2 tw _ ?side1 ?side2 A4.out).mono ?_); (case side1 => repeat (first | exact (Kd.C_below HR0.out HB.out) | exact HR0.out | (with_reducible refine Kd.C_alloc ?_ _) | (with_reducible refine Kd.C_drewN ?_ _) | (with_reducible refine Kd.C_drew ?_))); (case side2 => exact HC0.out); rintro e w2 ⟨v0_, v1_, v2_, v3_, rfl, ho0, ho1, ho2, ho3, hb⟩; refine ⟨_, rfl, ?_⟩; obtain ⟨A2_0, c2_0, rfl⟩ := Kd.R_slice ho0; have Fl2_0 := Aside0.mk (Kd.R_reads' ho0).2.2; have Gl2_0 := Aside0.mk (Kd.R_reads' ho0).2.1; clear ho0; obtain ⟨A2_1, c2_1, rfl⟩ := Kd.R_slice ho1; have Fl2_1 := Aside0.mk (Kd.R_reads' ho1).2.2; have Gl2_1 := Aside0.mk (Kd.R_reads' ho1).2.1; clear ho1; obtain ⟨A2_2, c2_2, rfl⟩ := Kd.R_slice ho2; have Fl2_2 := Aside0.mk (Kd.R_reads' ho2).2.2; have Gl2_2 := Aside0.mk (Kd.R_reads' ho2).2.1; clear ho2; obtain ⟨Aw, cw, rfl⟩ := Kd.R_slice ho3; have Ftw := Aside0.mk (Kd.R_reads' ho3).2.2; have Gtw := Aside0.mk (Kd.R_reads' ho3).2.1; clear ho3; have n0_ := Aside0.mk (below_step (by repeat (first | (with_reducible first | exact HB.out | apply below_alloc | apply pw_below_drewN | apply below_drew1) | exact HB.out)) hb); clear HB hb; have HB := n0_; clear n0_; have HD := Aside0.mk (Below.refl w2.heap.size w2)) | ((with_reducible refine gate_dst (N := 3) rfl ?_); refine box_event ?hg (N := 3) ?hd (cs := #[.slice none 0 0, .slice none 0 0, .slice none 0 0]) (t := 26) ?hr ?_; (case hd => rfl); (case hg => rfl); (case hr => first | (go_simp; done) | (go_simp; rfl)); intro gb591 hg w3 hbox hb; have GE591 := Aside0.mk (by rw [hg]; exact below_size (by repeat (first | (with_reducible first | exact HD.out | apply below_alloc | apply pw_below_drewN | apply below_drew1) | exact HD.out)) : w2.heap.size ≤ gb591); have n0_ := Aside0.mk (below_step (by repeat (first | (with_reducible first | exact HD.out | apply below_alloc | apply pw_below_drewN | apply below_drew1) | exact HD.out)) hb); clear HD; have HD := n0_; clear n0_; have BK591 := Aside0.mk hbox; clear hb hbox hg; have hcz591_0 : w3.cell? ⟨gb591, 0, none⟩ = some (.slice none 0 0) := (blk_cell BK591.out 0).trans rfl; have hfz591_0 := blk_frozen BK591.out 0; have hcz591_1 : w3.cell? ⟨gb591, 1, none⟩ = some (.slice none 0 0) := (blk_cell BK591.out 1).trans rfl; have hfz591_1 := blk_frozen BK591.out 1; have hcz591_2 : w3.cell? ⟨gb591, 2, none⟩ = some (.slice none 0 0) := (blk_cell BK591.out 2).trans rfl; have hfz591_2 := blk_frozen BK591.out 2))
    go_meet
    case rel => exact ⟨gb591, _, _, _, _, _, _, _, _, rfl, rfl, ⟨Kd.C_below Fl2_0.out (by repeat (first | (with_reducible first | exact HD.out | apply below_alloc | apply pw_below_drewN | apply below_drew1 | refine below_set ?_ GE591.out) | exact HD.out))⟩, ⟨Gl2_0.out⟩, ⟨Kd.C_below Fl2_1.out (by repeat (first | (with_reducible first | exact HD.out | apply below_alloc | apply pw_below_drewN | apply below_drew1 | refine below_set ?_ GE591.out) | exact HD.out))⟩, ⟨Gl2_1.out⟩, ⟨Kd.C_below Fl2_2.out (by repeat (first | (with_reducible first | exact HD.out | apply below_alloc | apply pw_below_drewN | apply below_drew1 | refine below_set ?_ GE591.out) | exact HD.out))⟩, ⟨Gl2_2.out⟩, ⟨Kd.C_below Ftw.out (by repeat (first | (with_reducible first | exact HD.out | apply below_alloc | apply pw_below_drewN | apply below_drew1 | refine below_set ?_ GE591.out) | exact HD.out))⟩, ⟨Gtw.out⟩, ⟨by (with_reducible repeat (first | refine blk_drewN ?_ _ | refine blk_drew ?_ | refine blk_alloc ?_ _)); refine blk_put (cs := #[.slice A2_0 l2_0.length c2_0, .slice A2_1 l2_1.length c2_1, .slice none 0 0]) ?_ 2 _ rfl; (with_reducible repeat (first | refine blk_drewN ?_ _ | refine blk_drew ?_ | refine blk_alloc ?_ _)); refine blk_put (cs := #[.slice A2_0 l2_0.length c2_0, .slice none 0 0, .slice none 0 0]) ?_ 1 _ rfl; (with_reducible repeat (first | refine blk_drewN ?_ _ | refine blk_drew ?_ | refine blk_alloc ?_ _)); refine blk_put (cs := #[.slice none 0 0, .slice none 0 0, .slice none 0 0]) ?_ 0 _ rfl; (with_reducible repeat (first | refine blk_drewN ?_ _ | refine blk_drew ?_ | refine blk_alloc ?_ _)); exact BK591.out⟩, ⟨HB.out.trans (Below.mono (by repeat (first | (with_reducible first | exact HD.out | apply below_alloc | apply pw_below_drewN | apply below_drew1 | refine below_set ?_ GE591.out) | exact HD.out)) (below_size HB.out))⟩⟩
  case rest =>
  clear HB
  obtain ⟨gb591, A2_0, c2_0, A2_1, c2_1, A2_2, c2_2, Aw, cw, rfl, rfl, Fl2_0, Gl2_0, Fl2_1, Gl2_1, Fl2_2, Gl2_2, Ftw, Gtw, BK591, HBO⟩ := hcut
  rename World => w4
  have hcz591_0 : w4.cell? ⟨gb591, 0, none⟩ = some (.slice A2_0 l2_0.length c2_0) := (blk_cell BK591.out 0).trans rfl
  have hfz591_0 := blk_frozen BK591.out 0
  have hcz591_1 : w4.cell? ⟨gb591, 1, none⟩ = some (.slice A2_1 l2_1.length c2_1) := (blk_cell BK591.out 1).trans rfl
  have hfz591_1 := blk_frozen BK591.out 1
  have hcz591_2 : w4.cell? ⟨gb591, 2, none⟩ = some (.slice A2_2 l2_2.length c2_2) := (blk_cell BK591.out 2).trans rfl
  have hfz591_2 := blk_frozen BK591.out 2
  go_upto_region 4 with (fail)
  (try simp only [Act.put, List.setIfInBounds_toArray, List.set_cons_zero, List.set_cons_succ])
  go_cut [5, 6] (fun s5 s6 wc => ∃ (gj : Nat) (Aj0 : Option Addr) (cj0 : Nat) (Aj1 : Option Addr) (cj1 : Nat) (Aj2 : Option Addr) (cj2 : Nat), s5 = .pointer (some ⟨gj, 0, none⟩) ∧ s6 = .bool tb ∧ Aside0 (Kd.C (Kd.int .i64) wc Aj0 tj0.length tj0) ∧ Aside0 (tj0.length ≤ cj0) ∧ Aside0 (Kd.C (Kd.int .i64) wc Aj1 tj1.length tj1) ∧ Aside0 (tj1.length ≤ cj1) ∧ Aside0 (Kd.C (Kd.int .i64) wc Aj2 tj2.length tj2) ∧ Aside0 (tj2.length ≤ cj2) ∧ Aside0 (wc.heap[gj]? = some (.cells #[.slice Aj0 tj0.length cj0, .slice Aj1 tj1.length cj1, .slice Aj2 tj2.length cj2] 26 (0, 0))) ∧ Aside0 (Below w4.heap.size w4 wc))
  case first =>
    have HB := Aside0.mk (Below.refl w4.heap.size w4)
    go_wp2_with (first | ((with_reducible refine gate_callee (f := 11) rfl ?_); refine goesL_ (some 31) rfl rfl Try.func11 (by kernel_rfl) rfl #[.agg #[.slice A2_0 l2_0.length c2_0, .slice A2_1 l2_1.length c2_1, .slice A2_2 l2_2.length c2_2], .slice Aw tw.length cw] rfl (by (try simp only [List.map_toArray, List.map_cons, List.map_nil]); first | done | rfl) ?_; (with_reducible refine (impl_Begin.calls k _ _ l2_0 _ _ l2_1 _ _ l2_2 _ _ tw tj0 tj1 tj2 tb _ ?side1 ?side2 ?side3 ?side4 ?side5 ?side6 ?side7 ?side8 A5.out).mono ?_); (case side1 => repeat (first | exact Fl2_0.out | exact (Kd.C_below Fl2_0.out HB.out) | (with_reducible refine Kd.C_alloc ?_ _) | (with_reducible refine Kd.C_drewN ?_ _) | (with_reducible refine Kd.C_drew ?_))); (case side2 => exact Gl2_0.out); (case side3 => repeat (first | exact Fl2_1.out | exact (Kd.C_below Fl2_1.out HB.out) | (with_reducible refine Kd.C_alloc ?_ _) | (with_reducible refine Kd.C_drewN ?_ _) | (with_reducible refine Kd.C_drew ?_))); (case side4 => exact Gl2_1.out); (case side5 => repeat (first | exact Fl2_2.out | exact (Kd.C_below Fl2_2.out HB.out) | (with_reducible refine Kd.C_alloc ?_ _) | (with_reducible refine Kd.C_drewN ?_ _) | (with_reducible refine Kd.C_drew ?_))); (case side6 => exact Gl2_2.out); (case side7 => repeat (first | exact Ftw.out | exact (Kd.C_below Ftw.out HB.out) | (with_reducible refine Kd.C_alloc ?_ _) | (with_reducible refine Kd.C_drewN ?_ _) | (with_reducible refine Kd.C_drew ?_))); (case side8 => exact Gtw.out); rintro e w2 ⟨v0_, v1_, v2_, rfl, ho0, ho1, ho2, hb⟩; refine ⟨_, rfl, ?_⟩; obtain ⟨Aj0, cj0, rfl⟩ := Kd.R_slice ho0; have Ftj0 := Aside0.mk (Kd.R_reads' ho0).2.2; have Gtj0 := Aside0.mk (Kd.R_reads' ho0).2.1; clear ho0; obtain ⟨Aj1, cj1, rfl⟩ := Kd.R_slice ho1; have Ftj1 := Aside0.mk (Kd.R_reads' ho1).2.2; have Gtj1 := Aside0.mk (Kd.R_reads' ho1).2.1; clear ho1; obtain ⟨Aj2, cj2, rfl⟩ := Kd.R_slice ho2; have Ftj2 := Aside0.mk (Kd.R_reads' ho2).2.2; have Gtj2 := Aside0.mk (Kd.R_reads' ho2).2.1; clear ho2; have n0_ := Aside0.mk (below_step (by repeat (first | (with_reducible first | exact HB.out | apply below_alloc | apply pw_below_drewN | apply below_drew1) | exact HB.out)) hb); clear HB hb; have HB := n0_; clear n0_; have HD := Aside0.mk (Below.refl w2.heap.size w2)) | ((with_reducible refine gate_dst (N := 5) rfl ?_); refine box_event ?hg (N := 5) ?hd (cs := #[.slice none 0 0, .slice none 0 0, .slice none 0 0]) (t := 26) ?hr ?_; (case hd => rfl); (case hg => rfl); (case hr => first | (go_simp; done) | (go_simp; rfl)); intro gj hg w3 hbox hb; have GEj := Aside0.mk (by rw [hg]; exact below_size (by repeat (first | (with_reducible first | exact HD.out | apply below_alloc | apply pw_below_drewN | apply below_drew1) | exact HD.out)) : w2.heap.size ≤ gj); have n0_ := Aside0.mk (below_step (by repeat (first | (with_reducible first | exact HD.out | apply below_alloc | apply pw_below_drewN | apply below_drew1) | exact HD.out)) hb); clear HD; have HD := n0_; clear n0_; have BKj := Aside0.mk hbox; clear hb hbox hg; have hczj_0 : w3.cell? ⟨gj, 0, none⟩ = some (.slice none 0 0) := (blk_cell BKj.out 0).trans rfl; have hfzj_0 := blk_frozen BKj.out 0; have hczj_1 : w3.cell? ⟨gj, 1, none⟩ = some (.slice none 0 0) := (blk_cell BKj.out 1).trans rfl; have hfzj_1 := blk_frozen BKj.out 1; have hczj_2 : w3.cell? ⟨gj, 2, none⟩ = some (.slice none 0 0) := (blk_cell BKj.out 2).trans rfl; have hfzj_2 := blk_frozen BKj.out 2))
    go_meet
    case rel => exact ⟨gj, _, _, _, _, _, _, rfl, rfl, ⟨Kd.C_below Ftj0.out (by repeat (first | (with_reducible first | exact HD.out | apply below_alloc | apply pw_below_drewN | apply below_drew1 | refine below_set ?_ GEj.out) | exact HD.out))⟩, ⟨Gtj0.out⟩, ⟨Kd.C_below Ftj1.out (by repeat (first | (with_reducible first | exact HD.out | apply below_alloc | apply pw_below_drewN | apply below_drew1 | refine below_set ?_ GEj.out) | exact HD.out))⟩, ⟨Gtj1.out⟩, ⟨Kd.C_below Ftj2.out (by repeat (first | (with_reducible first | exact HD.out | apply below_alloc | apply pw_below_drewN | apply below_drew1 | refine below_set ?_ GEj.out) | exact HD.out))⟩, ⟨Gtj2.out⟩, ⟨by (with_reducible repeat (first | refine blk_drewN ?_ _ | refine blk_drew ?_ | refine blk_alloc ?_ _)); refine blk_put (cs := #[.slice Aj0 tj0.length cj0, .slice Aj1 tj1.length cj1, .slice none 0 0]) ?_ 2 _ rfl; (with_reducible repeat (first | refine blk_drewN ?_ _ | refine blk_drew ?_ | refine blk_alloc ?_ _)); refine blk_put (cs := #[.slice Aj0 tj0.length cj0, .slice none 0 0, .slice none 0 0]) ?_ 1 _ rfl; (with_reducible repeat (first | refine blk_drewN ?_ _ | refine blk_drew ?_ | refine blk_alloc ?_ _)); refine blk_put (cs := #[.slice none 0 0, .slice none 0 0, .slice none 0 0]) ?_ 0 _ rfl; (with_reducible repeat (first | refine blk_drewN ?_ _ | refine blk_drew ?_ | refine blk_alloc ?_ _)); exact BKj.out⟩, ⟨HB.out.trans (Below.mono (by repeat (first | (with_reducible first | exact HD.out | apply below_alloc | apply pw_below_drewN | apply below_drew1 | refine below_set ?_ GEj.out) | exact HD.out)) (below_size HB.out))⟩⟩
  case rest =>
  try clear hcz591_0 hfz591_0 hcz591_1 hfz591_1 hcz591_2 hfz591_2
  obtain ⟨gj, Aj0, cj0, Aj1, cj1, Aj2, cj2, rfl, rfl, Ftj0, Gtj0, Ftj1, Gtj1, Ftj2, Gtj2, BKj, HN⟩ := hcut
  rename World => w5
  replace Fl2_0 := Aside0.mk (Kd.C_below Fl2_0.out HN.out)
  replace Fl2_1 := Aside0.mk (Kd.C_below Fl2_1.out HN.out)
  replace Fl2_2 := Aside0.mk (Kd.C_below Fl2_2.out HN.out)
  replace BK591 := Aside0.mk (blk_below (g := gb591) (o := .cells #[.slice A2_0 l2_0.length c2_0, .slice A2_1 l2_1.length c2_1, .slice A2_2 l2_2.length c2_2] 26 (0, 0)) BK591.out HN.out)
  replace HBO := Aside0.mk (HBO.out.trans (Below.mono HN.out (below_size HBO.out)))
  clear HN
  have hczj_0 : w5.cell? ⟨gj, 0, none⟩ = some (.slice Aj0 tj0.length cj0) := (blk_cell BKj.out 0).trans rfl
  have hfzj_0 := blk_frozen BKj.out 0
  have hczj_1 : w5.cell? ⟨gj, 1, none⟩ = some (.slice Aj1 tj1.length cj1) := (blk_cell BKj.out 1).trans rfl
  have hfzj_1 := blk_frozen BKj.out 1
  have hczj_2 : w5.cell? ⟨gj, 2, none⟩ = some (.slice Aj2 tj2.length cj2) := (blk_cell BKj.out 2).trans rfl
  have hfzj_2 := blk_frozen BKj.out 2
  go_upto_region 5 with (fail)
  (try simp only [Act.put, List.setIfInBounds_toArray, List.set_cons_zero, List.set_cons_succ])
  go_cut [7, 8] (fun s7 s8 wc => ∃ (gl : Nat) (Al0 : Option Addr) (cl0 : Nat) (Al1 : Option Addr) (cl1 : Nat) (Al2 : Option Addr) (cl2 : Nat), s7 = .pointer (some ⟨gl, 0, none⟩) ∧ s8 = .bool te ∧ Aside0 (Kd.C (Kd.int .i64) wc Al0 tl0.length tl0) ∧ Aside0 (tl0.length ≤ cl0) ∧ Aside0 (Kd.C (Kd.int .i64) wc Al1 tl1.length tl1) ∧ Aside0 (tl1.length ≤ cl1) ∧ Aside0 (Kd.C (Kd.int .i64) wc Al2 tl2.length tl2) ∧ Aside0 (tl2.length ≤ cl2) ∧ Aside0 (wc.heap[gl]? = some (.cells #[.slice Al0 tl0.length cl0, .slice Al1 tl1.length cl1, .slice Al2 tl2.length cl2] 26 (0, 0))) ∧ Aside0 (Below w5.heap.size w5 wc))
  case first =>
    have HB := Aside0.mk (Below.refl w5.heap.size w5)
    go_wp2_with (first | ((with_reducible refine gate_callee (f := 12) rfl ?_); refine goesL_ (some 36) rfl rfl Try.func12 (by kernel_rfl) rfl #[.agg #[.slice Aj0 tj0.length cj0, .slice Aj1 tj1.length cj1, .slice Aj2 tj2.length cj2]] rfl (by (try simp only [List.map_toArray, List.map_cons, List.map_nil]); first | done | rfl) ?_; (with_reducible refine (impl_Finish.calls k _ _ tj0 _ _ tj1 _ _ tj2 tl0 tl1 tl2 te _ ?side1 ?side2 ?side3 ?side4 ?side5 ?side6 A6.out).mono ?_); (case side1 => repeat (first | exact Ftj0.out | exact (Kd.C_below Ftj0.out HB.out) | (with_reducible refine Kd.C_alloc ?_ _) | (with_reducible refine Kd.C_drewN ?_ _) | (with_reducible refine Kd.C_drew ?_))); (case side2 => exact Gtj0.out); (case side3 => repeat (first | exact Ftj1.out | exact (Kd.C_below Ftj1.out HB.out) | (with_reducible refine Kd.C_alloc ?_ _) | (with_reducible refine Kd.C_drewN ?_ _) | (with_reducible refine Kd.C_drew ?_))); (case side4 => exact Gtj1.out); (case side5 => repeat (first | exact Ftj2.out | exact (Kd.C_below Ftj2.out HB.out) | (with_reducible refine Kd.C_alloc ?_ _) | (with_reducible refine Kd.C_drewN ?_ _) | (with_reducible refine Kd.C_drew ?_))); (case side6 => exact Gtj2.out); rintro e w2 ⟨v0_, v1_, v2_, rfl, ho0, ho1, ho2, hb⟩; refine ⟨_, rfl, ?_⟩; obtain ⟨Al0, cl0, rfl⟩ := Kd.R_slice ho0; have Ftl0 := Aside0.mk (Kd.R_reads' ho0).2.2; have Gtl0 := Aside0.mk (Kd.R_reads' ho0).2.1; clear ho0; obtain ⟨Al1, cl1, rfl⟩ := Kd.R_slice ho1; have Ftl1 := Aside0.mk (Kd.R_reads' ho1).2.2; have Gtl1 := Aside0.mk (Kd.R_reads' ho1).2.1; clear ho1; obtain ⟨Al2, cl2, rfl⟩ := Kd.R_slice ho2; have Ftl2 := Aside0.mk (Kd.R_reads' ho2).2.2; have Gtl2 := Aside0.mk (Kd.R_reads' ho2).2.1; clear ho2; have n0_ := Aside0.mk (below_step (by repeat (first | (with_reducible first | exact HB.out | apply below_alloc | apply pw_below_drewN | apply below_drew1) | exact HB.out)) hb); clear HB hb; have HB := n0_; clear n0_; have HD := Aside0.mk (Below.refl w2.heap.size w2)) | ((with_reducible refine gate_dst (N := 7) rfl ?_); refine box_event ?hg (N := 7) ?hd (cs := #[.slice none 0 0, .slice none 0 0, .slice none 0 0]) (t := 26) ?hr ?_; (case hd => rfl); (case hg => rfl); (case hr => first | (go_simp; done) | (go_simp; rfl)); intro gl hg w3 hbox hb; have GEl := Aside0.mk (by rw [hg]; exact below_size (by repeat (first | (with_reducible first | exact HD.out | apply below_alloc | apply pw_below_drewN | apply below_drew1) | exact HD.out)) : w2.heap.size ≤ gl); have n0_ := Aside0.mk (below_step (by repeat (first | (with_reducible first | exact HD.out | apply below_alloc | apply pw_below_drewN | apply below_drew1) | exact HD.out)) hb); clear HD; have HD := n0_; clear n0_; have BKl := Aside0.mk hbox; clear hb hbox hg; have hczl_0 : w3.cell? ⟨gl, 0, none⟩ = some (.slice none 0 0) := (blk_cell BKl.out 0).trans rfl; have hfzl_0 := blk_frozen BKl.out 0; have hczl_1 : w3.cell? ⟨gl, 1, none⟩ = some (.slice none 0 0) := (blk_cell BKl.out 1).trans rfl; have hfzl_1 := blk_frozen BKl.out 1; have hczl_2 : w3.cell? ⟨gl, 2, none⟩ = some (.slice none 0 0) := (blk_cell BKl.out 2).trans rfl; have hfzl_2 := blk_frozen BKl.out 2))
    go_meet
    case rel => exact ⟨gl, _, _, _, _, _, _, rfl, rfl, ⟨Kd.C_below Ftl0.out (by repeat (first | (with_reducible first | exact HD.out | apply below_alloc | apply pw_below_drewN | apply below_drew1 | refine below_set ?_ GEl.out) | exact HD.out))⟩, ⟨Gtl0.out⟩, ⟨Kd.C_below Ftl1.out (by repeat (first | (with_reducible first | exact HD.out | apply below_alloc | apply pw_below_drewN | apply below_drew1 | refine below_set ?_ GEl.out) | exact HD.out))⟩, ⟨Gtl1.out⟩, ⟨Kd.C_below Ftl2.out (by repeat (first | (with_reducible first | exact HD.out | apply below_alloc | apply pw_below_drewN | apply below_drew1 | refine below_set ?_ GEl.out) | exact HD.out))⟩, ⟨Gtl2.out⟩, ⟨by (with_reducible repeat (first | refine blk_drewN ?_ _ | refine blk_drew ?_ | refine blk_alloc ?_ _)); refine blk_put (cs := #[.slice Al0 tl0.length cl0, .slice Al1 tl1.length cl1, .slice none 0 0]) ?_ 2 _ rfl; (with_reducible repeat (first | refine blk_drewN ?_ _ | refine blk_drew ?_ | refine blk_alloc ?_ _)); refine blk_put (cs := #[.slice Al0 tl0.length cl0, .slice none 0 0, .slice none 0 0]) ?_ 1 _ rfl; (with_reducible repeat (first | refine blk_drewN ?_ _ | refine blk_drew ?_ | refine blk_alloc ?_ _)); refine blk_put (cs := #[.slice none 0 0, .slice none 0 0, .slice none 0 0]) ?_ 0 _ rfl; (with_reducible repeat (first | refine blk_drewN ?_ _ | refine blk_drew ?_ | refine blk_alloc ?_ _)); exact BKl.out⟩, ⟨HB.out.trans (Below.mono (by repeat (first | (with_reducible first | exact HD.out | apply below_alloc | apply pw_below_drewN | apply below_drew1 | refine below_set ?_ GEl.out) | exact HD.out)) (below_size HB.out))⟩⟩
  case rest =>
  try clear hczj_0 hfzj_0 hczj_1 hfzj_1 hczj_2 hfzj_2
  obtain ⟨gl, Al0, cl0, Al1, cl1, Al2, cl2, rfl, rfl, Ftl0, Gtl0, Ftl1, Gtl1, Ftl2, Gtl2, BKl, HN⟩ := hcut
  rename World => w6
  replace Fl2_0 := Aside0.mk (Kd.C_below Fl2_0.out HN.out)
  replace Fl2_1 := Aside0.mk (Kd.C_below Fl2_1.out HN.out)
  replace Fl2_2 := Aside0.mk (Kd.C_below Fl2_2.out HN.out)
  replace Ftj0 := Aside0.mk (Kd.C_below Ftj0.out HN.out)
  replace Ftj1 := Aside0.mk (Kd.C_below Ftj1.out HN.out)
  replace Ftj2 := Aside0.mk (Kd.C_below Ftj2.out HN.out)
  replace BK591 := Aside0.mk (blk_below (g := gb591) (o := .cells #[.slice A2_0 l2_0.length c2_0, .slice A2_1 l2_1.length c2_1, .slice A2_2 l2_2.length c2_2] 26 (0, 0)) BK591.out HN.out)
  replace BKj := Aside0.mk (blk_below (g := gj) (o := .cells #[.slice Aj0 tj0.length cj0, .slice Aj1 tj1.length cj1, .slice Aj2 tj2.length cj2] 26 (0, 0)) BKj.out HN.out)
  replace HBO := Aside0.mk (HBO.out.trans (Below.mono HN.out (below_size HBO.out)))
  clear HN
  have hcz591_0 : w6.cell? ⟨gb591, 0, none⟩ = some (.slice A2_0 l2_0.length c2_0) := (blk_cell BK591.out 0).trans rfl
  have hfz591_0 := blk_frozen BK591.out 0
  have hcz591_1 : w6.cell? ⟨gb591, 1, none⟩ = some (.slice A2_1 l2_1.length c2_1) := (blk_cell BK591.out 1).trans rfl
  have hfz591_1 := blk_frozen BK591.out 1
  have hcz591_2 : w6.cell? ⟨gb591, 2, none⟩ = some (.slice A2_2 l2_2.length c2_2) := (blk_cell BK591.out 2).trans rfl
  have hfz591_2 := blk_frozen BK591.out 2
  have hczj_0 : w6.cell? ⟨gj, 0, none⟩ = some (.slice Aj0 tj0.length cj0) := (blk_cell BKj.out 0).trans rfl
  have hfzj_0 := blk_frozen BKj.out 0
  have hczj_1 : w6.cell? ⟨gj, 1, none⟩ = some (.slice Aj1 tj1.length cj1) := (blk_cell BKj.out 1).trans rfl
  have hfzj_1 := blk_frozen BKj.out 1
  have hczj_2 : w6.cell? ⟨gj, 2, none⟩ = some (.slice Aj2 tj2.length cj2) := (blk_cell BKj.out 2).trans rfl
  have hfzj_2 := blk_frozen BKj.out 2
  go_upto_region 6 with (fail)
  (try simp only [Act.put, List.setIfInBounds_toArray, List.set_cons_zero, List.set_cons_succ])
  go_cut [58] (fun s58 wc => s58 = .bool false ∧ Aside0 (Below w6.heap.size w6 wc))
  case first =>
    have HB := Aside0.mk (Below.refl w6.heap.size w6)
    rcases HWAY.out with ⟨e2, e3⟩ | ⟨e2, e3⟩
    · subst e2
      subst e3
      go_wp2_with (first | ((with_reducible refine gate_callee (f := 13) rfl ?_); refine goesL_ (some 40) rfl rfl Try.func13 (by kernel_rfl) rfl #[.agg #[.slice A2_0 l2_0.length c2_0, .slice A2_1 l2_1.length c2_1, .slice A2_2 l2_2.length c2_2]] rfl (by (try simp only [List.map_toArray, List.map_cons, List.map_nil]); first | done | rfl) ?_; (with_reducible refine (impl_ConfOk.calls k _ _ l2_0 _ _ l2_1 _ _ l2_2 true _ ?side1 ?side2 ?side3 ?side4 ?side5 ?side6 A7.out).mono ?_); (case side1 => repeat (first | exact Fl2_0.out | exact (Kd.C_below Fl2_0.out HB.out) | (with_reducible refine Kd.C_alloc ?_ _) | (with_reducible refine Kd.C_drewN ?_ _) | (with_reducible refine Kd.C_drew ?_))); (case side2 => exact Gl2_0.out); (case side3 => repeat (first | exact Fl2_1.out | exact (Kd.C_below Fl2_1.out HB.out) | (with_reducible refine Kd.C_alloc ?_ _) | (with_reducible refine Kd.C_drewN ?_ _) | (with_reducible refine Kd.C_drew ?_))); (case side4 => exact Gl2_1.out); (case side5 => repeat (first | exact Fl2_2.out | exact (Kd.C_below Fl2_2.out HB.out) | (with_reducible refine Kd.C_alloc ?_ _) | (with_reducible refine Kd.C_drewN ?_ _) | (with_reducible refine Kd.C_drew ?_))); (case side6 => exact Gl2_2.out); rintro e w2 ⟨rfl, hb⟩; refine ⟨_, rfl, ?_⟩; have n0_ := Aside0.mk (below_step (by repeat (first | (with_reducible first | exact HB.out | apply below_alloc | apply pw_below_drewN | apply below_drew1) | exact HB.out)) hb); clear HB hb; have HB := n0_; clear n0_))
      go_meet
      case rel => exact ⟨rfl, ⟨by repeat (first | (with_reducible first | exact HB.out | apply below_alloc | apply pw_below_drewN | apply below_drew1) | exact HB.out)⟩⟩
    subst e2
    have A8 := Aside0.mk e3
    clear e3
    go_wp2_with (first | ((with_reducible refine gate_callee (f := 13) rfl ?_); refine goesL_ (some 40) rfl rfl Try.func13 (by kernel_rfl) rfl #[.agg #[.slice A2_0 l2_0.length c2_0, .slice A2_1 l2_1.length c2_1, .slice A2_2 l2_2.length c2_2]] rfl (by (try simp only [List.map_toArray, List.map_cons, List.map_nil]); first | done | rfl) ?_; (with_reducible refine (impl_ConfOk.calls k _ _ l2_0 _ _ l2_1 _ _ l2_2 true _ ?side1 ?side2 ?side3 ?side4 ?side5 ?side6 A7.out).mono ?_); (case side1 => repeat (first | exact Fl2_0.out | exact (Kd.C_below Fl2_0.out HB.out) | (with_reducible refine Kd.C_alloc ?_ _) | (with_reducible refine Kd.C_drewN ?_ _) | (with_reducible refine Kd.C_drew ?_))); (case side2 => exact Gl2_0.out); (case side3 => repeat (first | exact Fl2_1.out | exact (Kd.C_below Fl2_1.out HB.out) | (with_reducible refine Kd.C_alloc ?_ _) | (with_reducible refine Kd.C_drewN ?_ _) | (with_reducible refine Kd.C_drew ?_))); (case side4 => exact Gl2_1.out); (case side5 => repeat (first | exact Fl2_2.out | exact (Kd.C_below Fl2_2.out HB.out) | (with_reducible refine Kd.C_alloc ?_ _) | (with_reducible refine Kd.C_drewN ?_ _) | (with_reducible refine Kd.C_drew ?_))); (case side6 => exact Gl2_2.out); rintro e w2 ⟨rfl, hb⟩; refine ⟨_, rfl, ?_⟩; have n0_ := Aside0.mk (below_step (by repeat (first | (with_reducible first | exact HB.out | apply below_alloc | apply pw_below_drewN | apply below_drew1) | exact HB.out)) hb); clear HB hb; have HB := n0_; clear n0_; try clear hcz591_0 hfz591_0 hcz591_1 hfz591_1 hcz591_2 hfz591_2; have BK591_ := Aside0.mk (blk_below (g := gb591) (o := .cells #[.slice A2_0 l2_0.length c2_0, .slice A2_1 l2_1.length c2_1, .slice A2_2 l2_2.length c2_2] 26 (0, 0)) BK591.out HB.out); have hcz591_0 : w2.cell? ⟨gb591, 0, none⟩ = some (.slice A2_0 l2_0.length c2_0) := (blk_cell BK591_.out 0).trans rfl; have hfz591_0 := blk_frozen BK591_.out 0; have hcz591_1 : w2.cell? ⟨gb591, 1, none⟩ = some (.slice A2_1 l2_1.length c2_1) := (blk_cell BK591_.out 1).trans rfl; have hfz591_1 := blk_frozen BK591_.out 1; have hcz591_2 : w2.cell? ⟨gb591, 2, none⟩ = some (.slice A2_2 l2_2.length c2_2) := (blk_cell BK591_.out 2).trans rfl; have hfz591_2 := blk_frozen BK591_.out 2; try clear hczj_0 hfzj_0 hczj_1 hfzj_1 hczj_2 hfzj_2; have BKj_ := Aside0.mk (blk_below (g := gj) (o := .cells #[.slice Aj0 tj0.length cj0, .slice Aj1 tj1.length cj1, .slice Aj2 tj2.length cj2] 26 (0, 0)) BKj.out HB.out); have hczj_0 : w2.cell? ⟨gj, 0, none⟩ = some (.slice Aj0 tj0.length cj0) := (blk_cell BKj_.out 0).trans rfl; have hfzj_0 := blk_frozen BKj_.out 0; have hczj_1 : w2.cell? ⟨gj, 1, none⟩ = some (.slice Aj1 tj1.length cj1) := (blk_cell BKj_.out 1).trans rfl; have hfzj_1 := blk_frozen BKj_.out 1; have hczj_2 : w2.cell? ⟨gj, 2, none⟩ = some (.slice Aj2 tj2.length cj2) := (blk_cell BKj_.out 2).trans rfl; have hfzj_2 := blk_frozen BKj_.out 2) | (go_at_call 18; (with_reducible refine (laws_sameConf.calls k _ _ tj0 _ _ tj1 _ _ tj2 _ _ l2_0 _ _ l2_1 _ _ l2_2 true _ ?side1 ?side2 ?side3 ?side4 ?side5 ?side6 ?side7 ?side8 ?side9 ?side10 ?side11 ?side12 A8.out).mono ?_); (case side1 => repeat (first | exact Ftj0.out | exact (Kd.C_below Ftj0.out HB.out) | (with_reducible refine Kd.C_alloc ?_ _) | (with_reducible refine Kd.C_drewN ?_ _) | (with_reducible refine Kd.C_drew ?_))); (case side2 => exact Gtj0.out); (case side3 => repeat (first | exact Ftj1.out | exact (Kd.C_below Ftj1.out HB.out) | (with_reducible refine Kd.C_alloc ?_ _) | (with_reducible refine Kd.C_drewN ?_ _) | (with_reducible refine Kd.C_drew ?_))); (case side4 => exact Gtj1.out); (case side5 => repeat (first | exact Ftj2.out | exact (Kd.C_below Ftj2.out HB.out) | (with_reducible refine Kd.C_alloc ?_ _) | (with_reducible refine Kd.C_drewN ?_ _) | (with_reducible refine Kd.C_drew ?_))); (case side6 => exact Gtj2.out); (case side7 => repeat (first | exact Fl2_0.out | exact (Kd.C_below Fl2_0.out HB.out) | (with_reducible refine Kd.C_alloc ?_ _) | (with_reducible refine Kd.C_drewN ?_ _) | (with_reducible refine Kd.C_drew ?_))); (case side8 => exact Gl2_0.out); (case side9 => repeat (first | exact Fl2_1.out | exact (Kd.C_below Fl2_1.out HB.out) | (with_reducible refine Kd.C_alloc ?_ _) | (with_reducible refine Kd.C_drewN ?_ _) | (with_reducible refine Kd.C_drew ?_))); (case side10 => exact Gl2_1.out); (case side11 => repeat (first | exact Fl2_2.out | exact (Kd.C_below Fl2_2.out HB.out) | (with_reducible refine Kd.C_alloc ?_ _) | (with_reducible refine Kd.C_drewN ?_ _) | (with_reducible refine Kd.C_drew ?_))); (case side12 => exact Gl2_2.out); rintro e w2 ⟨rfl, hb⟩; have n0_ := Aside0.mk (below_step (by repeat (first | (with_reducible first | exact HB.out | apply below_alloc | apply pw_below_drewN | apply below_drew1) | exact HB.out)) hb); clear HB hb; have HB := n0_; clear n0_))
    go_meet
    case rel => exact ⟨rfl, ⟨by repeat (first | (with_reducible first | exact HB.out | apply below_alloc | apply pw_below_drewN | apply below_drew1) | exact HB.out)⟩⟩
  case rest =>
  try clear hcz591_0 hfz591_0 hcz591_1 hfz591_1 hcz591_2 hfz591_2
  try clear hczj_0 hfzj_0 hczj_1 hfzj_1 hczj_2 hfzj_2
  obtain ⟨rfl, HN⟩ := hcut
  rename World => w7
  replace Fl2_0 := Aside0.mk (Kd.C_below Fl2_0.out HN.out)
  replace Fl2_1 := Aside0.mk (Kd.C_below Fl2_1.out HN.out)
  replace Fl2_2 := Aside0.mk (Kd.C_below Fl2_2.out HN.out)
  replace Ftj0 := Aside0.mk (Kd.C_below Ftj0.out HN.out)
  replace Ftj1 := Aside0.mk (Kd.C_below Ftj1.out HN.out)
  replace Ftj2 := Aside0.mk (Kd.C_below Ftj2.out HN.out)
  replace Ftl0 := Aside0.mk (Kd.C_below Ftl0.out HN.out)
  replace Ftl1 := Aside0.mk (Kd.C_below Ftl1.out HN.out)
  replace Ftl2 := Aside0.mk (Kd.C_below Ftl2.out HN.out)
  replace BK591 := Aside0.mk (blk_below (g := gb591) (o := .cells #[.slice A2_0 l2_0.length c2_0, .slice A2_1 l2_1.length c2_1, .slice A2_2 l2_2.length c2_2] 26 (0, 0)) BK591.out HN.out)
  replace BKj := Aside0.mk (blk_below (g := gj) (o := .cells #[.slice Aj0 tj0.length cj0, .slice Aj1 tj1.length cj1, .slice Aj2 tj2.length cj2] 26 (0, 0)) BKj.out HN.out)
  replace BKl := Aside0.mk (blk_below (g := gl) (o := .cells #[.slice Al0 tl0.length cl0, .slice Al1 tl1.length cl1, .slice Al2 tl2.length cl2] 26 (0, 0)) BKl.out HN.out)
  replace HBO := Aside0.mk (HBO.out.trans (Below.mono HN.out (below_size HBO.out)))
  clear HN
  have hcz591_0 : w7.cell? ⟨gb591, 0, none⟩ = some (.slice A2_0 l2_0.length c2_0) := (blk_cell BK591.out 0).trans rfl
  have hfz591_0 := blk_frozen BK591.out 0
  have hcz591_1 : w7.cell? ⟨gb591, 1, none⟩ = some (.slice A2_1 l2_1.length c2_1) := (blk_cell BK591.out 1).trans rfl
  have hfz591_1 := blk_frozen BK591.out 1
  have hcz591_2 : w7.cell? ⟨gb591, 2, none⟩ = some (.slice A2_2 l2_2.length c2_2) := (blk_cell BK591.out 2).trans rfl
  have hfz591_2 := blk_frozen BK591.out 2
  have hczj_0 : w7.cell? ⟨gj, 0, none⟩ = some (.slice Aj0 tj0.length cj0) := (blk_cell BKj.out 0).trans rfl
  have hfzj_0 := blk_frozen BKj.out 0
  have hczj_1 : w7.cell? ⟨gj, 1, none⟩ = some (.slice Aj1 tj1.length cj1) := (blk_cell BKj.out 1).trans rfl
  have hfzj_1 := blk_frozen BKj.out 1
  have hczj_2 : w7.cell? ⟨gj, 2, none⟩ = some (.slice Aj2 tj2.length cj2) := (blk_cell BKj.out 2).trans rfl
  have hfzj_2 := blk_frozen BKj.out 2
  have hczl_0 : w7.cell? ⟨gl, 0, none⟩ = some (.slice Al0 tl0.length cl0) := (blk_cell BKl.out 0).trans rfl
  have hfzl_0 := blk_frozen BKl.out 0
  have hczl_1 : w7.cell? ⟨gl, 1, none⟩ = some (.slice Al1 tl1.length cl1) := (blk_cell BKl.out 1).trans rfl
  have hfzl_1 := blk_frozen BKl.out 1
  have hczl_2 : w7.cell? ⟨gl, 2, none⟩ = some (.slice Al2 tl2.length cl2) := (blk_cell BKl.out 2).trans rfl
  have hfzl_2 := blk_frozen BKl.out 2
  go_upto_region 8 with (fail)
  (try simp only [Act.put, List.setIfInBounds_toArray, List.set_cons_zero, List.set_cons_succ])
  go_cut [9] (fun s9 wc => ∃ (A1 : Option Addr) (c1 : Nat), s9 = .slice A1 l1.length c1 ∧ Aside0 (l1.length ≤ c1) ∧ Aside0 (Kd.C k26 wc A1 l1.length l1) ∧ Aside0 (Below w7.heap.size w7 wc))
  case first =>
    have HB := Aside0.mk (Below.refl w7.heap.size w7)
    go_wp2_with (first | ((with_reducible refine gate_dst (N := 62) rfl ?_); refine quor_lit_ k26 26 ?hg (N := 62) ?hd (xs := [(⟨l2_0, l2_1, l2_2⟩ : S26), (⟨tj0, tj1, tj2⟩ : S26), (⟨tl0, tl1, tl2⟩ : S26)]) (inner := [.slice A2_0 l2_0.length c2_0, .slice A2_1 l2_1.length c2_1, .slice A2_2 l2_2.length c2_2, .slice Aj0 tj0.length cj0, .slice Aj1 tj1.length cj1, .slice Aj2 tj2.length cj2, .slice Al0 tl0.length cl0, .slice Al1 tl1.length cl1, .slice Al2 tl2.length cl2]) X1.out ?hr ?hp (by simp) ?_; (case hd => rfl); (case hg => rfl); (case hr => first | (go_simp; done) | (go_simp; rfl)); (case hp => exact Reps.c3 (k26_mk _ (⟨l2_0, l2_1, l2_2⟩ : S26) Gl2_0.out (by repeat (first | exact Fl2_0.out | (with_reducible refine Kd.C_alloc ?_ _) | (with_reducible refine Kd.C_drewN ?_ _) | (with_reducible refine Kd.C_drew ?_))) Gl2_1.out (by repeat (first | exact Fl2_1.out | (with_reducible refine Kd.C_alloc ?_ _) | (with_reducible refine Kd.C_drewN ?_ _) | (with_reducible refine Kd.C_drew ?_))) Gl2_2.out (by repeat (first | exact Fl2_2.out | (with_reducible refine Kd.C_alloc ?_ _) | (with_reducible refine Kd.C_drewN ?_ _) | (with_reducible refine Kd.C_drew ?_)))) (Reps.c3 (k26_mk _ (⟨tj0, tj1, tj2⟩ : S26) Gtj0.out (by repeat (first | exact Ftj0.out | (with_reducible refine Kd.C_alloc ?_ _) | (with_reducible refine Kd.C_drewN ?_ _) | (with_reducible refine Kd.C_drew ?_))) Gtj1.out (by repeat (first | exact Ftj1.out | (with_reducible refine Kd.C_alloc ?_ _) | (with_reducible refine Kd.C_drewN ?_ _) | (with_reducible refine Kd.C_drew ?_))) Gtj2.out (by repeat (first | exact Ftj2.out | (with_reducible refine Kd.C_alloc ?_ _) | (with_reducible refine Kd.C_drewN ?_ _) | (with_reducible refine Kd.C_drew ?_)))) (Reps.c3 (k26_mk _ (⟨tl0, tl1, tl2⟩ : S26) Gtl0.out (by repeat (first | exact Ftl0.out | (with_reducible refine Kd.C_alloc ?_ _) | (with_reducible refine Kd.C_drewN ?_ _) | (with_reducible refine Kd.C_drew ?_))) Gtl1.out (by repeat (first | exact Ftl1.out | (with_reducible refine Kd.C_alloc ?_ _) | (with_reducible refine Kd.C_drewN ?_ _) | (with_reducible refine Kd.C_drew ?_))) Gtl2.out (by repeat (first | exact Ftl2.out | (with_reducible refine Kd.C_alloc ?_ _) | (with_reducible refine Kd.C_drewN ?_ _) | (with_reducible refine Kd.C_drew ?_)))) (Reps.none _ _)))); intro A1 c1 w2 hC hc hb; have n0_ := Aside0.mk (below_step (by repeat (first | (with_reducible first | exact HB.out | apply below_alloc | apply pw_below_drewN | apply below_drew1) | exact HB.out)) hb); clear HB hb; have HB := n0_; clear n0_; have FX := Aside0.mk hC; have GX := Aside0.mk hc; clear hC hc))
    go_meet
    case rel => exact ⟨_, _, rfl, GX, ⟨by repeat (first | exact FX.out | (with_reducible refine Kd.C_alloc ?_ _) | (with_reducible refine Kd.C_drewN ?_ _) | (with_reducible refine Kd.C_drew ?_))⟩, ⟨by repeat (first | (with_reducible first | exact HB.out | apply below_alloc | apply pw_below_drewN | apply below_drew1) | exact HB.out)⟩⟩
  case rest =>
  try clear hcz591_0 hfz591_0 hcz591_1 hfz591_1 hcz591_2 hfz591_2
  try clear hczj_0 hfzj_0 hczj_1 hfzj_1 hczj_2 hfzj_2
  try clear hczl_0 hfzl_0 hczl_1 hfzl_1 hczl_2 hfzl_2
  obtain ⟨A1, c1, rfl, HC1, HR1, HN⟩ := hcut
  rename World => w8
  replace Fl2_0 := Aside0.mk (Kd.C_below Fl2_0.out HN.out)
  replace Fl2_1 := Aside0.mk (Kd.C_below Fl2_1.out HN.out)
  replace Fl2_2 := Aside0.mk (Kd.C_below Fl2_2.out HN.out)
  replace BK591 := Aside0.mk (blk_below (g := gb591) (o := .cells #[.slice A2_0 l2_0.length c2_0, .slice A2_1 l2_1.length c2_1, .slice A2_2 l2_2.length c2_2] 26 (0, 0)) BK591.out HN.out)
  replace HBO := Aside0.mk (HBO.out.trans (Below.mono HN.out (below_size HBO.out)))
  clear HN
  have HR0_ := Aside0.mk (Kd.C_below HR0.out HBO.out)
  clear HR0
  have HR0 := HR0_
  clear HR0_
  have HR2_0 := Fl2_0
  have HC2_0 := Gl2_0
  clear Fl2_0 Gl2_0
  have HR2_1 := Fl2_1
  have HC2_1 := Gl2_1
  clear Fl2_1 Gl2_1
  have HR2_2 := Fl2_2
  have HC2_2 := Gl2_2
  clear Fl2_2 Gl2_2
  clear Ftj0 Gtj0 Ftj1 Gtj1 Ftj2 Gtj2 Ftl0 Gtl0 Ftl1 Gtl1 Ftl2 Gtl2 Ftw Gtw BKj BKl A4 A5 A6 A7 HWAY X1
  have HB := Aside0.mk (Below.refl w8.heap.size w8)
  go_wp2_with (first | ((with_reducible refine gate_dst (N := 63) rfl ?_); refine Kd.S_lit (Kd.slice 3 (Kd.int .i64)) _ 24 ?hg (N := 63) ?hd (xs := ([] : List (List Int))) (inner := []) (ok := fun _ => True) (okp := fun _ => True) ?hr ?hp (fun _ hk => hk) trivial (Below.refl _ _) (Nat.le_refl _) (by simp) ?_; (case hd => rfl); (case hg => rfl); (case hr => first | (go_simp; done) | (go_simp; rfl)); (case hp => exact (Reps.none _ _)); intro v593 w6 ho7 hb hg_ hnew_; clear hg_ hnew_; (first | rw [← Ny592.out] at ho7 | (simp only [Int.reduceToNat] at ho7; rw [← Ny592.out] at ho7)); have n0_ := Aside0.mk (Kd.S_lower ho7 (below_size (by repeat (first | (with_reducible first | exact HB.out | apply below_alloc | apply pw_below_drewN | apply below_drew1) | exact HB.out)))); have n1_ := Aside0.mk (blk_below (g := gb591) (o := .cells #[.slice A2_0 l2_0.length c2_0, .slice A2_1 l2_1.length c2_1, .slice A2_2 l2_2.length c2_2] 26 (0, 0)) (by (with_reducible repeat (first | refine blk_drewN ?_ _ | refine blk_drew ?_ | refine blk_alloc ?_ _)); exact BK591.out) hb); have n2_ := Aside0.mk (below_step (by repeat (first | (with_reducible first | exact HB.out | apply below_alloc | apply pw_below_drewN | apply below_drew1) | exact HB.out)) hb); clear BK591; clear HB; have HO594 := n0_; have BK591 := n1_; have HB := n2_; clear n0_ n1_ n2_; clear hb ho7))
  go_loopg [10, 11] k (fun kq v10 v11 w' => ∃ (x10_1 : List (List Int)) (x11_1 : Int), v11 = .int .i64 x11_1 ∧ Aside0 (laws_FnQuorums.l0 kq l0 l1 x10_1 x11_1 l2_0 l2_1 l2_2 = some r) ∧ Aside0 (kq ≤ k) ∧ Aside0 (Kd.S (Kd.slice 3 (Kd.int .i64)) 24 w' w8.heap.size (fun _ => True) v10 x10_1) ∧ Aside0 (w'.heap[gb591]? = some (.cells #[(.slice A2_0 l2_0.length c2_0), (.slice A2_1 l2_1.length c2_1), (.slice A2_2 l2_2.length c2_2)] 26 (0, 0))) ∧ Aside0 (Below w8.heap.size w8 w'))
  case atStart => exact ⟨(y592), (0), (by first | rfl | (simp; done) | (simp [*]; done)), H', ⟨Nat.le_refl _⟩, ⟨by (with_reducible repeat (first | apply Kd.S_alloc | apply Kd.S_drewN | apply Kd.S_drew)); exact HO594.out⟩, ⟨by (with_reducible repeat (first | refine blk_drewN ?_ _ | refine blk_drew ?_ | refine blk_alloc ?_ _)); exact BK591.out⟩, ⟨by repeat (first | (with_reducible first | exact HB.out | apply below_alloc | apply pw_below_drewN | apply below_drew1) | exact HB.out)⟩⟩
  clear H'
  obtain ⟨x10_1, x11_1, rfl, HA, HK1, HO_10, BK591, HB⟩ := hrel
  cases gk with
  | zero => exact absurd HA.out (by simp [laws_FnQuorums.l0])
  | succ k1 =>
    have H := HA.out
    clear HA
    simp only [laws_FnQuorums.l0] at H
    as_aux_lemma =>
     by_cases c8 : x11_1 < 4
     · rw [if_pos c8] at H
       have c8b0 : decide (x11_1 < 4) = true := decide_eq_true c8
       clear c8
       obtain ⟨y595, hy595⟩ : ∃ y_ : List Int, y_ = (([] : List Int)) := ⟨_, rfl⟩
       replace H : (laws_FnQuorums.l1 k1 l0 l1 x10_1 x11_1 y595 0 l2_0 l2_1 l2_2) = some r := by first | (rw [hy595]; with_reducible exact H) | (have H2_ := (Option.bind_some _ _).symm.trans H; rw [hy595]; with_reducible exact H2_) | (have H2_ := (Option.bind_some _ _).symm.trans H; with_reducible exact H2_) | with_reducible exact H | (rw [hy595]; exact H) | exact H
       have Ny595 := Aside0.mk hy595
       clear hy595
       have H' := Aside0.mk H
       clear H
       go_wp2_with (first | ((with_reducible refine gate_dst (N := 68) rfl ?_); refine Kd.R_lit (Kd.int .i64) _ 3 ?hg (N := 68) ?hd (xs := ([] : List Int)) (inner := []) (ok := fun _ => True) (okp := fun _ => True) ?hr ?hp (fun _ hk => hk) trivial (Below.refl _ _) (Nat.le_refl _) (by simp) ?_; (case hd => rfl); (case hg => rfl); (case hr => first | (go_simp; done) | (go_simp; rfl)); (case hp => exact (Reps.none _ _)); intro v596 w9 ho10 hb hg_ hnew_; clear hg_ hnew_; (first | rw [← Ny595.out] at ho10 | (simp only [Int.reduceToNat] at ho10; rw [← Ny595.out] at ho10)); have n0_ := Aside0.mk (Kd.S_elder' (by (with_reducible repeat (first | apply Kd.S_alloc | apply Kd.S_drewN | apply Kd.S_drew)); exact HO_10.out) (Kd.R_base ho10) hb); have n1_ := Aside0.mk (Kd.R_lower ho10 (below_size (by repeat (first | (with_reducible first | exact HB.out | apply below_alloc | apply pw_below_drewN | apply below_drew1) | exact HB.out)))); have n2_ := Aside0.mk (blk_below (g := gb591) (o := .cells #[.slice A2_0 l2_0.length c2_0, .slice A2_1 l2_1.length c2_1, .slice A2_2 l2_2.length c2_2] 26 (0, 0)) (by (with_reducible repeat (first | refine blk_drewN ?_ _ | refine blk_drew ?_ | refine blk_alloc ?_ _)); exact BK591.out) hb); have n3_ := Aside0.mk (below_step (by repeat (first | (with_reducible first | exact HB.out | apply below_alloc | apply pw_below_drewN | apply below_drew1) | exact HB.out)) hb); clear HO_10; clear BK591; clear HB; have HO_10 := n0_; have HO597 := n1_; have BK591 := n2_; have HB := n3_; clear n0_ n1_ n2_ n3_; clear hb ho10))
       go_loopg [12, 13] k1 (fun kq v12 v13 w' => ∃ (x12_2 : List Int) (x13_2 : Int), v13 = .int .i64 x13_2 ∧ Aside0 (laws_FnQuorums.l1 kq l0 l1 x10_1 x11_1 x12_2 x13_2 l2_0 l2_1 l2_2 = some r) ∧ Aside0 (kq ≤ k1) ∧ Aside0 (Kd.S (Kd.slice 3 (Kd.int .i64)) 24 w' w8.heap.size (fun k_ => some k_ ≠ (v12 : Value).ownBlock) u10 x10_1) ∧ Aside0 (Kd.R (Kd.int .i64) 3 w' w8.heap.size (fun _ => True) v12 x12_2) ∧ Aside0 (w'.heap[gb591]? = some (.cells #[(.slice A2_0 l2_0.length c2_0), (.slice A2_1 l2_1.length c2_1), (.slice A2_2 l2_2.length c2_2)] 26 (0, 0))) ∧ Aside0 (Below w8.heap.size w8 w'))
       case atStart => exact ⟨(y595), (0), (by first | rfl | (simp; done) | (simp [*]; done)), H', ⟨Nat.le_refl _⟩, ⟨by (with_reducible repeat (first | apply Kd.S_alloc | apply Kd.S_drewN | apply Kd.S_drew)); exact Kd.S_mono HO_10.out (fun _ hk => hk.2)⟩, ⟨by (with_reducible repeat (first | apply Kd.R_alloc | apply Kd.R_drewN | apply Kd.R_drew)); exact HO597.out⟩, ⟨by (with_reducible repeat (first | refine blk_drewN ?_ _ | refine blk_drew ?_ | refine blk_alloc ?_ _)); exact BK591.out⟩, ⟨by repeat (first | (with_reducible first | exact HB.out | apply below_alloc | apply pw_below_drewN | apply below_drew1) | exact HB.out)⟩⟩
       clear H'
       try clear c8
       try clear c8b0
       obtain ⟨x12_2, x13_2, rfl, HA, HK2, HO_10, HO_12, BK591, HB⟩ := hrel
       cases gk with
       | zero => exact absurd HA.out (by simp [laws_FnQuorums.l1])
       | succ k2 =>
         have H := HA.out
         clear HA
         simp only [laws_FnQuorums.l1] at H
         by_cases c11 : x13_2 < 12
         rotate_left
         · rw [if_neg c11] at H
           have c11b0 : decide (x13_2 < 12) = false := decide_eq_false c11
           clear c11
           by_cases c22 : x10_1.length < 5864062014805
           rotate_left
           · rw [if_neg c22] at H
             exact absurd H (by simp)
           rw [if_pos c22] at H
           have LMc22 := Aside0.mk c22
           clear c22
           obtain ⟨y605, hy605⟩ : ∃ y_ : List (List Int), y_ = (x10_1 ++ [x12_2]) := ⟨_, rfl⟩
           replace H : (laws_FnQuorums.l0 k2 l0 l1 y605 (wrap64 (x11_1 + 1)) l2_0 l2_1 l2_2) = some r := by first | (rw [hy605]; with_reducible exact H) | (have H2_ := (Option.bind_some _ _).symm.trans H; rw [hy605]; with_reducible exact H2_) | (have H2_ := (Option.bind_some _ _).symm.trans H; with_reducible exact H2_) | with_reducible exact H | (rw [hy605]; exact H) | exact H
           have Ny605 := Aside0.mk hy605
           clear hy605
           have H' := Aside0.mk H
           clear H
           obtain ⟨Ao24, co24, eo24⟩ := Kd.R_slice HO_12.out
           subst eo24
           go_wp2_with (first | ((with_reducible refine gate_builtin (b := .append) (xs := #[.tmp 94, .tmp 96]) rfl ?_); at_builtin; refine Kd.S_append (Kd.slice 3 (Kd.int .i64)) (w0 := w8) w8.heap.size rfl (.tmp 94) (.tmp 96) 64 24 (.slice none 0 0) 24 rfl Try.underlying64 info24 rfl (by decide) (by omega) u10 x10_1 x12_2 [.slice Ao24 x12_2.length co24] (fun _ => True) (fun k_ => some k_ = (.slice Ao24 x12_2.length co24 : Value).ownBlock) rfl rfl ?aP (fun k_ hk_ => ((Kd.R_mono (ok' := fun k_ => ((fun _ => True)) k_ ∧ some k_ ≠ (u10 : Value).ownBlock) (Kd.R_apart' (HO_12.out) (Kd.S_typed HO_10.out) (by decide)) (fun k_ hk => ⟨trivial, hk.2⟩))).1 k_ hk_.symm) ?aF ?aO ?aB ?aS ?aL ?_; (case aP => exact Kd.M_row (Kd.R_mono (Kd.R_tight rfl (Kd.R_mono (ok' := fun k_ => ((fun _ => True)) k_ ∧ some k_ ≠ (u10 : Value).ownBlock) (Kd.R_apart' (HO_12.out) (Kd.S_typed HO_10.out) (by decide)) (fun k_ hk => ⟨trivial, hk.2⟩))) (fun _ h_ => h_))); (case aB => exact (by repeat (first | (with_reducible first | exact HB.out | apply below_alloc | apply pw_below_drewN | apply below_drew1) | exact HB.out))); (case aF => exact (fun _ _ => trivial)); (case aO => exact (by (with_reducible repeat (first | apply Kd.S_alloc | apply Kd.S_drewN | apply Kd.S_drew)); exact Kd.S_mono HO_10.out (fun k_ hk => ⟨trivial, fun e_ => hk e_⟩))); (case aS => exact (below_size (by repeat (first | (with_reducible first | exact HB.out | apply below_alloc | apply pw_below_drewN | apply below_drew1) | exact HB.out)))); (case aL => have := LMc22.out; omega); intro v606 w23 ho hb hg hat; rw [← Ny605.out] at ho; have n0_ := Aside0.mk (blk_grown (g := gb591) (o := .cells #[.slice A2_0 l2_0.length c2_0, .slice A2_1 l2_1.length c2_1, .slice A2_2 l2_2.length c2_2] 26 (0, 0)) (by (with_reducible repeat (first | refine blk_drewN ?_ _ | refine blk_drew ?_ | refine blk_alloc ?_ _)); exact BK591.out) hg (Kd.S_ne HO_10.out BK591.out (by decide))); have n1_ := Aside0.mk (hb); have n2_ := Aside0.mk (ho); clear BK591; clear HB; clear HO_10; clear HO_12; have BK591 := n0_; have HB := n1_; have HO607 := n2_; clear n0_ n1_ n2_; clear ho hb hg hat))
           go_roundg k2
           case measure => have := HK1.out; have := HK2.out; omega
           case rel => exact ⟨(y605), (wrap64 (x11_1 + 1)), (by first | rfl | (simp; done) | (simp [*]; done)), H', ⟨by have := HK1.out; have := HK2.out; omega⟩, ⟨by (with_reducible repeat (first | apply Kd.S_alloc | apply Kd.S_drewN | apply Kd.S_drew)); exact HO607.out⟩, ⟨by (with_reducible repeat (first | refine blk_drewN ?_ _ | refine blk_drew ?_ | refine blk_alloc ?_ _)); exact BK591.out⟩, ⟨by repeat (first | (with_reducible first | exact HB.out | apply below_alloc | apply pw_below_drewN | apply below_drew1) | exact HB.out)⟩⟩
         rw [if_pos c11] at H
         have c11b0 : decide (x13_2 < 12) = true := decide_eq_true c11
         clear c11
         replace H := Option.bind_eq_some_iff.mp H
         obtain ⟨t598, A120, H⟩ := H
         replace H : (if 0 ≤ (IntKind.u64.wrap (Int.tmod x13_2 8)) then (if (Go.bits .and .i64 (shr .i64 t598 (IntKind.u64.wrap (Int.tmod x13_2 8))) 1) = 1 then (if x12_2.length < 17592186044416 then (laws_FnQuorums.l1 k2 l0 l1 x10_1 x11_1 (x12_2 ++ [x13_2]) (wrap64 (x13_2 + 1)) l2_0 l2_1 l2_2) else (none)) else (if x11_1 = 3 then (if x12_2.length < 17592186044416 then (laws_FnQuorums.l1 k2 l0 l1 x10_1 x11_1 (x12_2 ++ [x13_2]) (wrap64 (x13_2 + 1)) l2_0 l2_1 l2_2) else (none)) else (laws_FnQuorums.l1 k2 l0 l1 x10_1 x11_1 x12_2 (wrap64 (x13_2 + 1)) l2_0 l2_1 l2_2))) else (none)) = some r := H
         have A12 := Aside0.mk A120
         clear A120
         obtain ⟨ji13, hji13⟩ : ∃ j_ : Int, (IntKind.u64.wrap (Int.tmod x13_2 8)) = j_ := ⟨_, rfl⟩
         replace H : (if 0 ≤ (ji13) then (if (Go.bits .and .i64 (shr .i64 t598 (ji13)) 1) = 1 then (if x12_2.length < 17592186044416 then (laws_FnQuorums.l1 k2 l0 l1 x10_1 x11_1 (x12_2 ++ [x13_2]) (wrap64 (x13_2 + 1)) l2_0 l2_1 l2_2) else (none)) else (if x11_1 = 3 then (if x12_2.length < 17592186044416 then (laws_FnQuorums.l1 k2 l0 l1 x10_1 x11_1 (x12_2 ++ [x13_2]) (wrap64 (x13_2 + 1)) l2_0 l2_1 l2_2) else (none)) else (laws_FnQuorums.l1 k2 l0 l1 x10_1 x11_1 x12_2 (wrap64 (x13_2 + 1)) l2_0 l2_1 l2_2))) else (none)) = some r := by first | (rw [hji13] at H; exact H) | (simp only [hji13] at H ⊢; exact H)
         (try rw [hji13] at A12)
         by_cases c14 : 0 ≤ (ji13)
         rotate_left
         · rw [if_neg c14] at H
           exact absurd H (by simp)
         rw [if_pos c14] at H
         have c14b0 := eq_true c14
         have c14b1 : decide (0 ≤ (ji13)) = true := decide_eq_true c14
         clear c14
         obtain ⟨ji15, hji15⟩ : ∃ j_ : Int, (shr .i64 t598 (ji13)) = j_ := ⟨_, rfl⟩
         replace H : (if (Go.bits .and .i64 (ji15) 1) = 1 then (if x12_2.length < 17592186044416 then (laws_FnQuorums.l1 k2 l0 l1 x10_1 x11_1 (x12_2 ++ [x13_2]) (wrap64 (x13_2 + 1)) l2_0 l2_1 l2_2) else (none)) else (if x11_1 = 3 then (if x12_2.length < 17592186044416 then (laws_FnQuorums.l1 k2 l0 l1 x10_1 x11_1 (x12_2 ++ [x13_2]) (wrap64 (x13_2 + 1)) l2_0 l2_1 l2_2) else (none)) else (laws_FnQuorums.l1 k2 l0 l1 x10_1 x11_1 x12_2 (wrap64 (x13_2 + 1)) l2_0 l2_1 l2_2))) = some r := by first | (rw [hji15] at H; exact H) | (simp only [hji15] at H ⊢; exact H)
         (try rw [hji15] at A12)
         have hji15_ : (t598 / 2 ^ min (ji13).toNat 64) = ji15 := hji15
         have hji15z : (ji13) ≤ 64 → (t598 / 2 ^ (ji13).toNat) = ji15 := shr_small hji15
         by_cases c16 : (Go.bits .and .i64 (ji15) 1) = 1
         · rw [if_pos c16] at H
           have c16b0 : ((Go.bits .and .i64 (ji15) 1) == 1) = true := beq_iff_eq.mpr c16
           have c16b1 : ((Go.bits .and .i64 (ji15) 1) != 1) = false := bne_eq_false_iff_eq.mpr c16
           clear c16
           by_cases c17 : x12_2.length < 17592186044416
           rotate_left
           · rw [if_neg c17] at H
             exact absurd H (by simp)
           rw [if_pos c17] at H
           have LMc17 := Aside0.mk c17
           clear c17
           obtain ⟨y599, hy599⟩ : ∃ y_ : List Int, y_ = (x12_2 ++ [x13_2]) := ⟨_, rfl⟩
           replace H : (laws_FnQuorums.l1 k2 l0 l1 x10_1 x11_1 y599 (wrap64 (x13_2 + 1)) l2_0 l2_1 l2_2) = some r := by first | (rw [hy599]; with_reducible exact H) | (have H2_ := (Option.bind_some _ _).symm.trans H; rw [hy599]; with_reducible exact H2_) | (have H2_ := (Option.bind_some _ _).symm.trans H; with_reducible exact H2_) | with_reducible exact H | (rw [hy599]; exact H) | exact H
           have Ny599 := Aside0.mk hy599
           clear hy599
           have H' := Aside0.mk H
           clear H
           go_wp2_with (first | ((with_reducible refine gate_callee (f := 16) rfl ?_); refine goesL_ (some 79) rfl rfl Try.func16 (by kernel_rfl) rfl #[.slice A0 l0.length c0, .int .i64 (wrap64 ((wrap64 (x11_1 * 2)) + (wrap64 (Int.tdiv x13_2 8))))] rfl (by (try simp only [List.map_toArray, List.map_cons, List.map_nil]); first | done | rfl | (simp only [List.length_drop, List.length_take]; rfl)) ?_; (with_reducible refine (laws_at.calls _ _ l0 (wrap64 ((wrap64 (x11_1 * 2)) + (wrap64 (Int.tdiv x13_2 8)))) t598 _ ?side1 ?side2 A12.out).mono ?_); (case side1 => repeat (first | exact (Kd.C_below HR0.out HB.out) | (with_reducible refine Kd.C_alloc ?_ _) | (with_reducible refine Kd.C_drewN ?_ _) | (with_reducible refine Kd.C_drew ?_))); (case side2 => exact HC0.out); rintro e w' ⟨rfl, ⟨nd, rfl⟩⟩; refine ⟨_, rfl, ?_⟩) | ((with_reducible refine gate_builtin (b := .append) (xs := #[.tmp 90, .tmp 92]) rfl ?_); at_builtin; refine Kd.R_append (Kd.int .i64) (w0 := w8) w8.heap.size rfl (.tmp 90) (.tmp 92) 24 3 (.int .i64 0) 8 rfl Try.underlying24 info3 rfl (by decide) (by omega) u12 x12_2 x13_2 [.int .i64 x13_2] (fun _ => True) (fun _ => False) rfl rfl ?aP (fun _ hk => hk.elim) ?aF ?aO ?aB ?aS ?aL ?_; (case aP => exact rfl); (case aB => exact (by repeat (first | (with_reducible first | exact HB.out | apply below_alloc | apply pw_below_drewN | apply below_drew1) | exact HB.out))); (case aF => exact (fun _ _ => trivial)); (case aO => exact (by (with_reducible repeat (first | apply Kd.R_alloc | apply Kd.R_drewN | apply Kd.R_drew)); exact HO_12.out)); (case aS => exact (below_size (by repeat (first | (with_reducible first | exact HB.out | apply below_alloc | apply pw_below_drewN | apply below_drew1) | exact HB.out)))); (case aL => have := LMc17.out; omega); intro v600 w18 ho hb hg hat; rw [← Ny599.out] at ho; have n0_ := Aside0.mk (Kd.S_after (ok := (fun _ => True)) (by (with_reducible repeat (first | apply Kd.S_alloc | apply Kd.S_drewN | apply Kd.S_drew)); exact Kd.S_mono HO_10.out (fun _ hk => ⟨trivial, hk⟩)) hg hat); have n1_ := Aside0.mk (blk_grown (g := gb591) (o := .cells #[.slice A2_0 l2_0.length c2_0, .slice A2_1 l2_1.length c2_1, .slice A2_2 l2_2.length c2_2] 26 (0, 0)) (by (with_reducible repeat (first | refine blk_drewN ?_ _ | refine blk_drew ?_ | refine blk_alloc ?_ _)); exact BK591.out) hg (Kd.R_ne HO_12.out BK591.out (by decide))); have n2_ := Aside0.mk (hb); have n3_ := Aside0.mk (ho); clear HO_10; clear BK591; clear HB; clear HO_12; have HO_10 := n0_; have BK591 := n1_; have HB := n2_; have HO601 := n3_; clear n0_ n1_ n2_ n3_; clear ho hb hg hat))
           go_roundg k2
           case measure => have := HK1.out; have := HK2.out; omega
           case rel => exact ⟨(y599), (wrap64 (x13_2 + 1)), (by first | rfl | (simp; done) | (simp [*]; done)), H', ⟨by have := HK1.out; have := HK2.out; omega⟩, ⟨by (with_reducible repeat (first | apply Kd.S_alloc | apply Kd.S_drewN | apply Kd.S_drew)); exact Kd.S_mono HO_10.out (fun _ hk => hk.2)⟩, ⟨by (with_reducible repeat (first | apply Kd.R_alloc | apply Kd.R_drewN | apply Kd.R_drew)); exact HO601.out⟩, ⟨by (with_reducible repeat (first | refine blk_drewN ?_ _ | refine blk_drew ?_ | refine blk_alloc ?_ _)); exact BK591.out⟩, ⟨by repeat (first | (with_reducible first | exact HB.out | apply below_alloc | apply pw_below_drewN | apply below_drew1) | exact HB.out)⟩⟩
         rw [if_neg c16] at H
         have c16b0 : ((Go.bits .and .i64 (ji15) 1) == 1) = false := beq_eq_false_iff_ne.mpr c16
         have c16b1 : ((Go.bits .and .i64 (ji15) 1) != 1) = true := bne_iff_ne.mpr c16
         have H9 := Aside0.mk H
         clear H
         go_upto_if 89 with (first | ((with_reducible refine gate_callee (f := 16) rfl ?_); refine goesL_ (some 79) rfl rfl Try.func16 (by kernel_rfl) rfl #[.slice A0 l0.length c0, .int .i64 (wrap64 ((wrap64 (x11_1 * 2)) + (wrap64 (Int.tdiv x13_2 8))))] rfl (by (try simp only [List.map_toArray, List.map_cons, List.map_nil]); first | done | rfl | (simp only [List.length_drop, List.length_take]; rfl)) ?_; (with_reducible refine (laws_at.calls _ _ l0 (wrap64 ((wrap64 (x11_1 * 2)) + (wrap64 (Int.tdiv x13_2 8)))) t598 _ ?side1 ?side2 A12.out).mono ?_); (case side1 => repeat (first | exact (Kd.C_below HR0.out HB.out) | (with_reducible refine Kd.C_alloc ?_ _) | (with_reducible refine Kd.C_drewN ?_ _) | (with_reducible refine Kd.C_drew ?_))); (case side2 => exact HC0.out); rintro e w' ⟨rfl, ⟨nd, rfl⟩⟩; refine ⟨_, rfl, ?_⟩))
         have H := H9.out
         clear H9
         by_cases c19 : x11_1 = 3
         rotate_left
         · rw [if_neg c19] at H
           have c19b0 : (x11_1 == 3) = false := beq_eq_false_iff_ne.mpr c19
           have c19b1 : (x11_1 != 3) = true := bne_iff_ne.mpr c19
           (first | rw [c19b0] | (simp only [i64_w, i32_w]; rw [c19b0]) | skip)
           have H' := Aside0.mk H
           clear H
           go_wp2
           go_roundg k2
           case measure => have := HK1.out; have := HK2.out; omega
           case rel => exact ⟨(x12_2), (wrap64 (x13_2 + 1)), (by first | rfl | (simp; done) | (simp [*]; done)), H', ⟨by have := HK1.out; have := HK2.out; omega⟩, ⟨by (with_reducible repeat (first | apply Kd.S_alloc | apply Kd.S_drewN | apply Kd.S_drew)); exact HO_10.out⟩, ⟨by (with_reducible repeat (first | apply Kd.R_alloc | apply Kd.R_drewN | apply Kd.R_drew)); exact HO_12.out⟩, ⟨by (with_reducible repeat (first | refine blk_drewN ?_ _ | refine blk_drew ?_ | refine blk_alloc ?_ _)); exact BK591.out⟩, ⟨by repeat (first | (with_reducible first | exact HB.out | apply below_alloc | apply pw_below_drewN | apply below_drew1) | exact HB.out)⟩⟩
         rw [if_pos c19] at H
         have c19b0 : (x11_1 == 3) = true := beq_iff_eq.mpr c19
         have c19b1 : (x11_1 != 3) = false := bne_eq_false_iff_eq.mpr c19
         clear c19
         (first | rw [c19b0] | (simp only [i64_w, i32_w]; rw [c19b0]) | skip)
         by_cases c20 : x12_2.length < 17592186044416
         rotate_left
         · rw [if_neg c20] at H
           exact absurd H (by simp)
         rw [if_pos c20] at H
         have LMc20 := Aside0.mk c20
         clear c20
         obtain ⟨y602, hy602⟩ : ∃ y_ : List Int, y_ = (x12_2 ++ [x13_2]) := ⟨_, rfl⟩
         replace H : (laws_FnQuorums.l1 k2 l0 l1 x10_1 x11_1 y602 (wrap64 (x13_2 + 1)) l2_0 l2_1 l2_2) = some r := by first | (rw [hy602]; with_reducible exact H) | (have H2_ := (Option.bind_some _ _).symm.trans H; rw [hy602]; with_reducible exact H2_) | (have H2_ := (Option.bind_some _ _).symm.trans H; with_reducible exact H2_) | with_reducible exact H | (rw [hy602]; exact H) | exact H
         have Ny602 := Aside0.mk hy602
         clear hy602
         have H' := Aside0.mk H
         clear H
         go_wp2_with (first | ((with_reducible refine gate_builtin (b := .append) (xs := #[.tmp 90, .tmp 92]) rfl ?_); at_builtin; refine Kd.R_append (Kd.int .i64) (w0 := w8) w8.heap.size rfl (.tmp 90) (.tmp 92) 24 3 (.int .i64 0) 8 rfl Try.underlying24 info3 rfl (by decide) (by omega) u12 x12_2 x13_2 [.int .i64 x13_2] (fun _ => True) (fun _ => False) rfl rfl ?aP (fun _ hk => hk.elim) ?aF ?aO ?aB ?aS ?aL ?_; (case aP => exact rfl); (case aB => exact (by repeat (first | (with_reducible first | exact HB.out | apply below_alloc | apply pw_below_drewN | apply below_drew1) | exact HB.out))); (case aF => exact (fun _ _ => trivial)); (case aO => exact (by (with_reducible repeat (first | apply Kd.R_alloc | apply Kd.R_drewN | apply Kd.R_drew)); exact HO_12.out)); (case aS => exact (below_size (by repeat (first | (with_reducible first | exact HB.out | apply below_alloc | apply pw_below_drewN | apply below_drew1) | exact HB.out)))); (case aL => have := LMc20.out; omega); intro v603 w21 ho hb hg hat; rw [← Ny602.out] at ho; have n0_ := Aside0.mk (Kd.S_after (ok := (fun _ => True)) (by (with_reducible repeat (first | apply Kd.S_alloc | apply Kd.S_drewN | apply Kd.S_drew)); exact Kd.S_mono HO_10.out (fun _ hk => ⟨trivial, hk⟩)) hg hat); have n1_ := Aside0.mk (blk_grown (g := gb591) (o := .cells #[.slice A2_0 l2_0.length c2_0, .slice A2_1 l2_1.length c2_1, .slice A2_2 l2_2.length c2_2] 26 (0, 0)) (by (with_reducible repeat (first | refine blk_drewN ?_ _ | refine blk_drew ?_ | refine blk_alloc ?_ _)); exact BK591.out) hg (Kd.R_ne HO_12.out BK591.out (by decide))); have n2_ := Aside0.mk (hb); have n3_ := Aside0.mk (ho); clear HO_10; clear BK591; clear HB; clear HO_12; have HO_10 := n0_; have BK591 := n1_; have HB := n2_; have HO604 := n3_; clear n0_ n1_ n2_ n3_; clear ho hb hg hat))
         go_roundg k2
         case measure => have := HK1.out; have := HK2.out; omega
         case rel => exact ⟨(y602), (wrap64 (x13_2 + 1)), (by first | rfl | (simp; done) | (simp [*]; done)), H', ⟨by have := HK1.out; have := HK2.out; omega⟩, ⟨by (with_reducible repeat (first | apply Kd.S_alloc | apply Kd.S_drewN | apply Kd.S_drew)); exact Kd.S_mono HO_10.out (fun _ hk => hk.2)⟩, ⟨by (with_reducible repeat (first | apply Kd.R_alloc | apply Kd.R_drewN | apply Kd.R_drew)); exact HO604.out⟩, ⟨by (with_reducible repeat (first | refine blk_drewN ?_ _ | refine blk_drew ?_ | refine blk_alloc ?_ _)); exact BK591.out⟩, ⟨by repeat (first | (with_reducible first | exact HB.out | apply below_alloc | apply pw_below_drewN | apply below_drew1) | exact HB.out)⟩⟩
     rw [if_neg c8] at H
     have c8b0 : decide (x11_1 < 4) = false := decide_eq_false c8
     clear c8
     have H' := Aside0.mk H
     clear H
     go_wp2
     go_loopg [14] k1 (fun kq v14 w' => ∃ (x14_2 : Int), v14 = .int .i64 x14_2 ∧ Aside0 (laws_FnQuorums.l2 kq l1 x10_1 x14_2 l2_0 l2_1 l2_2 = some r) ∧ Aside0 (kq ≤ k1) ∧ Aside0 (Kd.S (Kd.slice 3 (Kd.int .i64)) 24 w' w8.heap.size (fun _ => True) u10 x10_1) ∧ Aside0 (w'.heap[gb591]? = some (.cells #[(.slice A2_0 l2_0.length c2_0), (.slice A2_1 l2_1.length c2_1), (.slice A2_2 l2_2.length c2_2)] 26 (0, 0))) ∧ Aside0 (Below w8.heap.size w8 w'))
     case atStart => exact ⟨(0), (by first | rfl | (simp; done) | (simp [*]; done)), H', ⟨Nat.le_refl _⟩, ⟨by (with_reducible repeat (first | apply Kd.S_alloc | apply Kd.S_drewN | apply Kd.S_drew)); exact HO_10.out⟩, ⟨by (with_reducible repeat (first | refine blk_drewN ?_ _ | refine blk_drew ?_ | refine blk_alloc ?_ _)); exact BK591.out⟩, ⟨by repeat (first | (with_reducible first | exact HB.out | apply below_alloc | apply pw_below_drewN | apply below_drew1) | exact HB.out)⟩⟩
     clear H'
     try clear p6
     try clear c8
     try clear c8b0
     try clear c11
     try clear c11b0
     try clear c14
     try clear c14b0
     try clear c14b1
     try clear c16
     try clear c16b0
     try clear c16b1
     try clear c17
     try clear c19
     try clear c19b0
     try clear c19b1
     try clear c20
     try clear c22
     obtain ⟨x14_2, rfl, HA, HK2, HO_10, BK591, HB⟩ := hrel
     cases gk with
     | zero => exact absurd HA.out (by simp [laws_FnQuorums.l2])
     | succ k2 =>
       have H := HA.out
       clear HA
       simp only [laws_FnQuorums.l2] at H
       as_aux_lemma =>
        by_cases c25 : x14_2 < 3
        rotate_left
        · rw [if_neg c25] at H
          have c25b0 : decide (x14_2 < 3) = false := decide_eq_false c25
          clear c25
          replace H := Option.bind_eq_some_iff.mp H
          obtain ⟨t629, A740, H⟩ := H
          replace H : ((impl_Quorum.f k2 l2_0 l2_1 l2_2 t629).bind fun t632 => (if t632 = true then ((impl_Quorum.f k2 l2_0 l2_1 l2_2 ([] : List Int)).bind fun t633 => (if t633 = true then (some false) else (if 3 < (x10_1.length : Int) then ((impl_Quorum.f k2 l2_0 l2_1 l2_2 (rd_L2 x10_1 3)).bind fun t635 => ((spec_Quorum.f k2 l2_0 l2_1 l2_2 (rd_L2 x10_1 3)).bind fun t637 => (some (t635 == t637)))) else (none)))) else (some false))) = some r := H
          have A74 := Aside0.mk A740
          clear A740
          replace H := Option.bind_eq_some_iff.mp H
          obtain ⟨t632, A750, H⟩ := H
          replace H : (if t632 = true then ((impl_Quorum.f k2 l2_0 l2_1 l2_2 ([] : List Int)).bind fun t633 => (if t633 = true then (some false) else (if 3 < (x10_1.length : Int) then ((impl_Quorum.f k2 l2_0 l2_1 l2_2 (rd_L2 x10_1 3)).bind fun t635 => ((spec_Quorum.f k2 l2_0 l2_1 l2_2 (rd_L2 x10_1 3)).bind fun t637 => (some (t635 == t637)))) else (none)))) else (some false)) = some r := H
          have A75 := Aside0.mk A750
          clear A750
          by_cases c76 : t632 = true
          rotate_left
          · replace c76 := Bool.eq_false_iff.mpr c76
            subst c76
            have H1 : (some false) = some r := by rw [if_neg (show ¬ (false = true) by decide)] at H; exact H
            clear H
            have H := H1
            clear H1
            exact absurd ((Option.some.inj H).trans hr_.out) (by decide)
          subst c76
          have H1 : ((impl_Quorum.f k2 l2_0 l2_1 l2_2 ([] : List Int)).bind fun t633 => (if t633 = true then (some false) else (if 3 < (x10_1.length : Int) then ((impl_Quorum.f k2 l2_0 l2_1 l2_2 (rd_L2 x10_1 3)).bind fun t635 => ((spec_Quorum.f k2 l2_0 l2_1 l2_2 (rd_L2 x10_1 3)).bind fun t637 => (some (t635 == t637)))) else (none)))) = some r := by rw [if_pos rfl] at H; exact H
          clear H
          have H := H1
          clear H1
          replace H := Option.bind_eq_some_iff.mp H
          obtain ⟨t633, A770, H⟩ := H
          replace H : (if t633 = true then (some false) else (if 3 < (x10_1.length : Int) then ((impl_Quorum.f k2 l2_0 l2_1 l2_2 (rd_L2 x10_1 3)).bind fun t635 => ((spec_Quorum.f k2 l2_0 l2_1 l2_2 (rd_L2 x10_1 3)).bind fun t637 => (some (t635 == t637)))) else (none))) = some r := H
          have A77 := Aside0.mk A770
          clear A770
          by_cases c78 : t633 = true
          · subst c78
            have H1 : (some false) = some r := by rw [if_pos rfl] at H; exact H
            clear H
            have H := H1
            clear H1
            exact absurd ((Option.some.inj H).trans hr_.out) (by decide)
          replace c78 := Bool.eq_false_iff.mpr c78
          subst c78
          have H1 : (if 3 < (x10_1.length : Int) then ((impl_Quorum.f k2 l2_0 l2_1 l2_2 (rd_L2 x10_1 3)).bind fun t635 => ((spec_Quorum.f k2 l2_0 l2_1 l2_2 (rd_L2 x10_1 3)).bind fun t637 => (some (t635 == t637)))) else (none)) = some r := by rw [if_neg (show ¬ (false = true) by decide)] at H; exact H
          clear H
          have H := H1
          clear H1
          by_cases c79 : 3 < (x10_1.length : Int)
          rotate_left
          · rw [if_neg c79] at H
            exact absurd H (by simp)
          rw [if_pos c79] at H
          have c79b0 : decide (3 < (x10_1.length : Int)) = true := decide_eq_true c79
          have c79b1 : decide (3 < x10_1.length) = true := decide_eq_true (by omega)
          clear c79
          replace H := Option.bind_eq_some_iff.mp H
          obtain ⟨t635, A800, H⟩ := H
          replace H : ((spec_Quorum.f k2 l2_0 l2_1 l2_2 (rd_L2 x10_1 3)).bind fun t637 => (some (t635 == t637))) = some r := H
          have A80 := Aside0.mk A800
          clear A800
          replace H := Option.bind_eq_some_iff.mp H
          obtain ⟨t637, A810, H⟩ := H
          replace H : (some (t635 == t637)) = some r := H
          have A81 := Aside0.mk A810
          clear A810
          obtain rfl := Option.some.inj H
          try go_wp2
          have n0_ := Aside0.mk (Kd.S_drew HO_10.out)
          have n1_ := Aside0.mk (blk_drew BK591.out)
          have n2_ := Aside0.mk (below_drew1 HB.out)
          clear HO_10
          clear BK591
          clear HB
          have HO_10 := n0_
          have BK591 := n1_
          have HB := n2_
          clear n0_ n1_ n2_
          obtain ⟨Ao42, co42, eo42⟩ := Kd.S_slice HO_10.out
          subst eo42
          have p634 : 0 ≤ (3 : Int) := (by omega)
          have q634 : 3 < (x10_1.length : Int) := of_decide_eq_true (by first | (with_reducible assumption) | assumption)
          obtain ⟨ad634, A634_0, c634_0, e634, hx634_0, hl634_0, hi634_0⟩ := at_L2 (Kd.S_reads' HO_10.out).2.2 3 p634 q634
          cases e634
          obtain ⟨ce634, hce634, hMe634, hcc634⟩ := Kd.S_get HO_10.out [] 3 p634 (by first | exact q634 | exact of_decide_eq_true (by first | (with_reducible assumption) | assumption) | (have e_ := (Kd.S_reads' HO_10.out).1; omega))
          obtain ⟨ve634_0, rfl, ge634_0⟩ := hMe634
          have hv634_0 := hcc634 0 _ rfl
          rw [Nat.add_zero, show ((Kd.slice 3 (Kd.int .i64))).sz = 1 from rfl, Nat.mul_one] at hv634_0
          replace hv634_0 := Option.some.inj (hv634_0.symm.trans hx634_0)
          rw [hv634_0] at ge634_0
          have HL634_0 := trivial
          clear hv634_0 ge634_0
          clear hcc634 hce634
          (try simp only [show (3 : Int).toNat = 3 from rfl, Nat.reduceMul, Nat.reduceEqDiff, Go.Addr.add, ↓reduceIte] at hx634_0)
          have qi634 : (3 < x10_1.length) = True := eq_true (by omega)
          (try rw [show ((3 : Int)).toNat = 3 from rfl] at hx634_0)
          have HR634_0 := Aside0.mk hi634_0
          have HC634_0 := Aside0.mk hl634_0
          clear hi634_0 hl634_0
          replace p634 := eq_true p634
          replace q634 := eq_true q634
          have p636 : 0 ≤ (3 : Int) := (by omega)
          have q636 : 3 < (x10_1.length : Int) := of_decide_eq_true (by first | (with_reducible assumption) | assumption)
          obtain ⟨ad636, A636_0, c636_0, e636, hx636_0, hl636_0, hi636_0⟩ := at_L2 (Kd.S_reads' HO_10.out).2.2 3 p636 q636
          obtain rfl : ad634 = ad636 := (by injection e636)
          obtain ⟨ce636, hce636, hMe636, hcc636⟩ := Kd.S_get HO_10.out [] 3 p636 (by first | exact q636 | exact of_decide_eq_true (by first | (with_reducible assumption) | assumption) | (have e_ := (Kd.S_reads' HO_10.out).1; omega))
          obtain ⟨ve636_0, rfl, ge636_0⟩ := hMe636
          have hv636_0 := hcc636 0 _ rfl
          rw [Nat.add_zero, show ((Kd.slice 3 (Kd.int .i64))).sz = 1 from rfl, Nat.mul_one] at hv636_0
          replace hv636_0 := Option.some.inj (hv636_0.symm.trans hx636_0)
          rw [hv636_0] at ge636_0
          have HL636_0 := trivial
          clear hv636_0 ge636_0
          clear hcc636 hce636
          (try simp only [show (3 : Int).toNat = 3 from rfl, Nat.reduceMul, Nat.reduceEqDiff, Go.Addr.add, ↓reduceIte] at hx636_0)
          have qi636 : (3 < x10_1.length) = True := eq_true (by omega)
          (try rw [show ((3 : Int)).toNat = 3 from rfl] at hx636_0)
          have HR636_0 := Aside0.mk hi636_0
          have HC636_0 := Aside0.mk hl636_0
          clear hi636_0 hl636_0
          replace p636 := eq_true p636
          replace q636 := eq_true q636
          injection (Option.some.inj (hx636_0.symm.trans hx634_0)) with e1_ _ e2_
          replace e1_ := e1_.symm
          replace e2_ := e2_.symm
          subst e1_
          subst e2_
          refine start_ (n := 23) (S := fun w' => w'.cell? ⟨gb591, 0, none⟩ = some (.slice A2_0 l2_0.length c2_0) ∧ w'.cell? ⟨gb591, 1, none⟩ = some (.slice A2_1 l2_1.length c2_1) ∧ w'.cell? ⟨gb591, 2, none⟩ = some (.slice A2_2 l2_2.length c2_2) ∧ w'.cell? ⟨ad634.block, ad634.off + 3, none⟩ = some (.slice A634_0 (rd_L2 x10_1 3).length c634_0) ∧ w'.cell? ⟨ad634.block, ad634.off + 3, none⟩ = some (.slice A634_0 (rd_L2 x10_1 3).length c634_0)) (ds := []) #[false, false, false, false, false, false, false, false, false, false, false, false, false, false, false, false, false, false, false, false, false, false, false] (by kernel_rfl) rfl rfl ⟨(blk_cell BK591.out 0).trans rfl, (blk_cell BK591.out 1).trans rfl, (blk_cell BK591.out 2).trans rfl, hx634_0, hx636_0⟩ (fun hHeld => ?_); refine with_tabW laws_FnQuorums.tab42 laws_FnQuorums.bits42 (fun HT_ HW_ => ?_)
          generalize wr.drew = w82 at HO_10 BK591 HB HL634_0 HL636_0 HR634_0 HR636_0 hx634_0 hx636_0 hHeld ⊢
          refine take_ (i := 0) (N := some 185) (v := ?_) (a' := ?_) #[true, false, false, false, false, false, false, false, false, false, false, false, false, false, false, false, false, false, false, false, false, false, false] rfl rfl (take_ofW HT_.out HW_.out (by kernel_rfl)) (fun _ _ _ h => h) (Or.inl ⟨by rfl, ?_⟩) hHeld ?_ ?_
          rotate_left
          · rintro w' ⟨s0, s1, s2, s3, s4⟩
            go_simp
            with_reducible rfl
          rotate_left
          · simp only [Act.put, List.setIfInBounds_toArray, List.set_cons_zero, List.set_cons_succ, i64_w, i32_w]
            rfl
          refine take_ (i := 1) (N := some 186) (v := ?_) (a' := ?_) #[true, true, false, false, false, false, false, false, false, false, false, false, false, false, false, false, false, false, false, false, false, false, false] rfl rfl (take_ofW HT_.out HW_.out (by kernel_rfl)) (fun _ _ _ h => h) (Or.inl ⟨by rfl, ?_⟩) hHeld ?_ ?_
          rotate_left
          · rintro w' ⟨s0, s1, s2, s3, s4⟩
            go_simp
            with_reducible rfl
          rotate_left
          · simp only [Act.put, List.setIfInBounds_toArray, List.set_cons_zero, List.set_cons_succ, i64_w, i32_w]
            rfl
          refine one_ (i := 2) (N := some 187) #[true, true, true, false, false, false, false, false, false, false, false, false, false, false, false, false, false, false, false, false, false, false, false] rfl rfl (one_of HT_.out (by kernel_rfl)) (by decide) (fun K hK => ?_)
          refine goes_ Try.func19 (by kernel_rfl) rfl #[.agg #[.slice A2_0 l2_0.length c2_0, .slice A2_1 l2_1.length c2_1, .slice A2_2 l2_2.length c2_2]] (by rfl) rfl rfl (by (try simp only [List.map_toArray, List.map_cons, List.map_nil]); first | done | rfl | (simp only [List.length_drop, List.length_take]; rfl)) ?_
          with_reducible refine (impl_Voters.calls k2 _ _ l2_0 _ _ l2_1 _ _ l2_2 t629 _ ?side1 ?side2 ?side3 ?side4 ?side5 ?side6 A74.out).mono ?_
          (case side1 => repeat (first | exact (Kd.C_below HR2_0.out HB.out) | (with_reducible refine Kd.C_alloc ?_ _) | (with_reducible refine Kd.C_drewN ?_ _) | (with_reducible refine Kd.C_drew ?_)))
          (case side2 => exact HC2_0.out)
          (case side3 => repeat (first | exact (Kd.C_below HR2_1.out HB.out) | (with_reducible refine Kd.C_alloc ?_ _) | (with_reducible refine Kd.C_drewN ?_ _) | (with_reducible refine Kd.C_drew ?_)))
          (case side4 => exact HC2_1.out)
          (case side5 => repeat (first | exact (Kd.C_below HR2_2.out HB.out) | (with_reducible refine Kd.C_alloc ?_ _) | (with_reducible refine Kd.C_drewN ?_ _) | (with_reducible refine Kd.C_drew ?_)))
          (case side6 => exact HC2_2.out)
          rintro e w83 ⟨v630, rfl, ho0, hb⟩
          have HS3_ := (hb.cell (World.block_lt_of_cell? _ _ (hHeld.2.2.2.1))).trans (hHeld.2.2.2.1)
          have HS4_ := (hb.cell (World.block_lt_of_cell? _ _ (hHeld.2.2.2.2))).trans (hHeld.2.2.2.2)
          refine ⟨_, rfl, ?_⟩
          have n0_ := Aside0.mk (Kd.S_elder' (by (with_reducible repeat (first | apply Kd.S_alloc | apply Kd.S_drewN | apply Kd.S_drew)); exact HO_10.out) (Kd.R_base ho0) hb)
          have n1_ := Aside0.mk (Kd.R_lower ho0 (below_size (by repeat (first | (with_reducible first | exact HB.out | apply below_alloc | apply pw_below_drewN | apply below_drew1) | exact HB.out))))
          have n2_ := Aside0.mk (blk_below (g := gb591) (o := .cells #[.slice A2_0 l2_0.length c2_0, .slice A2_1 l2_1.length c2_1, .slice A2_2 l2_2.length c2_2] 26 (0, 0)) (by (with_reducible repeat (first | refine blk_drewN ?_ _ | refine blk_drew ?_ | refine blk_alloc ?_ _)); exact BK591.out) hb)
          have n3_ := Aside0.mk (below_step (by repeat (first | (with_reducible first | exact HB.out | apply below_alloc | apply pw_below_drewN | apply below_drew1) | exact HB.out)) hb)
          clear HO_10
          clear BK591
          clear HB
          have HO_10 := n0_
          have HO631 := n1_
          have BK591 := n2_
          have HB := n3_
          clear n0_ n1_ n2_ n3_
          replace HR634_0 := Aside0.mk (Kd.C_below (Kd.C_below HR634_0.out (by repeat (first | (with_reducible exact Below.refl _ _) | (with_reducible refine pw_below_drewN ?_ _) | (with_reducible refine below_drew1 ?_) | (with_reducible refine below_alloc ?_ _)))) hb)
          replace HR636_0 := Aside0.mk (Kd.C_below (Kd.C_below HR636_0.out (by repeat (first | (with_reducible exact Below.refl _ _) | (with_reducible refine pw_below_drewN ?_ _) | (with_reducible refine below_drew1 ?_) | (with_reducible refine below_alloc ?_ _)))) hb)
          (try clear hb)
          (try clear hb2)
          (try clear hk)
          (try clear hi)
          (try clear ho0)
          obtain ⟨Ao84, co84, eo84⟩ := Kd.R_slice HO631.out
          (first | subst eo84 | (injection eo84 with f1_ f2_ f3_; have f4_ := f1_.symm; have f5_ := f3_.symm; clear f1_ f2_ f3_; subst f4_; subst f5_))
          refine hK.out _ _ ⟨(blk_cell BK591.out 0).trans rfl, (blk_cell BK591.out 1).trans rfl, (blk_cell BK591.out 2).trans rfl, HS3_, HS4_⟩ (fun hHeld => ?_)
          clear hK K
          refine norm_ (a' := ?_) ?_ ?_
          rotate_left
          · show Act.put _ (some 187) _ = _
            simp only [Act.put, List.setIfInBounds_toArray, List.set_cons_zero, List.set_cons_succ, i64_w, i32_w]
            rfl
          refine one_ (i := 3) (N := some 188) #[true, true, true, true, false, false, false, false, false, false, false, false, false, false, false, false, false, false, false, false, false, false, false] rfl rfl (one_of HT_.out (by kernel_rfl)) (by decide) (fun K hK => ?_)
          refine goes_ Try.func40 (by kernel_rfl) rfl #[.agg #[.slice A2_0 l2_0.length c2_0, .slice A2_1 l2_1.length c2_1, .slice A2_2 l2_2.length c2_2], .slice Ao84 t629.length co84] (by rfl) rfl rfl (by (try simp only [List.map_toArray, List.map_cons, List.map_nil]); first | done | rfl | (simp only [List.length_drop, List.length_take]; rfl)) ?_
          with_reducible refine (impl_Quorum.calls k2 _ _ l2_0 _ _ l2_1 _ _ l2_2 _ _ t629 true _ ?side1 ?side2 ?side3 ?side4 ?side5 ?side6 ?side7 ?side8 A75.out).mono ?_
          (case side1 => repeat (first | exact (Kd.C_below HR2_0.out HB.out) | (with_reducible refine Kd.C_alloc ?_ _) | (with_reducible refine Kd.C_drewN ?_ _) | (with_reducible refine Kd.C_drew ?_)))
          (case side2 => exact HC2_0.out)
          (case side3 => repeat (first | exact (Kd.C_below HR2_1.out HB.out) | (with_reducible refine Kd.C_alloc ?_ _) | (with_reducible refine Kd.C_drewN ?_ _) | (with_reducible refine Kd.C_drew ?_)))
          (case side4 => exact HC2_1.out)
          (case side5 => repeat (first | exact (Kd.C_below HR2_2.out HB.out) | (with_reducible refine Kd.C_alloc ?_ _) | (with_reducible refine Kd.C_drewN ?_ _) | (with_reducible refine Kd.C_drew ?_)))
          (case side6 => exact HC2_2.out)
          (case side7 => repeat (first | exact (Kd.R_reads' HO631.out).2.2 | (with_reducible refine Kd.C_alloc ?_ _) | (with_reducible refine Kd.C_drewN ?_ _) | (with_reducible refine Kd.C_drew ?_)))
          (case side8 => exact (Kd.R_reads' HO631.out).2.1)
          rintro e w85 ⟨rfl, hb⟩
          have HS3_ := (hb.cell (World.block_lt_of_cell? _ _ (hHeld.2.2.2.1))).trans (hHeld.2.2.2.1)
          have HS4_ := (hb.cell (World.block_lt_of_cell? _ _ (hHeld.2.2.2.2))).trans (hHeld.2.2.2.2)
          refine ⟨_, rfl, ?_⟩
          have n0_ := Aside0.mk (Kd.S_below (by (with_reducible repeat (first | apply Kd.S_alloc | apply Kd.S_drewN | apply Kd.S_drew)); exact HO_10.out) hb)
          have n1_ := Aside0.mk (Kd.R_below (by (with_reducible repeat (first | apply Kd.R_alloc | apply Kd.R_drewN | apply Kd.R_drew)); exact HO631.out) hb)
          have n2_ := Aside0.mk (blk_below (g := gb591) (o := .cells #[.slice A2_0 l2_0.length c2_0, .slice A2_1 l2_1.length c2_1, .slice A2_2 l2_2.length c2_2] 26 (0, 0)) (by (with_reducible repeat (first | refine blk_drewN ?_ _ | refine blk_drew ?_ | refine blk_alloc ?_ _)); exact BK591.out) hb)
          have n3_ := Aside0.mk (below_step (by repeat (first | (with_reducible first | exact HB.out | apply below_alloc | apply pw_below_drewN | apply below_drew1) | exact HB.out)) hb)
          clear HO_10
          clear HO631
          clear BK591
          clear HB
          have HO_10 := n0_
          have HO631 := n1_
          have BK591 := n2_
          have HB := n3_
          clear n0_ n1_ n2_ n3_
          replace HR634_0 := Aside0.mk (Kd.C_below (Kd.C_below HR634_0.out (by repeat (first | (with_reducible exact Below.refl _ _) | (with_reducible refine pw_below_drewN ?_ _) | (with_reducible refine below_drew1 ?_) | (with_reducible refine below_alloc ?_ _)))) hb)
          replace HR636_0 := Aside0.mk (Kd.C_below (Kd.C_below HR636_0.out (by repeat (first | (with_reducible exact Below.refl _ _) | (with_reducible refine pw_below_drewN ?_ _) | (with_reducible refine below_drew1 ?_) | (with_reducible refine below_alloc ?_ _)))) hb)
          (try clear hb)
          (try clear hb2)
          (try clear hk)
          (try clear hi)
          refine hK.out _ _ ⟨(blk_cell BK591.out 0).trans rfl, (blk_cell BK591.out 1).trans rfl, (blk_cell BK591.out 2).trans rfl, HS3_, HS4_⟩ (fun hHeld => ?_)
          clear hK K
          refine norm_ (a' := ?_) ?_ ?_
          rotate_left
          · show Act.put _ (some 188) _ = _
            simp only [Act.put, List.setIfInBounds_toArray, List.set_cons_zero, List.set_cons_succ, i64_w, i32_w]
            rfl
          refine pure_ (i := 4) (N := some 189) (v := ?_) (a' := ?_) #[true, true, true, true, true, false, false, false, false, false, false, false, false, false, false, false, false, false, false, false, false, false, false] rfl rfl (any_of HT_.out (by kernel_rfl)) (fun _ _ _ h => h) (Or.inl ⟨by rfl, ?_⟩) ?_ ?_
          rotate_left
          · intro w'
            go_simp
            with_reducible rfl
          rotate_left
          · simp only [Act.put, List.setIfInBounds_toArray, List.set_cons_zero, List.set_cons_succ, i64_w, i32_w]
            rfl
          refine take_ (i := 5) (N := some 190) (v := ?_) (a' := ?_) #[true, true, true, true, true, true, false, false, false, false, false, false, false, false, false, false, false, false, false, false, false, false, false] rfl rfl (take_ofW HT_.out HW_.out (by kernel_rfl)) (fun _ _ _ h => h) (Or.inl ⟨by rfl, ?_⟩) hHeld ?_ ?_
          rotate_left
          · rintro w' ⟨s0, s1, s2, s3, s4⟩
            go_simp
            with_reducible rfl
          rotate_left
          · simp only [Act.put, List.setIfInBounds_toArray, List.set_cons_zero, List.set_cons_succ, i64_w, i32_w]
            rfl
          refine one_ (i := 6) (N := some 191) #[true, true, true, true, true, true, true, false, false, false, false, false, false, false, false, false, false, false, false, false, false, false, false] rfl rfl (one_of HT_.out (by kernel_rfl)) (by decide) (fun K hK => ?_)
          refine goes_ Try.func40 (by kernel_rfl) rfl #[.agg #[.slice A2_0 l2_0.length c2_0, .slice A2_1 l2_1.length c2_1, .slice A2_2 l2_2.length c2_2], .slice none 0 0] (by rfl) rfl rfl (by (try simp only [List.map_toArray, List.map_cons, List.map_nil]); first | done | rfl | (simp only [List.length_drop, List.length_take]; rfl)) ?_
          refine (impl_Quorum.calls k2 _ _ l2_0 _ _ l2_1 _ _ l2_2 _ _ ([] : List Int) false _ ?side1 ?side2 ?side3 ?side4 ?side5 ?side6 ?side7 ?side8 A77.out).mono ?_
          (case side1 => repeat (first | exact (Kd.C_below HR2_0.out HB.out) | (with_reducible refine Kd.C_alloc ?_ _) | (with_reducible refine Kd.C_drewN ?_ _) | (with_reducible refine Kd.C_drew ?_)))
          (case side2 => exact HC2_0.out)
          (case side3 => repeat (first | exact (Kd.C_below HR2_1.out HB.out) | (with_reducible refine Kd.C_alloc ?_ _) | (with_reducible refine Kd.C_drewN ?_ _) | (with_reducible refine Kd.C_drew ?_)))
          (case side4 => exact HC2_1.out)
          (case side5 => repeat (first | exact (Kd.C_below HR2_2.out HB.out) | (with_reducible refine Kd.C_alloc ?_ _) | (with_reducible refine Kd.C_drewN ?_ _) | (with_reducible refine Kd.C_drew ?_)))
          (case side6 => exact HC2_2.out)
          (case side7 => exact Kd.C_nil _ _)
          (case side8 => exact Nat.le_refl _)
          rintro e w86 ⟨rfl, hb⟩
          have HS3_ := (hb.cell (World.block_lt_of_cell? _ _ (hHeld.2.2.2.1))).trans (hHeld.2.2.2.1)
          have HS4_ := (hb.cell (World.block_lt_of_cell? _ _ (hHeld.2.2.2.2))).trans (hHeld.2.2.2.2)
          refine ⟨_, rfl, ?_⟩
          have n0_ := Aside0.mk (Kd.S_below (by (with_reducible repeat (first | apply Kd.S_alloc | apply Kd.S_drewN | apply Kd.S_drew)); exact HO_10.out) hb)
          have n1_ := Aside0.mk (Kd.R_below (by (with_reducible repeat (first | apply Kd.R_alloc | apply Kd.R_drewN | apply Kd.R_drew)); exact HO631.out) hb)
          have n2_ := Aside0.mk (blk_below (g := gb591) (o := .cells #[.slice A2_0 l2_0.length c2_0, .slice A2_1 l2_1.length c2_1, .slice A2_2 l2_2.length c2_2] 26 (0, 0)) (by (with_reducible repeat (first | refine blk_drewN ?_ _ | refine blk_drew ?_ | refine blk_alloc ?_ _)); exact BK591.out) hb)
          have n3_ := Aside0.mk (below_step (by repeat (first | (with_reducible first | exact HB.out | apply below_alloc | apply pw_below_drewN | apply below_drew1) | exact HB.out)) hb)
          clear HO_10
          clear HO631
          clear BK591
          clear HB
          have HO_10 := n0_
          have HO631 := n1_
          have BK591 := n2_
          have HB := n3_
          clear n0_ n1_ n2_ n3_
          replace HR634_0 := Aside0.mk (Kd.C_below (Kd.C_below HR634_0.out (by repeat (first | (with_reducible exact Below.refl _ _) | (with_reducible refine pw_below_drewN ?_ _) | (with_reducible refine below_drew1 ?_) | (with_reducible refine below_alloc ?_ _)))) hb)
          replace HR636_0 := Aside0.mk (Kd.C_below (Kd.C_below HR636_0.out (by repeat (first | (with_reducible exact Below.refl _ _) | (with_reducible refine pw_below_drewN ?_ _) | (with_reducible refine below_drew1 ?_) | (with_reducible refine below_alloc ?_ _)))) hb)
          (try clear hb)
          (try clear hb2)
          (try clear hk)
          (try clear hi)
          obtain ⟨Ao87, co87, eo87⟩ := Kd.S_slice HO_10.out
          (first | subst eo87 | (injection eo87 with f1_ f2_ f3_; have f4_ := f1_.symm; have f5_ := f3_.symm; clear f1_ f2_ f3_; subst f4_; subst f5_))
          refine hK.out _ _ ⟨(blk_cell BK591.out 0).trans rfl, (blk_cell BK591.out 1).trans rfl, (blk_cell BK591.out 2).trans rfl, HS3_, HS4_⟩ (fun hHeld => ?_)
          clear hK K
          refine norm_ (a' := ?_) ?_ ?_
          rotate_left
          · show Act.put _ (some 191) _ = _
            simp only [Act.put, List.setIfInBounds_toArray, List.set_cons_zero, List.set_cons_succ, i64_w, i32_w]
            rfl
          refine pure_ (i := 7) (N := some 192) (v := ?_) (a' := ?_) #[true, true, true, true, true, true, true, true, false, false, false, false, false, false, false, false, false, false, false, false, false, false, false] rfl rfl (any_of HT_.out (by kernel_rfl)) (fun _ _ _ h => h) (Or.inl ⟨by rfl, ?_⟩) ?_ ?_
          rotate_left
          · intro w'
            go_simp
            with_reducible rfl
          rotate_left
          · simp only [Act.put, List.setIfInBounds_toArray, List.set_cons_zero, List.set_cons_succ, i64_w, i32_w]
            rfl
          refine pure_ (i := 8) (N := some 193) (v := ?_) (a' := ?_) #[true, true, true, true, true, true, true, true, true, false, false, false, false, false, false, false, false, false, false, false, false, false, false] rfl rfl (any_of HT_.out (by kernel_rfl)) (fun _ _ _ h => h) (Or.inl ⟨by rfl, ?_⟩) ?_ ?_
          rotate_left
          · intro w'
            go_simp
            with_reducible rfl
          rotate_left
          · simp only [Act.put, List.setIfInBounds_toArray, List.set_cons_zero, List.set_cons_succ, i64_w, i32_w]
            rfl
          refine pure_ (i := 9) (N := some 194) (v := ?_) (a' := ?_) #[true, true, true, true, true, true, true, true, true, true, false, false, false, false, false, false, false, false, false, false, false, false, false] rfl rfl (any_of HT_.out (by kernel_rfl)) (fun _ _ _ h => h) (Or.inl ⟨by rfl, ?_⟩) ?_ ?_
          rotate_left
          · intro w'
            go_simp
            with_reducible rfl
          rotate_left
          · simp only [Act.put, List.setIfInBounds_toArray, List.set_cons_zero, List.set_cons_succ, i64_w, i32_w]
            rfl
          refine pure_ (i := 11) (N := some 196) (v := ?_) (a' := ?_) #[true, true, true, true, true, true, true, true, true, true, false, true, false, false, false, false, false, false, false, false, false, false, false] rfl rfl (any_of HT_.out (by kernel_rfl)) (fun _ _ _ h => h) (Or.inl ⟨by rfl, ?_⟩) ?_ ?_
          rotate_left
          · intro w'
            go_simp
            with_reducible rfl
          rotate_left
          · simp only [Act.put, List.setIfInBounds_toArray, List.set_cons_zero, List.set_cons_succ, i64_w, i32_w]
            rfl
          refine pure_ (i := 12) (N := some 197) (v := ?_) (a' := ?_) #[true, true, true, true, true, true, true, true, true, true, false, true, true, false, false, false, false, false, false, false, false, false, false] rfl rfl (any_of HT_.out (by kernel_rfl)) (fun _ _ _ h => h) (Or.inl ⟨by rfl, ?_⟩) ?_ ?_
          rotate_left
          · intro w'
            go_simp
            with_reducible rfl
          rotate_left
          · simp only [Act.put, List.setIfInBounds_toArray, List.set_cons_zero, List.set_cons_succ, i64_w, i32_w]
            rfl
          refine pure_ (i := 16) (N := some 201) (v := ?_) (a' := ?_) #[true, true, true, true, true, true, true, true, true, true, false, true, true, false, false, false, true, false, false, false, false, false, false] rfl rfl (any_of HT_.out (by kernel_rfl)) (fun _ _ _ h => h) (Or.inl ⟨by rfl, ?_⟩) ?_ ?_
          rotate_left
          · intro w'
            go_simp
            with_reducible rfl
          rotate_left
          · simp only [Act.put, List.setIfInBounds_toArray, List.set_cons_zero, List.set_cons_succ, i64_w, i32_w]
            rfl
          refine pure_ (i := 17) (N := some 202) (v := ?_) (a' := ?_) #[true, true, true, true, true, true, true, true, true, true, false, true, true, false, false, false, true, true, false, false, false, false, false] rfl rfl (any_of HT_.out (by kernel_rfl)) (fun _ _ _ h => h) (Or.inl ⟨by rfl, ?_⟩) ?_ ?_
          rotate_left
          · intro w'
            go_simp
            with_reducible rfl
          rotate_left
          · simp only [Act.put, List.setIfInBounds_toArray, List.set_cons_zero, List.set_cons_succ, i64_w, i32_w]
            rfl
          refine take_ (i := 10) (N := some 195) (v := ?_) (a' := ?_) #[true, true, true, true, true, true, true, true, true, true, true, true, true, false, false, false, true, true, false, false, false, false, false] rfl rfl (take_ofW HT_.out HW_.out (by kernel_rfl)) (fun _ _ _ h => h) (Or.inl ⟨by rfl, ?_⟩) hHeld ?_ ?_
          rotate_left
          · rintro w' ⟨s0, s1, s2, s3, s4⟩
            go_simp
            with_reducible rfl
          rotate_left
          · simp only [Act.put, List.setIfInBounds_toArray, List.set_cons_zero, List.set_cons_succ, i64_w, i32_w]
            rfl
          refine take_ (i := 13) (N := some 198) (v := ?_) (a' := ?_) #[true, true, true, true, true, true, true, true, true, true, true, true, true, true, false, false, true, true, false, false, false, false, false] rfl rfl (take_ofW HT_.out HW_.out (by kernel_rfl)) (fun _ _ _ h => h) (Or.inl ⟨by rfl, ?_⟩) hHeld ?_ ?_
          rotate_left
          · rintro w' ⟨s0, s1, s2, s3, s4⟩
            go_simp
            with_reducible rfl
          rotate_left
          · simp only [Act.put, List.setIfInBounds_toArray, List.set_cons_zero, List.set_cons_succ, i64_w, i32_w]
            rfl
          refine take_ (i := 15) (N := some 200) (v := ?_) (a' := ?_) #[true, true, true, true, true, true, true, true, true, true, true, true, true, true, false, true, true, true, false, false, false, false, false] rfl rfl (take_ofW HT_.out HW_.out (by kernel_rfl)) (fun _ _ _ h => h) (Or.inl ⟨by rfl, ?_⟩) hHeld ?_ ?_
          rotate_left
          · rintro w' ⟨s0, s1, s2, s3, s4⟩
            go_simp
            with_reducible rfl
          rotate_left
          · simp only [Act.put, List.setIfInBounds_toArray, List.set_cons_zero, List.set_cons_succ, i64_w, i32_w]
            rfl
          refine take_ (i := 18) (N := some 203) (v := ?_) (a' := ?_) #[true, true, true, true, true, true, true, true, true, true, true, true, true, true, false, true, true, true, true, false, false, false, false] rfl rfl (take_ofW HT_.out HW_.out (by kernel_rfl)) (fun _ _ _ h => h) (Or.inl ⟨by rfl, ?_⟩) hHeld ?_ ?_
          rotate_left
          · rintro w' ⟨s0, s1, s2, s3, s4⟩
            go_simp
            with_reducible rfl
          rotate_left
          · simp only [Act.put, List.setIfInBounds_toArray, List.set_cons_zero, List.set_cons_succ, i64_w, i32_w]
            rfl
          refine one_ (i := 14) (N := some 199) #[true, true, true, true, true, true, true, true, true, true, true, true, true, true, true, true, true, true, true, false, false, false, false] rfl rfl (one_of HT_.out (by kernel_rfl)) (by decide) (fun K hK => ?_)
          refine goes_ Try.func40 (by kernel_rfl) rfl #[.agg #[.slice A2_0 l2_0.length c2_0, .slice A2_1 l2_1.length c2_1, .slice A2_2 l2_2.length c2_2], .slice A634_0 (rd_L2 x10_1 3).length c634_0] (by rfl) rfl rfl (by (try simp only [List.map_toArray, List.map_cons, List.map_nil]); first | done | rfl | (simp only [List.length_drop, List.length_take]; rfl)) ?_
          with_reducible refine (impl_Quorum.calls k2 _ _ l2_0 _ _ l2_1 _ _ l2_2 _ _ (rd_L2 x10_1 3) t635 _ ?side1 ?side2 ?side3 ?side4 ?side5 ?side6 ?side7 ?side8 A80.out).mono ?_
          (case side1 => repeat (first | exact (Kd.C_below HR2_0.out HB.out) | (with_reducible refine Kd.C_alloc ?_ _) | (with_reducible refine Kd.C_drewN ?_ _) | (with_reducible refine Kd.C_drew ?_)))
          (case side2 => exact HC2_0.out)
          (case side3 => repeat (first | exact (Kd.C_below HR2_1.out HB.out) | (with_reducible refine Kd.C_alloc ?_ _) | (with_reducible refine Kd.C_drewN ?_ _) | (with_reducible refine Kd.C_drew ?_)))
          (case side4 => exact HC2_1.out)
          (case side5 => repeat (first | exact (Kd.C_below HR2_2.out HB.out) | (with_reducible refine Kd.C_alloc ?_ _) | (with_reducible refine Kd.C_drewN ?_ _) | (with_reducible refine Kd.C_drew ?_)))
          (case side6 => exact HC2_2.out)
          (case side7 => repeat (first | exact (by repeat (first | (with_reducible exact HR634_0.out) | (with_reducible refine Kd.C_alloc ?_ _) | (with_reducible refine Kd.C_drewN ?_ _) | (with_reducible refine Kd.C_drew ?_) | exact HR634_0.out)) | (with_reducible refine Kd.C_alloc ?_ _) | (with_reducible refine Kd.C_drewN ?_ _) | (with_reducible refine Kd.C_drew ?_)))
          (case side8 => exact HC634_0.out)
          rintro e w88 ⟨rfl, hb⟩
          have HS3_ := (hb.cell (World.block_lt_of_cell? _ _ (hHeld.2.2.2.1))).trans (hHeld.2.2.2.1)
          have HS4_ := (hb.cell (World.block_lt_of_cell? _ _ (hHeld.2.2.2.2))).trans (hHeld.2.2.2.2)
          refine ⟨_, rfl, ?_⟩
          have n0_ := Aside0.mk (Kd.S_below (by (with_reducible repeat (first | apply Kd.S_alloc | apply Kd.S_drewN | apply Kd.S_drew)); exact HO_10.out) hb)
          have n1_ := Aside0.mk (Kd.R_below (by (with_reducible repeat (first | apply Kd.R_alloc | apply Kd.R_drewN | apply Kd.R_drew)); exact HO631.out) hb)
          have n2_ := trivial
          have n3_ := Aside0.mk (blk_below (g := gb591) (o := .cells #[.slice A2_0 l2_0.length c2_0, .slice A2_1 l2_1.length c2_1, .slice A2_2 l2_2.length c2_2] 26 (0, 0)) (by (with_reducible repeat (first | refine blk_drewN ?_ _ | refine blk_drew ?_ | refine blk_alloc ?_ _)); exact BK591.out) hb)
          have n4_ := Aside0.mk (Kd.C_below (Kd.C_below HR634_0.out (by repeat (first | (with_reducible exact Below.refl _ _) | (with_reducible refine pw_below_drewN ?_ _) | (with_reducible refine below_drew1 ?_) | (with_reducible refine below_alloc ?_ _)))) hb)
          have n5_ := Aside0.mk (below_step (by repeat (first | (with_reducible first | exact HB.out | apply below_alloc | apply pw_below_drewN | apply below_drew1) | exact HB.out)) hb)
          clear HO_10
          clear HO631
          clear HL634_0
          clear BK591
          clear HR634_0
          clear HB
          have HO_10 := n0_
          have HO631 := n1_
          have HL634_0 := n2_
          have BK591 := n3_
          have HR634_0 := n4_
          have HB := n5_
          clear n0_ n1_ n2_ n3_ n4_ n5_
          replace HR636_0 := Aside0.mk (Kd.C_below (Kd.C_below HR636_0.out (by repeat (first | (with_reducible exact Below.refl _ _) | (with_reducible refine pw_below_drewN ?_ _) | (with_reducible refine below_drew1 ?_) | (with_reducible refine below_alloc ?_ _)))) hb)
          (try clear hb)
          (try clear hb2)
          (try clear hk)
          (try clear hi)
          refine hK.out _ _ ⟨(blk_cell BK591.out 0).trans rfl, (blk_cell BK591.out 1).trans rfl, (blk_cell BK591.out 2).trans rfl, HS3_, HS4_⟩ (fun hHeld => ?_)
          clear hK K
          refine norm_ (a' := ?_) ?_ ?_
          rotate_left
          · show Act.put _ (some 199) _ = _
            simp only [Act.put, List.setIfInBounds_toArray, List.set_cons_zero, List.set_cons_succ, i64_w, i32_w]
            rfl
          refine one_ (i := 19) (N := some 204) #[true, true, true, true, true, true, true, true, true, true, true, true, true, true, true, true, true, true, true, true, false, false, false] rfl rfl (one_of HT_.out (by kernel_rfl)) (by decide) (fun K hK => ?_)
          refine goes_ Try.func42 (by kernel_rfl) rfl #[.agg #[.slice A2_0 l2_0.length c2_0, .slice A2_1 l2_1.length c2_1, .slice A2_2 l2_2.length c2_2], .slice A634_0 (rd_L2 x10_1 3).length c634_0] (by rfl) rfl rfl (by (try simp only [List.map_toArray, List.map_cons, List.map_nil]); first | done | rfl | (simp only [List.length_drop, List.length_take]; rfl)) ?_
          with_reducible refine (spec_Quorum.calls k2 _ _ l2_0 _ _ l2_1 _ _ l2_2 _ _ (rd_L2 x10_1 3) t637 _ ?side1 ?side2 ?side3 ?side4 ?side5 ?side6 ?side7 ?side8 A81.out).mono ?_
          (case side1 => repeat (first | exact (Kd.C_below HR2_0.out HB.out) | (with_reducible refine Kd.C_alloc ?_ _) | (with_reducible refine Kd.C_drewN ?_ _) | (with_reducible refine Kd.C_drew ?_)))
          (case side2 => exact HC2_0.out)
          (case side3 => repeat (first | exact (Kd.C_below HR2_1.out HB.out) | (with_reducible refine Kd.C_alloc ?_ _) | (with_reducible refine Kd.C_drewN ?_ _) | (with_reducible refine Kd.C_drew ?_)))
          (case side4 => exact HC2_1.out)
          (case side5 => repeat (first | exact (Kd.C_below HR2_2.out HB.out) | (with_reducible refine Kd.C_alloc ?_ _) | (with_reducible refine Kd.C_drewN ?_ _) | (with_reducible refine Kd.C_drew ?_)))
          (case side6 => exact HC2_2.out)
          (case side7 => repeat (first | exact (by repeat (first | (with_reducible exact HR636_0.out) | (with_reducible refine Kd.C_alloc ?_ _) | (with_reducible refine Kd.C_drewN ?_ _) | (with_reducible refine Kd.C_drew ?_) | exact HR636_0.out)) | (with_reducible refine Kd.C_alloc ?_ _) | (with_reducible refine Kd.C_drewN ?_ _) | (with_reducible refine Kd.C_drew ?_)))
          (case side8 => exact HC636_0.out)
          rintro e w89 ⟨rfl, hb⟩
          have HS3_ := (hb.cell (World.block_lt_of_cell? _ _ (hHeld.2.2.2.1))).trans (hHeld.2.2.2.1)
          have HS4_ := (hb.cell (World.block_lt_of_cell? _ _ (hHeld.2.2.2.2))).trans (hHeld.2.2.2.2)
          refine ⟨_, rfl, ?_⟩
          have n0_ := Aside0.mk (Kd.S_below (by (with_reducible repeat (first | apply Kd.S_alloc | apply Kd.S_drewN | apply Kd.S_drew)); exact HO_10.out) hb)
          have n1_ := Aside0.mk (Kd.R_below (by (with_reducible repeat (first | apply Kd.R_alloc | apply Kd.R_drewN | apply Kd.R_drew)); exact HO631.out) hb)
          have n2_ := trivial
          have n3_ := trivial
          have n4_ := Aside0.mk (blk_below (g := gb591) (o := .cells #[.slice A2_0 l2_0.length c2_0, .slice A2_1 l2_1.length c2_1, .slice A2_2 l2_2.length c2_2] 26 (0, 0)) (by (with_reducible repeat (first | refine blk_drewN ?_ _ | refine blk_drew ?_ | refine blk_alloc ?_ _)); exact BK591.out) hb)
          have n5_ := Aside0.mk (Kd.C_below (Kd.C_below HR634_0.out (by repeat (first | (with_reducible exact Below.refl _ _) | (with_reducible refine pw_below_drewN ?_ _) | (with_reducible refine below_drew1 ?_) | (with_reducible refine below_alloc ?_ _)))) hb)
          have n6_ := Aside0.mk (Kd.C_below (Kd.C_below HR636_0.out (by repeat (first | (with_reducible exact Below.refl _ _) | (with_reducible refine pw_below_drewN ?_ _) | (with_reducible refine below_drew1 ?_) | (with_reducible refine below_alloc ?_ _)))) hb)
          have n7_ := Aside0.mk (below_step (by repeat (first | (with_reducible first | exact HB.out | apply below_alloc | apply pw_below_drewN | apply below_drew1) | exact HB.out)) hb)
          clear HO_10
          clear HO631
          clear HL634_0
          clear HL636_0
          clear BK591
          clear HR634_0
          clear HR636_0
          clear HB
          have HO_10 := n0_
          have HO631 := n1_
          have HL634_0 := n2_
          have HL636_0 := n3_
          have BK591 := n4_
          have HR634_0 := n5_
          have HR636_0 := n6_
          have HB := n7_
          clear n0_ n1_ n2_ n3_ n4_ n5_ n6_ n7_
          (try clear hb)
          (try clear hb2)
          (try clear hk)
          (try clear hi)
          refine hK.out _ _ ⟨(blk_cell BK591.out 0).trans rfl, (blk_cell BK591.out 1).trans rfl, (blk_cell BK591.out 2).trans rfl, HS3_, HS4_⟩ (fun hHeld => ?_)
          clear hK K
          refine norm_ (a' := ?_) ?_ ?_
          rotate_left
          · show Act.put _ (some 204) _ = _
            simp only [Act.put, List.setIfInBounds_toArray, List.set_cons_zero, List.set_cons_succ, i64_w, i32_w]
            rfl
          refine pure_ (i := 20) (N := some 205) (v := ?_) (a' := ?_) #[true, true, true, true, true, true, true, true, true, true, true, true, true, true, true, true, true, true, true, true, true, false, false] rfl rfl (any_of HT_.out (by kernel_rfl)) (fun _ _ _ h => h) (Or.inl ⟨by rfl, ?_⟩) ?_ ?_
          rotate_left
          · intro w'
            go_simp
            with_reducible rfl
          rotate_left
          · simp only [Act.put, List.setIfInBounds_toArray, List.set_cons_zero, List.set_cons_succ, i64_w, i32_w]
            rfl
          refine pure_ (i := 21) (N := some 206) (v := ?_) (a' := ?_) #[true, true, true, true, true, true, true, true, true, true, true, true, true, true, true, true, true, true, true, true, true, true, false] rfl rfl (any_of HT_.out (by kernel_rfl)) (fun _ _ _ h => h) (Or.inl ⟨by rfl, ?_⟩) ?_ ?_
          rotate_left
          · intro w'
            go_simp
            with_reducible rfl
          rotate_left
          · simp only [Act.put, List.setIfInBounds_toArray, List.set_cons_zero, List.set_cons_succ, i64_w, i32_w]
            rfl
          refine pure_ (i := 22) (N := some 2) (v := ?_) (a' := ?_) #[true, true, true, true, true, true, true, true, true, true, true, true, true, true, true, true, true, true, true, true, true, true, true] rfl rfl (any_of HT_.out (by kernel_rfl)) (fun _ _ _ h => h) (Or.inl ⟨by rfl, ?_⟩) ?_ ?_
          rotate_left
          · intro w'
            go_simp
            with_reducible rfl
          rotate_left
          · simp only [Act.put, List.setIfInBounds_toArray, List.set_cons_zero, List.set_cons_succ, i64_w, i32_w]
            rfl
          refine done_ (done_of HT_.out (by kernel_rfl)) ?_
          try go_wp2
          go_ret
          exact ⟨by first | rfl | (simp [errW_none, errW_some] <;> rfl) | (simp [*, errW_none, errW_some] <;> rfl), HBO.out.trans (Below.mono (show Below w8.heap.size w8 _ from by repeat (first | (with_reducible first | exact HB.out | apply below_alloc | apply pw_below_drewN | apply below_drew1) | exact HB.out)) (below_size HBO.out))⟩
        rw [if_pos c25] at H
        have c25b0 : decide (x14_2 < 3) = true := decide_eq_true c25
        clear c25
        have H' := Aside0.mk H
        clear H
        go_wp2
        go_loopg [15] k2 (fun kq v15 w' => ∃ (x15_3 : Int), v15 = .int .i64 x15_3 ∧ Aside0 (laws_FnQuorums.l3 kq l1 x10_1 x14_2 x15_3 l2_0 l2_1 l2_2 = some r) ∧ Aside0 (kq ≤ k2) ∧ Aside0 (Kd.S (Kd.slice 3 (Kd.int .i64)) 24 w' w8.heap.size (fun _ => True) u10 x10_1) ∧ Aside0 (w'.heap[gb591]? = some (.cells #[(.slice A2_0 l2_0.length c2_0), (.slice A2_1 l2_1.length c2_1), (.slice A2_2 l2_2.length c2_2)] 26 (0, 0))) ∧ Aside0 (Below w8.heap.size w8 w'))
        case atStart => exact ⟨(0), (by first | rfl | (simp; done) | (simp [*]; done)), H', ⟨Nat.le_refl _⟩, ⟨by (with_reducible repeat (first | apply Kd.S_alloc | apply Kd.S_drewN | apply Kd.S_drew)); exact HO_10.out⟩, ⟨by (with_reducible repeat (first | refine blk_drewN ?_ _ | refine blk_drew ?_ | refine blk_alloc ?_ _)); exact BK591.out⟩, ⟨by repeat (first | (with_reducible first | exact HB.out | apply below_alloc | apply pw_below_drewN | apply below_drew1) | exact HB.out)⟩⟩
        clear H'
        try clear p6
        try clear c8
        try clear c8b0
        try clear c11
        try clear c11b0
        try clear c14
        try clear c14b0
        try clear c14b1
        try clear c16
        try clear c16b0
        try clear c16b1
        try clear c17
        try clear c19
        try clear c19b0
        try clear c19b1
        try clear c20
        try clear c22
        try clear c25
        try clear c25b0
        try clear p6
        obtain ⟨x15_3, rfl, HA, HK3, HO_10, BK591, HB⟩ := hrel
        cases gk with
        | zero => exact absurd HA.out (by simp [laws_FnQuorums.l3])
        | succ k3 =>
          have H := HA.out
          clear HA
          simp only [laws_FnQuorums.l3] at H
          as_aux_lemma =>
           by_cases c26 : x15_3 < 4
           rotate_left
           · rw [if_neg c26] at H
             have c26b0 : decide (x15_3 < 4) = false := decide_eq_false c26
             clear c26
             have H' := Aside0.mk H
             clear H
             go_wp2
             go_roundg k3
             case measure => have := HK1.out; have := HK2.out; have := HK3.out; omega
             case rel => exact ⟨(wrap64 (x14_2 + 1)), (by first | rfl | (simp; done) | (simp [*]; done)), H', ⟨by have := HK1.out; have := HK2.out; have := HK3.out; omega⟩, ⟨by (with_reducible repeat (first | apply Kd.S_alloc | apply Kd.S_drewN | apply Kd.S_drew)); exact HO_10.out⟩, ⟨by (with_reducible repeat (first | refine blk_drewN ?_ _ | refine blk_drew ?_ | refine blk_alloc ?_ _)); exact BK591.out⟩, ⟨by repeat (first | (with_reducible first | exact HB.out | apply below_alloc | apply pw_below_drewN | apply below_drew1) | exact HB.out)⟩⟩
           rw [if_pos c26] at H
           have c26b0 : decide (x15_3 < 4) = true := decide_eq_true c26
           clear c26
           have H' := Aside0.mk H
           clear H
           go_wp2
           go_loopg [16] k3 (fun kq v16 w' => ∃ (x16_4 : Int), v16 = .int .i64 x16_4 ∧ Aside0 (laws_FnQuorums.l4 kq l1 x10_1 x14_2 x15_3 x16_4 l2_0 l2_1 l2_2 = some r) ∧ Aside0 (kq ≤ k3) ∧ Aside0 (Kd.S (Kd.slice 3 (Kd.int .i64)) 24 w' w8.heap.size (fun _ => True) u10 x10_1) ∧ Aside0 (w'.heap[gb591]? = some (.cells #[(.slice A2_0 l2_0.length c2_0), (.slice A2_1 l2_1.length c2_1), (.slice A2_2 l2_2.length c2_2)] 26 (0, 0))) ∧ Aside0 (Below w8.heap.size w8 w'))
           case atStart => exact ⟨(0), (by first | rfl | (simp; done) | (simp [*]; done)), H', ⟨Nat.le_refl _⟩, ⟨by (with_reducible repeat (first | apply Kd.S_alloc | apply Kd.S_drewN | apply Kd.S_drew)); exact HO_10.out⟩, ⟨by (with_reducible repeat (first | refine blk_drewN ?_ _ | refine blk_drew ?_ | refine blk_alloc ?_ _)); exact BK591.out⟩, ⟨by repeat (first | (with_reducible first | exact HB.out | apply below_alloc | apply pw_below_drewN | apply below_drew1) | exact HB.out)⟩⟩
           clear H'
           try clear p6
           try clear c8
           try clear c8b0
           try clear c11
           try clear c11b0
           try clear c14
           try clear c14b0
           try clear c14b1
           try clear c16
           try clear c16b0
           try clear c16b1
           try clear c17
           try clear c19
           try clear c19b0
           try clear c19b1
           try clear c20
           try clear c22
           try clear c25
           try clear c25b0
           try clear c26
           try clear c26b0
           try clear p6
           obtain ⟨x16_4, rfl, HA, HK4, HO_10, BK591, HB⟩ := hrel
           cases gk with
           | zero => exact absurd HA.out (by simp [laws_FnQuorums.l4])
           | succ k4 =>
             have H := HA.out
             clear HA
             simp only [laws_FnQuorums.l4] at H
             by_cases c27 : x16_4 < 4
             rotate_left
             · rw [if_neg c27] at H
               have c27b0 : decide (x16_4 < 4) = false := decide_eq_false c27
               clear c27
               have H' := Aside0.mk H
               clear H
               go_wp2
               go_roundg k4
               case measure => have := HK1.out; have := HK2.out; have := HK3.out; have := HK4.out; omega
               case rel => exact ⟨(wrap64 (x15_3 + 1)), (by first | rfl | (simp; done) | (simp [*]; done)), H', ⟨by have := HK1.out; have := HK2.out; have := HK3.out; have := HK4.out; omega⟩, ⟨by (with_reducible repeat (first | apply Kd.S_alloc | apply Kd.S_drewN | apply Kd.S_drew)); exact HO_10.out⟩, ⟨by (with_reducible repeat (first | refine blk_drewN ?_ _ | refine blk_drew ?_ | refine blk_alloc ?_ _)); exact BK591.out⟩, ⟨by repeat (first | (with_reducible first | exact HB.out | apply below_alloc | apply pw_below_drewN | apply below_drew1) | exact HB.out)⟩⟩
             rw [if_pos c27] at H
             have c27b0 : decide (x16_4 < 4) = true := decide_eq_true c27
             clear c27
             have H' := Aside0.mk H
             clear H
             go_wp2
             go_loopg [17] k4 (fun kq v17 w' => ∃ (x17_5 : Int), v17 = .int .i64 x17_5 ∧ Aside0 (laws_FnQuorums.l5 kq l1 x10_1 x14_2 x15_3 x16_4 x17_5 l2_0 l2_1 l2_2 = some r) ∧ Aside0 (kq ≤ k4) ∧ Aside0 (Kd.S (Kd.slice 3 (Kd.int .i64)) 24 w' w8.heap.size (fun _ => True) u10 x10_1) ∧ Aside0 (w'.heap[gb591]? = some (.cells #[(.slice A2_0 l2_0.length c2_0), (.slice A2_1 l2_1.length c2_1), (.slice A2_2 l2_2.length c2_2)] 26 (0, 0))) ∧ Aside0 (Below w8.heap.size w8 w'))
             case atStart => exact ⟨(x14_2), (by first | rfl | (simp; done) | (simp [*]; done)), H', ⟨Nat.le_refl _⟩, ⟨by (with_reducible repeat (first | apply Kd.S_alloc | apply Kd.S_drewN | apply Kd.S_drew)); exact HO_10.out⟩, ⟨by (with_reducible repeat (first | refine blk_drewN ?_ _ | refine blk_drew ?_ | refine blk_alloc ?_ _)); exact BK591.out⟩, ⟨by repeat (first | (with_reducible first | exact HB.out | apply below_alloc | apply pw_below_drewN | apply below_drew1) | exact HB.out)⟩⟩
             clear H'
             try clear p6
             try clear c8
             try clear c8b0
             try clear c11
             try clear c11b0
             try clear c14
             try clear c14b0
             try clear c14b1
             try clear c16
             try clear c16b0
             try clear c16b1
             try clear c17
             try clear c19
             try clear c19b0
             try clear c19b1
             try clear c20
             try clear c22
             try clear c25
             try clear c25b0
             try clear c26
             try clear c26b0
             try clear c27
             try clear c27b0
             try clear p6
             obtain ⟨x17_5, rfl, HA, HK5, HO_10, BK591, HB⟩ := hrel
             cases gk with
             | zero => exact absurd HA.out (by simp [laws_FnQuorums.l5])
             | succ k5 =>
               have H := HA.out
               clear HA
               simp only [laws_FnQuorums.l5] at H
               by_cases c28 : x17_5 < 3
               rotate_left
               · rw [if_neg c28] at H
                 have c28b0 : decide (x17_5 < 3) = false := decide_eq_false c28
                 clear c28
                 have H' := Aside0.mk H
                 clear H
                 go_wp2
                 go_roundg k5
                 case measure => have := HK1.out; have := HK2.out; have := HK3.out; have := HK4.out; have := HK5.out; omega
                 case rel => exact ⟨(wrap64 (x16_4 + 1)), (by first | rfl | (simp; done) | (simp [*]; done)), H', ⟨by have := HK1.out; have := HK2.out; have := HK3.out; have := HK4.out; have := HK5.out; omega⟩, ⟨by (with_reducible repeat (first | apply Kd.S_alloc | apply Kd.S_drewN | apply Kd.S_drew)); exact HO_10.out⟩, ⟨by (with_reducible repeat (first | refine blk_drewN ?_ _ | refine blk_drew ?_ | refine blk_alloc ?_ _)); exact BK591.out⟩, ⟨by repeat (first | (with_reducible first | exact HB.out | apply below_alloc | apply pw_below_drewN | apply below_drew1) | exact HB.out)⟩⟩
               rw [if_pos c28] at H
               have c28b0 : decide (x17_5 < 3) = true := decide_eq_true c28
               clear c28
               by_cases c29 : x17_5 ≤ (wrap64 (x14_2 + 1))
               rotate_left
               · rw [if_neg c29] at H
                 have c29b0 : decide (x17_5 ≤ (wrap64 (x14_2 + 1))) = false := decide_eq_false c29
                 clear c29
                 have H' := Aside0.mk H
                 clear H
                 go_wp2
                 go_roundg k5
                 case measure => have := HK1.out; have := HK2.out; have := HK3.out; have := HK4.out; have := HK5.out; omega
                 case rel => exact ⟨(wrap64 (x16_4 + 1)), (by first | rfl | (simp; done) | (simp [*]; done)), H', ⟨by have := HK1.out; have := HK2.out; have := HK3.out; have := HK4.out; have := HK5.out; omega⟩, ⟨by (with_reducible repeat (first | apply Kd.S_alloc | apply Kd.S_drewN | apply Kd.S_drew)); exact HO_10.out⟩, ⟨by (with_reducible repeat (first | refine blk_drewN ?_ _ | refine blk_drew ?_ | refine blk_alloc ?_ _)); exact BK591.out⟩, ⟨by repeat (first | (with_reducible first | exact HB.out | apply below_alloc | apply pw_below_drewN | apply below_drew1) | exact HB.out)⟩⟩
               rw [if_pos c29] at H
               have c29b0 : decide (x17_5 ≤ (wrap64 (x14_2 + 1))) = true := decide_eq_true c29
               clear c29
               by_cases c30 : 0 ≤ x14_2
               rotate_left
               · rw [if_neg c30] at H
                 exact absurd H (by simp)
               rw [if_pos c30] at H
               have c30b0 : decide (0 ≤ x14_2) = true := decide_eq_true c30
               clear c30
               by_cases c31 : x14_2 < (l1.length : Int)
               rotate_left
               · rw [if_neg c31] at H
                 exact absurd H (by simp)
               rw [if_pos c31] at H
               have c31b0 : decide (x14_2 < (l1.length : Int)) = true := decide_eq_true c31
               clear c31
               by_cases c32 : 0 ≤ x15_3
               rotate_left
               · rw [if_neg c32] at H
                 exact absurd H (by simp)
               rw [if_pos c32] at H
               have c32b0 : decide (0 ≤ x15_3) = true := decide_eq_true c32
               clear c32
               by_cases c33 : x15_3 < (x10_1.length : Int)
               rotate_left
               · rw [if_neg c33] at H
                 exact absurd H (by simp)
               rw [if_pos c33] at H
               have c33b0 : decide (x15_3 < (x10_1.length : Int)) = true := decide_eq_true c33
               clear c33
               replace H := Option.bind_eq_some_iff.mp H
               obtain ⟨t610, A340, H⟩ := H
               replace H : (if t610 = true then (if 0 ≤ x17_5 then (if x17_5 < (l1.length : Int) then (if 0 ≤ x16_4 then (if x16_4 < (x10_1.length : Int) then ((impl_Quorum.f k5 ((rd_T26 l1 x17_5).f0) ((rd_T26 l1 x17_5).f1) ((rd_T26 l1 x17_5).f2) (rd_L2 x10_1 x16_4)).bind fun t613 => (if t613 = true then (laws_FnQuorums.l6 k5 l1 x10_1 x14_2 x15_3 x16_4 x17_5 false 0 l2_0 l2_1 l2_2) else (laws_FnQuorums.l5 k5 l1 x10_1 x14_2 x15_3 x16_4 (wrap64 (x17_5 + 1)) l2_0 l2_1 l2_2))) else (none)) else (none)) else (none)) else (none)) else (laws_FnQuorums.l5 k5 l1 x10_1 x14_2 x15_3 x16_4 (wrap64 (x17_5 + 1)) l2_0 l2_1 l2_2)) = some r := H
               have A34 := Aside0.mk A340
               clear A340
               as_aux_lemma =>
                by_cases c35 : t610 = true
                rotate_left
                · replace c35 := Bool.eq_false_iff.mpr c35
                  subst c35
                  have H1 : (laws_FnQuorums.l5 k5 l1 x10_1 x14_2 x15_3 x16_4 (wrap64 (x17_5 + 1)) l2_0 l2_1 l2_2) = some r := by rw [if_neg (show ¬ (false = true) by decide)] at H; exact H
                  clear H
                  have H := H1
                  clear H1
                  have H' := Aside0.mk H
                  clear H
                  try go_wp2
                  have n0_ := Aside0.mk (Kd.S_drew HO_10.out)
                  have n1_ := Aside0.mk (blk_drew BK591.out)
                  have n2_ := Aside0.mk (below_drew1 HB.out)
                  clear HO_10
                  clear BK591
                  clear HB
                  have HO_10 := n0_
                  have BK591 := n1_
                  have HB := n2_
                  clear n0_ n1_ n2_
                  have p608 : 0 ≤ (x14_2 : Int) := of_decide_eq_true (by first | (with_reducible assumption) | assumption)
                  have q608 : x14_2 < (l1.length : Int) := of_decide_eq_true (by first | (with_reducible assumption) | assumption)
                  obtain ⟨ad608, A608_0, c608_0, A608_1, c608_1, A608_2, c608_2, e608, hx608_0, hx608_1, hx608_2, hl608_0, hi608_0, hl608_1, hi608_1, hl608_2, hi608_2⟩ := at_T26 HR1.out x14_2 p608 q608
                  have hw608_2 := hx608_2
                  have hw608_1 := hx608_1
                  have hw608_0 := hx608_0
                  cases e608
                  replace hx608_0 := (HB.out.cell (World.block_lt_of_cell? w8 _ hx608_0)).trans hx608_0
                  replace hx608_1 := (HB.out.cell (World.block_lt_of_cell? w8 _ hx608_1)).trans hx608_1
                  replace hx608_2 := (HB.out.cell (World.block_lt_of_cell? w8 _ hx608_2)).trans hx608_2
                  have HR608_0 := Aside0.mk hi608_0
                  have HC608_0 := Aside0.mk hl608_0
                  clear hi608_0 hl608_0
                  have HR608_1 := Aside0.mk hi608_1
                  have HC608_1 := Aside0.mk hl608_1
                  clear hi608_1 hl608_1
                  have HR608_2 := Aside0.mk hi608_2
                  have HC608_2 := Aside0.mk hl608_2
                  clear hi608_2 hl608_2
                  replace p608 := eq_true p608
                  replace q608 := eq_true q608
                  obtain ⟨Ao72, co72, eo72⟩ := Kd.S_slice HO_10.out
                  (first | subst eo72 | (injection eo72 with f1_ f2_ f3_; have f4_ := f1_.symm; have f5_ := f3_.symm; clear f1_ f2_ f3_; subst f4_; subst f5_))
                  have p609 : 0 ≤ (x15_3 : Int) := of_decide_eq_true (by first | (with_reducible assumption) | assumption)
                  have q609 : x15_3 < (x10_1.length : Int) := of_decide_eq_true (by first | (with_reducible assumption) | assumption)
                  obtain ⟨ad609, A609_0, c609_0, e609, hx609_0, hl609_0, hi609_0⟩ := at_L2 (Kd.S_reads' HO_10.out).2.2 x15_3 p609 q609
                  cases e609
                  obtain ⟨ce609, hce609, hMe609, hcc609⟩ := Kd.S_get HO_10.out [] x15_3 p609 (by first | exact q609 | exact of_decide_eq_true (by first | (with_reducible assumption) | assumption) | (have e_ := (Kd.S_reads' HO_10.out).1; omega))
                  obtain ⟨ve609_0, rfl, ge609_0⟩ := hMe609
                  have hv609_0 := hcc609 0 _ rfl
                  rw [Nat.add_zero, show ((Kd.slice 3 (Kd.int .i64))).sz = 1 from rfl, Nat.mul_one] at hv609_0
                  replace hv609_0 := Option.some.inj (hv609_0.symm.trans hx609_0)
                  rw [hv609_0] at ge609_0
                  have HL609_0 := trivial
                  clear hv609_0 ge609_0
                  clear hcc609 hce609
                  have HR609_0 := Aside0.mk hi609_0
                  have HC609_0 := Aside0.mk hl609_0
                  clear hi609_0 hl609_0
                  replace p609 := eq_true p609
                  replace q609 := eq_true q609
                  refine start_ (n := 22) (S := fun w' => w'.cell? (ad608.add ((x14_2).toNat * 3)) = some (.slice A608_0 ((rd_T26 l1 x14_2).f0).length c608_0) ∧ w'.cell? ⟨(ad608.add ((x14_2).toNat * 3)).block, (ad608.add ((x14_2).toNat * 3)).off + 1, none⟩ = some (.slice A608_1 ((rd_T26 l1 x14_2).f1).length c608_1) ∧ w'.cell? ⟨(ad608.add ((x14_2).toNat * 3)).block, (ad608.add ((x14_2).toNat * 3)).off + 2, none⟩ = some (.slice A608_2 ((rd_T26 l1 x14_2).f2).length c608_2) ∧ w'.cell? (ad609.add (x15_3).toNat) = some (.slice A609_0 (rd_L2 x10_1 x15_3).length c609_0)) (ds := []) #[false, false, false, false, false, false, false, false, false, false, false, false, false, false, false, false, false, false, false, false, false, false] (by kernel_rfl) rfl rfl ⟨((HB.out.cell (World.block_lt_of_cell? w8 _ hw608_0)).trans hw608_0), ((HB.out.cell (World.block_lt_of_cell? w8 _ hw608_1)).trans hw608_1), ((HB.out.cell (World.block_lt_of_cell? w8 _ hw608_2)).trans hw608_2), hx609_0⟩ (fun hHeld => ?_); refine with_tabW laws_FnQuorums.tab32 laws_FnQuorums.bits32 (fun HT_ HW_ => ?_)
                  generalize wr.drew = w71 at HO_10 BK591 HB HL609_0 HR608_0 HR608_1 HR608_2 HR609_0 hx608_0 hx608_1 hx608_2 hx609_0 hHeld ⊢
                  refine pure_ (i := 0) (N := some 121) (v := ?_) (a' := ?_) #[true, false, false, false, false, false, false, false, false, false, false, false, false, false, false, false, false, false, false, false, false, false] rfl rfl (any_of HT_.out (by kernel_rfl)) (fun _ _ _ h => h) (Or.inl ⟨by rfl, ?_⟩) ?_ ?_
                  rotate_left
                  · intro w'
                    go_simp
                    with_reducible rfl
                  rotate_left
                  · simp only [Act.put, List.setIfInBounds_toArray, List.set_cons_zero, List.set_cons_succ, i64_w, i32_w]
                    rfl
                  refine pure_ (i := 1) (N := some 122) (v := ?_) (a' := ?_) #[true, true, false, false, false, false, false, false, false, false, false, false, false, false, false, false, false, false, false, false, false, false] rfl rfl (any_of HT_.out (by kernel_rfl)) (fun _ _ _ h => h) (Or.inl ⟨by rfl, ?_⟩) ?_ ?_
                  rotate_left
                  · intro w'
                    go_simp
                    with_reducible rfl
                  rotate_left
                  · simp only [Act.put, List.setIfInBounds_toArray, List.set_cons_zero, List.set_cons_succ, i64_w, i32_w]
                    rfl
                  refine pure_ (i := 2) (N := some 123) (v := ?_) (a' := ?_) #[true, true, true, false, false, false, false, false, false, false, false, false, false, false, false, false, false, false, false, false, false, false] rfl rfl (any_of HT_.out (by kernel_rfl)) (fun _ _ _ h => h) (Or.inl ⟨by rfl, ?_⟩) ?_ ?_
                  rotate_left
                  · intro w'
                    go_simp
                    with_reducible rfl
                  rotate_left
                  · simp only [Act.put, List.setIfInBounds_toArray, List.set_cons_zero, List.set_cons_succ, i64_w, i32_w]
                    rfl
                  refine pure_ (i := 4) (N := some 125) (v := ?_) (a' := ?_) #[true, true, true, false, true, false, false, false, false, false, false, false, false, false, false, false, false, false, false, false, false, false] rfl rfl (any_of HT_.out (by kernel_rfl)) (fun _ _ _ h => h) (Or.inl ⟨by rfl, ?_⟩) ?_ ?_
                  rotate_left
                  · intro w'
                    go_simp
                    with_reducible rfl
                  rotate_left
                  · simp only [Act.put, List.setIfInBounds_toArray, List.set_cons_zero, List.set_cons_succ, i64_w, i32_w]
                    rfl
                  refine pure_ (i := 5) (N := some 126) (v := ?_) (a' := ?_) #[true, true, true, false, true, true, false, false, false, false, false, false, false, false, false, false, false, false, false, false, false, false] rfl rfl (any_of HT_.out (by kernel_rfl)) (fun _ _ _ h => h) (Or.inl ⟨by rfl, ?_⟩) ?_ ?_
                  rotate_left
                  · intro w'
                    go_simp
                    with_reducible rfl
                  rotate_left
                  · simp only [Act.put, List.setIfInBounds_toArray, List.set_cons_zero, List.set_cons_succ, i64_w, i32_w]
                    rfl
                  refine pure_ (i := 6) (N := some 127) (v := ?_) (a' := ?_) #[true, true, true, false, true, true, true, false, false, false, false, false, false, false, false, false, false, false, false, false, false, false] rfl rfl (any_of HT_.out (by kernel_rfl)) (fun _ _ _ h => h) (Or.inl ⟨by rfl, ?_⟩) ?_ ?_
                  rotate_left
                  · intro w'
                    go_simp
                    with_reducible rfl
                  rotate_left
                  · simp only [Act.put, List.setIfInBounds_toArray, List.set_cons_zero, List.set_cons_succ, i64_w, i32_w]
                    rfl
                  refine take_ (i := 3) (N := some 124) (v := ?_) (a' := ?_) #[true, true, true, true, true, true, true, false, false, false, false, false, false, false, false, false, false, false, false, false, false, false] rfl rfl (take_ofW HT_.out HW_.out (by kernel_rfl)) (fun _ _ _ h => h) (Or.inl ⟨by rfl, ?_⟩) hHeld ?_ ?_
                  rotate_left
                  · rintro w' ⟨s0, s1, s2, s3⟩
                    go_simp
                    with_reducible rfl
                  rotate_left
                  · simp only [Act.put, List.setIfInBounds_toArray, List.set_cons_zero, List.set_cons_succ, i64_w, i32_w]
                    rfl
                  refine take_ (i := 7) (N := some 128) (v := ?_) (a' := ?_) #[true, true, true, true, true, true, true, true, false, false, false, false, false, false, false, false, false, false, false, false, false, false] rfl rfl (take_ofW HT_.out HW_.out (by kernel_rfl)) (fun _ _ _ h => h) (Or.inl ⟨by rfl, ?_⟩) hHeld ?_ ?_
                  rotate_left
                  · rintro w' ⟨s0, s1, s2, s3⟩
                    go_simp
                    with_reducible rfl
                  rotate_left
                  · simp only [Act.put, List.setIfInBounds_toArray, List.set_cons_zero, List.set_cons_succ, i64_w, i32_w]
                    rfl
                  refine one_ (i := 8) (N := some 129) #[true, true, true, true, true, true, true, true, true, false, false, false, false, false, false, false, false, false, false, false, false, false] rfl rfl (one_of HT_.out (by kernel_rfl)) (by decide) (fun K hK => ?_)
                  refine goes_ Try.func40 (by kernel_rfl) rfl #[.agg #[.slice A608_0 ((rd_T26 l1 x14_2).f0).length c608_0, .slice A608_1 ((rd_T26 l1 x14_2).f1).length c608_1, .slice A608_2 ((rd_T26 l1 x14_2).f2).length c608_2], .slice A609_0 (rd_L2 x10_1 x15_3).length c609_0] (by rfl) rfl rfl (by (try simp only [List.map_toArray, List.map_cons, List.map_nil]); first | done | rfl | (simp only [List.length_drop, List.length_take]; rfl)) ?_
                  with_reducible refine (impl_Quorum.calls k5 _ _ ((rd_T26 l1 x14_2).f0) _ _ ((rd_T26 l1 x14_2).f1) _ _ ((rd_T26 l1 x14_2).f2) _ _ (rd_L2 x10_1 x15_3) false _ ?side1 ?side2 ?side3 ?side4 ?side5 ?side6 ?side7 ?side8 A34.out).mono ?_
                  (case side1 => repeat (first | exact (Kd.C_below HR608_0.out HB.out) | (with_reducible refine Kd.C_alloc ?_ _) | (with_reducible refine Kd.C_drewN ?_ _) | (with_reducible refine Kd.C_drew ?_)))
                  (case side2 => exact HC608_0.out)
                  (case side3 => repeat (first | exact (Kd.C_below HR608_1.out HB.out) | (with_reducible refine Kd.C_alloc ?_ _) | (with_reducible refine Kd.C_drewN ?_ _) | (with_reducible refine Kd.C_drew ?_)))
                  (case side4 => exact HC608_1.out)
                  (case side5 => repeat (first | exact (Kd.C_below HR608_2.out HB.out) | (with_reducible refine Kd.C_alloc ?_ _) | (with_reducible refine Kd.C_drewN ?_ _) | (with_reducible refine Kd.C_drew ?_)))
                  (case side6 => exact HC608_2.out)
                  (case side7 => repeat (first | exact (by repeat (first | (with_reducible exact HR609_0.out) | (with_reducible refine Kd.C_alloc ?_ _) | (with_reducible refine Kd.C_drewN ?_ _) | (with_reducible refine Kd.C_drew ?_) | exact HR609_0.out)) | (with_reducible refine Kd.C_alloc ?_ _) | (with_reducible refine Kd.C_drewN ?_ _) | (with_reducible refine Kd.C_drew ?_)))
                  (case side8 => exact HC609_0.out)
                  rintro e w73 ⟨rfl, hb⟩
                  have HS3_ := (hb.cell (World.block_lt_of_cell? _ _ (hHeld.2.2.2))).trans (hHeld.2.2.2)
                  refine ⟨_, rfl, ?_⟩
                  have n0_ := Aside0.mk (Kd.S_below (by (with_reducible repeat (first | apply Kd.S_alloc | apply Kd.S_drewN | apply Kd.S_drew)); exact HO_10.out) hb)
                  have n1_ := trivial
                  have n2_ := Aside0.mk (blk_below (g := gb591) (o := .cells #[.slice A2_0 l2_0.length c2_0, .slice A2_1 l2_1.length c2_1, .slice A2_2 l2_2.length c2_2] 26 (0, 0)) (by (with_reducible repeat (first | refine blk_drewN ?_ _ | refine blk_drew ?_ | refine blk_alloc ?_ _)); exact BK591.out) hb)
                  have n3_ := Aside0.mk (Kd.C_below (Kd.C_below HR609_0.out (by repeat (first | (with_reducible exact Below.refl _ _) | (with_reducible refine pw_below_drewN ?_ _) | (with_reducible refine below_drew1 ?_) | (with_reducible refine below_alloc ?_ _)))) hb)
                  have n4_ := Aside0.mk (below_step (by repeat (first | (with_reducible first | exact HB.out | apply below_alloc | apply pw_below_drewN | apply below_drew1) | exact HB.out)) hb)
                  clear HO_10
                  clear HL609_0
                  clear BK591
                  clear HR609_0
                  clear HB
                  have HO_10 := n0_
                  have HL609_0 := n1_
                  have BK591 := n2_
                  have HR609_0 := n3_
                  have HB := n4_
                  clear n0_ n1_ n2_ n3_ n4_
                  (try clear hb)
                  (try clear hb2)
                  (try clear hk)
                  (try clear hi)
                  refine hK.out _ _ ⟨((HB.out.cell (World.block_lt_of_cell? w8 _ hw608_0)).trans hw608_0), ((HB.out.cell (World.block_lt_of_cell? w8 _ hw608_1)).trans hw608_1), ((HB.out.cell (World.block_lt_of_cell? w8 _ hw608_2)).trans hw608_2), HS3_⟩ (fun hHeld => ?_)
                  clear hK K
                  refine norm_ (a' := ?_) ?_ ?_
                  rotate_left
                  · show Act.put _ (some 129) _ = _
                    simp only [Act.put, List.setIfInBounds_toArray, List.set_cons_zero, List.set_cons_succ, i64_w, i32_w]
                    rfl
                  refine pure_ (i := 9) (N := some 130) (v := ?_) (a' := ?_) #[true, true, true, true, true, true, true, true, true, true, false, false, false, false, false, false, false, false, false, false, false, false] rfl rfl (any_of HT_.out (by kernel_rfl)) (fun _ _ _ h => h) (Or.inl ⟨by rfl, ?_⟩) ?_ ?_
                  rotate_left
                  · intro w'
                    go_simp
                    with_reducible rfl
                  rotate_left
                  · simp only [Act.put, List.setIfInBounds_toArray, List.set_cons_zero, List.set_cons_succ, i64_w, i32_w]
                    rfl
                  refine pure_ (i := 10) (N := some 131) (v := ?_) (a' := ?_) #[true, true, true, true, true, true, true, true, true, true, true, false, false, false, false, false, false, false, false, false, false, false] rfl rfl (any_of HT_.out (by kernel_rfl)) (fun _ _ _ h => h) (Or.inl ⟨by rfl, ?_⟩) ?_ ?_
                  rotate_left
                  · intro w'
                    go_simp
                    with_reducible rfl
                  rotate_left
                  · simp only [Act.put, List.setIfInBounds_toArray, List.set_cons_zero, List.set_cons_succ, i64_w, i32_w]
                    rfl
                  refine pure_ (i := 11) (N := some 132) (v := undef) (a' := ?_) #[true, true, true, true, true, true, true, true, true, true, true, true, false, false, false, false, false, false, false, false, false, false] rfl rfl (any_of HT_.out (by kernel_rfl)) (fun _ _ _ h => h) (Or.inr ⟨by rfl, rfl⟩) ?_ ?_
                  rotate_left
                  · simp only [Act.put, List.setIfInBounds_toArray, List.set_cons_zero, List.set_cons_succ, i64_w, i32_w]
                    rfl
                  refine pure_ (i := 12) (N := some 133) (v := undef) (a' := ?_) #[true, true, true, true, true, true, true, true, true, true, true, true, true, false, false, false, false, false, false, false, false, false] rfl rfl (any_of HT_.out (by kernel_rfl)) (fun _ _ _ h => h) (Or.inr ⟨by rfl, rfl⟩) ?_ ?_
                  rotate_left
                  · simp only [Act.put, List.setIfInBounds_toArray, List.set_cons_zero, List.set_cons_succ, i64_w, i32_w]
                    rfl
                  refine pure_ (i := 13) (N := some 134) (v := undef) (a' := ?_) #[true, true, true, true, true, true, true, true, true, true, true, true, true, true, false, false, false, false, false, false, false, false] rfl rfl (any_of HT_.out (by kernel_rfl)) (fun _ _ _ h => h) (Or.inr ⟨by rfl, rfl⟩) ?_ ?_
                  rotate_left
                  · simp only [Act.put, List.setIfInBounds_toArray, List.set_cons_zero, List.set_cons_succ, i64_w, i32_w]
                    rfl
                  refine pure_ (i := 14) (N := some 135) (v := undef) (a' := ?_) #[true, true, true, true, true, true, true, true, true, true, true, true, true, true, true, false, false, false, false, false, false, false] rfl rfl (any_of HT_.out (by kernel_rfl)) (fun _ _ _ h => h) (Or.inr ⟨by rfl, rfl⟩) ?_ ?_
                  rotate_left
                  · simp only [Act.put, List.setIfInBounds_toArray, List.set_cons_zero, List.set_cons_succ, i64_w, i32_w]
                    rfl
                  refine pure_ (i := 15) (N := some 136) (v := undef) (a' := ?_) #[true, true, true, true, true, true, true, true, true, true, true, true, true, true, true, true, false, false, false, false, false, false] rfl rfl (any_of HT_.out (by kernel_rfl)) (fun _ _ _ h => h) (Or.inr ⟨by rfl, rfl⟩) ?_ ?_
                  rotate_left
                  · simp only [Act.put, List.setIfInBounds_toArray, List.set_cons_zero, List.set_cons_succ, i64_w, i32_w]
                    rfl
                  refine pure_ (i := 16) (N := some 137) (v := undef) (a' := ?_) #[true, true, true, true, true, true, true, true, true, true, true, true, true, true, true, true, true, false, false, false, false, false] rfl rfl (any_of HT_.out (by kernel_rfl)) (fun _ _ _ h => h) (Or.inr ⟨by rfl, rfl⟩) ?_ ?_
                  rotate_left
                  · simp only [Act.put, List.setIfInBounds_toArray, List.set_cons_zero, List.set_cons_succ, i64_w, i32_w]
                    rfl
                  refine pure_ (i := 17) (N := some 138) (v := undef) (a' := ?_) #[true, true, true, true, true, true, true, true, true, true, true, true, true, true, true, true, true, true, false, false, false, false] rfl rfl (any_of HT_.out (by kernel_rfl)) (fun _ _ _ h => h) (Or.inr ⟨by rfl, rfl⟩) ?_ ?_
                  rotate_left
                  · simp only [Act.put, List.setIfInBounds_toArray, List.set_cons_zero, List.set_cons_succ, i64_w, i32_w]
                    rfl
                  refine pure_ (i := 18) (N := some 139) (v := undef) (a' := ?_) #[true, true, true, true, true, true, true, true, true, true, true, true, true, true, true, true, true, true, true, false, false, false] rfl rfl (any_of HT_.out (by kernel_rfl)) (fun _ _ _ h => h) (Or.inr ⟨by rfl, rfl⟩) ?_ ?_
                  rotate_left
                  · simp only [Act.put, List.setIfInBounds_toArray, List.set_cons_zero, List.set_cons_succ, i64_w, i32_w]
                    rfl
                  refine pure_ (i := 19) (N := some 140) (v := undef) (a' := ?_) #[true, true, true, true, true, true, true, true, true, true, true, true, true, true, true, true, true, true, true, true, false, false] rfl rfl (any_of HT_.out (by kernel_rfl)) (fun _ _ _ h => h) (Or.inr ⟨by rfl, rfl⟩) ?_ ?_
                  rotate_left
                  · simp only [Act.put, List.setIfInBounds_toArray, List.set_cons_zero, List.set_cons_succ, i64_w, i32_w]
                    rfl
                  refine pure_ (i := 20) (N := some 141) (v := undef) (a' := ?_) #[true, true, true, true, true, true, true, true, true, true, true, true, true, true, true, true, true, true, true, true, true, false] rfl rfl (any_of HT_.out (by kernel_rfl)) (fun _ _ _ h => h) (Or.inr ⟨by rfl, rfl⟩) ?_ ?_
                  rotate_left
                  · simp only [Act.put, List.setIfInBounds_toArray, List.set_cons_zero, List.set_cons_succ, i64_w, i32_w]
                    rfl
                  refine pure_ (i := 21) (N := some 142) (v := ?_) (a' := ?_) #[true, true, true, true, true, true, true, true, true, true, true, true, true, true, true, true, true, true, true, true, true, true] rfl rfl (any_of HT_.out (by kernel_rfl)) (fun _ _ _ h => h) (Or.inl ⟨by rfl, ?_⟩) ?_ ?_
                  rotate_left
                  · intro w'
                    go_simp
                    with_reducible rfl
                  rotate_left
                  · simp only [Act.put, List.setIfInBounds_toArray, List.set_cons_zero, List.set_cons_succ, i64_w, i32_w]
                    rfl
                  refine done_ (done_of HT_.out (by kernel_rfl)) ?_
                  try go_wp2
                  go_roundg k5
                  case measure => have := HK1.out; have := HK2.out; have := HK3.out; have := HK4.out; have := HK5.out; omega
                  case rel => exact ⟨(wrap64 (x17_5 + 1)), (by first | rfl | (simp; done) | (simp [*]; done)), H', ⟨by have := HK1.out; have := HK2.out; have := HK3.out; have := HK4.out; have := HK5.out; omega⟩, ⟨by (with_reducible repeat (first | apply Kd.S_alloc | apply Kd.S_drewN | apply Kd.S_drew)); exact HO_10.out⟩, ⟨by (with_reducible repeat (first | refine blk_drewN ?_ _ | refine blk_drew ?_ | refine blk_alloc ?_ _)); exact BK591.out⟩, ⟨by repeat (first | (with_reducible first | exact HB.out | apply below_alloc | apply pw_below_drewN | apply below_drew1) | exact HB.out)⟩⟩
                subst c35
                have H1 : (if 0 ≤ x17_5 then (if x17_5 < (l1.length : Int) then (if 0 ≤ x16_4 then (if x16_4 < (x10_1.length : Int) then ((impl_Quorum.f k5 ((rd_T26 l1 x17_5).f0) ((rd_T26 l1 x17_5).f1) ((rd_T26 l1 x17_5).f2) (rd_L2 x10_1 x16_4)).bind fun t613 => (if t613 = true then (laws_FnQuorums.l6 k5 l1 x10_1 x14_2 x15_3 x16_4 x17_5 false 0 l2_0 l2_1 l2_2) else (laws_FnQuorums.l5 k5 l1 x10_1 x14_2 x15_3 x16_4 (wrap64 (x17_5 + 1)) l2_0 l2_1 l2_2))) else (none)) else (none)) else (none)) else (none)) = some r := by rw [if_pos rfl] at H; exact H
                clear H
                have H := H1
                clear H1
                as_aux_lemma =>
                 by_cases c36 : 0 ≤ x17_5
                 rotate_left
                 · rw [if_neg c36] at H
                   exact absurd H (by simp)
                 rw [if_pos c36] at H
                 have c36b0 : decide (0 ≤ x17_5) = true := decide_eq_true c36
                 clear c36
                 by_cases c37 : x17_5 < (l1.length : Int)
                 rotate_left
                 · rw [if_neg c37] at H
                   exact absurd H (by simp)
                 rw [if_pos c37] at H
                 have c37b0 : decide (x17_5 < (l1.length : Int)) = true := decide_eq_true c37
                 clear c37
                 by_cases c38 : 0 ≤ x16_4
                 rotate_left
                 · rw [if_neg c38] at H
                   exact absurd H (by simp)
                 rw [if_pos c38] at H
                 have c38b0 : decide (0 ≤ x16_4) = true := decide_eq_true c38
                 clear c38
                 by_cases c39 : x16_4 < (x10_1.length : Int)
                 rotate_left
                 · rw [if_neg c39] at H
                   exact absurd H (by simp)
                 rw [if_pos c39] at H
                 have c39b0 : decide (x16_4 < (x10_1.length : Int)) = true := decide_eq_true c39
                 clear c39
                 replace H := Option.bind_eq_some_iff.mp H
                 obtain ⟨t613, A400, H⟩ := H
                 replace H : (if t613 = true then (laws_FnQuorums.l6 k5 l1 x10_1 x14_2 x15_3 x16_4 x17_5 false 0 l2_0 l2_1 l2_2) else (laws_FnQuorums.l5 k5 l1 x10_1 x14_2 x15_3 x16_4 (wrap64 (x17_5 + 1)) l2_0 l2_1 l2_2)) = some r := H
                 have A40 := Aside0.mk A400
                 clear A400
                 have H9 := Aside0.mk H
                 clear H
                 try go_wp2
                 have n0_ := Aside0.mk (Kd.S_drew HO_10.out)
                 have n1_ := Aside0.mk (blk_drew BK591.out)
                 have n2_ := Aside0.mk (below_drew1 HB.out)
                 clear HO_10
                 clear BK591
                 clear HB
                 have HO_10 := n0_
                 have BK591 := n1_
                 have HB := n2_
                 clear n0_ n1_ n2_
                 have p608 : 0 ≤ (x14_2 : Int) := of_decide_eq_true (by first | (with_reducible assumption) | assumption)
                 have q608 : x14_2 < (l1.length : Int) := of_decide_eq_true (by first | (with_reducible assumption) | assumption)
                 obtain ⟨ad608, A608_0, c608_0, A608_1, c608_1, A608_2, c608_2, e608, hx608_0, hx608_1, hx608_2, hl608_0, hi608_0, hl608_1, hi608_1, hl608_2, hi608_2⟩ := at_T26 HR1.out x14_2 p608 q608
                 have hw608_2 := hx608_2
                 have hw608_1 := hx608_1
                 have hw608_0 := hx608_0
                 cases e608
                 replace hx608_0 := (HB.out.cell (World.block_lt_of_cell? w8 _ hx608_0)).trans hx608_0
                 replace hx608_1 := (HB.out.cell (World.block_lt_of_cell? w8 _ hx608_1)).trans hx608_1
                 replace hx608_2 := (HB.out.cell (World.block_lt_of_cell? w8 _ hx608_2)).trans hx608_2
                 have HR608_0 := Aside0.mk hi608_0
                 have HC608_0 := Aside0.mk hl608_0
                 clear hi608_0 hl608_0
                 have HR608_1 := Aside0.mk hi608_1
                 have HC608_1 := Aside0.mk hl608_1
                 clear hi608_1 hl608_1
                 have HR608_2 := Aside0.mk hi608_2
                 have HC608_2 := Aside0.mk hl608_2
                 clear hi608_2 hl608_2
                 replace p608 := eq_true p608
                 replace q608 := eq_true q608
                 obtain ⟨Ao42, co42, eo42⟩ := Kd.S_slice HO_10.out
                 (first | subst eo42 | (injection eo42 with f1_ f2_ f3_; have f4_ := f1_.symm; have f5_ := f3_.symm; clear f1_ f2_ f3_; subst f4_; subst f5_))
                 have p609 : 0 ≤ (x15_3 : Int) := of_decide_eq_true (by first | (with_reducible assumption) | assumption)
                 have q609 : x15_3 < (x10_1.length : Int) := of_decide_eq_true (by first | (with_reducible assumption) | assumption)
                 obtain ⟨ad609, A609_0, c609_0, e609, hx609_0, hl609_0, hi609_0⟩ := at_L2 (Kd.S_reads' HO_10.out).2.2 x15_3 p609 q609
                 cases e609
                 obtain ⟨ce609, hce609, hMe609, hcc609⟩ := Kd.S_get HO_10.out [] x15_3 p609 (by first | exact q609 | exact of_decide_eq_true (by first | (with_reducible assumption) | assumption) | (have e_ := (Kd.S_reads' HO_10.out).1; omega))
                 obtain ⟨ve609_0, rfl, ge609_0⟩ := hMe609
                 have hv609_0 := hcc609 0 _ rfl
                 rw [Nat.add_zero, show ((Kd.slice 3 (Kd.int .i64))).sz = 1 from rfl, Nat.mul_one] at hv609_0
                 replace hv609_0 := Option.some.inj (hv609_0.symm.trans hx609_0)
                 rw [hv609_0] at ge609_0
                 have HL609_0 := trivial
                 clear hv609_0 ge609_0
                 clear hcc609 hce609
                 have HR609_0 := Aside0.mk hi609_0
                 have HC609_0 := Aside0.mk hl609_0
                 clear hi609_0 hl609_0
                 replace p609 := eq_true p609
                 replace q609 := eq_true q609
                 have p611 : 0 ≤ (x17_5 : Int) := of_decide_eq_true (by first | (with_reducible assumption) | assumption)
                 have q611 : x17_5 < (l1.length : Int) := of_decide_eq_true (by first | (with_reducible assumption) | assumption)
                 obtain ⟨ad611, A611_0, c611_0, A611_1, c611_1, A611_2, c611_2, e611, hx611_0, hx611_1, hx611_2, hl611_0, hi611_0, hl611_1, hi611_1, hl611_2, hi611_2⟩ := at_T26 HR1.out x17_5 p611 q611
                 have hw611_2 := hx611_2
                 have hw611_1 := hx611_1
                 have hw611_0 := hx611_0
                 obtain rfl : ad608 = ad611 := (by injection e611)
                 replace hx611_0 := (HB.out.cell (World.block_lt_of_cell? w8 _ hx611_0)).trans hx611_0
                 replace hx611_1 := (HB.out.cell (World.block_lt_of_cell? w8 _ hx611_1)).trans hx611_1
                 replace hx611_2 := (HB.out.cell (World.block_lt_of_cell? w8 _ hx611_2)).trans hx611_2
                 have HR611_0 := Aside0.mk hi611_0
                 have HC611_0 := Aside0.mk hl611_0
                 clear hi611_0 hl611_0
                 have HR611_1 := Aside0.mk hi611_1
                 have HC611_1 := Aside0.mk hl611_1
                 clear hi611_1 hl611_1
                 have HR611_2 := Aside0.mk hi611_2
                 have HC611_2 := Aside0.mk hl611_2
                 clear hi611_2 hl611_2
                 replace p611 := eq_true p611
                 replace q611 := eq_true q611
                 have p612 : 0 ≤ (x16_4 : Int) := of_decide_eq_true (by first | (with_reducible assumption) | assumption)
                 have q612 : x16_4 < (x10_1.length : Int) := of_decide_eq_true (by first | (with_reducible assumption) | assumption)
                 obtain ⟨ad612, A612_0, c612_0, e612, hx612_0, hl612_0, hi612_0⟩ := at_L2 (Kd.S_reads' HO_10.out).2.2 x16_4 p612 q612
                 obtain rfl : ad609 = ad612 := (by injection e612)
                 obtain ⟨ce612, hce612, hMe612, hcc612⟩ := Kd.S_get HO_10.out [] x16_4 p612 (by first | exact q612 | exact of_decide_eq_true (by first | (with_reducible assumption) | assumption) | (have e_ := (Kd.S_reads' HO_10.out).1; omega))
                 obtain ⟨ve612_0, rfl, ge612_0⟩ := hMe612
                 have hv612_0 := hcc612 0 _ rfl
                 rw [Nat.add_zero, show ((Kd.slice 3 (Kd.int .i64))).sz = 1 from rfl, Nat.mul_one] at hv612_0
                 replace hv612_0 := Option.some.inj (hv612_0.symm.trans hx612_0)
                 rw [hv612_0] at ge612_0
                 have HL612_0 := trivial
                 clear hv612_0 ge612_0
                 clear hcc612 hce612
                 have HR612_0 := Aside0.mk hi612_0
                 have HC612_0 := Aside0.mk hl612_0
                 clear hi612_0 hl612_0
                 replace p612 := eq_true p612
                 replace q612 := eq_true q612
                 refine start_ (n := 22) (S := fun w' => w'.cell? (ad608.add ((x14_2).toNat * 3)) = some (.slice A608_0 ((rd_T26 l1 x14_2).f0).length c608_0) ∧ w'.cell? ⟨(ad608.add ((x14_2).toNat * 3)).block, (ad608.add ((x14_2).toNat * 3)).off + 1, none⟩ = some (.slice A608_1 ((rd_T26 l1 x14_2).f1).length c608_1) ∧ w'.cell? ⟨(ad608.add ((x14_2).toNat * 3)).block, (ad608.add ((x14_2).toNat * 3)).off + 2, none⟩ = some (.slice A608_2 ((rd_T26 l1 x14_2).f2).length c608_2) ∧ w'.cell? (ad609.add (x15_3).toNat) = some (.slice A609_0 (rd_L2 x10_1 x15_3).length c609_0) ∧ w'.cell? (ad608.add ((x17_5).toNat * 3)) = some (.slice A611_0 ((rd_T26 l1 x17_5).f0).length c611_0) ∧ w'.cell? ⟨(ad608.add ((x17_5).toNat * 3)).block, (ad608.add ((x17_5).toNat * 3)).off + 1, none⟩ = some (.slice A611_1 ((rd_T26 l1 x17_5).f1).length c611_1) ∧ w'.cell? ⟨(ad608.add ((x17_5).toNat * 3)).block, (ad608.add ((x17_5).toNat * 3)).off + 2, none⟩ = some (.slice A611_2 ((rd_T26 l1 x17_5).f2).length c611_2) ∧ w'.cell? (ad609.add (x16_4).toNat) = some (.slice A612_0 (rd_L2 x10_1 x16_4).length c612_0)) (ds := []) #[false, false, false, false, false, false, false, false, false, false, false, false, false, false, false, false, false, false, false, false, false, false] (by kernel_rfl) rfl rfl ⟨((HB.out.cell (World.block_lt_of_cell? w8 _ hw608_0)).trans hw608_0), ((HB.out.cell (World.block_lt_of_cell? w8 _ hw608_1)).trans hw608_1), ((HB.out.cell (World.block_lt_of_cell? w8 _ hw608_2)).trans hw608_2), hx609_0, ((HB.out.cell (World.block_lt_of_cell? w8 _ hw611_0)).trans hw611_0), ((HB.out.cell (World.block_lt_of_cell? w8 _ hw611_1)).trans hw611_1), ((HB.out.cell (World.block_lt_of_cell? w8 _ hw611_2)).trans hw611_2), hx612_0⟩ (fun hHeld => ?_); refine with_tabW laws_FnQuorums.tab32 laws_FnQuorums.bits32 (fun HT_ HW_ => ?_)
                 generalize wr.drew = w41 at HO_10 BK591 HB HL609_0 HL612_0 HR608_0 HR608_1 HR608_2 HR609_0 HR611_0 HR611_1 HR611_2 HR612_0 hx608_0 hx608_1 hx608_2 hx609_0 hx611_0 hx611_1 hx611_2 hx612_0 hHeld ⊢
                 refine pure_ (i := 0) (N := some 121) (v := ?_) (a' := ?_) #[true, false, false, false, false, false, false, false, false, false, false, false, false, false, false, false, false, false, false, false, false, false] rfl rfl (any_of HT_.out (by kernel_rfl)) (fun _ _ _ h => h) (Or.inl ⟨by rfl, ?_⟩) ?_ ?_
                 rotate_left
                 · intro w'
                   go_simp
                   with_reducible rfl
                 rotate_left
                 · simp only [Act.put, List.setIfInBounds_toArray, List.set_cons_zero, List.set_cons_succ, i64_w, i32_w]
                   rfl
                 refine pure_ (i := 1) (N := some 122) (v := ?_) (a' := ?_) #[true, true, false, false, false, false, false, false, false, false, false, false, false, false, false, false, false, false, false, false, false, false] rfl rfl (any_of HT_.out (by kernel_rfl)) (fun _ _ _ h => h) (Or.inl ⟨by rfl, ?_⟩) ?_ ?_
                 rotate_left
                 · intro w'
                   go_simp
                   with_reducible rfl
                 rotate_left
                 · simp only [Act.put, List.setIfInBounds_toArray, List.set_cons_zero, List.set_cons_succ, i64_w, i32_w]
                   rfl
                 refine pure_ (i := 2) (N := some 123) (v := ?_) (a' := ?_) #[true, true, true, false, false, false, false, false, false, false, false, false, false, false, false, false, false, false, false, false, false, false] rfl rfl (any_of HT_.out (by kernel_rfl)) (fun _ _ _ h => h) (Or.inl ⟨by rfl, ?_⟩) ?_ ?_
                 rotate_left
                 · intro w'
                   go_simp
                   with_reducible rfl
                 rotate_left
                 · simp only [Act.put, List.setIfInBounds_toArray, List.set_cons_zero, List.set_cons_succ, i64_w, i32_w]
                   rfl
                 refine pure_ (i := 4) (N := some 125) (v := ?_) (a' := ?_) #[true, true, true, false, true, false, false, false, false, false, false, false, false, false, false, false, false, false, false, false, false, false] rfl rfl (any_of HT_.out (by kernel_rfl)) (fun _ _ _ h => h) (Or.inl ⟨by rfl, ?_⟩) ?_ ?_
                 rotate_left
                 · intro w'
                   go_simp
                   with_reducible rfl
                 rotate_left
                 · simp only [Act.put, List.setIfInBounds_toArray, List.set_cons_zero, List.set_cons_succ, i64_w, i32_w]
                   rfl
                 refine pure_ (i := 5) (N := some 126) (v := ?_) (a' := ?_) #[true, true, true, false, true, true, false, false, false, false, false, false, false, false, false, false, false, false, false, false, false, false] rfl rfl (any_of HT_.out (by kernel_rfl)) (fun _ _ _ h => h) (Or.inl ⟨by rfl, ?_⟩) ?_ ?_
                 rotate_left
                 · intro w'
                   go_simp
                   with_reducible rfl
                 rotate_left
                 · simp only [Act.put, List.setIfInBounds_toArray, List.set_cons_zero, List.set_cons_succ, i64_w, i32_w]
                   rfl
                 refine pure_ (i := 6) (N := some 127) (v := ?_) (a' := ?_) #[true, true, true, false, true, true, true, false, false, false, false, false, false, false, false, false, false, false, false, false, false, false] rfl rfl (any_of HT_.out (by kernel_rfl)) (fun _ _ _ h => h) (Or.inl ⟨by rfl, ?_⟩) ?_ ?_
                 rotate_left
                 · intro w'
                   go_simp
                   with_reducible rfl
                 rotate_left
                 · simp only [Act.put, List.setIfInBounds_toArray, List.set_cons_zero, List.set_cons_succ, i64_w, i32_w]
                   rfl
                 refine take_ (i := 3) (N := some 124) (v := ?_) (a' := ?_) #[true, true, true, true, true, true, true, false, false, false, false, false, false, false, false, false, false, false, false, false, false, false] rfl rfl (take_ofW HT_.out HW_.out (by kernel_rfl)) (fun _ _ _ h => h) (Or.inl ⟨by rfl, ?_⟩) hHeld ?_ ?_
                 rotate_left
                 · rintro w' ⟨s0, s1, s2, s3, s4, s5, s6, s7⟩
                   go_simp
                   with_reducible rfl
                 rotate_left
                 · simp only [Act.put, List.setIfInBounds_toArray, List.set_cons_zero, List.set_cons_succ, i64_w, i32_w]
                   rfl
                 refine take_ (i := 7) (N := some 128) (v := ?_) (a' := ?_) #[true, true, true, true, true, true, true, true, false, false, false, false, false, false, false, false, false, false, false, false, false, false] rfl rfl (take_ofW HT_.out HW_.out (by kernel_rfl)) (fun _ _ _ h => h) (Or.inl ⟨by rfl, ?_⟩) hHeld ?_ ?_
                 rotate_left
                 · rintro w' ⟨s0, s1, s2, s3, s4, s5, s6, s7⟩
                   go_simp
                   with_reducible rfl
                 rotate_left
                 · simp only [Act.put, List.setIfInBounds_toArray, List.set_cons_zero, List.set_cons_succ, i64_w, i32_w]
                   rfl
                 refine one_ (i := 8) (N := some 129) #[true, true, true, true, true, true, true, true, true, false, false, false, false, false, false, false, false, false, false, false, false, false] rfl rfl (one_of HT_.out (by kernel_rfl)) (by decide) (fun K hK => ?_)
                 refine goes_ Try.func40 (by kernel_rfl) rfl #[.agg #[.slice A608_0 ((rd_T26 l1 x14_2).f0).length c608_0, .slice A608_1 ((rd_T26 l1 x14_2).f1).length c608_1, .slice A608_2 ((rd_T26 l1 x14_2).f2).length c608_2], .slice A609_0 (rd_L2 x10_1 x15_3).length c609_0] (by rfl) rfl rfl (by (try simp only [List.map_toArray, List.map_cons, List.map_nil]); first | done | rfl | (simp only [List.length_drop, List.length_take]; rfl)) ?_
                 with_reducible refine (impl_Quorum.calls k5 _ _ ((rd_T26 l1 x14_2).f0) _ _ ((rd_T26 l1 x14_2).f1) _ _ ((rd_T26 l1 x14_2).f2) _ _ (rd_L2 x10_1 x15_3) true _ ?side1 ?side2 ?side3 ?side4 ?side5 ?side6 ?side7 ?side8 A34.out).mono ?_
                 (case side1 => repeat (first | exact (Kd.C_below HR608_0.out HB.out) | (with_reducible refine Kd.C_alloc ?_ _) | (with_reducible refine Kd.C_drewN ?_ _) | (with_reducible refine Kd.C_drew ?_)))
                 (case side2 => exact HC608_0.out)
                 (case side3 => repeat (first | exact (Kd.C_below HR608_1.out HB.out) | (with_reducible refine Kd.C_alloc ?_ _) | (with_reducible refine Kd.C_drewN ?_ _) | (with_reducible refine Kd.C_drew ?_)))
                 (case side4 => exact HC608_1.out)
                 (case side5 => repeat (first | exact (Kd.C_below HR608_2.out HB.out) | (with_reducible refine Kd.C_alloc ?_ _) | (with_reducible refine Kd.C_drewN ?_ _) | (with_reducible refine Kd.C_drew ?_)))
                 (case side6 => exact HC608_2.out)
                 (case side7 => repeat (first | exact (by repeat (first | (with_reducible exact HR609_0.out) | (with_reducible refine Kd.C_alloc ?_ _) | (with_reducible refine Kd.C_drewN ?_ _) | (with_reducible refine Kd.C_drew ?_) | exact HR609_0.out)) | (with_reducible refine Kd.C_alloc ?_ _) | (with_reducible refine Kd.C_drewN ?_ _) | (with_reducible refine Kd.C_drew ?_)))
                 (case side8 => exact HC609_0.out)
                 rintro e w43 ⟨rfl, hb⟩
                 have HS3_ := (hb.cell (World.block_lt_of_cell? _ _ (hHeld.2.2.2.1))).trans (hHeld.2.2.2.1)
                 have HS7_ := (hb.cell (World.block_lt_of_cell? _ _ (hHeld.2.2.2.2.2.2.2))).trans (hHeld.2.2.2.2.2.2.2)
                 refine ⟨_, rfl, ?_⟩
                 have n0_ := Aside0.mk (Kd.S_below (by (with_reducible repeat (first | apply Kd.S_alloc | apply Kd.S_drewN | apply Kd.S_drew)); exact HO_10.out) hb)
                 have n1_ := trivial
                 have n2_ := Aside0.mk (blk_below (g := gb591) (o := .cells #[.slice A2_0 l2_0.length c2_0, .slice A2_1 l2_1.length c2_1, .slice A2_2 l2_2.length c2_2] 26 (0, 0)) (by (with_reducible repeat (first | refine blk_drewN ?_ _ | refine blk_drew ?_ | refine blk_alloc ?_ _)); exact BK591.out) hb)
                 have n3_ := Aside0.mk (Kd.C_below (Kd.C_below HR609_0.out (by repeat (first | (with_reducible exact Below.refl _ _) | (with_reducible refine pw_below_drewN ?_ _) | (with_reducible refine below_drew1 ?_) | (with_reducible refine below_alloc ?_ _)))) hb)
                 have n4_ := Aside0.mk (below_step (by repeat (first | (with_reducible first | exact HB.out | apply below_alloc | apply pw_below_drewN | apply below_drew1) | exact HB.out)) hb)
                 clear HO_10
                 clear HL609_0
                 clear BK591
                 clear HR609_0
                 clear HB
                 have HO_10 := n0_
                 have HL609_0 := n1_
                 have BK591 := n2_
                 have HR609_0 := n3_
                 have HB := n4_
                 clear n0_ n1_ n2_ n3_ n4_
                 replace HR612_0 := Aside0.mk (Kd.C_below (Kd.C_below HR612_0.out (by repeat (first | (with_reducible exact Below.refl _ _) | (with_reducible refine pw_below_drewN ?_ _) | (with_reducible refine below_drew1 ?_) | (with_reducible refine below_alloc ?_ _)))) hb)
                 (try clear hb)
                 (try clear hb2)
                 (try clear hk)
                 (try clear hi)
                 refine hK.out _ _ ⟨((HB.out.cell (World.block_lt_of_cell? w8 _ hw608_0)).trans hw608_0), ((HB.out.cell (World.block_lt_of_cell? w8 _ hw608_1)).trans hw608_1), ((HB.out.cell (World.block_lt_of_cell? w8 _ hw608_2)).trans hw608_2), HS3_, ((HB.out.cell (World.block_lt_of_cell? w8 _ hw611_0)).trans hw611_0), ((HB.out.cell (World.block_lt_of_cell? w8 _ hw611_1)).trans hw611_1), ((HB.out.cell (World.block_lt_of_cell? w8 _ hw611_2)).trans hw611_2), HS7_⟩ (fun hHeld => ?_)
                 clear hK K
                 refine norm_ (a' := ?_) ?_ ?_
                 rotate_left
                 · show Act.put _ (some 129) _ = _
                   simp only [Act.put, List.setIfInBounds_toArray, List.set_cons_zero, List.set_cons_succ, i64_w, i32_w]
                   rfl
                 refine pure_ (i := 9) (N := some 130) (v := ?_) (a' := ?_) #[true, true, true, true, true, true, true, true, true, true, false, false, false, false, false, false, false, false, false, false, false, false] rfl rfl (any_of HT_.out (by kernel_rfl)) (fun _ _ _ h => h) (Or.inl ⟨by rfl, ?_⟩) ?_ ?_
                 rotate_left
                 · intro w'
                   go_simp
                   with_reducible rfl
                 rotate_left
                 · simp only [Act.put, List.setIfInBounds_toArray, List.set_cons_zero, List.set_cons_succ, i64_w, i32_w]
                   rfl
                 refine pure_ (i := 10) (N := some 131) (v := ?_) (a' := ?_) #[true, true, true, true, true, true, true, true, true, true, true, false, false, false, false, false, false, false, false, false, false, false] rfl rfl (any_of HT_.out (by kernel_rfl)) (fun _ _ _ h => h) (Or.inl ⟨by rfl, ?_⟩) ?_ ?_
                 rotate_left
                 · intro w'
                   go_simp
                   with_reducible rfl
                 rotate_left
                 · simp only [Act.put, List.setIfInBounds_toArray, List.set_cons_zero, List.set_cons_succ, i64_w, i32_w]
                   rfl
                 refine pure_ (i := 11) (N := some 132) (v := ?_) (a' := ?_) #[true, true, true, true, true, true, true, true, true, true, true, true, false, false, false, false, false, false, false, false, false, false] rfl rfl (any_of HT_.out (by kernel_rfl)) (fun _ _ _ h => h) (Or.inl ⟨by rfl, ?_⟩) ?_ ?_
                 rotate_left
                 · intro w'
                   go_simp
                   with_reducible rfl
                 rotate_left
                 · simp only [Act.put, List.setIfInBounds_toArray, List.set_cons_zero, List.set_cons_succ, i64_w, i32_w]
                   rfl
                 refine pure_ (i := 12) (N := some 133) (v := ?_) (a' := ?_) #[true, true, true, true, true, true, true, true, true, true, true, true, true, false, false, false, false, false, false, false, false, false] rfl rfl (any_of HT_.out (by kernel_rfl)) (fun _ _ _ h => h) (Or.inl ⟨by rfl, ?_⟩) ?_ ?_
                 rotate_left
                 · intro w'
                   go_simp
                   with_reducible rfl
                 rotate_left
                 · simp only [Act.put, List.setIfInBounds_toArray, List.set_cons_zero, List.set_cons_succ, i64_w, i32_w]
                   rfl
                 refine pure_ (i := 13) (N := some 134) (v := ?_) (a' := ?_) #[true, true, true, true, true, true, true, true, true, true, true, true, true, true, false, false, false, false, false, false, false, false] rfl rfl (any_of HT_.out (by kernel_rfl)) (fun _ _ _ h => h) (Or.inl ⟨by rfl, ?_⟩) ?_ ?_
                 rotate_left
                 · intro w'
                   go_simp
                   with_reducible rfl
                 rotate_left
                 · simp only [Act.put, List.setIfInBounds_toArray, List.set_cons_zero, List.set_cons_succ, i64_w, i32_w]
                   rfl
                 refine pure_ (i := 15) (N := some 136) (v := ?_) (a' := ?_) #[true, true, true, true, true, true, true, true, true, true, true, true, true, true, false, true, false, false, false, false, false, false] rfl rfl (any_of HT_.out (by kernel_rfl)) (fun _ _ _ h => h) (Or.inl ⟨by rfl, ?_⟩) ?_ ?_
                 rotate_left
                 · intro w'
                   go_simp
                   with_reducible rfl
                 rotate_left
                 · simp only [Act.put, List.setIfInBounds_toArray, List.set_cons_zero, List.set_cons_succ, i64_w, i32_w]
                   rfl
                 refine pure_ (i := 16) (N := some 137) (v := ?_) (a' := ?_) #[true, true, true, true, true, true, true, true, true, true, true, true, true, true, false, true, true, false, false, false, false, false] rfl rfl (any_of HT_.out (by kernel_rfl)) (fun _ _ _ h => h) (Or.inl ⟨by rfl, ?_⟩) ?_ ?_
                 rotate_left
                 · intro w'
                   go_simp
                   with_reducible rfl
                 rotate_left
                 · simp only [Act.put, List.setIfInBounds_toArray, List.set_cons_zero, List.set_cons_succ, i64_w, i32_w]
                   rfl
                 refine pure_ (i := 17) (N := some 138) (v := ?_) (a' := ?_) #[true, true, true, true, true, true, true, true, true, true, true, true, true, true, false, true, true, true, false, false, false, false] rfl rfl (any_of HT_.out (by kernel_rfl)) (fun _ _ _ h => h) (Or.inl ⟨by rfl, ?_⟩) ?_ ?_
                 rotate_left
                 · intro w'
                   go_simp
                   with_reducible rfl
                 rotate_left
                 · simp only [Act.put, List.setIfInBounds_toArray, List.set_cons_zero, List.set_cons_succ, i64_w, i32_w]
                   rfl
                 refine take_ (i := 14) (N := some 135) (v := ?_) (a' := ?_) #[true, true, true, true, true, true, true, true, true, true, true, true, true, true, true, true, true, true, false, false, false, false] rfl rfl (take_ofW HT_.out HW_.out (by kernel_rfl)) (fun _ _ _ h => h) (Or.inl ⟨by rfl, ?_⟩) hHeld ?_ ?_
                 rotate_left
                 · rintro w' ⟨s0, s1, s2, s3, s4, s5, s6, s7⟩
                   go_simp
                   with_reducible rfl
                 rotate_left
                 · simp only [Act.put, List.setIfInBounds_toArray, List.set_cons_zero, List.set_cons_succ, i64_w, i32_w]
                   rfl
                 refine take_ (i := 18) (N := some 139) (v := ?_) (a' := ?_) #[true, true, true, true, true, true, true, true, true, true, true, true, true, true, true, true, true, true, true, false, false, false] rfl rfl (take_ofW HT_.out HW_.out (by kernel_rfl)) (fun _ _ _ h => h) (Or.inl ⟨by rfl, ?_⟩) hHeld ?_ ?_
                 rotate_left
                 · rintro w' ⟨s0, s1, s2, s3, s4, s5, s6, s7⟩
                   go_simp
                   with_reducible rfl
                 rotate_left
                 · simp only [Act.put, List.setIfInBounds_toArray, List.set_cons_zero, List.set_cons_succ, i64_w, i32_w]
                   rfl
                 refine one_ (i := 19) (N := some 140) #[true, true, true, true, true, true, true, true, true, true, true, true, true, true, true, true, true, true, true, true, false, false] rfl rfl (one_of HT_.out (by kernel_rfl)) (by decide) (fun K hK => ?_)
                 refine goes_ Try.func40 (by kernel_rfl) rfl #[.agg #[.slice A611_0 ((rd_T26 l1 x17_5).f0).length c611_0, .slice A611_1 ((rd_T26 l1 x17_5).f1).length c611_1, .slice A611_2 ((rd_T26 l1 x17_5).f2).length c611_2], .slice A612_0 (rd_L2 x10_1 x16_4).length c612_0] (by rfl) rfl rfl (by (try simp only [List.map_toArray, List.map_cons, List.map_nil]); first | done | rfl | (simp only [List.length_drop, List.length_take]; rfl)) ?_
                 with_reducible refine (impl_Quorum.calls k5 _ _ ((rd_T26 l1 x17_5).f0) _ _ ((rd_T26 l1 x17_5).f1) _ _ ((rd_T26 l1 x17_5).f2) _ _ (rd_L2 x10_1 x16_4) t613 _ ?side1 ?side2 ?side3 ?side4 ?side5 ?side6 ?side7 ?side8 A40.out).mono ?_
                 (case side1 => repeat (first | exact (Kd.C_below HR611_0.out HB.out) | (with_reducible refine Kd.C_alloc ?_ _) | (with_reducible refine Kd.C_drewN ?_ _) | (with_reducible refine Kd.C_drew ?_)))
                 (case side2 => exact HC611_0.out)
                 (case side3 => repeat (first | exact (Kd.C_below HR611_1.out HB.out) | (with_reducible refine Kd.C_alloc ?_ _) | (with_reducible refine Kd.C_drewN ?_ _) | (with_reducible refine Kd.C_drew ?_)))
                 (case side4 => exact HC611_1.out)
                 (case side5 => repeat (first | exact (Kd.C_below HR611_2.out HB.out) | (with_reducible refine Kd.C_alloc ?_ _) | (with_reducible refine Kd.C_drewN ?_ _) | (with_reducible refine Kd.C_drew ?_)))
                 (case side6 => exact HC611_2.out)
                 (case side7 => repeat (first | exact (by repeat (first | (with_reducible exact HR612_0.out) | (with_reducible refine Kd.C_alloc ?_ _) | (with_reducible refine Kd.C_drewN ?_ _) | (with_reducible refine Kd.C_drew ?_) | exact HR612_0.out)) | (with_reducible refine Kd.C_alloc ?_ _) | (with_reducible refine Kd.C_drewN ?_ _) | (with_reducible refine Kd.C_drew ?_)))
                 (case side8 => exact HC612_0.out)
                 rintro e w44 ⟨rfl, hb⟩
                 have HS3_ := (hb.cell (World.block_lt_of_cell? _ _ (hHeld.2.2.2.1))).trans (hHeld.2.2.2.1)
                 have HS7_ := (hb.cell (World.block_lt_of_cell? _ _ (hHeld.2.2.2.2.2.2.2))).trans (hHeld.2.2.2.2.2.2.2)
                 refine ⟨_, rfl, ?_⟩
                 have n0_ := Aside0.mk (Kd.S_below (by (with_reducible repeat (first | apply Kd.S_alloc | apply Kd.S_drewN | apply Kd.S_drew)); exact HO_10.out) hb)
                 have n1_ := trivial
                 have n2_ := trivial
                 have n3_ := Aside0.mk (blk_below (g := gb591) (o := .cells #[.slice A2_0 l2_0.length c2_0, .slice A2_1 l2_1.length c2_1, .slice A2_2 l2_2.length c2_2] 26 (0, 0)) (by (with_reducible repeat (first | refine blk_drewN ?_ _ | refine blk_drew ?_ | refine blk_alloc ?_ _)); exact BK591.out) hb)
                 have n4_ := Aside0.mk (Kd.C_below (Kd.C_below HR609_0.out (by repeat (first | (with_reducible exact Below.refl _ _) | (with_reducible refine pw_below_drewN ?_ _) | (with_reducible refine below_drew1 ?_) | (with_reducible refine below_alloc ?_ _)))) hb)
                 have n5_ := Aside0.mk (Kd.C_below (Kd.C_below HR612_0.out (by repeat (first | (with_reducible exact Below.refl _ _) | (with_reducible refine pw_below_drewN ?_ _) | (with_reducible refine below_drew1 ?_) | (with_reducible refine below_alloc ?_ _)))) hb)
                 have n6_ := Aside0.mk (below_step (by repeat (first | (with_reducible first | exact HB.out | apply below_alloc | apply pw_below_drewN | apply below_drew1) | exact HB.out)) hb)
                 clear HO_10
                 clear HL609_0
                 clear HL612_0
                 clear BK591
                 clear HR609_0
                 clear HR612_0
                 clear HB
                 have HO_10 := n0_
                 have HL609_0 := n1_
                 have HL612_0 := n2_
                 have BK591 := n3_
                 have HR609_0 := n4_
                 have HR612_0 := n5_
                 have HB := n6_
                 clear n0_ n1_ n2_ n3_ n4_ n5_ n6_
                 (try clear hb)
                 (try clear hb2)
                 (try clear hk)
                 (try clear hi)
                 refine hK.out _ _ ⟨((HB.out.cell (World.block_lt_of_cell? w8 _ hw608_0)).trans hw608_0), ((HB.out.cell (World.block_lt_of_cell? w8 _ hw608_1)).trans hw608_1), ((HB.out.cell (World.block_lt_of_cell? w8 _ hw608_2)).trans hw608_2), HS3_, ((HB.out.cell (World.block_lt_of_cell? w8 _ hw611_0)).trans hw611_0), ((HB.out.cell (World.block_lt_of_cell? w8 _ hw611_1)).trans hw611_1), ((HB.out.cell (World.block_lt_of_cell? w8 _ hw611_2)).trans hw611_2), HS7_⟩ (fun hHeld => ?_)
                 clear hK K
                 refine norm_ (a' := ?_) ?_ ?_
                 rotate_left
                 · show Act.put _ (some 140) _ = _
                   simp only [Act.put, List.setIfInBounds_toArray, List.set_cons_zero, List.set_cons_succ, i64_w, i32_w]
                   rfl
                 refine pure_ (i := 20) (N := some 141) (v := ?_) (a' := ?_) #[true, true, true, true, true, true, true, true, true, true, true, true, true, true, true, true, true, true, true, true, true, false] rfl rfl (any_of HT_.out (by kernel_rfl)) (fun _ _ _ h => h) (Or.inl ⟨by rfl, ?_⟩) ?_ ?_
                 rotate_left
                 · intro w'
                   go_simp
                   with_reducible rfl
                 rotate_left
                 · simp only [Act.put, List.setIfInBounds_toArray, List.set_cons_zero, List.set_cons_succ, i64_w, i32_w]
                   rfl
                 refine pure_ (i := 21) (N := some 142) (v := ?_) (a' := ?_) #[true, true, true, true, true, true, true, true, true, true, true, true, true, true, true, true, true, true, true, true, true, true] rfl rfl (any_of HT_.out (by kernel_rfl)) (fun _ _ _ h => h) (Or.inl ⟨by rfl, ?_⟩) ?_ ?_
                 rotate_left
                 · intro w'
                   go_simp
                   with_reducible rfl
                 rotate_left
                 · simp only [Act.put, List.setIfInBounds_toArray, List.set_cons_zero, List.set_cons_succ, i64_w, i32_w]
                   rfl
                 refine done_ (done_of HT_.out (by kernel_rfl)) ?_
                 go_upto_if 142 with (fail)
                 have H := H9.out
                 clear H9
                 as_aux_lemma =>
                  by_cases c45 : t613 = true
                  rotate_left
                  · replace c45 := Bool.eq_false_iff.mpr c45
                    subst c45
                    have H1 : (laws_FnQuorums.l5 k5 l1 x10_1 x14_2 x15_3 x16_4 (wrap64 (x17_5 + 1)) l2_0 l2_1 l2_2) = some r := by rw [if_neg (show ¬ (false = true) by decide)] at H; exact H
                    clear H
                    have H := H1
                    clear H1
                    have H' := Aside0.mk H
                    clear H
                    go_wp2
                    go_roundg k5
                    case measure => have := HK1.out; have := HK2.out; have := HK3.out; have := HK4.out; have := HK5.out; omega
                    case rel => exact ⟨(wrap64 (x17_5 + 1)), (by first | rfl | (simp; done) | (simp [*]; done)), H', ⟨by have := HK1.out; have := HK2.out; have := HK3.out; have := HK4.out; have := HK5.out; omega⟩, ⟨by (with_reducible repeat (first | apply Kd.S_alloc | apply Kd.S_drewN | apply Kd.S_drew)); exact HO_10.out⟩, ⟨by (with_reducible repeat (first | refine blk_drewN ?_ _ | refine blk_drew ?_ | refine blk_alloc ?_ _)); exact BK591.out⟩, ⟨by repeat (first | (with_reducible first | exact HB.out | apply below_alloc | apply pw_below_drewN | apply below_drew1) | exact HB.out)⟩⟩
                  subst c45
                  have H1 : (laws_FnQuorums.l6 k5 l1 x10_1 x14_2 x15_3 x16_4 x17_5 false 0 l2_0 l2_1 l2_2) = some r := by rw [if_pos rfl] at H; exact H
                  clear H
                  have H := H1
                  clear H1
                  have H' := Aside0.mk H
                  clear H
                  go_wp2
                  go_loopg [18, 19] k5 (fun kq v18 v19 w' => ∃ (x18_6 : Bool) (x19_6 : Int), v18 = .bool x18_6 ∧ v19 = .int .i64 x19_6 ∧ Aside0 (laws_FnQuorums.l6 kq l1 x10_1 x14_2 x15_3 x16_4 x17_5 x18_6 x19_6 l2_0 l2_1 l2_2 = some r) ∧ Aside0 (kq ≤ k5) ∧ Aside0 (Kd.S (Kd.slice 3 (Kd.int .i64)) 24 w' w8.heap.size (fun _ => True) (.slice (some ad609) x10_1.length co42) x10_1) ∧ Aside0 (w'.heap[gb591]? = some (.cells #[(.slice A2_0 l2_0.length c2_0), (.slice A2_1 l2_1.length c2_1), (.slice A2_2 l2_2.length c2_2)] 26 (0, 0))) ∧ Aside0 (Kd.C (Kd.int .i64) w' A609_0 (rd_L2 x10_1 x15_3).length (rd_L2 x10_1 x15_3)) ∧ Aside0 (Kd.C (Kd.int .i64) w' A612_0 (rd_L2 x10_1 x16_4).length (rd_L2 x10_1 x16_4)) ∧ Aside0 (Below w8.heap.size w8 w'))
                  case atStart => exact ⟨(false), (0), (by first | rfl | (simp; done) | (simp [*]; done)), (by first | rfl | (simp; done) | (simp [*]; done)), H', ⟨Nat.le_refl _⟩, ⟨by (with_reducible repeat (first | apply Kd.S_alloc | apply Kd.S_drewN | apply Kd.S_drew)); exact HO_10.out⟩, ⟨by (with_reducible repeat (first | refine blk_drewN ?_ _ | refine blk_drew ?_ | refine blk_alloc ?_ _)); exact BK591.out⟩, ⟨by repeat (first | (with_reducible exact HR609_0.out) | (with_reducible refine Kd.C_alloc ?_ _) | (with_reducible refine Kd.C_drewN ?_ _) | (with_reducible refine Kd.C_drew ?_) | exact HR609_0.out)⟩, ⟨by repeat (first | (with_reducible exact HR612_0.out) | (with_reducible refine Kd.C_alloc ?_ _) | (with_reducible refine Kd.C_drewN ?_ _) | (with_reducible refine Kd.C_drew ?_) | exact HR612_0.out)⟩, ⟨by repeat (first | (with_reducible first | exact HB.out | apply below_alloc | apply pw_below_drewN | apply below_drew1) | exact HB.out)⟩⟩
                  clear H'
                  try clear c3
                  try clear c4
                  try clear c6
                  try clear p6
                  try clear q6
                  try clear hx6
                  try clear c8
                  try clear c8b0
                  try clear c11
                  try clear c11b0
                  try clear c14
                  try clear c14b0
                  try clear c14b1
                  try clear c16
                  try clear c16b0
                  try clear c16b1
                  try clear c17
                  try clear c19
                  try clear c19b0
                  try clear c19b1
                  try clear c20
                  try clear c22
                  try clear c25
                  try clear c25b0
                  try clear c26
                  try clear c26b0
                  try clear c27
                  try clear c27b0
                  try clear c28
                  try clear c28b0
                  try clear c29
                  try clear c29b0
                  try clear c30
                  try clear c30b0
                  try clear c31
                  try clear c31b0
                  try clear c32
                  try clear c32b0
                  try clear c33
                  try clear c33b0
                  try clear c35
                  try clear c36
                  try clear c36b0
                  try clear c37
                  try clear c37b0
                  try clear c38
                  try clear c38b0
                  try clear c39
                  try clear c39b0
                  try clear c40
                  try clear c45
                  try clear hx608_0
                  try clear hx608_1
                  try clear hx608_2
                  try clear hx609_0
                  try clear hx611_0
                  try clear hx611_1
                  try clear hx611_2
                  try clear hx612_0
                  try clear p6
                  try clear p608
                  try clear p609
                  try clear p611
                  try clear p612
                  try clear q608
                  try clear q609
                  try clear q611
                  try clear q612
                  obtain ⟨x18_6, x19_6, rfl, rfl, HA, HK6, HO_10, BK591, HR609_0, HR612_0, HB⟩ := hrel
                  cases gk with
                  | zero => exact absurd HA.out (by simp [laws_FnQuorums.l6])
                  | succ k6 =>
                    have H := HA.out
                    clear HA
                    simp only [laws_FnQuorums.l6] at H
                    by_cases c46 : 0 ≤ x15_3
                    rotate_left
                    · rw [if_neg c46] at H
                      exact absurd H (by simp)
                    rw [if_pos c46] at H
                    have c46b0 : decide (0 ≤ x15_3) = true := decide_eq_true c46
                    clear c46
                    (first | rw [c46b0] | (simp only [i64_w, i32_w]; rw [c46b0]) | skip)
                    by_cases c47 : x15_3 < (x10_1.length : Int)
                    rotate_left
                    · rw [if_neg c47] at H
                      exact absurd H (by simp)
                    rw [if_pos c47] at H
                    have c47b0 : decide (x15_3 < (x10_1.length : Int)) = true := decide_eq_true c47
                    clear c47
                    have H9 := Aside0.mk H
                    clear H
                    have p614 : 0 ≤ (x15_3 : Int) := of_decide_eq_true (by first | (with_reducible assumption) | assumption)
                    have q614 : x15_3 < (x10_1.length : Int) := of_decide_eq_true (by first | (with_reducible assumption) | assumption)
                    obtain ⟨ad614, A614_0, c614_0, e614, hx614_0, hl614_0, hi614_0⟩ := at_L2 (Kd.S_reads' HO_10.out).2.2 x15_3 p614 q614
                    obtain rfl : ad609 = ad614 := (by injection e614)
                    obtain ⟨ce614, hce614, hMe614, hcc614⟩ := Kd.S_get HO_10.out [] x15_3 p614 (by first | exact q614 | exact of_decide_eq_true (by first | (with_reducible assumption) | assumption) | (have e_ := (Kd.S_reads' HO_10.out).1; omega))
                    obtain ⟨ve614_0, rfl, ge614_0⟩ := hMe614
                    have hv614_0 := hcc614 0 _ rfl
                    rw [Nat.add_zero, show ((Kd.slice 3 (Kd.int .i64))).sz = 1 from rfl, Nat.mul_one] at hv614_0
                    replace hv614_0 := Option.some.inj (hv614_0.symm.trans hx614_0)
                    rw [hv614_0] at ge614_0
                    have HL614_0 := trivial
                    clear hv614_0 ge614_0
                    clear hcc614 hce614
                    have HR614_0 := Aside0.mk hi614_0
                    have HC614_0 := Aside0.mk hl614_0
                    clear hi614_0 hl614_0
                    replace p614 := eq_true p614
                    replace q614 := eq_true q614
                    go_upto_if 149 with (fail)
                    have H := H9.out
                    clear H9
                    by_cases c48 : x19_6 < ((rd_L2 x10_1 x15_3).length : Int)
                    rotate_left
                    · rw [if_neg c48] at H
                      have c48b0 : decide (x19_6 < ((rd_L2 x10_1 x15_3).length : Int)) = false := decide_eq_false c48
                      clear c48
                      (first | rw [c48b0] | (simp only [i64_w, i32_w]; rw [c48b0]) | skip)
                      by_cases c70 : x18_6 = true
                      rotate_left
                      · replace c70 := Bool.eq_false_iff.mpr c70
                        subst c70
                        have H1 : (some false) = some r := by rw [if_neg (show ¬ (false = true) by decide)] at H; exact H
                        clear H
                        have H := H1
                        clear H1
                        exact absurd ((Option.some.inj H).trans hr_.out) (by decide)
                      subst c70
                      have H1 : (laws_FnQuorums.l5 k6 l1 x10_1 x14_2 x15_3 x16_4 (wrap64 (x17_5 + 1)) l2_0 l2_1 l2_2) = some r := by rw [if_pos rfl] at H; exact H
                      clear H
                      have H := H1
                      clear H1
                      have H' := Aside0.mk H
                      clear H
                      go_wp2
                      go_roundg k6
                      case measure => have := HK1.out; have := HK2.out; have := HK3.out; have := HK4.out; have := HK5.out; have := HK6.out; omega
                      case rel => exact ⟨(wrap64 (x17_5 + 1)), (by first | rfl | (simp; done) | (simp [*]; done)), H', ⟨by have := HK1.out; have := HK2.out; have := HK3.out; have := HK4.out; have := HK5.out; have := HK6.out; omega⟩, ⟨by (with_reducible repeat (first | apply Kd.S_alloc | apply Kd.S_drewN | apply Kd.S_drew)); exact HO_10.out⟩, ⟨by (with_reducible repeat (first | refine blk_drewN ?_ _ | refine blk_drew ?_ | refine blk_alloc ?_ _)); exact BK591.out⟩, ⟨by repeat (first | (with_reducible first | exact HB.out | apply below_alloc | apply pw_below_drewN | apply below_drew1) | exact HB.out)⟩⟩
                    rw [if_pos c48] at H
                    have c48b0 : decide (x19_6 < ((rd_L2 x10_1 x15_3).length : Int)) = true := decide_eq_true c48
                    clear c48
                    (first | rw [c48b0] | (simp only [i64_w, i32_w]; rw [c48b0]) | skip)
                    as_aux_lemma =>
                     by_cases c49 : 0 ≤ x19_6
                     rotate_left
                     · rw [if_neg c49] at H
                       exact absurd H (by simp)
                     rw [if_pos c49] at H
                     have c49b0 : decide (0 ≤ x19_6) = true := decide_eq_true c49
                     clear c49
                     by_cases c50 : 0 ≤ x16_4
                     rotate_left
                     · rw [if_neg c50] at H
                       exact absurd H (by simp)
                     rw [if_pos c50] at H
                     have c50b0 : decide (0 ≤ x16_4) = true := decide_eq_true c50
                     clear c50
                     by_cases c51 : x16_4 < (x10_1.length : Int)
                     rotate_left
                     · rw [if_neg c51] at H
                       exact absurd H (by simp)
                     rw [if_pos c51] at H
                     have c51b0 : decide (x16_4 < (x10_1.length : Int)) = true := decide_eq_true c51
                     clear c51
                     replace H := Option.bind_eq_some_iff.mp H
                     obtain ⟨t618, A520, H⟩ := H
                     replace H : (if t618 = true then (if 0 ≤ x14_2 then (if x14_2 < (l1.length : Int) then ((spec_Voters.f k6 ((rd_T26 l1 x14_2).f0) ((rd_T26 l1 x14_2).f1) ((rd_T26 l1 x14_2).f2)).bind fun t620 => ((laws_within.f k6 t620 (rd (rd_L2 x10_1 x15_3) x19_6)).bind fun t623 => (if t623 = true then (laws_FnQuorums.l6 k6 l1 x10_1 x14_2 x15_3 x16_4 x17_5 true (wrap64 (x19_6 + 1)) l2_0 l2_1 l2_2) else (if 0 ≤ x17_5 then (if x17_5 < (l1.length : Int) then ((spec_Voters.f k6 ((rd_T26 l1 x17_5).f0) ((rd_T26 l1 x17_5).f1) ((rd_T26 l1 x17_5).f2)).bind fun t625 => ((laws_within.f k6 t625 (rd (rd_L2 x10_1 x15_3) x19_6)).bind fun t628 => (if t628 = true then (laws_FnQuorums.l6 k6 l1 x10_1 x14_2 x15_3 x16_4 x17_5 true (wrap64 (x19_6 + 1)) l2_0 l2_1 l2_2) else (laws_FnQuorums.l6 k6 l1 x10_1 x14_2 x15_3 x16_4 x17_5 x18_6 (wrap64 (x19_6 + 1)) l2_0 l2_1 l2_2)))) else (none)) else (none))))) else (none)) else (none)) else (laws_FnQuorums.l6 k6 l1 x10_1 x14_2 x15_3 x16_4 x17_5 x18_6 (wrap64 (x19_6 + 1)) l2_0 l2_1 l2_2)) = some r := H
                     have A52 := Aside0.mk A520
                     clear A520
                     by_cases c53 : t618 = true
                     rotate_left
                     · replace c53 := Bool.eq_false_iff.mpr c53
                       subst c53
                       have H1 : (laws_FnQuorums.l6 k6 l1 x10_1 x14_2 x15_3 x16_4 x17_5 x18_6 (wrap64 (x19_6 + 1)) l2_0 l2_1 l2_2) = some r := by rw [if_neg (show ¬ (false = true) by decide)] at H; exact H
                       clear H
                       have H := H1
                       clear H1
                       have H' := Aside0.mk H
                       clear H
                       try clear hx614_0
                       have p615 : 0 ≤ (x15_3 : Int) := of_decide_eq_true (by first | (with_reducible assumption) | assumption)
                       have q615 : x15_3 < (x10_1.length : Int) := of_decide_eq_true (by first | (with_reducible assumption) | assumption)
                       obtain ⟨ad615, A615_0, c615_0, e615, hx615_0, hl615_0, hi615_0⟩ := at_L2 (Kd.S_reads' HO_10.out).2.2 x15_3 p615 q615
                       obtain rfl : ad609 = ad615 := (by injection e615)
                       obtain ⟨ce615, hce615, hMe615, hcc615⟩ := Kd.S_get HO_10.out [] x15_3 p615 (by first | exact q615 | exact of_decide_eq_true (by first | (with_reducible assumption) | assumption) | (have e_ := (Kd.S_reads' HO_10.out).1; omega))
                       obtain ⟨ve615_0, rfl, ge615_0⟩ := hMe615
                       have hv615_0 := hcc615 0 _ rfl
                       rw [Nat.add_zero, show ((Kd.slice 3 (Kd.int .i64))).sz = 1 from rfl, Nat.mul_one] at hv615_0
                       replace hv615_0 := Option.some.inj (hv615_0.symm.trans hx615_0)
                       rw [hv615_0] at ge615_0
                       have HL615_0 := trivial
                       clear hv615_0 ge615_0
                       clear hcc615 hce615
                       have HR615_0 := Aside0.mk hi615_0
                       have HC615_0 := Aside0.mk hl615_0
                       clear hi615_0 hl615_0
                       replace p615 := eq_true p615
                       replace q615 := eq_true q615
                       have p616 : 0 ≤ (x19_6 : Int) := of_decide_eq_true (by first | (with_reducible assumption) | assumption)
                       have q616 : x19_6 < ((rd_L2 x10_1 x15_3).length : Int) := of_decide_eq_true (by first | (with_reducible assumption) | assumption)
                       obtain ⟨ad616, e616, hx616_0⟩ := Kd.at_int (by repeat (first | (with_reducible exact HR615_0.out) | (with_reducible refine Kd.C_alloc ?_ _) | (with_reducible refine Kd.C_drewN ?_ _) | (with_reducible refine Kd.C_drew ?_) | exact HR615_0.out)) x19_6 p616 q616
                       cases e616
                       replace p616 := eq_true p616
                       replace q616 := eq_true q616
                       have p617 : 0 ≤ (x16_4 : Int) := of_decide_eq_true (by first | (with_reducible assumption) | assumption)
                       have q617 : x16_4 < (x10_1.length : Int) := of_decide_eq_true (by first | (with_reducible assumption) | assumption)
                       obtain ⟨ad617, A617_0, c617_0, e617, hx617_0, hl617_0, hi617_0⟩ := at_L2 (Kd.S_reads' HO_10.out).2.2 x16_4 p617 q617
                       obtain rfl : ad609 = ad617 := (by injection e617)
                       obtain ⟨ce617, hce617, hMe617, hcc617⟩ := Kd.S_get HO_10.out [] x16_4 p617 (by first | exact q617 | exact of_decide_eq_true (by first | (with_reducible assumption) | assumption) | (have e_ := (Kd.S_reads' HO_10.out).1; omega))
                       obtain ⟨ve617_0, rfl, ge617_0⟩ := hMe617
                       have hv617_0 := hcc617 0 _ rfl
                       rw [Nat.add_zero, show ((Kd.slice 3 (Kd.int .i64))).sz = 1 from rfl, Nat.mul_one] at hv617_0
                       replace hv617_0 := Option.some.inj (hv617_0.symm.trans hx617_0)
                       rw [hv617_0] at ge617_0
                       have HL617_0 := trivial
                       clear hv617_0 ge617_0
                       clear hcc617 hce617
                       have HR617_0 := Aside0.mk hi617_0
                       have HC617_0 := Aside0.mk hl617_0
                       clear hi617_0 hl617_0
                       replace p617 := eq_true p617
                       replace q617 := eq_true q617
                       go_wp2_with (first | ((with_reducible refine gate_callee (f := 15) rfl ?_); refine goesL_ (some 164) rfl rfl Try.func15 (by kernel_rfl) rfl #[.slice A617_0 (rd_L2 x10_1 x16_4).length c617_0, .int .i64 (rd (rd_L2 x10_1 x15_3) x19_6)] rfl (by (try simp only [List.map_toArray, List.map_cons, List.map_nil]); first | done | rfl | (simp only [List.length_drop, List.length_take]; rfl)) ?_; (with_reducible refine (laws_within.calls k6 _ _ (rd_L2 x10_1 x16_4) (rd (rd_L2 x10_1 x15_3) x19_6) false _ ?side1 ?side2 A52.out).mono ?_); (case side1 => repeat (first | exact (by repeat (first | (with_reducible exact HR617_0.out) | (with_reducible refine Kd.C_alloc ?_ _) | (with_reducible refine Kd.C_drewN ?_ _) | (with_reducible refine Kd.C_drew ?_) | exact HR617_0.out)) | (with_reducible refine Kd.C_alloc ?_ _) | (with_reducible refine Kd.C_drewN ?_ _) | (with_reducible refine Kd.C_drew ?_))); (case side2 => exact HC617_0.out); rintro e w' ⟨rfl, ⟨nd, rfl⟩⟩; refine ⟨_, rfl, ?_⟩))
                       go_roundg k6
                       case measure => have := HK1.out; have := HK2.out; have := HK3.out; have := HK4.out; have := HK5.out; have := HK6.out; omega
                       case rel => exact ⟨(x18_6), (wrap64 (x19_6 + 1)), (by first | rfl | (simp; done) | (simp [*]; done)), (by first | rfl | (simp; done) | (simp [*]; done)), H', ⟨by have := HK1.out; have := HK2.out; have := HK3.out; have := HK4.out; have := HK5.out; have := HK6.out; omega⟩, ⟨by (with_reducible repeat (first | apply Kd.S_alloc | apply Kd.S_drewN | apply Kd.S_drew)); exact HO_10.out⟩, ⟨by (with_reducible repeat (first | refine blk_drewN ?_ _ | refine blk_drew ?_ | refine blk_alloc ?_ _)); exact BK591.out⟩, ⟨by repeat (first | (with_reducible exact HR609_0.out) | (with_reducible refine Kd.C_alloc ?_ _) | (with_reducible refine Kd.C_drewN ?_ _) | (with_reducible refine Kd.C_drew ?_) | exact HR609_0.out)⟩, ⟨by repeat (first | (with_reducible exact HR612_0.out) | (with_reducible refine Kd.C_alloc ?_ _) | (with_reducible refine Kd.C_drewN ?_ _) | (with_reducible refine Kd.C_drew ?_) | exact HR612_0.out)⟩, ⟨by repeat (first | (with_reducible first | exact HB.out | apply below_alloc | apply pw_below_drewN | apply below_drew1) | exact HB.out)⟩⟩
                     subst c53
                     have H1 : (if 0 ≤ x14_2 then (if x14_2 < (l1.length : Int) then ((spec_Voters.f k6 ((rd_T26 l1 x14_2).f0) ((rd_T26 l1 x14_2).f1) ((rd_T26 l1 x14_2).f2)).bind fun t620 => ((laws_within.f k6 t620 (rd (rd_L2 x10_1 x15_3) x19_6)).bind fun t623 => (if t623 = true then (laws_FnQuorums.l6 k6 l1 x10_1 x14_2 x15_3 x16_4 x17_5 true (wrap64 (x19_6 + 1)) l2_0 l2_1 l2_2) else (if 0 ≤ x17_5 then (if x17_5 < (l1.length : Int) then ((spec_Voters.f k6 ((rd_T26 l1 x17_5).f0) ((rd_T26 l1 x17_5).f1) ((rd_T26 l1 x17_5).f2)).bind fun t625 => ((laws_within.f k6 t625 (rd (rd_L2 x10_1 x15_3) x19_6)).bind fun t628 => (if t628 = true then (laws_FnQuorums.l6 k6 l1 x10_1 x14_2 x15_3 x16_4 x17_5 true (wrap64 (x19_6 + 1)) l2_0 l2_1 l2_2) else (laws_FnQuorums.l6 k6 l1 x10_1 x14_2 x15_3 x16_4 x17_5 x18_6 (wrap64 (x19_6 + 1)) l2_0 l2_1 l2_2)))) else (none)) else (none))))) else (none)) else (none)) = some r := by rw [if_pos rfl] at H; exact H
                     clear H
                     have H := H1
                     clear H1
                     by_cases c54 : 0 ≤ x14_2
                     rotate_left
                     · rw [if_neg c54] at H
                       exact absurd H (by simp)
                     rw [if_pos c54] at H
                     have c54b0 : decide (0 ≤ x14_2) = true := decide_eq_true c54
                     clear c54
                     by_cases c55 : x14_2 < (l1.length : Int)
                     rotate_left
                     · rw [if_neg c55] at H
                       exact absurd H (by simp)
                     rw [if_pos c55] at H
                     have c55b0 : decide (x14_2 < (l1.length : Int)) = true := decide_eq_true c55
                     clear c55
                     replace H := Option.bind_eq_some_iff.mp H
                     obtain ⟨t620, A560, H⟩ := H
                     replace H : ((laws_within.f k6 t620 (rd (rd_L2 x10_1 x15_3) x19_6)).bind fun t623 => (if t623 = true then (laws_FnQuorums.l6 k6 l1 x10_1 x14_2 x15_3 x16_4 x17_5 true (wrap64 (x19_6 + 1)) l2_0 l2_1 l2_2) else (if 0 ≤ x17_5 then (if x17_5 < (l1.length : Int) then ((spec_Voters.f k6 ((rd_T26 l1 x17_5).f0) ((rd_T26 l1 x17_5).f1) ((rd_T26 l1 x17_5).f2)).bind fun t625 => ((laws_within.f k6 t625 (rd (rd_L2 x10_1 x15_3) x19_6)).bind fun t628 => (if t628 = true then (laws_FnQuorums.l6 k6 l1 x10_1 x14_2 x15_3 x16_4 x17_5 true (wrap64 (x19_6 + 1)) l2_0 l2_1 l2_2) else (laws_FnQuorums.l6 k6 l1 x10_1 x14_2 x15_3 x16_4 x17_5 x18_6 (wrap64 (x19_6 + 1)) l2_0 l2_1 l2_2)))) else (none)) else (none)))) = some r := H
                     have A56 := Aside0.mk A560
                     clear A560
                     replace H := Option.bind_eq_some_iff.mp H
                     obtain ⟨t623, A570, H⟩ := H
                     replace H : (if t623 = true then (laws_FnQuorums.l6 k6 l1 x10_1 x14_2 x15_3 x16_4 x17_5 true (wrap64 (x19_6 + 1)) l2_0 l2_1 l2_2) else (if 0 ≤ x17_5 then (if x17_5 < (l1.length : Int) then ((spec_Voters.f k6 ((rd_T26 l1 x17_5).f0) ((rd_T26 l1 x17_5).f1) ((rd_T26 l1 x17_5).f2)).bind fun t625 => ((laws_within.f k6 t625 (rd (rd_L2 x10_1 x15_3) x19_6)).bind fun t628 => (if t628 = true then (laws_FnQuorums.l6 k6 l1 x10_1 x14_2 x15_3 x16_4 x17_5 true (wrap64 (x19_6 + 1)) l2_0 l2_1 l2_2) else (laws_FnQuorums.l6 k6 l1 x10_1 x14_2 x15_3 x16_4 x17_5 x18_6 (wrap64 (x19_6 + 1)) l2_0 l2_1 l2_2)))) else (none)) else (none))) = some r := H
                     have A57 := Aside0.mk A570
                     clear A570
                     by_cases c58 : t623 = true
                     · subst c58
                       have H1 : (laws_FnQuorums.l6 k6 l1 x10_1 x14_2 x15_3 x16_4 x17_5 true (wrap64 (x19_6 + 1)) l2_0 l2_1 l2_2) = some r := by rw [if_pos rfl] at H; exact H
                       clear H
                       have H := H1
                       clear H1
                       have H' := Aside0.mk H
                       clear H
                       try clear hx614_0
                       have p615 : 0 ≤ (x15_3 : Int) := of_decide_eq_true (by first | (with_reducible assumption) | assumption)
                       have q615 : x15_3 < (x10_1.length : Int) := of_decide_eq_true (by first | (with_reducible assumption) | assumption)
                       obtain ⟨ad615, A615_0, c615_0, e615, hx615_0, hl615_0, hi615_0⟩ := at_L2 (Kd.S_reads' HO_10.out).2.2 x15_3 p615 q615
                       obtain rfl : ad609 = ad615 := (by injection e615)
                       obtain ⟨ce615, hce615, hMe615, hcc615⟩ := Kd.S_get HO_10.out [] x15_3 p615 (by first | exact q615 | exact of_decide_eq_true (by first | (with_reducible assumption) | assumption) | (have e_ := (Kd.S_reads' HO_10.out).1; omega))
                       obtain ⟨ve615_0, rfl, ge615_0⟩ := hMe615
                       have hv615_0 := hcc615 0 _ rfl
                       rw [Nat.add_zero, show ((Kd.slice 3 (Kd.int .i64))).sz = 1 from rfl, Nat.mul_one] at hv615_0
                       replace hv615_0 := Option.some.inj (hv615_0.symm.trans hx615_0)
                       rw [hv615_0] at ge615_0
                       have HL615_0 := trivial
                       clear hv615_0 ge615_0
                       clear hcc615 hce615
                       have HR615_0 := Aside0.mk hi615_0
                       have HC615_0 := Aside0.mk hl615_0
                       clear hi615_0 hl615_0
                       replace p615 := eq_true p615
                       replace q615 := eq_true q615
                       have p616 : 0 ≤ (x19_6 : Int) := of_decide_eq_true (by first | (with_reducible assumption) | assumption)
                       have q616 : x19_6 < ((rd_L2 x10_1 x15_3).length : Int) := of_decide_eq_true (by first | (with_reducible assumption) | assumption)
                       obtain ⟨ad616, e616, hx616_0⟩ := Kd.at_int (by repeat (first | (with_reducible exact HR615_0.out) | (with_reducible refine Kd.C_alloc ?_ _) | (with_reducible refine Kd.C_drewN ?_ _) | (with_reducible refine Kd.C_drew ?_) | exact HR615_0.out)) x19_6 p616 q616
                       cases e616
                       replace p616 := eq_true p616
                       replace q616 := eq_true q616
                       have p617 : 0 ≤ (x16_4 : Int) := of_decide_eq_true (by first | (with_reducible assumption) | assumption)
                       have q617 : x16_4 < (x10_1.length : Int) := of_decide_eq_true (by first | (with_reducible assumption) | assumption)
                       obtain ⟨ad617, A617_0, c617_0, e617, hx617_0, hl617_0, hi617_0⟩ := at_L2 (Kd.S_reads' HO_10.out).2.2 x16_4 p617 q617
                       obtain rfl : ad609 = ad617 := (by injection e617)
                       obtain ⟨ce617, hce617, hMe617, hcc617⟩ := Kd.S_get HO_10.out [] x16_4 p617 (by first | exact q617 | exact of_decide_eq_true (by first | (with_reducible assumption) | assumption) | (have e_ := (Kd.S_reads' HO_10.out).1; omega))
                       obtain ⟨ve617_0, rfl, ge617_0⟩ := hMe617
                       have hv617_0 := hcc617 0 _ rfl
                       rw [Nat.add_zero, show ((Kd.slice 3 (Kd.int .i64))).sz = 1 from rfl, Nat.mul_one] at hv617_0
                       replace hv617_0 := Option.some.inj (hv617_0.symm.trans hx617_0)
                       rw [hv617_0] at ge617_0
                       have HL617_0 := trivial
                       clear hv617_0 ge617_0
                       clear hcc617 hce617
                       have HR617_0 := Aside0.mk hi617_0
                       have HC617_0 := Aside0.mk hl617_0
                       clear hi617_0 hl617_0
                       replace p617 := eq_true p617
                       replace q617 := eq_true q617
                       go_wp2_with (first | ((with_reducible refine gate_callee (f := 15) rfl ?_); refine goesL_ (some 164) rfl rfl Try.func15 (by kernel_rfl) rfl #[.slice A617_0 (rd_L2 x10_1 x16_4).length c617_0, .int .i64 (rd (rd_L2 x10_1 x15_3) x19_6)] rfl (by (try simp only [List.map_toArray, List.map_cons, List.map_nil]); first | done | rfl | (simp only [List.length_drop, List.length_take]; rfl)) ?_; (with_reducible refine (laws_within.calls k6 _ _ (rd_L2 x10_1 x16_4) (rd (rd_L2 x10_1 x15_3) x19_6) true _ ?side1 ?side2 A52.out).mono ?_); (case side1 => repeat (first | exact (by repeat (first | (with_reducible exact HR617_0.out) | (with_reducible refine Kd.C_alloc ?_ _) | (with_reducible refine Kd.C_drewN ?_ _) | (with_reducible refine Kd.C_drew ?_) | exact HR617_0.out)) | (with_reducible refine Kd.C_alloc ?_ _) | (with_reducible refine Kd.C_drewN ?_ _) | (with_reducible refine Kd.C_drew ?_))); (case side2 => exact HC617_0.out); rintro e w' ⟨rfl, ⟨nd, rfl⟩⟩; refine ⟨_, rfl, ?_⟩; have p619 : 0 ≤ (x14_2 : Int) := of_decide_eq_true (by first | (with_reducible assumption) | assumption); have q619 : x14_2 < (l1.length : Int) := of_decide_eq_true (by first | (with_reducible assumption) | assumption); obtain ⟨ad619, A619_0, c619_0, A619_1, c619_1, A619_2, c619_2, e619, hx619_0, hx619_1, hx619_2, hl619_0, hi619_0, hl619_1, hi619_1, hl619_2, hi619_2⟩ := at_T26 HR1.out x14_2 p619 q619; obtain rfl : ad608 = ad619 := (by injection e619); replace hx619_0 := (HB.out.cell (World.block_lt_of_cell? w8 _ hx619_0)).trans hx619_0; replace hx619_1 := (HB.out.cell (World.block_lt_of_cell? w8 _ hx619_1)).trans hx619_1; replace hx619_2 := (HB.out.cell (World.block_lt_of_cell? w8 _ hx619_2)).trans hx619_2; have HR619_0 := Aside0.mk hi619_0; have HC619_0 := Aside0.mk hl619_0; clear hi619_0 hl619_0; have HR619_1 := Aside0.mk hi619_1; have HC619_1 := Aside0.mk hl619_1; clear hi619_1 hl619_1; have HR619_2 := Aside0.mk hi619_2; have HC619_2 := Aside0.mk hl619_2; clear hi619_2 hl619_2; replace p619 := eq_true p619; replace q619 := eq_true q619) | (go_at_call 26; (with_reducible refine (spec_Voters.calls k6 _ _ ((rd_T26 l1 x14_2).f0) _ _ ((rd_T26 l1 x14_2).f1) _ _ ((rd_T26 l1 x14_2).f2) t620 _ ?side1 ?side2 ?side3 ?side4 ?side5 ?side6 A56.out).mono ?_); (case side1 => repeat (first | exact (Kd.C_below HR619_0.out (by repeat (first | (with_reducible first | exact HB.out | apply below_alloc | apply pw_below_drewN | apply below_drew1) | exact HB.out))) | (with_reducible refine Kd.C_alloc ?_ _) | (with_reducible refine Kd.C_drewN ?_ _) | (with_reducible refine Kd.C_drew ?_))); (case side2 => exact HC619_0.out); (case side3 => repeat (first | exact (Kd.C_below HR619_1.out (by repeat (first | (with_reducible first | exact HB.out | apply below_alloc | apply pw_below_drewN | apply below_drew1) | exact HB.out))) | (with_reducible refine Kd.C_alloc ?_ _) | (with_reducible refine Kd.C_drewN ?_ _) | (with_reducible refine Kd.C_drew ?_))); (case side4 => exact HC619_1.out); (case side5 => repeat (first | exact (Kd.C_below HR619_2.out (by repeat (first | (with_reducible first | exact HB.out | apply below_alloc | apply pw_below_drewN | apply below_drew1) | exact HB.out))) | (with_reducible refine Kd.C_alloc ?_ _) | (with_reducible refine Kd.C_drewN ?_ _) | (with_reducible refine Kd.C_drew ?_))); (case side6 => exact HC619_2.out); rintro e w59 ⟨v621, rfl, ho0, hb⟩; have n0_ := Aside0.mk (Kd.S_elder' (by (with_reducible repeat (first | apply Kd.S_alloc | apply Kd.S_drewN | apply Kd.S_drew)); exact HO_10.out) (Kd.R_base ho0) hb); have n1_ := trivial; have n2_ := trivial; have n3_ := trivial; have n4_ := Aside0.mk (Kd.R_lower ho0 (below_size (by repeat (first | (with_reducible first | exact HB.out | apply below_alloc | apply pw_below_drewN | apply below_drew1) | exact HB.out)))); have n5_ := Aside0.mk (blk_below (g := gb591) (o := .cells #[.slice A2_0 l2_0.length c2_0, .slice A2_1 l2_1.length c2_1, .slice A2_2 l2_2.length c2_2] 26 (0, 0)) (by (with_reducible repeat (first | refine blk_drewN ?_ _ | refine blk_drew ?_ | refine blk_alloc ?_ _)); exact BK591.out) hb); have n6_ := Aside0.mk (Kd.C_below (Kd.C_below HR609_0.out (by repeat (first | (with_reducible exact Below.refl _ _) | (with_reducible refine pw_below_drewN ?_ _) | (with_reducible refine below_drew1 ?_) | (with_reducible refine below_alloc ?_ _)))) hb); have n7_ := Aside0.mk (Kd.C_below (Kd.C_below HR612_0.out (by repeat (first | (with_reducible exact Below.refl _ _) | (with_reducible refine pw_below_drewN ?_ _) | (with_reducible refine below_drew1 ?_) | (with_reducible refine below_alloc ?_ _)))) hb); have n8_ := Aside0.mk (Kd.C_below (Kd.C_below HR614_0.out (by repeat (first | (with_reducible exact Below.refl _ _) | (with_reducible refine pw_below_drewN ?_ _) | (with_reducible refine below_drew1 ?_) | (with_reducible refine below_alloc ?_ _)))) hb); have n9_ := Aside0.mk (Kd.C_below (Kd.C_below HR615_0.out (by repeat (first | (with_reducible exact Below.refl _ _) | (with_reducible refine pw_below_drewN ?_ _) | (with_reducible refine below_drew1 ?_) | (with_reducible refine below_alloc ?_ _)))) hb); have n10_ := Aside0.mk (Kd.C_below (Kd.C_below HR617_0.out (by repeat (first | (with_reducible exact Below.refl _ _) | (with_reducible refine pw_below_drewN ?_ _) | (with_reducible refine below_drew1 ?_) | (with_reducible refine below_alloc ?_ _)))) hb); have n11_ := Aside0.mk (below_step (by repeat (first | (with_reducible first | exact HB.out | apply below_alloc | apply pw_below_drewN | apply below_drew1) | exact HB.out)) hb); clear HO_10; clear HL614_0; clear HL615_0; clear HL617_0; clear BK591; clear HR609_0; clear HR612_0; clear HR614_0; clear HR615_0; clear HR617_0; clear HB; have HO_10 := n0_; have HL614_0 := n1_; have HL615_0 := n2_; have HL617_0 := n3_; have HO622 := n4_; have BK591 := n5_; have HR609_0 := n6_; have HR612_0 := n7_; have HR614_0 := n8_; have HR615_0 := n9_; have HR617_0 := n10_; have HB := n11_; clear n0_ n1_ n2_ n3_ n4_ n5_ n6_ n7_ n8_ n9_ n10_ n11_; (try clear hb); (try clear hb2); (try clear hk); (try clear hi); (try clear ho0); obtain ⟨Ao60, co60, eo60⟩ := Kd.R_slice HO622.out; subst eo60) | (go_at_call 15; (with_reducible refine (laws_within.calls k6 _ _ t620 (rd (rd_L2 x10_1 x15_3) x19_6) true _ ?side1 ?side2 A57.out).mono ?_); (case side1 => repeat (first | exact (Kd.R_reads' HO622.out).2.2 | (with_reducible refine Kd.C_alloc ?_ _) | (with_reducible refine Kd.C_drewN ?_ _) | (with_reducible refine Kd.C_drew ?_))); (case side2 => exact (Kd.R_reads' HO622.out).2.1); rintro e w' ⟨rfl, ⟨nd, rfl⟩⟩))
                       go_roundg k6
                       case measure => have := HK1.out; have := HK2.out; have := HK3.out; have := HK4.out; have := HK5.out; have := HK6.out; omega
                       case rel => exact ⟨(true), (wrap64 (x19_6 + 1)), (by first | rfl | (simp; done) | (simp [*]; done)), (by first | rfl | (simp; done) | (simp [*]; done)), H', ⟨by have := HK1.out; have := HK2.out; have := HK3.out; have := HK4.out; have := HK5.out; have := HK6.out; omega⟩, ⟨by (with_reducible repeat (first | apply Kd.S_alloc | apply Kd.S_drewN | apply Kd.S_drew)); exact Kd.S_mono HO_10.out (fun _ hk => trivial)⟩, ⟨by (with_reducible repeat (first | refine blk_drewN ?_ _ | refine blk_drew ?_ | refine blk_alloc ?_ _)); exact BK591.out⟩, ⟨by repeat (first | (with_reducible exact HR609_0.out) | (with_reducible refine Kd.C_alloc ?_ _) | (with_reducible refine Kd.C_drewN ?_ _) | (with_reducible refine Kd.C_drew ?_) | exact HR609_0.out)⟩, ⟨by repeat (first | (with_reducible exact HR612_0.out) | (with_reducible refine Kd.C_alloc ?_ _) | (with_reducible refine Kd.C_drewN ?_ _) | (with_reducible refine Kd.C_drew ?_) | exact HR612_0.out)⟩, ⟨by repeat (first | (with_reducible first | exact HB.out | apply below_alloc | apply pw_below_drewN | apply below_drew1) | exact HB.out)⟩⟩
                     replace c58 := Bool.eq_false_iff.mpr c58
                     subst c58
                     have H1 : (if 0 ≤ x17_5 then (if x17_5 < (l1.length : Int) then ((spec_Voters.f k6 ((rd_T26 l1 x17_5).f0) ((rd_T26 l1 x17_5).f1) ((rd_T26 l1 x17_5).f2)).bind fun t625 => ((laws_within.f k6 t625 (rd (rd_L2 x10_1 x15_3) x19_6)).bind fun t628 => (if t628 = true then (laws_FnQuorums.l6 k6 l1 x10_1 x14_2 x15_3 x16_4 x17_5 true (wrap64 (x19_6 + 1)) l2_0 l2_1 l2_2) else (laws_FnQuorums.l6 k6 l1 x10_1 x14_2 x15_3 x16_4 x17_5 x18_6 (wrap64 (x19_6 + 1)) l2_0 l2_1 l2_2)))) else (none)) else (none)) = some r := by rw [if_neg (show ¬ (false = true) by decide)] at H; exact H
                     clear H
                     have H := H1
                     clear H1
                     as_aux_lemma =>
                      by_cases c61 : 0 ≤ x17_5
                      rotate_left
                      · rw [if_neg c61] at H
                        exact absurd H (by simp)
                      rw [if_pos c61] at H
                      have c61b0 : decide (0 ≤ x17_5) = true := decide_eq_true c61
                      clear c61
                      by_cases c62 : x17_5 < (l1.length : Int)
                      rotate_left
                      · rw [if_neg c62] at H
                        exact absurd H (by simp)
                      rw [if_pos c62] at H
                      have c62b0 : decide (x17_5 < (l1.length : Int)) = true := decide_eq_true c62
                      clear c62
                      replace H := Option.bind_eq_some_iff.mp H
                      obtain ⟨t625, A630, H⟩ := H
                      replace H : ((laws_within.f k6 t625 (rd (rd_L2 x10_1 x15_3) x19_6)).bind fun t628 => (if t628 = true then (laws_FnQuorums.l6 k6 l1 x10_1 x14_2 x15_3 x16_4 x17_5 true (wrap64 (x19_6 + 1)) l2_0 l2_1 l2_2) else (laws_FnQuorums.l6 k6 l1 x10_1 x14_2 x15_3 x16_4 x17_5 x18_6 (wrap64 (x19_6 + 1)) l2_0 l2_1 l2_2))) = some r := H
                      have A63 := Aside0.mk A630
                      clear A630
                      replace H := Option.bind_eq_some_iff.mp H
                      obtain ⟨t628, A640, H⟩ := H
                      replace H : (if t628 = true then (laws_FnQuorums.l6 k6 l1 x10_1 x14_2 x15_3 x16_4 x17_5 true (wrap64 (x19_6 + 1)) l2_0 l2_1 l2_2) else (laws_FnQuorums.l6 k6 l1 x10_1 x14_2 x15_3 x16_4 x17_5 x18_6 (wrap64 (x19_6 + 1)) l2_0 l2_1 l2_2)) = some r := H
                      have A64 := Aside0.mk A640
                      clear A640
                      have H9 := Aside0.mk H
                      clear H
                      try clear hx614_0
                      have p615 : 0 ≤ (x15_3 : Int) := of_decide_eq_true (by first | (with_reducible assumption) | assumption)
                      have q615 : x15_3 < (x10_1.length : Int) := of_decide_eq_true (by first | (with_reducible assumption) | assumption)
                      obtain ⟨ad615, A615_0, c615_0, e615, hx615_0, hl615_0, hi615_0⟩ := at_L2 (Kd.S_reads' HO_10.out).2.2 x15_3 p615 q615
                      obtain rfl : ad609 = ad615 := (by injection e615)
                      obtain ⟨ce615, hce615, hMe615, hcc615⟩ := Kd.S_get HO_10.out [] x15_3 p615 (by first | exact q615 | exact of_decide_eq_true (by first | (with_reducible assumption) | assumption) | (have e_ := (Kd.S_reads' HO_10.out).1; omega))
                      obtain ⟨ve615_0, rfl, ge615_0⟩ := hMe615
                      have hv615_0 := hcc615 0 _ rfl
                      rw [Nat.add_zero, show ((Kd.slice 3 (Kd.int .i64))).sz = 1 from rfl, Nat.mul_one] at hv615_0
                      replace hv615_0 := Option.some.inj (hv615_0.symm.trans hx615_0)
                      rw [hv615_0] at ge615_0
                      have HL615_0 := trivial
                      clear hv615_0 ge615_0
                      clear hcc615 hce615
                      have HR615_0 := Aside0.mk hi615_0
                      have HC615_0 := Aside0.mk hl615_0
                      clear hi615_0 hl615_0
                      replace p615 := eq_true p615
                      replace q615 := eq_true q615
                      have p616 : 0 ≤ (x19_6 : Int) := of_decide_eq_true (by first | (with_reducible assumption) | assumption)
                      have q616 : x19_6 < ((rd_L2 x10_1 x15_3).length : Int) := of_decide_eq_true (by first | (with_reducible assumption) | assumption)
                      obtain ⟨ad616, e616, hx616_0⟩ := Kd.at_int (by repeat (first | (with_reducible exact HR615_0.out) | (with_reducible refine Kd.C_alloc ?_ _) | (with_reducible refine Kd.C_drewN ?_ _) | (with_reducible refine Kd.C_drew ?_) | exact HR615_0.out)) x19_6 p616 q616
                      cases e616
                      replace p616 := eq_true p616
                      replace q616 := eq_true q616
                      have p617 : 0 ≤ (x16_4 : Int) := of_decide_eq_true (by first | (with_reducible assumption) | assumption)
                      have q617 : x16_4 < (x10_1.length : Int) := of_decide_eq_true (by first | (with_reducible assumption) | assumption)
                      obtain ⟨ad617, A617_0, c617_0, e617, hx617_0, hl617_0, hi617_0⟩ := at_L2 (Kd.S_reads' HO_10.out).2.2 x16_4 p617 q617
                      obtain rfl : ad609 = ad617 := (by injection e617)
                      obtain ⟨ce617, hce617, hMe617, hcc617⟩ := Kd.S_get HO_10.out [] x16_4 p617 (by first | exact q617 | exact of_decide_eq_true (by first | (with_reducible assumption) | assumption) | (have e_ := (Kd.S_reads' HO_10.out).1; omega))
                      obtain ⟨ve617_0, rfl, ge617_0⟩ := hMe617
                      have hv617_0 := hcc617 0 _ rfl
                      rw [Nat.add_zero, show ((Kd.slice 3 (Kd.int .i64))).sz = 1 from rfl, Nat.mul_one] at hv617_0
                      replace hv617_0 := Option.some.inj (hv617_0.symm.trans hx617_0)
                      rw [hv617_0] at ge617_0
                      have HL617_0 := trivial
                      clear hv617_0 ge617_0
                      clear hcc617 hce617
                      have HR617_0 := Aside0.mk hi617_0
                      have HC617_0 := Aside0.mk hl617_0
                      clear hi617_0 hl617_0
                      replace p617 := eq_true p617
                      replace q617 := eq_true q617
                      go_upto_if 182 with (first | ((with_reducible refine gate_callee (f := 15) rfl ?_); refine goesL_ (some 164) rfl rfl Try.func15 (by kernel_rfl) rfl #[.slice A617_0 (rd_L2 x10_1 x16_4).length c617_0, .int .i64 (rd (rd_L2 x10_1 x15_3) x19_6)] rfl (by (try simp only [List.map_toArray, List.map_cons, List.map_nil]); first | done | rfl | (simp only [List.length_drop, List.length_take]; rfl)) ?_; (with_reducible refine (laws_within.calls k6 _ _ (rd_L2 x10_1 x16_4) (rd (rd_L2 x10_1 x15_3) x19_6) true _ ?side1 ?side2 A52.out).mono ?_); (case side1 => repeat (first | exact (by repeat (first | (with_reducible exact HR617_0.out) | (with_reducible refine Kd.C_alloc ?_ _) | (with_reducible refine Kd.C_drewN ?_ _) | (with_reducible refine Kd.C_drew ?_) | exact HR617_0.out)) | (with_reducible refine Kd.C_alloc ?_ _) | (with_reducible refine Kd.C_drewN ?_ _) | (with_reducible refine Kd.C_drew ?_))); (case side2 => exact HC617_0.out); rintro e w' ⟨rfl, ⟨nd, rfl⟩⟩; refine ⟨_, rfl, ?_⟩; have p619 : 0 ≤ (x14_2 : Int) := of_decide_eq_true (by first | (with_reducible assumption) | assumption); have q619 : x14_2 < (l1.length : Int) := of_decide_eq_true (by first | (with_reducible assumption) | assumption); obtain ⟨ad619, A619_0, c619_0, A619_1, c619_1, A619_2, c619_2, e619, hx619_0, hx619_1, hx619_2, hl619_0, hi619_0, hl619_1, hi619_1, hl619_2, hi619_2⟩ := at_T26 HR1.out x14_2 p619 q619; obtain rfl : ad608 = ad619 := (by injection e619); replace hx619_0 := (HB.out.cell (World.block_lt_of_cell? w8 _ hx619_0)).trans hx619_0; replace hx619_1 := (HB.out.cell (World.block_lt_of_cell? w8 _ hx619_1)).trans hx619_1; replace hx619_2 := (HB.out.cell (World.block_lt_of_cell? w8 _ hx619_2)).trans hx619_2; have HR619_0 := Aside0.mk hi619_0; have HC619_0 := Aside0.mk hl619_0; clear hi619_0 hl619_0; have HR619_1 := Aside0.mk hi619_1; have HC619_1 := Aside0.mk hl619_1; clear hi619_1 hl619_1; have HR619_2 := Aside0.mk hi619_2; have HC619_2 := Aside0.mk hl619_2; clear hi619_2 hl619_2; replace p619 := eq_true p619; replace q619 := eq_true q619) | (go_at_call 26; (with_reducible refine (spec_Voters.calls k6 _ _ ((rd_T26 l1 x14_2).f0) _ _ ((rd_T26 l1 x14_2).f1) _ _ ((rd_T26 l1 x14_2).f2) t620 _ ?side1 ?side2 ?side3 ?side4 ?side5 ?side6 A56.out).mono ?_); (case side1 => repeat (first | exact (Kd.C_below HR619_0.out (by repeat (first | (with_reducible first | exact HB.out | apply below_alloc | apply pw_below_drewN | apply below_drew1) | exact HB.out))) | (with_reducible refine Kd.C_alloc ?_ _) | (with_reducible refine Kd.C_drewN ?_ _) | (with_reducible refine Kd.C_drew ?_))); (case side2 => exact HC619_0.out); (case side3 => repeat (first | exact (Kd.C_below HR619_1.out (by repeat (first | (with_reducible first | exact HB.out | apply below_alloc | apply pw_below_drewN | apply below_drew1) | exact HB.out))) | (with_reducible refine Kd.C_alloc ?_ _) | (with_reducible refine Kd.C_drewN ?_ _) | (with_reducible refine Kd.C_drew ?_))); (case side4 => exact HC619_1.out); (case side5 => repeat (first | exact (Kd.C_below HR619_2.out (by repeat (first | (with_reducible first | exact HB.out | apply below_alloc | apply pw_below_drewN | apply below_drew1) | exact HB.out))) | (with_reducible refine Kd.C_alloc ?_ _) | (with_reducible refine Kd.C_drewN ?_ _) | (with_reducible refine Kd.C_drew ?_))); (case side6 => exact HC619_2.out); rintro e w65 ⟨v621, rfl, ho0, hb⟩; have n0_ := Aside0.mk (Kd.S_elder' (by (with_reducible repeat (first | apply Kd.S_alloc | apply Kd.S_drewN | apply Kd.S_drew)); exact HO_10.out) (Kd.R_base ho0) hb); have n1_ := trivial; have n2_ := trivial; have n3_ := trivial; have n4_ := Aside0.mk (Kd.R_lower ho0 (below_size (by repeat (first | (with_reducible first | exact HB.out | apply below_alloc | apply pw_below_drewN | apply below_drew1) | exact HB.out)))); have n5_ := Aside0.mk (blk_below (g := gb591) (o := .cells #[.slice A2_0 l2_0.length c2_0, .slice A2_1 l2_1.length c2_1, .slice A2_2 l2_2.length c2_2] 26 (0, 0)) (by (with_reducible repeat (first | refine blk_drewN ?_ _ | refine blk_drew ?_ | refine blk_alloc ?_ _)); exact BK591.out) hb); have n6_ := Aside0.mk (Kd.C_below (Kd.C_below HR609_0.out (by repeat (first | (with_reducible exact Below.refl _ _) | (with_reducible refine pw_below_drewN ?_ _) | (with_reducible refine below_drew1 ?_) | (with_reducible refine below_alloc ?_ _)))) hb); have n7_ := Aside0.mk (Kd.C_below (Kd.C_below HR612_0.out (by repeat (first | (with_reducible exact Below.refl _ _) | (with_reducible refine pw_below_drewN ?_ _) | (with_reducible refine below_drew1 ?_) | (with_reducible refine below_alloc ?_ _)))) hb); have n8_ := Aside0.mk (Kd.C_below (Kd.C_below HR614_0.out (by repeat (first | (with_reducible exact Below.refl _ _) | (with_reducible refine pw_below_drewN ?_ _) | (with_reducible refine below_drew1 ?_) | (with_reducible refine below_alloc ?_ _)))) hb); have n9_ := Aside0.mk (Kd.C_below (Kd.C_below HR615_0.out (by repeat (first | (with_reducible exact Below.refl _ _) | (with_reducible refine pw_below_drewN ?_ _) | (with_reducible refine below_drew1 ?_) | (with_reducible refine below_alloc ?_ _)))) hb); have n10_ := Aside0.mk (Kd.C_below (Kd.C_below HR617_0.out (by repeat (first | (with_reducible exact Below.refl _ _) | (with_reducible refine pw_below_drewN ?_ _) | (with_reducible refine below_drew1 ?_) | (with_reducible refine below_alloc ?_ _)))) hb); have n11_ := Aside0.mk (below_step (by repeat (first | (with_reducible first | exact HB.out | apply below_alloc | apply pw_below_drewN | apply below_drew1) | exact HB.out)) hb); clear HO_10; clear HL614_0; clear HL615_0; clear HL617_0; clear BK591; clear HR609_0; clear HR612_0; clear HR614_0; clear HR615_0; clear HR617_0; clear HB; have HO_10 := n0_; have HL614_0 := n1_; have HL615_0 := n2_; have HL617_0 := n3_; have HO622 := n4_; have BK591 := n5_; have HR609_0 := n6_; have HR612_0 := n7_; have HR614_0 := n8_; have HR615_0 := n9_; have HR617_0 := n10_; have HB := n11_; clear n0_ n1_ n2_ n3_ n4_ n5_ n6_ n7_ n8_ n9_ n10_ n11_; (try clear hb); (try clear hb2); (try clear hk); (try clear hi); (try clear ho0); obtain ⟨Ao66, co66, eo66⟩ := Kd.R_slice HO622.out; subst eo66) | (go_at_call 15; (with_reducible refine (laws_within.calls k6 _ _ t620 (rd (rd_L2 x10_1 x15_3) x19_6) false _ ?side1 ?side2 A57.out).mono ?_); (case side1 => repeat (first | exact (Kd.R_reads' HO622.out).2.2 | (with_reducible refine Kd.C_alloc ?_ _) | (with_reducible refine Kd.C_drewN ?_ _) | (with_reducible refine Kd.C_drew ?_))); (case side2 => exact (Kd.R_reads' HO622.out).2.1); rintro e w' ⟨rfl, ⟨nd, rfl⟩⟩; have p624 : 0 ≤ (x17_5 : Int) := of_decide_eq_true (by first | (with_reducible assumption) | assumption); have q624 : x17_5 < (l1.length : Int) := of_decide_eq_true (by first | (with_reducible assumption) | assumption); obtain ⟨ad624, A624_0, c624_0, A624_1, c624_1, A624_2, c624_2, e624, hx624_0, hx624_1, hx624_2, hl624_0, hi624_0, hl624_1, hi624_1, hl624_2, hi624_2⟩ := at_T26 HR1.out x17_5 p624 q624; obtain rfl : ad608 = ad624 := (by injection e624); replace hx624_0 := (HB.out.cell (World.block_lt_of_cell? w8 _ hx624_0)).trans hx624_0; replace hx624_1 := (HB.out.cell (World.block_lt_of_cell? w8 _ hx624_1)).trans hx624_1; replace hx624_2 := (HB.out.cell (World.block_lt_of_cell? w8 _ hx624_2)).trans hx624_2; have HR624_0 := Aside0.mk hi624_0; have HC624_0 := Aside0.mk hl624_0; clear hi624_0 hl624_0; have HR624_1 := Aside0.mk hi624_1; have HC624_1 := Aside0.mk hl624_1; clear hi624_1 hl624_1; have HR624_2 := Aside0.mk hi624_2; have HC624_2 := Aside0.mk hl624_2; clear hi624_2 hl624_2; replace p624 := eq_true p624; replace q624 := eq_true q624) | (go_at_call 26; (with_reducible refine (spec_Voters.calls k6 _ _ ((rd_T26 l1 x17_5).f0) _ _ ((rd_T26 l1 x17_5).f1) _ _ ((rd_T26 l1 x17_5).f2) t625 _ ?side1 ?side2 ?side3 ?side4 ?side5 ?side6 A63.out).mono ?_); (case side1 => repeat (first | exact (Kd.C_below HR624_0.out (by repeat (first | (with_reducible first | exact HB.out | apply below_alloc | apply pw_below_drewN | apply below_drew1) | exact HB.out))) | (with_reducible refine Kd.C_alloc ?_ _) | (with_reducible refine Kd.C_drewN ?_ _) | (with_reducible refine Kd.C_drew ?_))); (case side2 => exact HC624_0.out); (case side3 => repeat (first | exact (Kd.C_below HR624_1.out (by repeat (first | (with_reducible first | exact HB.out | apply below_alloc | apply pw_below_drewN | apply below_drew1) | exact HB.out))) | (with_reducible refine Kd.C_alloc ?_ _) | (with_reducible refine Kd.C_drewN ?_ _) | (with_reducible refine Kd.C_drew ?_))); (case side4 => exact HC624_1.out); (case side5 => repeat (first | exact (Kd.C_below HR624_2.out (by repeat (first | (with_reducible first | exact HB.out | apply below_alloc | apply pw_below_drewN | apply below_drew1) | exact HB.out))) | (with_reducible refine Kd.C_alloc ?_ _) | (with_reducible refine Kd.C_drewN ?_ _) | (with_reducible refine Kd.C_drew ?_))); (case side6 => exact HC624_2.out); rintro e w67 ⟨v626, rfl, ho0, hb⟩; have n0_ := Aside0.mk (Kd.S_elder' (by (with_reducible repeat (first | apply Kd.S_alloc | apply Kd.S_drewN | apply Kd.S_drew)); exact HO_10.out) (Kd.R_base ho0) hb); have n1_ := trivial; have n2_ := trivial; have n3_ := trivial; have n4_ := Aside0.mk (Kd.R_elder' (by (with_reducible repeat (first | apply Kd.R_alloc | apply Kd.R_drewN | apply Kd.R_drew)); exact HO622.out) (Kd.R_base ho0) hb); have n5_ := Aside0.mk (Kd.R_lower (Kd.R_new' ho0 (Kd.R_lt (by (with_reducible repeat (first | apply Kd.R_alloc | apply Kd.R_drewN | apply Kd.R_drew)); exact HO622.out))) (below_size (by repeat (first | (with_reducible first | exact HB.out | apply below_alloc | apply pw_below_drewN | apply below_drew1) | exact HB.out)))); have n6_ := Aside0.mk (blk_below (g := gb591) (o := .cells #[.slice A2_0 l2_0.length c2_0, .slice A2_1 l2_1.length c2_1, .slice A2_2 l2_2.length c2_2] 26 (0, 0)) (by (with_reducible repeat (first | refine blk_drewN ?_ _ | refine blk_drew ?_ | refine blk_alloc ?_ _)); exact BK591.out) hb); have n7_ := Aside0.mk (Kd.C_below (Kd.C_below HR609_0.out (by repeat (first | (with_reducible exact Below.refl _ _) | (with_reducible refine pw_below_drewN ?_ _) | (with_reducible refine below_drew1 ?_) | (with_reducible refine below_alloc ?_ _)))) hb); have n8_ := Aside0.mk (Kd.C_below (Kd.C_below HR612_0.out (by repeat (first | (with_reducible exact Below.refl _ _) | (with_reducible refine pw_below_drewN ?_ _) | (with_reducible refine below_drew1 ?_) | (with_reducible refine below_alloc ?_ _)))) hb); have n9_ := Aside0.mk (Kd.C_below (Kd.C_below HR614_0.out (by repeat (first | (with_reducible exact Below.refl _ _) | (with_reducible refine pw_below_drewN ?_ _) | (with_reducible refine below_drew1 ?_) | (with_reducible refine below_alloc ?_ _)))) hb); have n10_ := Aside0.mk (Kd.C_below (Kd.C_below HR615_0.out (by repeat (first | (with_reducible exact Below.refl _ _) | (with_reducible refine pw_below_drewN ?_ _) | (with_reducible refine below_drew1 ?_) | (with_reducible refine below_alloc ?_ _)))) hb); have n11_ := Aside0.mk (Kd.C_below (Kd.C_below HR617_0.out (by repeat (first | (with_reducible exact Below.refl _ _) | (with_reducible refine pw_below_drewN ?_ _) | (with_reducible refine below_drew1 ?_) | (with_reducible refine below_alloc ?_ _)))) hb); have n12_ := Aside0.mk (below_step (by repeat (first | (with_reducible first | exact HB.out | apply below_alloc | apply pw_below_drewN | apply below_drew1) | exact HB.out)) hb); clear HO_10; clear HL614_0; clear HL615_0; clear HL617_0; clear HO622; clear BK591; clear HR609_0; clear HR612_0; clear HR614_0; clear HR615_0; clear HR617_0; clear HB; have HO_10 := n0_; have HL614_0 := n1_; have HL615_0 := n2_; have HL617_0 := n3_; have HO622 := n4_; have HO627 := n5_; have BK591 := n6_; have HR609_0 := n7_; have HR612_0 := n8_; have HR614_0 := n9_; have HR615_0 := n10_; have HR617_0 := n11_; have HB := n12_; clear n0_ n1_ n2_ n3_ n4_ n5_ n6_ n7_ n8_ n9_ n10_ n11_ n12_; (try clear hb); (try clear hb2); (try clear hk); (try clear hi); (try clear ho0); obtain ⟨Ao68, co68, eo68⟩ := Kd.R_slice HO627.out; subst eo68) | (go_at_call 15; (with_reducible refine (laws_within.calls k6 _ _ t625 (rd (rd_L2 x10_1 x15_3) x19_6) t628 _ ?side1 ?side2 A64.out).mono ?_); (case side1 => repeat (first | exact (Kd.R_reads' HO627.out).2.2 | (with_reducible refine Kd.C_alloc ?_ _) | (with_reducible refine Kd.C_drewN ?_ _) | (with_reducible refine Kd.C_drew ?_))); (case side2 => exact (Kd.R_reads' HO627.out).2.1); rintro e w' ⟨rfl, ⟨nd, rfl⟩⟩))
                      have H := H9.out
                      clear H9
                      by_cases c69 : t628 = true
                      · subst c69
                        have H1 : (laws_FnQuorums.l6 k6 l1 x10_1 x14_2 x15_3 x16_4 x17_5 true (wrap64 (x19_6 + 1)) l2_0 l2_1 l2_2) = some r := by rw [if_pos rfl] at H; exact H
                        clear H
                        have H := H1
                        clear H1
                        have H' := Aside0.mk H
                        clear H
                        go_wp2
                        go_roundg k6
                        case measure => have := HK1.out; have := HK2.out; have := HK3.out; have := HK4.out; have := HK5.out; have := HK6.out; omega
                        case rel => exact ⟨(true), (wrap64 (x19_6 + 1)), (by first | rfl | (simp; done) | (simp [*]; done)), (by first | rfl | (simp; done) | (simp [*]; done)), H', ⟨by have := HK1.out; have := HK2.out; have := HK3.out; have := HK4.out; have := HK5.out; have := HK6.out; omega⟩, ⟨by (with_reducible repeat (first | apply Kd.S_alloc | apply Kd.S_drewN | apply Kd.S_drew)); exact Kd.S_mono HO_10.out (fun _ hk => trivial)⟩, ⟨by (with_reducible repeat (first | refine blk_drewN ?_ _ | refine blk_drew ?_ | refine blk_alloc ?_ _)); exact BK591.out⟩, ⟨by repeat (first | (with_reducible exact HR609_0.out) | (with_reducible refine Kd.C_alloc ?_ _) | (with_reducible refine Kd.C_drewN ?_ _) | (with_reducible refine Kd.C_drew ?_) | exact HR609_0.out)⟩, ⟨by repeat (first | (with_reducible exact HR612_0.out) | (with_reducible refine Kd.C_alloc ?_ _) | (with_reducible refine Kd.C_drewN ?_ _) | (with_reducible refine Kd.C_drew ?_) | exact HR612_0.out)⟩, ⟨by repeat (first | (with_reducible first | exact HB.out | apply below_alloc | apply pw_below_drewN | apply below_drew1) | exact HB.out)⟩⟩
                      replace c69 := Bool.eq_false_iff.mpr c69
                      subst c69
                      have H1 : (laws_FnQuorums.l6 k6 l1 x10_1 x14_2 x15_3 x16_4 x17_5 x18_6 (wrap64 (x19_6 + 1)) l2_0 l2_1 l2_2) = some r := by rw [if_neg (show ¬ (false = true) by decide)] at H; exact H
                      clear H
                      have H := H1
                      clear H1
                      have H' := Aside0.mk H
                      clear H
                      go_wp2
                      go_roundg k6
                      case measure => have := HK1.out; have := HK2.out; have := HK3.out; have := HK4.out; have := HK5.out; have := HK6.out; omega
                      case rel => exact ⟨(x18_6), (wrap64 (x19_6 + 1)), (by first | rfl | (simp; done) | (simp [*]; done)), (by first | rfl | (simp; done) | (simp [*]; done)), H', ⟨by have := HK1.out; have := HK2.out; have := HK3.out; have := HK4.out; have := HK5.out; have := HK6.out; omega⟩, ⟨by (with_reducible repeat (first | apply Kd.S_alloc | apply Kd.S_drewN | apply Kd.S_drew)); exact Kd.S_mono HO_10.out (fun _ hk => trivial)⟩, ⟨by (with_reducible repeat (first | refine blk_drewN ?_ _ | refine blk_drew ?_ | refine blk_alloc ?_ _)); exact BK591.out⟩, ⟨by repeat (first | (with_reducible exact HR609_0.out) | (with_reducible refine Kd.C_alloc ?_ _) | (with_reducible refine Kd.C_drewN ?_ _) | (with_reducible refine Kd.C_drew ?_) | exact HR609_0.out)⟩, ⟨by repeat (first | (with_reducible exact HR612_0.out) | (with_reducible refine Kd.C_alloc ?_ _) | (with_reducible refine Kd.C_drewN ?_ _) | (with_reducible refine Kd.C_drew ?_) | exact HR612_0.out)⟩, ⟨by repeat (first | (with_reducible first | exact HB.out | apply below_alloc | apply pw_below_drewN | apply below_drew1) | exact HB.out)⟩⟩

/-- THE ONE PURE STATEMENT of laws_FnQuorums: yours. -/
def laws_FnQuorums.Pure : Prop := ∀ (l0 : List Int), l0.length ≤ maxLen → l0.length * 1 ≤ 140737488351232 → (∀ x ∈ l0, (Lit.int .u8 x).wf = true) → ∃ k, laws_FnQuorums.f k l0 = some true
theorem laws_FnQuorums.walk (P : laws_FnQuorums.Pure) (a0 : Option Addr) (len0 cap0 : Nat) (z0 : List Int) (w : World) (w0 : (a0 = none ∧ len0 = 0 ∧ cap0 = 0 ∧ z0 = []) ∨ ∃ x, a0 = some x ∧ len0 ≤ cap0 ∧ cap0 ≤ maxLen ∧ z0.length = cap0 ∧ (∀ i, i < z0.length → w.cell? (x.add i) = some (.int .u8 (z0.getD i 0))) ∧ ∀ n ∈ z0, (Lit.int .u8 n).wf = true) (y0 : len0 * 1 ≤ 140737488351232) :
    Calls Try.prog 8 #[.slice a0 len0 cap0] w fun e w' => e = .returned (.bool true) ∧ Below w.heap.size w w' := by
  obtain ⟨l0, rfl, hr0, hm0, hw0, hc0⟩ := ReadsInt.ofRowC w0
  obtain ⟨k, h⟩ := P l0 hm0 y0 hw0
  refine (laws_FnQuorums.calls k _ _ l0 true w (Kd.C_of_reads (d := (0 : Int)) (h1 := fun _ => rfl) hr0) hc0 h ⟨rfl⟩).mono ?_
  rintro e w' ⟨rfl, hd⟩
  exact ⟨rfl, hd⟩

end Go.Proofs.Ytoemdmjdpikfbaa.QFnQuorums
