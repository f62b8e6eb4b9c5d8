-- Printed by the session's own program wip/prx.py.
import Derived.Test.YtkcadcoohmofcaaSqFnExactPropose
import Derived.Test.YtkcadcoohmofcaaQFnExactProposex0
import Derived.Test.YtkcadcoohmofcaaQFnExactProposex5
import Derived.Test.YtkcadcoohmofcaaQFnExactProposex7
import Derived.Test.YtkcadcoohmofcaaQFnExactProposex8
import Derived.Test.YtkcadcoohmofcaaQFnExactProposex9
namespace Go.Proofs.Ytkcadcoohmofcaa.QFnExactPropose
open Go.RowKit Go.Proofs.YtkcadcoohmofcaaW.PrintWords Go.Proofs.YtkcadcoohmofcaaW.PrintLast Go.Proofs.YtkcadcoohmofcaaW.PrintMore Go.Proofs.Ytkcadcoohmofcaa.SqFnExactPropose
attribute [local go_sem] max2_int min2_int max_two min_two max_three min_three max_four min_four Go.Proofs.Ytkcadcoohmofcaa.Set.isSome_setCell
set_option linter.unusedVariables false
set_option linter.unusedSimpArgs false

-- squeezed
theorem u10_1 {P : Prop} (h : P := by (with_reducible repeat (first | refine blk_drewN ?_ _ | refine blk_drew ?_ | refine blk_alloc ?_ _)); refine blk_put (cs := #[.int .i64 t258, .int .i64 t259, .int .i64 t260, .int .i64 t261, .int .i64 t262, .int .i64 t263, .int .i64 t264, .slice Ao15 t265.length co15, .slice Ao16 t268.length co16, .slice none 0 0]) ?_ 9 _ rfl; (with_reducible repeat (first | refine blk_drewN ?_ _ | refine blk_drew ?_ | refine blk_alloc ?_ _)); refine blk_put (cs := #[.int .i64 t258, .int .i64 t259, .int .i64 t260, .int .i64 t261, .int .i64 t262, .int .i64 t263, .int .i64 t264, .slice Ao15 t265.length co15, .slice none 0 0, .slice none 0 0]) ?_ 8 _ rfl; (with_reducible repeat (first | refine blk_drewN ?_ _ | refine blk_drew ?_ | refine blk_alloc ?_ _)); refine blk_put (cs := #[.int .i64 t258, .int .i64 t259, .int .i64 t260, .int .i64 t261, .int .i64 t262, .int .i64 t263, .int .i64 t264, .slice none 0 0, .slice none 0 0, .slice none 0 0]) ?_ 7 _ rfl; (with_reducible repeat (first | refine blk_drewN ?_ _ | refine blk_drew ?_ | refine blk_alloc ?_ _)); refine blk_put (cs := #[.int .i64 t258, .int .i64 t259, .int .i64 t260, .int .i64 t261, .int .i64 t262, .int .i64 t263, .int .i64 0, .slice none 0 0, .slice none 0 0, .slice none 0 0]) ?_ 6 _ rfl; (with_reducible repeat (first | refine blk_drewN ?_ _ | refine blk_drew ?_ | refine blk_alloc ?_ _)); refine blk_put (cs := #[.int .i64 t258, .int .i64 t259, .int .i64 t260, .int .i64 t261, .int .i64 t262, .int .i64 0, .int .i64 0, .slice none 0 0, .slice none 0 0, .slice none 0 0]) ?_ 5 _ rfl; (with_reducible repeat (first | refine blk_drewN ?_ _ | refine blk_drew ?_ | refine blk_alloc ?_ _)); refine blk_put (cs := #[.int .i64 t258, .int .i64 t259, .int .i64 t260, .int .i64 t261, .int .i64 0, .int .i64 0, .int .i64 0, .slice none 0 0, .slice none 0 0, .slice none 0 0]) ?_ 4 _ rfl; (with_reducible repeat (first | refine blk_drewN ?_ _ | refine blk_drew ?_ | refine blk_alloc ?_ _)); refine blk_put (cs := #[.int .i64 t258, .int .i64 t259, .int .i64 t260, .int .i64 0, .int .i64 0, .int .i64 0, .int .i64 0, .slice none 0 0, .slice none 0 0, .slice none 0 0]) ?_ 3 _ rfl; (with_reducible repeat (first | refine blk_drewN ?_ _ | refine blk_drew ?_ | refine blk_alloc ?_ _)); refine blk_put (cs := #[.int .i64 t258, .int .i64 t259, .int .i64 0, .int .i64 0, .int .i64 0, .int .i64 0, .int .i64 0, .slice none 0 0, .slice none 0 0, .slice none 0 0]) ?_ 2 _ rfl; (with_reducible repeat (first | refine blk_drewN ?_ _ | refine blk_drew ?_ | refine blk_alloc ?_ _)); refine blk_put (cs := #[.int .i64 t258, .int .i64 0, .int .i64 0, .int .i64 0, .int .i64 0, .int .i64 0, .int .i64 0, .slice none 0 0, .slice none 0 0, .slice none 0 0]) ?_ 1 _ rfl; (with_reducible repeat (first | refine blk_drewN ?_ _ | refine blk_drew ?_ | refine blk_alloc ?_ _)); refine blk_put (cs := #[.int .i64 0, .int .i64 0, .int .i64 0, .int .i64 0, .int .i64 0, .int .i64 0, .int .i64 0, .slice none 0 0, .slice none 0 0, .slice none 0 0]) ?_ 0 _ rfl; (with_reducible repeat (first | refine blk_drewN ?_ _ | refine blk_drew ?_ | refine blk_alloc ?_ _)); exact BK274.out) : P := h
theorem u10_2 {P : Prop} (h : P := by (with_reducible repeat (first | refine blk_drewN ?_ _ | refine blk_drew ?_ | refine blk_alloc ?_ _)); refine blk_far ?_ NB256_274.out _; (with_reducible repeat (first | refine blk_drewN ?_ _ | refine blk_drew ?_ | refine blk_alloc ?_ _)); refine blk_far ?_ NB256_274.out _; (with_reducible repeat (first | refine blk_drewN ?_ _ | refine blk_drew ?_ | refine blk_alloc ?_ _)); refine blk_far ?_ NB256_274.out _; (with_reducible repeat (first | refine blk_drewN ?_ _ | refine blk_drew ?_ | refine blk_alloc ?_ _)); refine blk_far ?_ NB256_274.out _; (with_reducible repeat (first | refine blk_drewN ?_ _ | refine blk_drew ?_ | refine blk_alloc ?_ _)); refine blk_far ?_ NB256_274.out _; (with_reducible repeat (first | refine blk_drewN ?_ _ | refine blk_drew ?_ | refine blk_alloc ?_ _)); refine blk_far ?_ NB256_274.out _; (with_reducible repeat (first | refine blk_drewN ?_ _ | refine blk_drew ?_ | refine blk_alloc ?_ _)); refine blk_far ?_ NB256_274.out _; (with_reducible repeat (first | refine blk_drewN ?_ _ | refine blk_drew ?_ | refine blk_alloc ?_ _)); refine blk_far ?_ NB256_274.out _; (with_reducible repeat (first | refine blk_drewN ?_ _ | refine blk_drew ?_ | refine blk_alloc ?_ _)); refine blk_far ?_ NB256_274.out _; (with_reducible repeat (first | refine blk_drewN ?_ _ | refine blk_drew ?_ | refine blk_alloc ?_ _)); refine blk_far ?_ NB256_274.out _; (with_reducible repeat (first | refine blk_drewN ?_ _ | refine blk_drew ?_ | refine blk_alloc ?_ _)); exact BK256.out) : P := h
theorem u10_3 {P : Prop} (h : P := by (with_reducible repeat (first | refine blk_drewN ?_ _ | refine blk_drew ?_ | refine blk_alloc ?_ _)); refine blk_far ?_ NB257_274.out _; (with_reducible repeat (first | refine blk_drewN ?_ _ | refine blk_drew ?_ | refine blk_alloc ?_ _)); refine blk_far ?_ NB257_274.out _; (with_reducible repeat (first | refine blk_drewN ?_ _ | refine blk_drew ?_ | refine blk_alloc ?_ _)); refine blk_far ?_ NB257_274.out _; (with_reducible repeat (first | refine blk_drewN ?_ _ | refine blk_drew ?_ | refine blk_alloc ?_ _)); refine blk_far ?_ NB257_274.out _; (with_reducible repeat (first | refine blk_drewN ?_ _ | refine blk_drew ?_ | refine blk_alloc ?_ _)); refine blk_far ?_ NB257_274.out _; (with_reducible repeat (first | refine blk_drewN ?_ _ | refine blk_drew ?_ | refine blk_alloc ?_ _)); refine blk_far ?_ NB257_274.out _; (with_reducible repeat (first | refine blk_drewN ?_ _ | refine blk_drew ?_ | refine blk_alloc ?_ _)); refine blk_far ?_ NB257_274.out _; (with_reducible repeat (first | refine blk_drewN ?_ _ | refine blk_drew ?_ | refine blk_alloc ?_ _)); refine blk_far ?_ NB257_274.out _; (with_reducible repeat (first | refine blk_drewN ?_ _ | refine blk_drew ?_ | refine blk_alloc ?_ _)); refine blk_far ?_ NB257_274.out _; (with_reducible repeat (first | refine blk_drewN ?_ _ | refine blk_drew ?_ | refine blk_alloc ?_ _)); refine blk_far ?_ NB257_274.out _; (with_reducible repeat (first | refine blk_drewN ?_ _ | refine blk_drew ?_ | refine blk_alloc ?_ _)); exact BK257.out) : P := h
theorem u10_5 {P : Prop} (h : P := by (with_reducible repeat (first | refine blk_drewN ?_ _ | refine blk_drew ?_ | refine blk_alloc ?_ _)); exact BK256.out) : P := h
theorem u10_7 {P : Prop} (h : P := by (with_reducible repeat (first | refine blk_drewN ?_ _ | refine blk_drew ?_ | refine blk_alloc ?_ _)); exact BK257.out) : P := h
theorem u10_8 {P : Prop} (h : P := by (with_reducible repeat (first | apply Kd.R_alloc | apply Kd.R_drewN | apply Kd.R_drew)); exact (Kd.R_mono (Kd.R_far (p := ⟨gb274, 9, none⟩) (Kd.R_far (p := ⟨gb274, 8, none⟩) (Kd.R_far (p := ⟨gb274, 7, none⟩) (Kd.R_far (p := ⟨gb274, 6, none⟩) (Kd.R_far (p := ⟨gb274, 5, none⟩) (Kd.R_far (p := ⟨gb274, 4, none⟩) (Kd.R_far (p := ⟨gb274, 3, none⟩) (Kd.R_far (p := ⟨gb274, 2, none⟩) (Kd.R_far (p := ⟨gb274, 1, none⟩) (Kd.R_far (p := ⟨gb274, 0, none⟩) (Kd.R_types HO267.out BK274.out (by decide)) (fun _ hk => hk.2) (.int .i64 t258)) (fun _ hk => hk.2) (.int .i64 t259)) (fun _ hk => hk.2) (.int .i64 t260)) (fun _ hk => hk.2) (.int .i64 t261)) (fun _ hk => hk.2) (.int .i64 t262)) (fun _ hk => hk.2) (.int .i64 t263)) (fun _ hk => hk.2) (.int .i64 t264)) (fun _ hk => hk.2) (.slice Ao15 t265.length co15)) (fun _ hk => hk.2) (.slice Ao16 t268.length co16)) (fun _ hk => hk.2) (.slice Ao17 t271.length co17)) (fun _ h_ => h_.1))) : P := h
theorem u10_9 {P : Prop} (h : P := by (with_reducible repeat (first | apply Kd.R_alloc | apply Kd.R_drewN | apply Kd.R_drew)); exact (Kd.R_mono (Kd.R_far (p := ⟨gb274, 9, none⟩) (Kd.R_far (p := ⟨gb274, 8, none⟩) (Kd.R_far (p := ⟨gb274, 7, none⟩) (Kd.R_far (p := ⟨gb274, 6, none⟩) (Kd.R_far (p := ⟨gb274, 5, none⟩) (Kd.R_far (p := ⟨gb274, 4, none⟩) (Kd.R_far (p := ⟨gb274, 3, none⟩) (Kd.R_far (p := ⟨gb274, 2, none⟩) (Kd.R_far (p := ⟨gb274, 1, none⟩) (Kd.R_far (p := ⟨gb274, 0, none⟩) (Kd.R_types HO270.out BK274.out (by decide)) (fun _ hk => hk.2) (.int .i64 t258)) (fun _ hk => hk.2) (.int .i64 t259)) (fun _ hk => hk.2) (.int .i64 t260)) (fun _ hk => hk.2) (.int .i64 t261)) (fun _ hk => hk.2) (.int .i64 t262)) (fun _ hk => hk.2) (.int .i64 t263)) (fun _ hk => hk.2) (.int .i64 t264)) (fun _ hk => hk.2) (.slice Ao15 t265.length co15)) (fun _ hk => hk.2) (.slice Ao16 t268.length co16)) (fun _ hk => hk.2) (.slice Ao17 t271.length co17)) (fun _ h_ => h_.1))) : P := h
theorem u10_10 {P : Prop} (h : P := by (with_reducible repeat (first | apply Kd.R_alloc | apply Kd.R_drewN | apply Kd.R_drew)); exact (Kd.R_mono (Kd.R_far (p := ⟨gb274, 9, none⟩) (Kd.R_far (p := ⟨gb274, 8, none⟩) (Kd.R_far (p := ⟨gb274, 7, none⟩) (Kd.R_far (p := ⟨gb274, 6, none⟩) (Kd.R_far (p := ⟨gb274, 5, none⟩) (Kd.R_far (p := ⟨gb274, 4, none⟩) (Kd.R_far (p := ⟨gb274, 3, none⟩) (Kd.R_far (p := ⟨gb274, 2, none⟩) (Kd.R_far (p := ⟨gb274, 1, none⟩) (Kd.R_far (p := ⟨gb274, 0, none⟩) (Kd.R_types HO273.out BK274.out (by decide)) (fun _ hk => hk.2) (.int .i64 t258)) (fun _ hk => hk.2) (.int .i64 t259)) (fun _ hk => hk.2) (.int .i64 t260)) (fun _ hk => hk.2) (.int .i64 t261)) (fun _ hk => hk.2) (.int .i64 t262)) (fun _ hk => hk.2) (.int .i64 t263)) (fun _ hk => hk.2) (.int .i64 t264)) (fun _ hk => hk.2) (.slice Ao15 t265.length co15)) (fun _ hk => hk.2) (.slice Ao16 t268.length co16)) (fun _ hk => hk.2) (.slice Ao17 t271.length co17)) (fun _ h_ => h_.1))) : P := h
theorem u10_12 {P : Prop} (h : P := by (with_reducible repeat (first | refine blk_drewN ?_ _ | refine blk_drew ?_ | refine blk_alloc ?_ _)); exact BK274.out) : P := h
theorem u10_13 {P : Prop} (h : P := by (with_reducible repeat (first | apply Kd.R_alloc | apply Kd.R_drewN | apply Kd.R_drew)); exact HO_275008.out) : P := h
theorem u10_14 {P : Prop} (h : P := by (with_reducible repeat (first | apply Kd.R_alloc | apply Kd.R_drewN | apply Kd.R_drew)); exact HO_275009.out) : P := h
theorem u10_17 {P : Prop} (h : P := by (with_reducible repeat (first | apply Kd.R_alloc | apply Kd.R_drewN | apply Kd.R_drew)); exact (Kd.R_mono (Kd.R_far (p := ⟨gb274, 7, none⟩) (Kd.R_types HO278.out BK274.out (by decide)) (fun _ hk => hk.2) (.slice Ao43 y276.length co43)) (fun _ h_ => h_.1))) : P := h
theorem u10_18 {P : Prop} (h : P := by (with_reducible repeat (first | apply Kd.R_alloc | apply Kd.R_drewN | apply Kd.R_drew)); exact HO_275007.out) : P := h
theorem u10_19 {P : Prop} (h : P := by (with_reducible repeat (first | apply Kd.R_alloc | apply Kd.R_drewN | apply Kd.R_drew)); exact HO267.out) : P := h
theorem u10_20 {P : Prop} (h : P := by (with_reducible repeat (first | apply Kd.R_alloc | apply Kd.R_drewN | apply Kd.R_drew)); exact HO270.out) : P := h
theorem u10_21 {P : Prop} (h : P := by (with_reducible repeat (first | apply Kd.R_alloc | apply Kd.R_drewN | apply Kd.R_drew)); exact HO273.out) : P := h
theorem u10_22 {P : Prop} (h : P := by (with_reducible repeat (first | apply Kd.R_alloc | apply Kd.R_drewN | apply Kd.R_drew)); exact HO278.out) : P := h
/-! ### spec_Propose: function 36 -/
def spec_Propose.j0 : Nat → Int → ByteArray → Bool → Int → Int → Int → Int → Int → Int → Int → List (S85) → List Int → List Int → Int → Int → Int → Int → Int → Int → Int → List (S85) → List Int → List Int → Option (Int × Int × Int × Int × Int × Int × Int × (List (S85)) × List Int × List Int × Bool)
 | 0, _, _, _, _, _, _, _, _, _, _, _, _, _, _, _, _, _, _, _, _, _, _, _ => none
 | k + 1, x1, x2, x19, x257000, x257001, x257002, x257003, x257004, x257005, x257006, x257007, x257008, x257009, x275000, x275001, x275002, x275003, x275004, x275005, x275006, x275007, x275008, x275009 => if x19 = true then (some (x275000, x275001, x275002, x275003, x275004, x275005, x275006, x275007, x275008, x275009, false)) else (if x275007.length < 5864062014805 then ((some (x275007 ++ [(⟨x257001, x2⟩ : S85)] : List (S85))).bind fun y276 => ((spec_RLogOk.f k x275005 x275006 y276).bind fun t279 => (if t279 = true then ((spec_LastIndex.f k x275005 x275006 y276).bind fun t280 => (if 0 ≤ x257000 then (if x257000 < (x275009.length : Int) then ((spec_l07Commit.f k x275000 x275001 x275002 x275003 x275004 x275005 x275006 y276 x275008 (x275009.set (x257000 : Int).toNat t280) x1).bind fun bt282 => (some (bt282.1, bt282.2.1, bt282.2.2.1, bt282.2.2.2.1, bt282.2.2.2.2.1, bt282.2.2.2.2.2.1, bt282.2.2.2.2.2.2.1, bt282.2.2.2.2.2.2.2.1, bt282.2.2.2.2.2.2.2.2.1, bt282.2.2.2.2.2.2.2.2.2, true))) else (none)) else (none))) else ((spec_l07Copy.f k x257000 x257001 x257002 x257003 x257004 x257005 x257006 x257007 x257008 x257009).bind fun bt298 => (some (bt298.1, bt298.2.1, bt298.2.2.1, bt298.2.2.2.1, bt298.2.2.2.2.1, bt298.2.2.2.2.2.1, bt298.2.2.2.2.2.2.1, bt298.2.2.2.2.2.2.2.1, bt298.2.2.2.2.2.2.2.2.1, bt298.2.2.2.2.2.2.2.2.2, false)))))) else (none))
def spec_Propose.f (k : Nat) (a0_0 : Int) (a0_1 : Int) (a0_2 : Int) (a0_3 : Int) (a0_4 : Int) (a0_5 : Int) (a0_6 : Int) (l0_7 : List (S85)) (l0_8 : List Int) (l0_9 : List Int) (a1 : Int) (a2 : ByteArray) : Option (Int × Int × Int × Int × Int × Int × Int × (List (S85)) × List Int × List Int × Bool) := (spec_l07Copy.f k a0_0 a0_1 a0_2 a0_3 a0_4 a0_5 a0_6 l0_7 l0_8 l0_9).bind fun bt258 => ((spec_NodeOk.f k a0_0 a0_1 a0_2 a0_3 a0_4 a0_5 a0_6 l0_7 l0_8 l0_9 a1).bind fun t275 => (if t275 = true then (spec_Propose.j0 k a1 a2 (a0_3 != 2) a0_0 a0_1 a0_2 a0_3 a0_4 a0_5 a0_6 l0_7 l0_8 l0_9 bt258.1 bt258.2.1 bt258.2.2.1 bt258.2.2.2.1 bt258.2.2.2.2.1 bt258.2.2.2.2.2.1 bt258.2.2.2.2.2.2.1 bt258.2.2.2.2.2.2.2.1 bt258.2.2.2.2.2.2.2.2.1 bt258.2.2.2.2.2.2.2.2.2) else (spec_Propose.j0 k a1 a2 true a0_0 a0_1 a0_2 a0_3 a0_4 a0_5 a0_6 l0_7 l0_8 l0_9 bt258.1 bt258.2.1 bt258.2.2.1 bt258.2.2.2.1 bt258.2.2.2.2.1 bt258.2.2.2.2.2.1 bt258.2.2.2.2.2.2.1 bt258.2.2.2.2.2.2.2.1 bt258.2.2.2.2.2.2.2.2.1 bt258.2.2.2.2.2.2.2.2.2)))
theorem spec_Propose.mono_l : ∀ k, (∀ y0 y1 y2 y3 y4 y5 y6 y7 y8 y9 y10 y11 y12 y13 y14 y15 y16 y17 y18 y19 y20 y21 y22, LeO (spec_Propose.j0 k y0 y1 y2 y3 y4 y5 y6 y7 y8 y9 y10 y11 y12 y13 y14 y15 y16 y17 y18 y19 y20 y21 y22) (spec_Propose.j0 (k + 1) y0 y1 y2 y3 y4 y5 y6 y7 y8 y9 y10 y11 y12 y13 y14 y15 y16 y17 y18 y19 y20 y21 y22))
 | 0 => fun _ _ _ _ _ _ _ _ _ _ _ _ _ _ _ _ _ _ _ _ _ _ _ r h => by simp [spec_Propose.j0] at h
 | k + 1 => by
   have ih0 := spec_Propose.mono_l k
   · intro y0 y1 y2 y3 y4 y5 y6 y7 y8 y9 y10 y11 y12 y13 y14 y15 y16 y17 y18 y19 y20 y21 y22
     unfold spec_Propose.j0
     repeat' first
     | (with_reducible exact ih0 _ _ _ _ _ _ _ _ _ _ _ _ _ _ _ _ _ _ _ _ _ _ _)
     | (with_reducible exact spec_LastIndex.mono _ _ _ _)
     | (with_reducible exact spec_NodeOk.mono _ _ _ _ _ _ _ _ _ _ _ _)
     | (with_reducible exact spec_RLogOk.mono _ _ _ _)
     | (with_reducible exact spec_l07Commit.mono _ _ _ _ _ _ _ _ _ _ _ _)
     | (with_reducible exact spec_l07Copy.mono _ _ _ _ _ _ _ _ _ _ _)
     | (with_reducible exact LeO.refl _)
     | (with_reducible exact LeO.none _)
     | (with_reducible refine LeO.ite ?_ ?_)
     | (with_reducible refine LeO.bind ?_ (fun _ => ?_))
     | exact ih0 _ _ _ _ _ _ _ _ _ _ _ _ _ _ _ _ _ _ _ _ _ _ _
     | exact spec_LastIndex.mono _ _ _ _
     | exact spec_NodeOk.mono _ _ _ _ _ _ _ _ _ _ _ _
     | exact spec_RLogOk.mono _ _ _ _
     | exact spec_l07Commit.mono _ _ _ _ _ _ _ _ _ _ _ _
     | exact spec_l07Copy.mono _ _ _ _ _ _ _ _ _ _ _
     | exact LeO.none _
     | refine LeO.ite ?_ ?_
     | refine LeO.bind ?_ (fun _ => ?_)
theorem spec_Propose.mono : ∀ a0 a1 a2 a3 a4 a5 a6 a7 a8 a9 a10 a11 k, LeO (spec_Propose.f k a0 a1 a2 a3 a4 a5 a6 a7 a8 a9 a10 a11) (spec_Propose.f (k + 1) a0 a1 a2 a3 a4 a5 a6 a7 a8 a9 a10 a11) := by
 intro a0 a1 a2 a3 a4 a5 a6 a7 a8 a9 a10 a11 k
 have ih0 := spec_Propose.mono_l k
 unfold spec_Propose.f
 repeat' first
     | (with_reducible exact ih0 _ _ _ _ _ _ _ _ _ _ _ _ _ _ _ _ _ _ _ _ _ _ _)
     | (with_reducible exact spec_LastIndex.mono _ _ _ _)
     | (with_reducible exact spec_NodeOk.mono _ _ _ _ _ _ _ _ _ _ _ _)
     | (with_reducible exact spec_RLogOk.mono _ _ _ _)
     | (with_reducible exact spec_l07Commit.mono _ _ _ _ _ _ _ _ _ _ _ _)
     | (with_reducible exact spec_l07Copy.mono _ _ _ _ _ _ _ _ _ _ _)
     | (with_reducible exact LeO.refl _)
     | (with_reducible exact LeO.none _)
     | (with_reducible refine LeO.ite ?_ ?_)
     | (with_reducible refine LeO.bind ?_ (fun _ => ?_))
     | exact ih0 _ _ _ _ _ _ _ _ _ _ _ _ _ _ _ _ _ _ _ _ _ _ _
     | exact spec_LastIndex.mono _ _ _ _
     | exact spec_NodeOk.mono _ _ _ _ _ _ _ _ _ _ _ _
     | exact spec_RLogOk.mono _ _ _ _
     | exact spec_l07Commit.mono _ _ _ _ _ _ _ _ _ _ _ _
     | exact spec_l07Copy.mono _ _ _ _ _ _ _ _ _ _ _
     | exact LeO.none _
     | refine LeO.ite ?_ ?_
     | refine LeO.bind ?_ (fun _ => ?_)
def spec_Propose.T7 : Bool × List (List Nat × List Nat) := (true, [([], []), ([0], [0]), ([], []), ([2], [2]), ([], []), ([4], [4]), ([5], [5]), ([1, 3, 0, 1, 2, 3, 4, 5, 6], [1, 3]), ([7, 6, 6, 0, 1, 2, 3, 4, 5, 6], [6, 7])])
def spec_Propose.B7 : List Nat := [0, 1, 0, 4, 0, 16, 48, 127, 255]
theorem spec_Propose.tab7 : rtab .any (opsOf Try.f36 7) = spec_Propose.T7 := by kernel_rfl
theorem spec_Propose.bits7 : waitsOk spec_Propose.T7.2 spec_Propose.B7 = true := by kernel_rfl
set_option maxHeartbeats 8000000 in
set_option maxRecDepth 100000 in
theorem spec_Propose.calls (k : Nat) (a0_0 : Int) (a0_1 : Int) (a0_2 : Int) (a0_3 : Int) (a0_4 : Int) (a0_5 : Int) (a0_6 : Int) (A0_7 : Option Addr) (c0_7 : Nat) (l0_7 : List (S85)) (A0_8 : Option Addr) (c0_8 : Nat) (l0_8 : List Int) (A0_9 : Option Addr) (c0_9 : Nat) (l0_9 : List Int) (a1 : Int) (a2 : ByteArray) (r1 : Int) (r2 : Int) (r3 : Int) (r4 : Int) (r5 : Int) (r6 : Int) (r7 : Int) (r8 : List (S85)) (r9 : List Int) (r10 : List Int) (r11 : Bool) (w : World) (hr0_7 : Kd.C k85 w A0_7 l0_7.length l0_7) (hc0_7 : l0_7.length ≤ c0_7) (hr0_8 : Kd.C (Kd.int .i64) w A0_8 l0_8.length l0_8) (hc0_8 : l0_8.length ≤ c0_8) (hr0_9 : Kd.C (Kd.int .i64) w A0_9 l0_9.length l0_9) (hc0_9 : l0_9.length ≤ c0_9) (h : spec_Propose.f k a0_0 a0_1 a0_2 a0_3 a0_4 a0_5 a0_6 l0_7 l0_8 l0_9 a1 a2 = some (r1, r2, r3, r4, r5, r6, r7, r8, r9, r10, r11)) :
   Calls Try.prog 36 #[.agg #[.int .i64 a0_0, .int .i64 a0_1, .int .i64 a0_2, .int .i64 a0_3, .int .i64 a0_4, .int .i64 a0_5, .int .i64 a0_6, .slice A0_7 l0_7.length c0_7, .slice A0_8 l0_8.length c0_8, .slice A0_9 l0_9.length c0_9], .int .i64 a1, .string a2] w fun e w' => ∃ v7_ v8_ v9_ : Value, e = .returned (.tuple #[.agg #[.int .i64 r1, .int .i64 r2, .int .i64 r3, .int .i64 r4, .int .i64 r5, .int .i64 r6, .int .i64 r7, v7_, v8_, v9_], .bool r11]) ∧ Kd.R k85 85 w' w.heap.size (fun _ => True) v7_ r8 ∧ Kd.R (Kd.int .i64) 3 w' w.heap.size (fun k_ => some k_ ≠ (v9_ : Value).ownBlock) v8_ r9 ∧ Kd.R (Kd.int .i64) 3 w' w.heap.size (fun k_ => some k_ ≠ (v8_ : Value).ownBlock) v9_ r10 ∧ Below w.heap.size w w' := by
 have hu37 := Try.underlying37
 have hu85 := Try.underlying85
 have hu34 := Try.underlying34
 have HR0_7 := am hr0_7
 have HC0_7 := am hc0_7
 clear hr0_7 hc0_7
 have HR0_8 := am hr0_8
 have HC0_8 := am hc0_8
 clear hr0_8 hc0_8
 have HR0_9 := am hr0_9
 have HC0_9 := am hc0_9
 clear hr0_9 hc0_9
 have HB := am (Below.refl w.heap.size w)
 have H : ((spec_l07Copy.f k a0_0 a0_1 a0_2 a0_3 a0_4 a0_5 a0_6 l0_7 l0_8 l0_9).bind fun bt258 => ((spec_NodeOk.f k a0_0 a0_1 a0_2 a0_3 a0_4 a0_5 a0_6 l0_7 l0_8 l0_9 a1).bind fun t275 => (if t275 = true then (spec_Propose.j0 k a1 a2 (a0_3 != 2) a0_0 a0_1 a0_2 a0_3 a0_4 a0_5 a0_6 l0_7 l0_8 l0_9 bt258.1 bt258.2.1 bt258.2.2.1 bt258.2.2.2.1 bt258.2.2.2.2.1 bt258.2.2.2.2.2.1 bt258.2.2.2.2.2.2.1 bt258.2.2.2.2.2.2.2.1 bt258.2.2.2.2.2.2.2.2.1 bt258.2.2.2.2.2.2.2.2.2) else (spec_Propose.j0 k a1 a2 true a0_0 a0_1 a0_2 a0_3 a0_4 a0_5 a0_6 l0_7 l0_8 l0_9 bt258.1 bt258.2.1 bt258.2.2.1 bt258.2.2.2.1 bt258.2.2.2.2.1 bt258.2.2.2.2.2.1 bt258.2.2.2.2.2.2.1 bt258.2.2.2.2.2.2.2.1 bt258.2.2.2.2.2.2.2.2.1 bt258.2.2.2.2.2.2.2.2.2)))) = some (r1, r2, r3, r4, r5, r6, r7, r8, r9, r10, r11) := h
 clear h
 replace H := Option.bind_eq_some_iff.mp H
 obtain ⟨⟨t258, t259, t260, t261, t262, t263, t264, t265, t268, t271⟩, A40, H⟩ := H
 (try dsimp only at H)
 have A4 := am A40
 clear A40
 have HC5 := am H
 clear H
 go_enter Try.func36, Try.ntmps36
 go_upto_region 2 with (first | ((with_reducible refine gate_dst (N := 3) rfl ?_); refine box_event ?hg (N := 3) ?hd (cs := #[.int .i64 a0_0, .int .i64 a0_1, .int .i64 a0_2, .int .i64 a0_3, .int .i64 a0_4, .int .i64 a0_5, .int .i64 a0_6, .slice A0_7 l0_7.length c0_7, .slice A0_8 l0_8.length c0_8, .slice A0_9 l0_9.length c0_9]) (t := 37) ?hr ?_; (case hd => rfl); (case hg => rfl); (case hr => first | (go_simp; done) | (go_simp; rfl)); intro gb256 hg w6 hbox hb; have BK256 := am (hbox); have GW256 := am ((by rw [hg]; exact (below_size Q1) : w.heap.size ≤ gb256)); have GE256 := am ((by rw [hg]; exact (below_size Q1) : w.heap.size ≤ gb256)); replace HB := am (below_step Q1 hb); clear hb hbox hg) | ((with_reducible refine gate_dst (N := 6) rfl ?_); refine box_event ?hg (N := 6) ?hd (cs := #[.int .i64 0, .int .i64 0, .int .i64 0, .int .i64 0, .int .i64 0, .int .i64 0, .int .i64 0, .slice none 0 0, .slice none 0 0, .slice none 0 0]) (t := 37) ?hr ?_; (case hd => rfl); (case hg => rfl); (case hr => first | (go_simp; done) | (go_simp; rfl)); intro gb257 hg w7 hbox hb; have BK257 := am (hbox); have GW257 := am ((by rw [hg]; exact (below_size Q1) : w.heap.size ≤ gb257)); have GE257 := am ((by rw [hg]; exact (below_size Q1) : w.heap.size ≤ gb257)); replace HB := am (below_step Q1 hb); have NB256_257 := am ((by rw [hg]; exact Nat.ne_of_lt (blk_lt (g := gb256) (o := .cells #[.int .i64 a0_0, .int .i64 a0_1, .int .i64 a0_2, .int .i64 a0_3, .int .i64 a0_4, .int .i64 a0_5, .int .i64 a0_6, .slice A0_7 l0_7.length c0_7, .slice A0_8 l0_8.length c0_8, .slice A0_9 l0_9.length c0_9] 37 (0, 0)) u10_5) : gb256 ≠ gb257)); have NB257_256 := am ((by rw [hg]; exact Nat.ne_of_gt (blk_lt (g := gb256) (o := .cells #[.int .i64 a0_0, .int .i64 a0_1, .int .i64 a0_2, .int .i64 a0_3, .int .i64 a0_4, .int .i64 a0_5, .int .i64 a0_6, .slice A0_7 l0_7.length c0_7, .slice A0_8 l0_8.length c0_8, .slice A0_9 l0_9.length c0_9] 37 (0, 0)) u10_5) : gb257 ≠ gb256)); replace BK256 := am (blk_below (g := gb256) (o := .cells #[.int .i64 a0_0, .int .i64 a0_1, .int .i64 a0_2, .int .i64 a0_3, .int .i64 a0_4, .int .i64 a0_5, .int .i64 a0_6, .slice A0_7 l0_7.length c0_7, .slice A0_8 l0_8.length c0_8, .slice A0_9 l0_9.length c0_9] 37 (0, 0)) u10_5 hb); clear hb hbox hg; have hnb8 := NB256_257.out; have hnc8 := NB257_256.out; obtain ⟨hcz9_0, hcz9_1, hcz9_2, hcz9_3, hcz9_4, hcz9_5, hcz9_6, hcz9_7, hcz9_8, hcz9_9, hfz9_0, hfz9_1, hfz9_2, hfz9_3, hfz9_4, hfz9_5, hfz9_6, hfz9_7, hfz9_8, hfz9_9⟩ := bc10f w7 BK256.out) | ((with_reducible refine gate_callee (f := 83) rfl ?_); refine goesL_ (some 10) rfl rfl Try.func83 kr rfl #[.agg #[.int .i64 a0_0, .int .i64 a0_1, .int .i64 a0_2, .int .i64 a0_3, .int .i64 a0_4, .int .i64 a0_5, .int .i64 a0_6, .slice A0_7 l0_7.length c0_7, .slice A0_8 l0_8.length c0_8, .slice A0_9 l0_9.length c0_9]] rfl Q3 ?_; (with_reducible refine (spec_l07Copy.calls k a0_0 a0_1 a0_2 a0_3 a0_4 a0_5 a0_6 _ _ l0_7 _ _ l0_8 _ _ l0_9 t258 t259 t260 t261 t262 t263 t264 t265 t268 t271 _ ?side1 ?side2 ?side3 ?side4 ?side5 ?side6 A4.out).mono ?_); (case side1 => exact Q8); (case side2 => exact HC0_7.out); (case side3 => exact Q10); (case side4 => exact HC0_8.out); (case side5 => exact Q11); (case side6 => exact HC0_9.out); rintro e w10 ⟨v266, v269, v272, rfl, ho0, ho1, ho2, hb⟩; refine ⟨_, rfl, ?_⟩; have HO267 := am (Kd.R_lower ho0 (below_size Q1)); have HO270 := am (Kd.R_lower ho1 (below_size Q1)); have HO273 := am (Kd.R_lower ho2 (below_size Q1)); replace BK256 := am (blk_below (g := gb256) (o := .cells #[.int .i64 a0_0, .int .i64 a0_1, .int .i64 a0_2, .int .i64 a0_3, .int .i64 a0_4, .int .i64 a0_5, .int .i64 a0_6, .slice A0_7 l0_7.length c0_7, .slice A0_8 l0_8.length c0_8, .slice A0_9 l0_9.length c0_9] 37 (0, 0)) u10_5 hb); replace BK257 := am (blk_below (g := gb257) (o := .cells #[.int .i64 0, .int .i64 0, .int .i64 0, .int .i64 0, .int .i64 0, .int .i64 0, .int .i64 0, .slice none 0 0, .slice none 0 0, .slice none 0 0] 37 (0, 0)) u10_7 hb); replace HB := am (below_step Q1 hb); (try clear hb); (try clear hb2); (try clear hk); (try clear hi); (try clear ho0); (try clear ho1); (try clear ho2)) | ((with_reducible refine gate_dst (N := 8) rfl ?_); refine box_event ?hg (N := 8) ?hd (cs := #[.int .i64 0, .int .i64 0, .int .i64 0, .int .i64 0, .int .i64 0, .int .i64 0, .int .i64 0, .slice none 0 0, .slice none 0 0, .slice none 0 0]) (t := 37) ?hr ?_; (case hd => rfl); (case hg => rfl); (case hr => first | (go_simp; done) | (go_simp; rfl)); intro gb274 hg w11 hbox hb; replace HO267 := am (Kd.R_below u10_19 hb); replace HO270 := am (Kd.R_below u10_20 hb); replace HO273 := am (Kd.R_below u10_21 hb); have BK274 := am (hbox); have GW274 := am ((by rw [hg]; exact (below_size Q1) : w.heap.size ≤ gb274)); have GE274 := am ((by rw [hg]; exact (below_size Q1) : w.heap.size ≤ gb274)); replace HB := am (below_step Q1 hb); have NB256_274 := am ((by rw [hg]; exact Nat.ne_of_lt (blk_lt (g := gb256) (o := .cells #[.int .i64 a0_0, .int .i64 a0_1, .int .i64 a0_2, .int .i64 a0_3, .int .i64 a0_4, .int .i64 a0_5, .int .i64 a0_6, .slice A0_7 l0_7.length c0_7, .slice A0_8 l0_8.length c0_8, .slice A0_9 l0_9.length c0_9] 37 (0, 0)) u10_5) : gb256 ≠ gb274)); have NB274_256 := am ((by rw [hg]; exact Nat.ne_of_gt (blk_lt (g := gb256) (o := .cells #[.int .i64 a0_0, .int .i64 a0_1, .int .i64 a0_2, .int .i64 a0_3, .int .i64 a0_4, .int .i64 a0_5, .int .i64 a0_6, .slice A0_7 l0_7.length c0_7, .slice A0_8 l0_8.length c0_8, .slice A0_9 l0_9.length c0_9] 37 (0, 0)) u10_5) : gb274 ≠ gb256)); replace BK256 := am (blk_below (g := gb256) (o := .cells #[.int .i64 a0_0, .int .i64 a0_1, .int .i64 a0_2, .int .i64 a0_3, .int .i64 a0_4, .int .i64 a0_5, .int .i64 a0_6, .slice A0_7 l0_7.length c0_7, .slice A0_8 l0_8.length c0_8, .slice A0_9 l0_9.length c0_9] 37 (0, 0)) u10_5 hb); have NB257_274 := am ((by rw [hg]; exact Nat.ne_of_lt (blk_lt (g := gb257) (o := .cells #[.int .i64 0, .int .i64 0, .int .i64 0, .int .i64 0, .int .i64 0, .int .i64 0, .int .i64 0, .slice none 0 0, .slice none 0 0, .slice none 0 0] 37 (0, 0)) u10_7) : gb257 ≠ gb274)); have NB274_257 := am ((by rw [hg]; exact Nat.ne_of_gt (blk_lt (g := gb257) (o := .cells #[.int .i64 0, .int .i64 0, .int .i64 0, .int .i64 0, .int .i64 0, .int .i64 0, .int .i64 0, .slice none 0 0, .slice none 0 0, .slice none 0 0] 37 (0, 0)) u10_7) : gb274 ≠ gb257)); replace BK257 := am (blk_below (g := gb257) (o := .cells #[.int .i64 0, .int .i64 0, .int .i64 0, .int .i64 0, .int .i64 0, .int .i64 0, .int .i64 0, .slice none 0 0, .slice none 0 0, .slice none 0 0] 37 (0, 0)) u10_7 hb); clear hb hbox hg; have hnb12 := NB274_256.out; have hnc12 := NB256_274.out; have hnb13 := NB274_257.out; have hnc13 := NB257_274.out; obtain ⟨hcz14_0, hcz14_1, hcz14_2, hcz14_3, hcz14_4, hcz14_5, hcz14_6, hcz14_7, hcz14_8, hcz14_9, hfz14_0, hfz14_1, hfz14_2, hfz14_3, hfz14_4, hfz14_5, hfz14_6, hfz14_7, hfz14_8, hfz14_9⟩ := bc10f w11 BK274.out; obtain ⟨Ao15, co15, eo15⟩ := Kd.R_slice HO267.out; subst eo15; obtain ⟨Ao16, co16, eo16⟩ := Kd.R_slice HO270.out; subst eo16; obtain ⟨Ao17, co17, eo17⟩ := Kd.R_slice HO273.out; subst eo17))
 (try simp only [Act.put, la, lb, lc])
 go_cut [19] (fun v19 wc => ∃ (kq : Nat) (x19_4 : Bool), v19 = .bool x19_4 ∧ Aside0 (spec_Propose.j0 kq a1 a2 x19_4 a0_0 a0_1 a0_2 a0_3 a0_4 a0_5 a0_6 l0_7 l0_8 l0_9 t258 t259 t260 t261 t262 t263 t264 t265 t268 t271 = some (r1, r2, r3, r4, r5, r6, r7, r8, r9, r10, r11)) ∧ Aside0 (kq ≤ k) ∧ Aside0 (Kd.R k85 85 wc w.heap.size (fun _ => True) (.slice Ao15 t265.length co15) t265) ∧ Aside0 (Kd.R (Kd.int .i64) 3 wc w.heap.size (fun k_ => some k_ ≠ ((.slice Ao17 t271.length co17) : Value).ownBlock) (.slice Ao16 t268.length co16) t268) ∧ Aside0 (Kd.R (Kd.int .i64) 3 wc w.heap.size (fun k_ => some k_ ≠ ((.slice Ao16 t268.length co16) : Value).ownBlock) (.slice Ao17 t271.length co17) t271) ∧ Aside0 (wc.heap[gb256]? = some (.cells #[.int .i64 a0_0, .int .i64 a0_1, .int .i64 a0_2, .int .i64 a0_3, .int .i64 a0_4, .int .i64 a0_5, .int .i64 a0_6, (.slice A0_7 l0_7.length c0_7), (.slice A0_8 l0_8.length c0_8), (.slice A0_9 l0_9.length c0_9)] 37 (0, 0))) ∧ Aside0 (wc.heap[gb257]? = some (.cells #[.int .i64 0, .int .i64 0, .int .i64 0, .int .i64 0, .int .i64 0, .int .i64 0, .int .i64 0, (.slice none 0 0), (.slice none 0 0), (.slice none 0 0)] 37 (0, 0))) ∧ Aside0 (wc.heap[gb274]? = some (.cells #[.int .i64 t258, .int .i64 t259, .int .i64 t260, .int .i64 t261, .int .i64 t262, .int .i64 t263, .int .i64 t264, (.slice Ao15 t265.length co15), (.slice Ao16 t268.length co16), (.slice Ao17 t271.length co17)] 37 (0, 0))) ∧ Aside0 (Below w.heap.size w wc))
 case first =>
   have H := HC5.out
   clear HC5
   replace H := Option.bind_eq_some_iff.mp H
   obtain ⟨t275, A180, H⟩ := H
   have A18 := am A180
   clear A180
   by_cases c19 : t275 = true
   rotate_left
   · replace c19 := Bool.eq_false_iff.mpr c19
     subst c19
     rw [nf] at H
     have H' := am H
     clear H
     have hnb25 := NB256_257.out
     have hnc25 := NB257_256.out
     have hnb26 := NB256_274.out
     have hnc26 := NB274_256.out
     obtain ⟨hcz27_0, hcz27_1, hcz27_2, hcz27_3, hcz27_4, hcz27_5, hcz27_6, hcz27_7, hcz27_8, hcz27_9, hfz27_0, hfz27_1, hfz27_2, hfz27_3, hfz27_4, hfz27_5, hfz27_6, hfz27_7, hfz27_8, hfz27_9⟩ := bc10f w11 BK256.out
     go_wp2_with (first | ((with_reducible refine gate_callee (f := 26) rfl ?_); refine goesL_ (some 13) rfl rfl Try.func26 kr rfl #[.agg #[.int .i64 a0_0, .int .i64 a0_1, .int .i64 a0_2, .int .i64 a0_3, .int .i64 a0_4, .int .i64 a0_5, .int .i64 a0_6, .slice A0_7 l0_7.length c0_7, .slice A0_8 l0_8.length c0_8, .slice A0_9 l0_9.length c0_9], .int .i64 a1] rfl Q3 ?_; (with_reducible refine (spec_NodeOk.calls k a0_0 a0_1 a0_2 a0_3 a0_4 a0_5 a0_6 _ _ l0_7 _ _ l0_8 _ _ l0_9 a1 false _ ?side1 ?side2 ?side3 ?side4 ?side5 ?side6 A18.out).mono ?_); (case side1 => exact (by exact Kd.C_below HR0_7.out Q1)); (case side2 => exact HC0_7.out); (case side3 => exact (by exact Kd.C_below HR0_8.out Q1)); (case side4 => exact HC0_8.out); (case side5 => exact (by exact Kd.C_below HR0_9.out Q1)); (case side6 => exact HC0_9.out); rintro e w28 ⟨rfl, hb⟩; refine ⟨_, rfl, ?_⟩; replace HO267 := am (Kd.R_below u10_8 hb); replace HO270 := am (Kd.R_below u10_9 hb); replace HO273 := am (Kd.R_below u10_10 hb); replace BK256 := am (blk_below (g := gb256) (o := .cells #[.int .i64 a0_0, .int .i64 a0_1, .int .i64 a0_2, .int .i64 a0_3, .int .i64 a0_4, .int .i64 a0_5, .int .i64 a0_6, .slice A0_7 l0_7.length c0_7, .slice A0_8 l0_8.length c0_8, .slice A0_9 l0_9.length c0_9] 37 (0, 0)) u10_2 hb); replace BK257 := am (blk_below (g := gb257) (o := .cells #[.int .i64 0, .int .i64 0, .int .i64 0, .int .i64 0, .int .i64 0, .int .i64 0, .int .i64 0, .slice none 0 0, .slice none 0 0, .slice none 0 0] 37 (0, 0)) u10_3 hb); replace BK274 := am (blk_below (g := gb274) (o := .cells #[.int .i64 t258, .int .i64 t259, .int .i64 t260, .int .i64 t261, .int .i64 t262, .int .i64 t263, .int .i64 t264, .slice Ao15 t265.length co15, .slice Ao16 t268.length co16, .slice Ao17 t271.length co17] 37 (0, 0)) u10_1 hb); replace HB := am (below_step Q1 hb); (try clear hb); (try clear hb2); (try clear hk); (try clear hi)))
     go_meet
     case rel => exact ⟨_, (true), (by first | rfl | (simp; done) | (simp [*]; done)), H', ⟨by first | omega | exact Nat.le_refl _⟩, ⟨u10_19⟩, ⟨u10_20⟩, ⟨u10_21⟩, ⟨u10_5⟩, ⟨u10_7⟩, ⟨u10_12⟩, ⟨Q1⟩⟩
   subst c19
   rw [if_pos rfl] at H
   have H' := am H
   clear H
   have hnb20 := NB256_257.out
   have hnc20 := NB257_256.out
   have hnb21 := NB256_274.out
   have hnc21 := NB274_256.out
   obtain ⟨hcz22_0, hcz22_1, hcz22_2, hcz22_3, hcz22_4, hcz22_5, hcz22_6, hcz22_7, hcz22_8, hcz22_9, hfz22_0, hfz22_1, hfz22_2, hfz22_3, hfz22_4, hfz22_5, hfz22_6, hfz22_7, hfz22_8, hfz22_9⟩ := bc10f w11 BK256.out
   go_wp2_with (first | ((with_reducible refine gate_callee (f := 26) rfl ?_); refine goesL_ (some 13) rfl rfl Try.func26 kr rfl #[.agg #[.int .i64 a0_0, .int .i64 a0_1, .int .i64 a0_2, .int .i64 a0_3, .int .i64 a0_4, .int .i64 a0_5, .int .i64 a0_6, .slice A0_7 l0_7.length c0_7, .slice A0_8 l0_8.length c0_8, .slice A0_9 l0_9.length c0_9], .int .i64 a1] rfl Q3 ?_; (with_reducible refine (spec_NodeOk.calls k a0_0 a0_1 a0_2 a0_3 a0_4 a0_5 a0_6 _ _ l0_7 _ _ l0_8 _ _ l0_9 a1 true _ ?side1 ?side2 ?side3 ?side4 ?side5 ?side6 A18.out).mono ?_); (case side1 => exact (by exact Kd.C_below HR0_7.out Q1)); (case side2 => exact HC0_7.out); (case side3 => exact (by exact Kd.C_below HR0_8.out Q1)); (case side4 => exact HC0_8.out); (case side5 => exact (by exact Kd.C_below HR0_9.out Q1)); (case side6 => exact HC0_9.out); rintro e w23 ⟨rfl, hb⟩; refine ⟨_, rfl, ?_⟩; replace HO267 := am (Kd.R_below u10_8 hb); replace HO270 := am (Kd.R_below u10_9 hb); replace HO273 := am (Kd.R_below u10_10 hb); replace BK256 := am (blk_below (g := gb256) (o := .cells #[.int .i64 a0_0, .int .i64 a0_1, .int .i64 a0_2, .int .i64 a0_3, .int .i64 a0_4, .int .i64 a0_5, .int .i64 a0_6, .slice A0_7 l0_7.length c0_7, .slice A0_8 l0_8.length c0_8, .slice A0_9 l0_9.length c0_9] 37 (0, 0)) u10_2 hb); replace BK257 := am (blk_below (g := gb257) (o := .cells #[.int .i64 0, .int .i64 0, .int .i64 0, .int .i64 0, .int .i64 0, .int .i64 0, .int .i64 0, .slice none 0 0, .slice none 0 0, .slice none 0 0] 37 (0, 0)) u10_3 hb); replace BK274 := am (blk_below (g := gb274) (o := .cells #[.int .i64 t258, .int .i64 t259, .int .i64 t260, .int .i64 t261, .int .i64 t262, .int .i64 t263, .int .i64 t264, .slice Ao15 t265.length co15, .slice Ao16 t268.length co16, .slice Ao17 t271.length co17] 37 (0, 0)) u10_1 hb); replace HB := am (below_step Q1 hb); (try clear hb); (try clear hb2); (try clear hk); (try clear hi); obtain ⟨hcz24_0, hcz24_1, hcz24_2, hcz24_3, hcz24_4, hcz24_5, hcz24_6, hcz24_7, hcz24_8, hcz24_9, hfz24_0, hfz24_1, hfz24_2, hfz24_3, hfz24_4, hfz24_5, hfz24_6, hfz24_7, hfz24_8, hfz24_9⟩ := bc10f w23 BK256.out))
   go_meet
   case rel => exact ⟨_, ((a0_3 != 2)), (by first | rfl | (simp; done) | (simp [*]; done)), H', ⟨by first | omega | exact Nat.le_refl _⟩, ⟨u10_19⟩, ⟨u10_20⟩, ⟨u10_21⟩, ⟨u10_5⟩, ⟨u10_7⟩, ⟨u10_12⟩, ⟨Q1⟩⟩
 clear HC5
 try clear hcz14_0
 try clear hcz14_1
 try clear hcz14_2
 try clear hcz14_3
 try clear hcz14_4
 try clear hcz14_5
 try clear hcz14_6
 try clear hcz14_7
 try clear hcz14_8
 try clear hcz14_9
 try clear hcz9_0
 try clear hcz9_1
 try clear hcz9_2
 try clear hcz9_3
 try clear hcz9_4
 try clear hcz9_5
 try clear hcz9_6
 try clear hcz9_7
 try clear hcz9_8
 try clear hcz9_9
 try clear hfz14_0
 try clear hfz14_1
 try clear hfz14_2
 try clear hfz14_3
 try clear hfz14_4
 try clear hfz14_5
 try clear hfz14_6
 try clear hfz14_7
 try clear hfz14_8
 try clear hfz14_9
 try clear hfz9_0
 try clear hfz9_1
 try clear hfz9_2
 try clear hfz9_3
 try clear hfz9_4
 try clear hfz9_5
 try clear hfz9_6
 try clear hfz9_7
 try clear hfz9_8
 try clear hfz9_9
 obtain ⟨kq, x19_4, rfl, HA, HJ4, HO_275007, HO_275008, HO_275009, BK256, BK257, BK274, HB⟩ := hcut
 cases kq with
 | zero => exact absurd HA.out (by simp [spec_Propose.j0])
 | succ kj4 =>
   have H := HA.out
   clear HA
   simp only [spec_Propose.j0] at H
   by_cases c29 : x19_4 = true
   · subst c29
     rw [if_pos rfl] at H
     simp only [Option.some.injEq, Prod.mk.injEq] at H
     obtain ⟨rfl, rfl, rfl, rfl, rfl, rfl, rfl, rfl, rfl, rfl, rfl⟩ := H
     have hnb30 := NB274_256.out
     have hnc30 := NB256_274.out
     have hnb31 := NB274_257.out
     have hnc31 := NB257_274.out
     obtain ⟨hcz32_0, hcz32_1, hcz32_2, hcz32_3, hcz32_4, hcz32_5, hcz32_6, hcz32_7, hcz32_8, hcz32_9, hfz32_0, hfz32_1, hfz32_2, hfz32_3, hfz32_4, hfz32_5, hfz32_6, hfz32_7, hfz32_8, hfz32_9⟩ := bc10f wc BK274.out
     have hnb33 := NB257_256.out
     have hnc33 := NB256_257.out
     obtain ⟨hcz34_0, hcz34_1, hcz34_2, hcz34_3, hcz34_4, hcz34_5, hcz34_6, hcz34_7, hcz34_8, hcz34_9, hfz34_0, hfz34_1, hfz34_2, hfz34_3, hfz34_4, hfz34_5, hfz34_6, hfz34_7, hfz34_8, hfz34_9⟩ := bc10f wc BK257.out
     go_wp2
     refine bodyPost_ret (results_ct rfl _ _ gb257 37 #[.int .i64 t258, .int .i64 t259, .int .i64 t260, .int .i64 t261, .int .i64 t262, .int .i64 t263, .int .i64 t264, .slice Ao15 t265.length co15, .slice Ao16 t268.length co16, .slice Ao17 t271.length co17] (0, 0) _ rfl (by (with_reducible repeat (first | refine blk_drewN ?_ _ | refine blk_drew ?_ | refine blk_alloc ?_ _)); refine blk_put (cs := #[.int .i64 t258, .int .i64 t259, .int .i64 t260, .int .i64 t261, .int .i64 t262, .int .i64 t263, .int .i64 t264, .slice Ao15 t265.length co15, .slice Ao16 t268.length co16, .slice none 0 0]) ?_ 9 _ rfl; (with_reducible repeat (first | refine blk_drewN ?_ _ | refine blk_drew ?_ | refine blk_alloc ?_ _)); refine blk_put (cs := #[.int .i64 t258, .int .i64 t259, .int .i64 t260, .int .i64 t261, .int .i64 t262, .int .i64 t263, .int .i64 t264, .slice Ao15 t265.length co15, .slice none 0 0, .slice none 0 0]) ?_ 8 _ rfl; (with_reducible repeat (first | refine blk_drewN ?_ _ | refine blk_drew ?_ | refine blk_alloc ?_ _)); refine blk_put (cs := #[.int .i64 t258, .int .i64 t259, .int .i64 t260, .int .i64 t261, .int .i64 t262, .int .i64 t263, .int .i64 t264, .slice none 0 0, .slice none 0 0, .slice none 0 0]) ?_ 7 _ rfl; (with_reducible repeat (first | refine blk_drewN ?_ _ | refine blk_drew ?_ | refine blk_alloc ?_ _)); refine blk_put (cs := #[.int .i64 t258, .int .i64 t259, .int .i64 t260, .int .i64 t261, .int .i64 t262, .int .i64 t263, .int .i64 0, .slice none 0 0, .slice none 0 0, .slice none 0 0]) ?_ 6 _ rfl; (with_reducible repeat (first | refine blk_drewN ?_ _ | refine blk_drew ?_ | refine blk_alloc ?_ _)); refine blk_put (cs := #[.int .i64 t258, .int .i64 t259, .int .i64 t260, .int .i64 t261, .int .i64 t262, .int .i64 0, .int .i64 0, .slice none 0 0, .slice none 0 0, .slice none 0 0]) ?_ 5 _ rfl; (with_reducible repeat (first | refine blk_drewN ?_ _ | refine blk_drew ?_ | refine blk_alloc ?_ _)); refine blk_put (cs := #[.int .i64 t258, .int .i64 t259, .int .i64 t260, .int .i64 t261, .int .i64 0, .int .i64 0, .int .i64 0, .slice none 0 0, .slice none 0 0, .slice none 0 0]) ?_ 4 _ rfl; (with_reducible repeat (first | refine blk_drewN ?_ _ | refine blk_drew ?_ | refine blk_alloc ?_ _)); refine blk_put (cs := #[.int .i64 t258, .int .i64 t259, .int .i64 t260, .int .i64 0, .int .i64 0, .int .i64 0, .int .i64 0, .slice none 0 0, .slice none 0 0, .slice none 0 0]) ?_ 3 _ rfl; (with_reducible repeat (first | refine blk_drewN ?_ _ | refine blk_drew ?_ | refine blk_alloc ?_ _)); refine blk_put (cs := #[.int .i64 t258, .int .i64 t259, .int .i64 0, .int .i64 0, .int .i64 0, .int .i64 0, .int .i64 0, .slice none 0 0, .slice none 0 0, .slice none 0 0]) ?_ 2 _ rfl; (with_reducible repeat (first | refine blk_drewN ?_ _ | refine blk_drew ?_ | refine blk_alloc ?_ _)); refine blk_put (cs := #[.int .i64 t258, .int .i64 0, .int .i64 0, .int .i64 0, .int .i64 0, .int .i64 0, .int .i64 0, .slice none 0 0, .slice none 0 0, .slice none 0 0]) ?_ 1 _ rfl; (with_reducible repeat (first | refine blk_drewN ?_ _ | refine blk_drew ?_ | refine blk_alloc ?_ _)); refine blk_put (cs := #[.int .i64 0, .int .i64 0, .int .i64 0, .int .i64 0, .int .i64 0, .int .i64 0, .int .i64 0, .slice none 0 0, .slice none 0 0, .slice none 0 0]) ?_ 0 _ rfl; (with_reducible repeat (first | refine blk_drewN ?_ _ | refine blk_drew ?_ | refine blk_alloc ?_ _)); exact BK257.out) Try.underlying37 rfl kr) rfl ?_
     exact ⟨_, _, _, er, (by (with_reducible repeat (first | apply Kd.R_alloc | apply Kd.R_drewN | apply Kd.R_drew)); exact Kd.R_mono (Kd.R_far (p := ⟨gb257, 9, none⟩) (Kd.R_far (p := ⟨gb257, 8, none⟩) (Kd.R_far (p := ⟨gb257, 7, none⟩) (Kd.R_far (p := ⟨gb257, 6, none⟩) (Kd.R_far (p := ⟨gb257, 5, none⟩) (Kd.R_far (p := ⟨gb257, 4, none⟩) (Kd.R_far (p := ⟨gb257, 3, none⟩) (Kd.R_far (p := ⟨gb257, 2, none⟩) (Kd.R_far (p := ⟨gb257, 1, none⟩) (Kd.R_far (p := ⟨gb257, 0, none⟩) (Kd.R_types HO_275007.out BK257.out (by decide)) (fun _ hk => hk.2) (.int .i64 t258)) (fun _ hk => hk.2) (.int .i64 t259)) (fun _ hk => hk.2) (.int .i64 t260)) (fun _ hk => hk.2) (.int .i64 t261)) (fun _ hk => hk.2) (.int .i64 t262)) (fun _ hk => hk.2) (.int .i64 t263)) (fun _ hk => hk.2) (.int .i64 t264)) (fun _ hk => hk.2) (.slice Ao15 t265.length co15)) (fun _ hk => hk.2) (.slice Ao16 t268.length co16)) (fun _ hk => hk.2) (.slice Ao17 t271.length co17)) (fun _ hk => trivial)), (by (with_reducible repeat (first | apply Kd.R_alloc | apply Kd.R_drewN | apply Kd.R_drew)); exact Kd.R_mono (Kd.R_far (p := ⟨gb257, 9, none⟩) (Kd.R_far (p := ⟨gb257, 8, none⟩) (Kd.R_far (p := ⟨gb257, 7, none⟩) (Kd.R_far (p := ⟨gb257, 6, none⟩) (Kd.R_far (p := ⟨gb257, 5, none⟩) (Kd.R_far (p := ⟨gb257, 4, none⟩) (Kd.R_far (p := ⟨gb257, 3, none⟩) (Kd.R_far (p := ⟨gb257, 2, none⟩) (Kd.R_far (p := ⟨gb257, 1, none⟩) (Kd.R_far (p := ⟨gb257, 0, none⟩) (Kd.R_types HO_275008.out BK257.out (by decide)) (fun _ hk => hk.2) (.int .i64 t258)) (fun _ hk => hk.2) (.int .i64 t259)) (fun _ hk => hk.2) (.int .i64 t260)) (fun _ hk => hk.2) (.int .i64 t261)) (fun _ hk => hk.2) (.int .i64 t262)) (fun _ hk => hk.2) (.int .i64 t263)) (fun _ hk => hk.2) (.int .i64 t264)) (fun _ hk => hk.2) (.slice Ao15 t265.length co15)) (fun _ hk => hk.2) (.slice Ao16 t268.length co16)) (fun _ hk => hk.2) (.slice Ao17 t271.length co17)) (fun _ hk => hk.1)), (by (with_reducible repeat (first | apply Kd.R_alloc | apply Kd.R_drewN | apply Kd.R_drew)); exact Kd.R_mono (Kd.R_far (p := ⟨gb257, 9, none⟩) (Kd.R_far (p := ⟨gb257, 8, none⟩) (Kd.R_far (p := ⟨gb257, 7, none⟩) (Kd.R_far (p := ⟨gb257, 6, none⟩) (Kd.R_far (p := ⟨gb257, 5, none⟩) (Kd.R_far (p := ⟨gb257, 4, none⟩) (Kd.R_far (p := ⟨gb257, 3, none⟩) (Kd.R_far (p := ⟨gb257, 2, none⟩) (Kd.R_far (p := ⟨gb257, 1, none⟩) (Kd.R_far (p := ⟨gb257, 0, none⟩) (Kd.R_types HO_275009.out BK257.out (by decide)) (fun _ hk => hk.2) (.int .i64 t258)) (fun _ hk => hk.2) (.int .i64 t259)) (fun _ hk => hk.2) (.int .i64 t260)) (fun _ hk => hk.2) (.int .i64 t261)) (fun _ hk => hk.2) (.int .i64 t262)) (fun _ hk => hk.2) (.int .i64 t263)) (fun _ hk => hk.2) (.int .i64 t264)) (fun _ hk => hk.2) (.slice Ao15 t265.length co15)) (fun _ hk => hk.2) (.slice Ao16 t268.length co16)) (fun _ hk => hk.2) (.slice Ao17 t271.length co17)) (fun _ hk => hk.1)), Q1⟩
   replace c29 := Bool.eq_false_iff.mpr c29
   subst c29
   rw [nf] at H
   by_cases c35 : t265.length < 5864062014805
   rotate_left
   · rw [if_neg c35] at H
     exact absurd H (by simp)
   rw [if_pos c35] at H
   have LMc35 := am c35
   clear c35
   obtain ⟨y276, hy276⟩ : ∃ y_ : List (S85), y_ = (t265 ++ [(⟨a0_1, a2⟩ : S85)]) := ⟨_, rfl⟩
   replace H : ((spec_RLogOk.f kj4 t263 t264 y276).bind fun t279 => (if t279 = true then ((spec_LastIndex.f kj4 t263 t264 y276).bind fun t280 => (if 0 ≤ a0_0 then (if a0_0 < (t271.length : Int) then ((spec_l07Commit.f kj4 t258 t259 t260 t261 t262 t263 t264 y276 t268 (t271.set (a0_0 : Int).toNat t280) a1).bind fun bt282 => (some (bt282.1, bt282.2.1, bt282.2.2.1, bt282.2.2.2.1, bt282.2.2.2.2.1, bt282.2.2.2.2.2.1, bt282.2.2.2.2.2.2.1, bt282.2.2.2.2.2.2.2.1, bt282.2.2.2.2.2.2.2.2.1, bt282.2.2.2.2.2.2.2.2.2, true))) else (none)) else (none))) else ((spec_l07Copy.f kj4 a0_0 a0_1 a0_2 a0_3 a0_4 a0_5 a0_6 l0_7 l0_8 l0_9).bind fun bt298 => (some (bt298.1, bt298.2.1, bt298.2.2.1, bt298.2.2.2.1, bt298.2.2.2.2.1, bt298.2.2.2.2.2.1, bt298.2.2.2.2.2.2.1, bt298.2.2.2.2.2.2.2.1, bt298.2.2.2.2.2.2.2.2.1, bt298.2.2.2.2.2.2.2.2.2, false))))) = some (r1, r2, r3, r4, r5, r6, r7, r8, r9, r10, r11) := by first | (rw [hy276]; with_reducible exact H) | (have H2_ := (Option.bind_some _ _).symm.trans H; rw [hy276]; with_reducible exact H2_) | (have H2_ := (Option.bind_some _ _).symm.trans H; with_reducible exact H2_) | with_reducible exact H | (rw [hy276]; exact H) | exact H
   have Ny276 := am hy276
   clear hy276
   replace H := Option.bind_eq_some_iff.mp H
   obtain ⟨t279, A360, H⟩ := H
   have A36 := am A360
   clear A360
   have H9 := am H
   clear H
   have hnb37 := NB274_256.out
   have hnc37 := NB256_274.out
   have hnb38 := NB274_257.out
   have hnc38 := NB257_274.out
   obtain ⟨hcz39_0, hcz39_1, hcz39_2, hcz39_3, hcz39_4, hcz39_5, hcz39_6, hcz39_7, hcz39_8, hcz39_9, hfz39_0, hfz39_1, hfz39_2, hfz39_3, hfz39_4, hfz39_5, hfz39_6, hfz39_7, hfz39_8, hfz39_9⟩ := bc10f wc BK274.out
   have hnb40 := NB256_257.out
   have hnc40 := NB257_256.out
   obtain ⟨hcz41_0, hcz41_1, hcz41_2, hcz41_3, hcz41_4, hcz41_5, hcz41_6, hcz41_7, hcz41_8, hcz41_9, hfz41_0, hfz41_1, hfz41_2, hfz41_3, hfz41_4, hfz41_5, hfz41_6, hfz41_7, hfz41_8, hfz41_9⟩ := bc10f wc BK256.out
   go_upto_if 35 with (first | ((with_reducible refine gate_builtin (b := .append) (xs := #[.tmp 23, .tmp 28]) rfl ?_); at_builtin; refine Kd.R_append k85 (w0 := w) w.heap.size rfl (.tmp 23) (.tmp 28) 27 85 (.agg #[(.int .i64 0), (.string ⟨#[]⟩)]) 24 rfl Try.underlying27 info85 rfl (by decide) (by omega) (.slice Ao15 t265.length co15) t265 (⟨a0_1, a2⟩ : S85) [.int .i64 a0_1, .string a2] (fun _ => True) (fun _ => False) rfl rfl ?aP (fun _ hk => hk.elim) ?aF ?aO ?aB ?aS ?aL ?_; (case aP => exact k85_mkM _ _ _ (⟨a0_1, a2⟩ : S85)); (case aB => exact Q1); (case aF => exact (fun _ _ => trivial)); (case aO => exact u10_18); (case aS => exact (below_size Q1)); (case aL => have := LMc35.out; omega); intro v277 w42 ho hb hg hat; rw [← Ny276.out] at ho; replace HO_275008 := am (Kd.R_over' u10_13 (Kd.R_typed u10_18) (by decide) hg); replace HO_275009 := am (Kd.R_over' u10_14 (Kd.R_typed u10_18) (by decide) hg); replace BK256 := am (blk_grown (g := gb256) (o := .cells #[.int .i64 a0_0, .int .i64 a0_1, .int .i64 a0_2, .int .i64 a0_3, .int .i64 a0_4, .int .i64 a0_5, .int .i64 a0_6, .slice A0_7 l0_7.length c0_7, .slice A0_8 l0_8.length c0_8, .slice A0_9 l0_9.length c0_9] 37 (0, 0)) u10_5 hg (Kd.R_ne HO_275007.out BK256.out (by decide))); replace BK257 := am (blk_grown (g := gb257) (o := .cells #[.int .i64 0, .int .i64 0, .int .i64 0, .int .i64 0, .int .i64 0, .int .i64 0, .int .i64 0, .slice none 0 0, .slice none 0 0, .slice none 0 0] 37 (0, 0)) u10_7 hg (Kd.R_ne HO_275007.out BK257.out (by decide))); replace BK274 := am (blk_grown (g := gb274) (o := .cells #[.int .i64 t258, .int .i64 t259, .int .i64 t260, .int .i64 t261, .int .i64 t262, .int .i64 t263, .int .i64 t264, .slice Ao15 t265.length co15, .slice Ao16 t268.length co16, .slice Ao17 t271.length co17] 37 (0, 0)) u10_12 hg (Kd.R_ne HO_275007.out BK274.out (by decide))); replace HB := am (hb); have HO278 := am (ho); clear HO_275007; clear ho hb hg hat; obtain ⟨Ao43, co43, eo43⟩ := Kd.R_slice HO278.out; subst eo43; obtain ⟨hcz44_0, hcz44_1, hcz44_2, hcz44_3, hcz44_4, hcz44_5, hcz44_6, hcz44_7, hcz44_8, hcz44_9, hfz44_0, hfz44_1, hfz44_2, hfz44_3, hfz44_4, hfz44_5, hfz44_6, hfz44_7, hfz44_8, hfz44_9⟩ := bc10f w42 BK274.out) | ((with_reducible refine gate_callee (f := 86) rfl ?_); refine goesL_ (some 34) rfl rfl Try.func86 kr rfl #[.agg #[.int .i64 t263, .int .i64 t264, .slice Ao43 y276.length co43]] rfl Q3 ?_; (with_reducible refine (spec_RLogOk.calls kj4 t263 t264 _ _ y276 t279 _ ?side1 ?side2 A36.out).mono ?_); (case side1 => exact (by refine (Kd.R_reads' (e := 85) (base := w.heap.size) (ok := fun k_ => True) (n := y276.length) (c := co43) ?_).2.2; exact u10_17)); (case side2 => exact (Kd.R_reads' HO278.out).2.1); rintro e w45 ⟨rfl, hb⟩; refine ⟨_, rfl, ?_⟩; replace HO_275008 := am (Kd.R_below (by (with_reducible repeat (first | apply Kd.R_alloc | apply Kd.R_drewN | apply Kd.R_drew)); exact (Kd.R_mono (Kd.R_far (p := ⟨gb274, 7, none⟩) (Kd.R_types HO_275008.out BK274.out (by decide)) (fun _ hk => hk.2) (.slice Ao43 y276.length co43)) (fun _ h_ => h_.1))) hb); replace HO_275009 := am (Kd.R_below (by (with_reducible repeat (first | apply Kd.R_alloc | apply Kd.R_drewN | apply Kd.R_drew)); exact (Kd.R_mono (Kd.R_far (p := ⟨gb274, 7, none⟩) (Kd.R_types HO_275009.out BK274.out (by decide)) (fun _ hk => hk.2) (.slice Ao43 y276.length co43)) (fun _ h_ => h_.1))) hb); replace HO278 := am (Kd.R_below u10_17 hb); replace BK256 := am (blk_below (g := gb256) (o := .cells #[.int .i64 a0_0, .int .i64 a0_1, .int .i64 a0_2, .int .i64 a0_3, .int .i64 a0_4, .int .i64 a0_5, .int .i64 a0_6, .slice A0_7 l0_7.length c0_7, .slice A0_8 l0_8.length c0_8, .slice A0_9 l0_9.length c0_9] 37 (0, 0)) (by (with_reducible repeat (first | refine blk_drewN ?_ _ | refine blk_drew ?_ | refine blk_alloc ?_ _)); refine blk_far ?_ NB256_274.out _; (with_reducible repeat (first | refine blk_drewN ?_ _ | refine blk_drew ?_ | refine blk_alloc ?_ _)); exact BK256.out) hb); replace BK257 := am (blk_below (g := gb257) (o := .cells #[.int .i64 0, .int .i64 0, .int .i64 0, .int .i64 0, .int .i64 0, .int .i64 0, .int .i64 0, .slice none 0 0, .slice none 0 0, .slice none 0 0] 37 (0, 0)) (by (with_reducible repeat (first | refine blk_drewN ?_ _ | refine blk_drew ?_ | refine blk_alloc ?_ _)); refine blk_far ?_ NB257_274.out _; (with_reducible repeat (first | refine blk_drewN ?_ _ | refine blk_drew ?_ | refine blk_alloc ?_ _)); exact BK257.out) hb); replace BK274 := am (blk_below (g := gb274) (o := .cells #[.int .i64 t258, .int .i64 t259, .int .i64 t260, .int .i64 t261, .int .i64 t262, .int .i64 t263, .int .i64 t264, .slice Ao43 y276.length co43, .slice Ao16 t268.length co16, .slice Ao17 t271.length co17] 37 (0, 0)) (by (with_reducible repeat (first | refine blk_drewN ?_ _ | refine blk_drew ?_ | refine blk_alloc ?_ _)); refine blk_put (cs := #[.int .i64 t258, .int .i64 t259, .int .i64 t260, .int .i64 t261, .int .i64 t262, .int .i64 t263, .int .i64 t264, .slice Ao15 t265.length co15, .slice Ao16 t268.length co16, .slice Ao17 t271.length co17]) ?_ 7 _ rfl; (with_reducible repeat (first | refine blk_drewN ?_ _ | refine blk_drew ?_ | refine blk_alloc ?_ _)); exact BK274.out) hb); replace HB := am (below_step Q1 hb); (try clear hb); (try clear hb2); (try clear hk); (try clear hi)))
   have H := H9.out
   clear H9
   by_cases c46 : t279 = true
   rotate_left
   · replace c46 := Bool.eq_false_iff.mpr c46
     subst c46
     rw [nf] at H
     replace H := Option.bind_eq_some_iff.mp H
     obtain ⟨⟨t298, t299, t300, t301, t302, t303, t304, t305, t308, t311⟩, A650, H⟩ := H
     (try dsimp only at H)
     have A65 := am A650
     clear A650
     simp only [Option.some.injEq, Prod.mk.injEq] at H
     obtain ⟨rfl, rfl, rfl, rfl, rfl, rfl, rfl, rfl, rfl, rfl, rfl⟩ := H
     have hnb66 := NB256_257.out
     have hnc66 := NB257_256.out
     have hnb67 := NB256_274.out
     have hnc67 := NB274_256.out
     obtain ⟨hcz68_0, hcz68_1, hcz68_2, hcz68_3, hcz68_4, hcz68_5, hcz68_6, hcz68_7, hcz68_8, hcz68_9, hfz68_0, hfz68_1, hfz68_2, hfz68_3, hfz68_4, hfz68_5, hfz68_6, hfz68_7, hfz68_8, hfz68_9⟩ := bc10f w45 BK256.out
     go_wp2_with (first | ((with_reducible refine gate_callee (f := 83) rfl ?_); refine goesL_ (some 37) rfl rfl Try.func83 kr rfl #[.agg #[.int .i64 a0_0, .int .i64 a0_1, .int .i64 a0_2, .int .i64 a0_3, .int .i64 a0_4, .int .i64 a0_5, .int .i64 a0_6, .slice A0_7 l0_7.length c0_7, .slice A0_8 l0_8.length c0_8, .slice A0_9 l0_9.length c0_9]] rfl Q3 ?_; (with_reducible refine (spec_l07Copy.calls kj4 a0_0 a0_1 a0_2 a0_3 a0_4 a0_5 a0_6 _ _ l0_7 _ _ l0_8 _ _ l0_9 t298 t299 t300 t301 t302 t303 t304 t305 t308 t311 _ ?side1 ?side2 ?side3 ?side4 ?side5 ?side6 A65.out).mono ?_); (case side1 => exact Q8); (case side2 => exact HC0_7.out); (case side3 => exact Q10); (case side4 => exact HC0_8.out); (case side5 => exact Q11); (case side6 => exact HC0_9.out); rintro e w69 ⟨v306, v309, v312, rfl, ho0, ho1, ho2, hb⟩; refine ⟨_, rfl, ?_⟩; have HO307 := am (Kd.R_lower (Kd.R_new' ho0 (Kd.R_lt u10_22)) (below_size Q1)); replace HO278 := am (Kd.R_elder' u10_22 (Kd.R_base ho0) hb); have HO310 := am (Kd.R_lower (Kd.R_new' (Kd.R_new' ho1 (Kd.R_lt u10_13)) (Kd.R_lt u10_14)) (below_size Q1)); have HO313 := am (Kd.R_lower (Kd.R_new' (Kd.R_new' ho2 (Kd.R_lt u10_13)) (Kd.R_lt u10_14)) (below_size Q1)); replace HO_275008 := am (Kd.R_mono (Kd.R_told (Kd.R_told (Kd.R_old u10_13 hb) (Kd.R_base ho1)) (Kd.R_base ho2)) (fun _ h_ => h_.1)); replace HO_275009 := am (Kd.R_mono (Kd.R_told (Kd.R_told (Kd.R_old u10_14 hb) (Kd.R_base ho1)) (Kd.R_base ho2)) (fun _ h_ => h_.1)); replace BK256 := am (blk_below (g := gb256) (o := .cells #[.int .i64 a0_0, .int .i64 a0_1, .int .i64 a0_2, .int .i64 a0_3, .int .i64 a0_4, .int .i64 a0_5, .int .i64 a0_6, .slice A0_7 l0_7.length c0_7, .slice A0_8 l0_8.length c0_8, .slice A0_9 l0_9.length c0_9] 37 (0, 0)) u10_5 hb); replace BK257 := am (blk_below (g := gb257) (o := .cells #[.int .i64 0, .int .i64 0, .int .i64 0, .int .i64 0, .int .i64 0, .int .i64 0, .int .i64 0, .slice none 0 0, .slice none 0 0, .slice none 0 0] 37 (0, 0)) u10_7 hb); replace BK274 := am (blk_below (g := gb274) (o := .cells #[.int .i64 t258, .int .i64 t259, .int .i64 t260, .int .i64 t261, .int .i64 t262, .int .i64 t263, .int .i64 t264, .slice Ao43 y276.length co43, .slice Ao16 t268.length co16, .slice Ao17 t271.length co17] 37 (0, 0)) u10_12 hb); replace HB := am (below_step Q1 hb); (try clear hb); (try clear hb2); (try clear hk); (try clear hi); (try clear ho0); (try clear ho1); (try clear ho2); have hnb70 := NB257_274.out; have hnc70 := NB274_257.out; obtain ⟨hcz71_0, hcz71_1, hcz71_2, hcz71_3, hcz71_4, hcz71_5, hcz71_6, hcz71_7, hcz71_8, hcz71_9, hfz71_0, hfz71_1, hfz71_2, hfz71_3, hfz71_4, hfz71_5, hfz71_6, hfz71_7, hfz71_8, hfz71_9⟩ := bc10f w69 BK257.out; obtain ⟨Ao72, co72, eo72⟩ := Kd.R_slice HO307.out; subst eo72; obtain ⟨Ao73, co73, eo73⟩ := Kd.R_slice HO310.out; subst eo73; obtain ⟨Ao74, co74, eo74⟩ := Kd.R_slice HO313.out; subst eo74))
     refine bodyPost_ret (results_ct rfl _ _ gb257 37 #[.int .i64 t298, .int .i64 t299, .int .i64 t300, .int .i64 t301, .int .i64 t302, .int .i64 t303, .int .i64 t304, .slice Ao72 t305.length co72, .slice Ao73 t308.length co73, .slice Ao74 t311.length co74] (0, 0) _ rfl (by (with_reducible repeat (first | refine blk_drewN ?_ _ | refine blk_drew ?_ | refine blk_alloc ?_ _)); refine blk_put (cs := #[.int .i64 t298, .int .i64 t299, .int .i64 t300, .int .i64 t301, .int .i64 t302, .int .i64 t303, .int .i64 t304, .slice Ao72 t305.length co72, .slice Ao73 t308.length co73, .slice none 0 0]) ?_ 9 _ rfl; (with_reducible repeat (first | refine blk_drewN ?_ _ | refine blk_drew ?_ | refine blk_alloc ?_ _)); refine blk_put (cs := #[.int .i64 t298, .int .i64 t299, .int .i64 t300, .int .i64 t301, .int .i64 t302, .int .i64 t303, .int .i64 t304, .slice Ao72 t305.length co72, .slice none 0 0, .slice none 0 0]) ?_ 8 _ rfl; (with_reducible repeat (first | refine blk_drewN ?_ _ | refine blk_drew ?_ | refine blk_alloc ?_ _)); refine blk_put (cs := #[.int .i64 t298, .int .i64 t299, .int .i64 t300, .int .i64 t301, .int .i64 t302, .int .i64 t303, .int .i64 t304, .slice none 0 0, .slice none 0 0, .slice none 0 0]) ?_ 7 _ rfl; (with_reducible repeat (first | refine blk_drewN ?_ _ | refine blk_drew ?_ | refine blk_alloc ?_ _)); refine blk_put (cs := #[.int .i64 t298, .int .i64 t299, .int .i64 t300, .int .i64 t301, .int .i64 t302, .int .i64 t303, .int .i64 0, .slice none 0 0, .slice none 0 0, .slice none 0 0]) ?_ 6 _ rfl; (with_reducible repeat (first | refine blk_drewN ?_ _ | refine blk_drew ?_ | refine blk_alloc ?_ _)); refine blk_put (cs := #[.int .i64 t298, .int .i64 t299, .int .i64 t300, .int .i64 t301, .int .i64 t302, .int .i64 0, .int .i64 0, .slice none 0 0, .slice none 0 0, .slice none 0 0]) ?_ 5 _ rfl; (with_reducible repeat (first | refine blk_drewN ?_ _ | refine blk_drew ?_ | refine blk_alloc ?_ _)); refine blk_put (cs := #[.int .i64 t298, .int .i64 t299, .int .i64 t300, .int .i64 t301, .int .i64 0, .int .i64 0, .int .i64 0, .slice none 0 0, .slice none 0 0, .slice none 0 0]) ?_ 4 _ rfl; (with_reducible repeat (first | refine blk_drewN ?_ _ | refine blk_drew ?_ | refine blk_alloc ?_ _)); refine blk_put (cs := #[.int .i64 t298, .int .i64 t299, .int .i64 t300, .int .i64 0, .int .i64 0, .int .i64 0, .int .i64 0, .slice none 0 0, .slice none 0 0, .slice none 0 0]) ?_ 3 _ rfl; (with_reducible repeat (first | refine blk_drewN ?_ _ | refine blk_drew ?_ | refine blk_alloc ?_ _)); refine blk_put (cs := #[.int .i64 t298, .int .i64 t299, .int .i64 0, .int .i64 0, .int .i64 0, .int .i64 0, .int .i64 0, .slice none 0 0, .slice none 0 0, .slice none 0 0]) ?_ 2 _ rfl; (with_reducible repeat (first | refine blk_drewN ?_ _ | refine blk_drew ?_ | refine blk_alloc ?_ _)); refine blk_put (cs := #[.int .i64 t298, .int .i64 0, .int .i64 0, .int .i64 0, .int .i64 0, .int .i64 0, .int .i64 0, .slice none 0 0, .slice none 0 0, .slice none 0 0]) ?_ 1 _ rfl; (with_reducible repeat (first | refine blk_drewN ?_ _ | refine blk_drew ?_ | refine blk_alloc ?_ _)); refine blk_put (cs := #[.int .i64 0, .int .i64 0, .int .i64 0, .int .i64 0, .int .i64 0, .int .i64 0, .int .i64 0, .slice none 0 0, .slice none 0 0, .slice none 0 0]) ?_ 0 _ rfl; (with_reducible repeat (first | refine blk_drewN ?_ _ | refine blk_drew ?_ | refine blk_alloc ?_ _)); exact BK257.out) Try.underlying37 rfl kr) rfl ?_
     exact ⟨_, _, _, er, (by (with_reducible repeat (first | apply Kd.R_alloc | apply Kd.R_drewN | apply Kd.R_drew)); exact Kd.R_mono (Kd.R_far (p := ⟨gb257, 9, none⟩) (Kd.R_far (p := ⟨gb257, 8, none⟩) (Kd.R_far (p := ⟨gb257, 7, none⟩) (Kd.R_far (p := ⟨gb257, 6, none⟩) (Kd.R_far (p := ⟨gb257, 5, none⟩) (Kd.R_far (p := ⟨gb257, 4, none⟩) (Kd.R_far (p := ⟨gb257, 3, none⟩) (Kd.R_far (p := ⟨gb257, 2, none⟩) (Kd.R_far (p := ⟨gb257, 1, none⟩) (Kd.R_far (p := ⟨gb257, 0, none⟩) (Kd.R_types HO307.out BK257.out (by decide)) (fun _ hk => hk.2) (.int .i64 t298)) (fun _ hk => hk.2) (.int .i64 t299)) (fun _ hk => hk.2) (.int .i64 t300)) (fun _ hk => hk.2) (.int .i64 t301)) (fun _ hk => hk.2) (.int .i64 t302)) (fun _ hk => hk.2) (.int .i64 t303)) (fun _ hk => hk.2) (.int .i64 t304)) (fun _ hk => hk.2) (.slice Ao72 t305.length co72)) (fun _ hk => hk.2) (.slice Ao73 t308.length co73)) (fun _ hk => hk.2) (.slice Ao74 t311.length co74)) (fun _ hk => trivial)), (by (with_reducible repeat (first | apply Kd.R_alloc | apply Kd.R_drewN | apply Kd.R_drew)); exact Kd.R_mono (Kd.R_far (p := ⟨gb257, 9, none⟩) (Kd.R_far (p := ⟨gb257, 8, none⟩) (Kd.R_far (p := ⟨gb257, 7, none⟩) (Kd.R_far (p := ⟨gb257, 6, none⟩) (Kd.R_far (p := ⟨gb257, 5, none⟩) (Kd.R_far (p := ⟨gb257, 4, none⟩) (Kd.R_far (p := ⟨gb257, 3, none⟩) (Kd.R_far (p := ⟨gb257, 2, none⟩) (Kd.R_far (p := ⟨gb257, 1, none⟩) (Kd.R_far (p := ⟨gb257, 0, none⟩) (Kd.R_types HO310.out BK257.out (by decide)) (fun _ hk => hk.2) (.int .i64 t298)) (fun _ hk => hk.2) (.int .i64 t299)) (fun _ hk => hk.2) (.int .i64 t300)) (fun _ hk => hk.2) (.int .i64 t301)) (fun _ hk => hk.2) (.int .i64 t302)) (fun _ hk => hk.2) (.int .i64 t303)) (fun _ hk => hk.2) (.int .i64 t304)) (fun _ hk => hk.2) (.slice Ao72 t305.length co72)) (fun _ hk => hk.2) (.slice Ao73 t308.length co73)) (fun _ hk => hk.2) (.slice Ao74 t311.length co74)) (fun _ hk => hk.1.1.1)), (by (with_reducible repeat (first | apply Kd.R_alloc | apply Kd.R_drewN | apply Kd.R_drew)); exact Kd.R_mono (Kd.R_far (p := ⟨gb257, 9, none⟩) (Kd.R_far (p := ⟨gb257, 8, none⟩) (Kd.R_far (p := ⟨gb257, 7, none⟩) (Kd.R_far (p := ⟨gb257, 6, none⟩) (Kd.R_far (p := ⟨gb257, 5, none⟩) (Kd.R_far (p := ⟨gb257, 4, none⟩) (Kd.R_far (p := ⟨gb257, 3, none⟩) (Kd.R_far (p := ⟨gb257, 2, none⟩) (Kd.R_far (p := ⟨gb257, 1, none⟩) (Kd.R_far (p := ⟨gb257, 0, none⟩) (Kd.R_types HO313.out BK257.out (by decide)) (fun _ hk => hk.2) (.int .i64 t298)) (fun _ hk => hk.2) (.int .i64 t299)) (fun _ hk => hk.2) (.int .i64 t300)) (fun _ hk => hk.2) (.int .i64 t301)) (fun _ hk => hk.2) (.int .i64 t302)) (fun _ hk => hk.2) (.int .i64 t303)) (fun _ hk => hk.2) (.int .i64 t304)) (fun _ hk => hk.2) (.slice Ao72 t305.length co72)) (fun _ hk => hk.2) (.slice Ao73 t308.length co73)) (fun _ hk => hk.2) (.slice Ao74 t311.length co74)) (fun _ hk => hk.1.1.1)), Q1⟩
   subst c46
   rw [if_pos rfl] at H
   replace H := Option.bind_eq_some_iff.mp H
   obtain ⟨t280, A470, H⟩ := H
   have A47 := am A470
   clear A470
   by_cases c48 : 0 ≤ a0_0
   rotate_left
   · rw [if_neg c48] at H
     exact absurd H (by simp)
   rw [if_pos c48] at H
   have c48b0 : decide (0 ≤ a0_0) = true := decide_eq_true c48
   clear c48
   (first | rw [c48b0] | (simp only [i64_w, i32_w]; rw [c48b0]) | skip)
   by_cases c49 : a0_0 < (t271.length : Int)
   rotate_left
   · rw [if_neg c49] at H
     exact absurd H (by simp)
   rw [if_pos c49] at H
   have c49b0 : decide (a0_0 < (t271.length : Int)) = true := decide_eq_true c49
   clear c49
   obtain ⟨y281, hy281⟩ : ∃ y_ : List Int, y_ = (t271.set (a0_0 : Int).toNat t280) := ⟨_, rfl⟩
   replace H : ((spec_l07Commit.f kj4 t258 t259 t260 t261 t262 t263 t264 y276 t268 y281 a1).bind fun bt282 => (some (bt282.1, bt282.2.1, bt282.2.2.1, bt282.2.2.2.1, bt282.2.2.2.2.1, bt282.2.2.2.2.2.1, bt282.2.2.2.2.2.2.1, bt282.2.2.2.2.2.2.2.1, bt282.2.2.2.2.2.2.2.2.1, bt282.2.2.2.2.2.2.2.2.2, true))) = some (r1, r2, r3, r4, r5, r6, r7, r8, r9, r10, r11) := by first | (rw [hy281]; with_reducible exact H) | (have H2_ := (Option.bind_some _ _).symm.trans H; rw [hy281]; with_reducible exact H2_) | (have H2_ := (Option.bind_some _ _).symm.trans H; with_reducible exact H2_) | with_reducible exact H | (rw [hy281]; exact H) | exact H
   have Ny281 := am hy281
   clear hy281
   replace H := Option.bind_eq_some_iff.mp H
   obtain ⟨⟨t282, t283, t284, t285, t286, t287, t288, t289, t292, t295⟩, A510, H⟩ := H
   (try dsimp only at H)
   have A51 := am A510
   clear A510
   simp only [Option.some.injEq, Prod.mk.injEq] at H
   obtain ⟨rfl, rfl, rfl, rfl, rfl, rfl, rfl, rfl, rfl, rfl, rfl⟩ := H
   try go_wp2
   replace HO_275008 := am (Kd.R_drew HO_275008.out)
   replace HO_275009 := am (Kd.R_drew HO_275009.out)
   replace HO278 := am (Kd.R_drew HO278.out)
   replace BK256 := am (blk_drew BK256.out)
   replace BK257 := am (blk_drew BK257.out)
   replace BK274 := am (blk_drew BK274.out)
   replace HB := am (below_drew1 HB.out)
   refine start_ (n := 9) (S := fun w' => w'.cell? ⟨gb274, 0, none⟩ = some (.int .i64 t258) ∧ w'.cell? ⟨gb274, 1, none⟩ = some (.int .i64 t259) ∧ w'.cell? ⟨gb274, 2, none⟩ = some (.int .i64 t260) ∧ w'.cell? ⟨gb274, 3, none⟩ = some (.int .i64 t261) ∧ w'.cell? ⟨gb274, 4, none⟩ = some (.int .i64 t262) ∧ w'.cell? ⟨gb274, 5, none⟩ = some (.int .i64 t263) ∧ w'.cell? ⟨gb274, 6, none⟩ = some (.int .i64 t264) ∧ w'.cell? ⟨gb274, 7, none⟩ = some (.slice Ao43 y276.length co43) ∧ w'.cell? ⟨gb274, 8, none⟩ = some (.slice Ao16 t268.length co16) ∧ w'.cell? ⟨gb274, 9, none⟩ = some (.slice Ao17 t271.length co17) ∧ w'.cell? ⟨gb256, 0, none⟩ = some (.int .i64 a0_0) ∧ w'.cell? ⟨gb256, 1, none⟩ = some (.int .i64 a0_1) ∧ w'.cell? ⟨gb256, 2, none⟩ = some (.int .i64 a0_2) ∧ w'.cell? ⟨gb256, 3, none⟩ = some (.int .i64 a0_3) ∧ w'.cell? ⟨gb256, 4, none⟩ = some (.int .i64 a0_4) ∧ w'.cell? ⟨gb256, 5, none⟩ = some (.int .i64 a0_5) ∧ w'.cell? ⟨gb256, 6, none⟩ = some (.int .i64 a0_6) ∧ w'.cell? ⟨gb256, 7, none⟩ = some (.slice A0_7 l0_7.length c0_7) ∧ w'.cell? ⟨gb256, 8, none⟩ = some (.slice A0_8 l0_8.length c0_8) ∧ w'.cell? ⟨gb256, 9, none⟩ = some (.slice A0_9 l0_9.length c0_9)) (ds := [8]) #[false, false, false, false, false, false, false, false, false] kr rfl rfl ⟨(blk_cell BK274.out 0).trans rfl, (blk_cell BK274.out 1).trans rfl, (blk_cell BK274.out 2).trans rfl, (blk_cell BK274.out 3).trans rfl, (blk_cell BK274.out 4).trans rfl, (blk_cell BK274.out 5).trans rfl, (blk_cell BK274.out 6).trans rfl, (blk_cell BK274.out 7).trans rfl, (blk_cell BK274.out 8).trans rfl, (blk_cell BK274.out 9).trans rfl, (blk_cell BK256.out 0).trans rfl, (blk_cell BK256.out 1).trans rfl, (blk_cell BK256.out 2).trans rfl, (blk_cell BK256.out 3).trans rfl, (blk_cell BK256.out 4).trans rfl, (blk_cell BK256.out 5).trans rfl, (blk_cell BK256.out 6).trans rfl, (blk_cell BK256.out 7).trans rfl, (blk_cell BK256.out 8).trans rfl, (blk_cell BK256.out 9).trans rfl⟩ (fun hHeld => ?_); refine with_tabW spec_Propose.tab7 spec_Propose.bits7 (fun HT_ HW_ => ?_)
   generalize w45.drew = w52 at HO_275008 HO_275009 HO278 BK256 BK257 BK274 HB hHeld ⊢
   refine pV 0 38 (bt 1 9) ?_
   refine pV 2 40 #[true, false, true, false, false, false, false, false, false] ?_
   refine pV 4 42 #[true, false, true, false, true, false, false, false, false] ?_
   refine tV 1 39 #[true, true, true, false, true, false, false, false, false] ?_
   refine tV 3 41 (bt 5 9) ?_
   refine tV 5 43 (bt 6 9) ?_
   refine one_ (i := 6) (N := some 44) #[true, true, true, true, true, true, true, false, false] rfl rfl (one_of HT_.out kr) (by decide) (fun K hK => ?_)
   refine goes_ Try.func72 kr rfl #[.agg #[.int .i64 t263, .int .i64 t264, .slice Ao43 y276.length co43]] (by rfl) rfl rfl Q3 ?_
   with_reducible refine (spec_LastIndex.calls kj4 t263 t264 _ _ y276 t280 _ ?side1 ?side2 A47.out).mono ?_
   (case side1 => exact (by repeat (first | exact (Kd.R_reads' HO278.out).2.2 | (with_reducible refine Kd.C_alloc ?_ _) | (with_reducible refine Kd.C_drewN ?_ _) | (with_reducible refine Kd.C_drew ?_))))
   (case side2 => exact (Kd.R_reads' HO278.out).2.1)
   rintro e w53 ⟨rfl, hb⟩
   refine ⟨_, rfl, ?_⟩
   replace HO_275008 := am (Kd.R_below u10_13 hb)
   replace HO_275009 := am (Kd.R_below u10_14 hb)
   replace HO278 := am (Kd.R_below u10_22 hb)
   replace BK256 := am (blk_below (g := gb256) (o := .cells #[.int .i64 a0_0, .int .i64 a0_1, .int .i64 a0_2, .int .i64 a0_3, .int .i64 a0_4, .int .i64 a0_5, .int .i64 a0_6, .slice A0_7 l0_7.length c0_7, .slice A0_8 l0_8.length c0_8, .slice A0_9 l0_9.length c0_9] 37 (0, 0)) u10_5 hb)
   replace BK257 := am (blk_below (g := gb257) (o := .cells #[.int .i64 0, .int .i64 0, .int .i64 0, .int .i64 0, .int .i64 0, .int .i64 0, .int .i64 0, .slice none 0 0, .slice none 0 0, .slice none 0 0] 37 (0, 0)) u10_7 hb)
   replace BK274 := am (blk_below (g := gb274) (o := .cells #[.int .i64 t258, .int .i64 t259, .int .i64 t260, .int .i64 t261, .int .i64 t262, .int .i64 t263, .int .i64 t264, .slice Ao43 y276.length co43, .slice Ao16 t268.length co16, .slice Ao17 t271.length co17] 37 (0, 0)) u10_12 hb)
   replace HB := am (below_step Q1 hb)
   (try clear hb)
   (try clear hb2)
   (try clear hk)
   (try clear hi)
   have p50 : 0 ≤ (a0_0 : Int) := of_decide_eq_true (by first | (with_reducible assumption) | assumption)
   have q50 : (a0_0 : Int) < ((t271.length : Int) : Int) := of_decide_eq_true (by first | (with_reducible assumption) | assumption)
   obtain ⟨go50, co50, eo50, gb50, gl50, cl50, HG50⟩ := Kd.R_form HO_275009.out (by omega)
   (first | cases eo50 | (injection eo50 with ea_ en_ ec_; (first | subst ea_ | (injection ea_ with ea_; subst ea_)); subst ec_; clear en_))
   have GB50 := am gb50
   have GG50 := am HG50
   clear gb50 gl50 HG50
   obtain ⟨hx50_0, hf50_0⟩ := Kd.R_celln 0 HO_275009.out (a0_0 : Int) p50 q50
   replace p50 := eq_true p50
   replace q50 := eq_true q50
   have HP54 := Kd.R_putn HO_275009.out (a0_0 : Int) t280
   rw [← Ny281.out] at HP54
   have HQ54 := am HP54
   clear HP54
   refine hK.out _ _ ⟨(blk_cell BK274.out 0).trans rfl, (blk_cell BK274.out 1).trans rfl, (blk_cell BK274.out 2).trans rfl, (blk_cell BK274.out 3).trans rfl, (blk_cell BK274.out 4).trans rfl, (blk_cell BK274.out 5).trans rfl, (blk_cell BK274.out 6).trans rfl, (blk_cell BK274.out 7).trans rfl, (blk_cell BK274.out 8).trans rfl, (blk_cell BK274.out 9).trans rfl, (blk_cell BK256.out 0).trans rfl, (blk_cell BK256.out 1).trans rfl, (blk_cell BK256.out 2).trans rfl, (blk_cell BK256.out 3).trans rfl, (blk_cell BK256.out 4).trans rfl, (blk_cell BK256.out 5).trans rfl, (blk_cell BK256.out 6).trans rfl, (blk_cell BK256.out 7).trans rfl, (blk_cell BK256.out 8).trans rfl, (blk_cell BK256.out 9).trans rfl⟩ (fun hHeld => ?_)
   clear hK K
   refine norm_ (a' := ?_) ?_ ?_
   rotate_left
   · show Act.put _ (some 44) _ = _
     simp only [Act.put, la, lb, lc, i64_w, i32_w]
     rfl
   refine pV 7 45 (bt 8 9) ?_
   refine last_ (i := 8) (N := none) #[true, true, true, true, true, true, true, true, true] rfl rfl (one_of HT_.out kr) (by decide) (fun K hK => ?_)
   refine skip_ (w1 := ?_) (by rfl) rfl ?_ ?_
   rotate_left
   · go_simp
     rfl
   refine hK.out _ _ ?_
   clear hK K
   refine done_ (done_of HT_.out kr) ?_
   have n0_ : Aside0 (Kd.R (Kd.int .i64) 3 (w53.setCell ⟨go50, (a0_0 : Int).toNat, none⟩ (.int .i64 t280)) w.heap.size (fun k_ => some k_ ≠ (.slice (some ⟨go50, 0, none⟩) t271.length co17 : Value).ownBlock) (.slice Ao16 t268.length co16) t268) := ⟨by (with_reducible repeat (first | apply Kd.R_alloc | apply Kd.R_drewN | apply Kd.R_drew)); exact Kd.R_mono (Kd.R_far (p := ⟨go50, (a0_0 : Int).toNat, none⟩) (Kd.R_mono HO_275008.out (fun k_ hk => (⟨hk, fun e_ => hk (by rw [e_]; rfl)⟩ : _ ∧ k_ ≠ go50))) (fun _ hk => hk.2) (.int .i64 t280)) (fun _ hk => hk.1)⟩
   have n1_ : Aside0 (Kd.R (Kd.int .i64) 3 (w53.setCell ⟨go50, (a0_0 : Int).toNat, none⟩ (.int .i64 t280)) w.heap.size (fun k_ => some k_ ≠ (.slice Ao16 t268.length co16 : Value).ownBlock) (.slice (some ⟨go50, 0, none⟩) t271.length co17) y281) := ⟨by (with_reducible repeat (first | apply Kd.R_alloc | apply Kd.R_drewN | apply Kd.R_drew)); exact HQ54.out⟩
   have n2_ : Aside0 (Kd.R k85 85 (w53.setCell ⟨go50, (a0_0 : Int).toNat, none⟩ (.int .i64 t280)) w.heap.size (fun _ => True) (.slice Ao43 y276.length co43) y276) := ⟨by (with_reducible repeat (first | apply Kd.R_alloc | apply Kd.R_drewN | apply Kd.R_drew)); exact Kd.R_mono (Kd.R_far (p := ⟨go50, (a0_0 : Int).toNat, none⟩) (Kd.R_types HO278.out GG50.out (by decide)) (fun _ hk => hk.2) (.int .i64 t280)) (fun _ hk => trivial)⟩
   have n3_ : Aside0 ((w53.setCell ⟨go50, (a0_0 : Int).toNat, none⟩ (.int .i64 t280)).heap[gb256]? = some (.cells #[.int .i64 a0_0, .int .i64 a0_1, .int .i64 a0_2, .int .i64 a0_3, .int .i64 a0_4, .int .i64 a0_5, .int .i64 a0_6, .slice A0_7 l0_7.length c0_7, .slice A0_8 l0_8.length c0_8, .slice A0_9 l0_9.length c0_9] 37 (0, 0))) := ⟨by (with_reducible repeat (first | refine blk_drewN ?_ _ | refine blk_drew ?_ | refine blk_alloc ?_ _)); refine blk_far ?_ (by have h_ := Kd.R_ne HO_275009.out BK256.out (by decide); intro e_; exact h_ (by rw [e_]; rfl)) _; (with_reducible repeat (first | refine blk_drewN ?_ _ | refine blk_drew ?_ | refine blk_alloc ?_ _)); exact BK256.out⟩
   have n4_ : Aside0 ((w53.setCell ⟨go50, (a0_0 : Int).toNat, none⟩ (.int .i64 t280)).heap[gb257]? = some (.cells #[.int .i64 0, .int .i64 0, .int .i64 0, .int .i64 0, .int .i64 0, .int .i64 0, .int .i64 0, .slice none 0 0, .slice none 0 0, .slice none 0 0] 37 (0, 0))) := ⟨by (with_reducible repeat (first | refine blk_drewN ?_ _ | refine blk_drew ?_ | refine blk_alloc ?_ _)); refine blk_far ?_ (by have h_ := Kd.R_ne HO_275009.out BK257.out (by decide); intro e_; exact h_ (by rw [e_]; rfl)) _; (with_reducible repeat (first | refine blk_drewN ?_ _ | refine blk_drew ?_ | refine blk_alloc ?_ _)); exact BK257.out⟩
   have n5_ : Aside0 ((w53.setCell ⟨go50, (a0_0 : Int).toNat, none⟩ (.int .i64 t280)).heap[gb274]? = some (.cells #[.int .i64 t258, .int .i64 t259, .int .i64 t260, .int .i64 t261, .int .i64 t262, .int .i64 t263, .int .i64 t264, .slice Ao43 y276.length co43, .slice Ao16 t268.length co16, .slice (some ⟨go50, 0, none⟩) t271.length co17] 37 (0, 0))) := ⟨by (with_reducible repeat (first | refine blk_drewN ?_ _ | refine blk_drew ?_ | refine blk_alloc ?_ _)); refine blk_far ?_ (by have h_ := Kd.R_ne HO_275009.out BK274.out (by decide); intro e_; exact h_ (by rw [e_]; rfl)) _; (with_reducible repeat (first | refine blk_drewN ?_ _ | refine blk_drew ?_ | refine blk_alloc ?_ _)); exact BK274.out⟩
   have n6_ : Aside0 (Below w.heap.size w (w53.setCell ⟨go50, (a0_0 : Int).toNat, none⟩ (.int .i64 t280))) := ⟨by repeat (first | (with_reducible first | exact HB.out | apply below_alloc | apply pw_below_drewN | apply below_drew1 | refine below_set ?_ GB50.out | refine below_set ?_ GE256.out | refine below_set ?_ GE257.out | refine below_set ?_ GE274.out) | exact HB.out)⟩
   (try clear HO_275008)
   (try clear HO_275009)
   (try clear HO278)
   (try clear BK256)
   (try clear BK257)
   (try clear BK274)
   (try clear HB)
   generalize (w53.setCell ⟨go50, (a0_0 : Int).toNat, none⟩ (.int .i64 t280)) = w55 at n0_ n1_ n2_ n3_ n4_ n5_ n6_ ⊢
   have HO_275008 := n0_
   have HO_275009 := n1_
   have HO278 := n2_
   have BK256 := n3_
   have BK257 := n4_
   have BK274 := n5_
   have HB := n6_
   clear n0_ n1_ n2_ n3_ n4_ n5_ n6_
   have hnb56 := NB274_256.out
   have hnc56 := NB256_274.out
   have hnb57 := NB274_257.out
   have hnc57 := NB257_274.out
   obtain ⟨hcz58_0, hcz58_1, hcz58_2, hcz58_3, hcz58_4, hcz58_5, hcz58_6, hcz58_7, hcz58_8, hcz58_9, hfz58_0, hfz58_1, hfz58_2, hfz58_3, hfz58_4, hfz58_5, hfz58_6, hfz58_7, hfz58_8, hfz58_9⟩ := bc10f w55 BK274.out
   try go_wp2_with (first | ((with_reducible refine gate_callee (f := 87) rfl ?_); refine goesL_ (some 48) rfl rfl Try.func87 kr rfl #[.agg #[.int .i64 t258, .int .i64 t259, .int .i64 t260, .int .i64 t261, .int .i64 t262, .int .i64 t263, .int .i64 t264, .slice Ao43 y276.length co43, .slice Ao16 t268.length co16, .slice (some ⟨go50, 0, none⟩) t271.length co17], .int .i64 a1] rfl Q3 ?_; (with_reducible refine (spec_l07Commit.calls kj4 t258 t259 t260 t261 t262 t263 t264 (fun k_ => some k_ = (.slice Ao43 y276.length co43 : Value).ownBlock) (.slice Ao43 y276.length co43) y276 (fun k_ => some k_ = (.slice Ao16 t268.length co16 : Value).ownBlock) (.slice Ao16 t268.length co16) t268 (fun k_ => some k_ = (.slice (some ⟨go50, 0, none⟩) t271.length co17 : Value).ownBlock) (.slice (some ⟨go50, 0, none⟩) t271.length co17) y281 a1 t282 t283 t284 t285 t286 t287 t288 t289 t292 t295 w _ ?side1 ?side2 ?side3 ?side4 ?side5 ?side6 A51.out).mono ?_); (case side1 => exact Q1); (case side2 => exact Kd.R_tight rfl HO278.out); (case side3 => exact Kd.R_tight rfl HO_275008.out); (case side4 => exact fun k_ e_ => (HO_275008.out.1 k_ e_.symm)); (case side5 => exact Kd.R_tight rfl HO_275009.out); (case side6 => exact fun k_ e_ => (HO_275009.out.1 k_ e_.symm)); rintro e w59 ⟨v290, v293, v296, rfl, ho0, ho1, ho2, hb, hkp⟩; refine ⟨_, rfl, ?_⟩; replace BK256 := am (blk_kept u10_5 hkp (fun hs_ => Or.elim hs_ (fun e_ => (fun e_ => (Kd.R_ne HO278.out BK256.out (by decide)) e_) e_) (fun e_ => Or.elim e_ (fun e_ => (fun e_ => (Kd.R_ne HO_275008.out BK256.out (by decide)) e_) e_) (fun e_ => (fun e_ => (Kd.R_ne HO_275009.out BK256.out (by decide)) e_) e_)))); replace BK257 := am (blk_kept u10_7 hkp (fun hs_ => Or.elim hs_ (fun e_ => (fun e_ => (Kd.R_ne HO278.out BK257.out (by decide)) e_) e_) (fun e_ => Or.elim e_ (fun e_ => (fun e_ => (Kd.R_ne HO_275008.out BK257.out (by decide)) e_) e_) (fun e_ => (fun e_ => (Kd.R_ne HO_275009.out BK257.out (by decide)) e_) e_)))); replace BK274 := am (blk_kept u10_12 hkp (fun hs_ => Or.elim hs_ (fun e_ => (fun e_ => (Kd.R_ne HO278.out BK274.out (by decide)) e_) e_) (fun e_ => Or.elim e_ (fun e_ => (fun e_ => (Kd.R_ne HO_275008.out BK274.out (by decide)) e_) e_) (fun e_ => (fun e_ => (Kd.R_ne HO_275009.out BK274.out (by decide)) e_) e_)))); have HO291 := am (Kd.R_mono (ok' := fun k_ => True) ho0 (fun k_ hk_ => trivial)); have HO294 := am (Kd.R_mono (ok' := fun k_ => some k_ ≠ (v296 : Value).ownBlock) ho1 (fun k_ hk_ => hk_.2)); have HO297 := am (Kd.R_mono (ok' := fun k_ => some k_ ≠ (v293 : Value).ownBlock) ho2 (fun k_ hk_ => hk_.2)); replace HB := am (hb); clear HO278 HO_275008 HO_275009; (try clear hb); (try clear hkp); (try clear ho0); (try clear ho1); (try clear ho2); have hnb60 := NB257_256.out; have hnc60 := NB256_257.out; obtain ⟨hcz61_0, hcz61_1, hcz61_2, hcz61_3, hcz61_4, hcz61_5, hcz61_6, hcz61_7, hcz61_8, hcz61_9, hfz61_0, hfz61_1, hfz61_2, hfz61_3, hfz61_4, hfz61_5, hfz61_6, hfz61_7, hfz61_8, hfz61_9⟩ := bc10f w59 BK257.out; obtain ⟨Ao62, co62, eo62⟩ := Kd.R_slice HO291.out; subst eo62; obtain ⟨Ao63, co63, eo63⟩ := Kd.R_slice HO294.out; subst eo63; obtain ⟨Ao64, co64, eo64⟩ := Kd.R_slice HO297.out; subst eo64))
   refine bodyPost_ret (results_ct rfl _ _ gb257 37 #[.int .i64 t282, .int .i64 t283, .int .i64 t284, .int .i64 t285, .int .i64 t286, .int .i64 t287, .int .i64 t288, .slice Ao62 t289.length co62, .slice Ao63 t292.length co63, .slice Ao64 t295.length co64] (0, 0) _ rfl (by (with_reducible repeat (first | refine blk_drewN ?_ _ | refine blk_drew ?_ | refine blk_alloc ?_ _)); refine blk_put (cs := #[.int .i64 t282, .int .i64 t283, .int .i64 t284, .int .i64 t285, .int .i64 t286, .int .i64 t287, .int .i64 t288, .slice Ao62 t289.length co62, .slice Ao63 t292.length co63, .slice none 0 0]) ?_ 9 _ rfl; (with_reducible repeat (first | refine blk_drewN ?_ _ | refine blk_drew ?_ | refine blk_alloc ?_ _)); refine blk_put (cs := #[.int .i64 t282, .int .i64 t283, .int .i64 t284, .int .i64 t285, .int .i64 t286, .int .i64 t287, .int .i64 t288, .slice Ao62 t289.length co62, .slice none 0 0, .slice none 0 0]) ?_ 8 _ rfl; (with_reducible repeat (first | refine blk_drewN ?_ _ | refine blk_drew ?_ | refine blk_alloc ?_ _)); refine blk_put (cs := #[.int .i64 t282, .int .i64 t283, .int .i64 t284, .int .i64 t285, .int .i64 t286, .int .i64 t287, .int .i64 t288, .slice none 0 0, .slice none 0 0, .slice none 0 0]) ?_ 7 _ rfl; (with_reducible repeat (first | refine blk_drewN ?_ _ | refine blk_drew ?_ | refine blk_alloc ?_ _)); refine blk_put (cs := #[.int .i64 t282, .int .i64 t283, .int .i64 t284, .int .i64 t285, .int .i64 t286, .int .i64 t287, .int .i64 0, .slice none 0 0, .slice none 0 0, .slice none 0 0]) ?_ 6 _ rfl; (with_reducible repeat (first | refine blk_drewN ?_ _ | refine blk_drew ?_ | refine blk_alloc ?_ _)); refine blk_put (cs := #[.int .i64 t282, .int .i64 t283, .int .i64 t284, .int .i64 t285, .int .i64 t286, .int .i64 0, .int .i64 0, .slice none 0 0, .slice none 0 0, .slice none 0 0]) ?_ 5 _ rfl; (with_reducible repeat (first | refine blk_drewN ?_ _ | refine blk_drew ?_ | refine blk_alloc ?_ _)); refine blk_put (cs := #[.int .i64 t282, .int .i64 t283, .int .i64 t284, .int .i64 t285, .int .i64 0, .int .i64 0, .int .i64 0, .slice none 0 0, .slice none 0 0, .slice none 0 0]) ?_ 4 _ rfl; (with_reducible repeat (first | refine blk_drewN ?_ _ | refine blk_drew ?_ | refine blk_alloc ?_ _)); refine blk_put (cs := #[.int .i64 t282, .int .i64 t283, .int .i64 t284, .int .i64 0, .int .i64 0, .int .i64 0, .int .i64 0, .slice none 0 0, .slice none 0 0, .slice none 0 0]) ?_ 3 _ rfl; (with_reducible repeat (first | refine blk_drewN ?_ _ | refine blk_drew ?_ | refine blk_alloc ?_ _)); refine blk_put (cs := #[.int .i64 t282, .int .i64 t283, .int .i64 0, .int .i64 0, .int .i64 0, .int .i64 0, .int .i64 0, .slice none 0 0, .slice none 0 0, .slice none 0 0]) ?_ 2 _ rfl; (with_reducible repeat (first | refine blk_drewN ?_ _ | refine blk_drew ?_ | refine blk_alloc ?_ _)); refine blk_put (cs := #[.int .i64 t282, .int .i64 0, .int .i64 0, .int .i64 0, .int .i64 0, .int .i64 0, .int .i64 0, .slice none 0 0, .slice none 0 0, .slice none 0 0]) ?_ 1 _ rfl; (with_reducible repeat (first | refine blk_drewN ?_ _ | refine blk_drew ?_ | refine blk_alloc ?_ _)); refine blk_put (cs := #[.int .i64 0, .int .i64 0, .int .i64 0, .int .i64 0, .int .i64 0, .int .i64 0, .int .i64 0, .slice none 0 0, .slice none 0 0, .slice none 0 0]) ?_ 0 _ rfl; (with_reducible repeat (first | refine blk_drewN ?_ _ | refine blk_drew ?_ | refine blk_alloc ?_ _)); exact BK257.out) Try.underlying37 rfl kr) rfl ?_
   exact ⟨_, _, _, er, (by (with_reducible repeat (first | apply Kd.R_alloc | apply Kd.R_drewN | apply Kd.R_drew)); exact Kd.R_mono (Kd.R_far (p := ⟨gb257, 9, none⟩) (Kd.R_far (p := ⟨gb257, 8, none⟩) (Kd.R_far (p := ⟨gb257, 7, none⟩) (Kd.R_far (p := ⟨gb257, 6, none⟩) (Kd.R_far (p := ⟨gb257, 5, none⟩) (Kd.R_far (p := ⟨gb257, 4, none⟩) (Kd.R_far (p := ⟨gb257, 3, none⟩) (Kd.R_far (p := ⟨gb257, 2, none⟩) (Kd.R_far (p := ⟨gb257, 1, none⟩) (Kd.R_far (p := ⟨gb257, 0, none⟩) (Kd.R_types HO291.out BK257.out (by decide)) (fun _ hk => hk.2) (.int .i64 t282)) (fun _ hk => hk.2) (.int .i64 t283)) (fun _ hk => hk.2) (.int .i64 t284)) (fun _ hk => hk.2) (.int .i64 t285)) (fun _ hk => hk.2) (.int .i64 t286)) (fun _ hk => hk.2) (.int .i64 t287)) (fun _ hk => hk.2) (.int .i64 t288)) (fun _ hk => hk.2) (.slice Ao62 t289.length co62)) (fun _ hk => hk.2) (.slice Ao63 t292.length co63)) (fun _ hk => hk.2) (.slice Ao64 t295.length co64)) (fun _ hk => trivial)), (by (with_reducible repeat (first | apply Kd.R_alloc | apply Kd.R_drewN | apply Kd.R_drew)); exact Kd.R_mono (Kd.R_far (p := ⟨gb257, 9, none⟩) (Kd.R_far (p := ⟨gb257, 8, none⟩) (Kd.R_far (p := ⟨gb257, 7, none⟩) (Kd.R_far (p := ⟨gb257, 6, none⟩) (Kd.R_far (p := ⟨gb257, 5, none⟩) (Kd.R_far (p := ⟨gb257, 4, none⟩) (Kd.R_far (p := ⟨gb257, 3, none⟩) (Kd.R_far (p := ⟨gb257, 2, none⟩) (Kd.R_far (p := ⟨gb257, 1, none⟩) (Kd.R_far (p := ⟨gb257, 0, none⟩) (Kd.R_types HO294.out BK257.out (by decide)) (fun _ hk => hk.2) (.int .i64 t282)) (fun _ hk => hk.2) (.int .i64 t283)) (fun _ hk => hk.2) (.int .i64 t284)) (fun _ hk => hk.2) (.int .i64 t285)) (fun _ hk => hk.2) (.int .i64 t286)) (fun _ hk => hk.2) (.int .i64 t287)) (fun _ hk => hk.2) (.int .i64 t288)) (fun _ hk => hk.2) (.slice Ao62 t289.length co62)) (fun _ hk => hk.2) (.slice Ao63 t292.length co63)) (fun _ hk => hk.2) (.slice Ao64 t295.length co64)) (fun _ hk => hk.1)), (by (with_reducible repeat (first | apply Kd.R_alloc | apply Kd.R_drewN | apply Kd.R_drew)); exact Kd.R_mono (Kd.R_far (p := ⟨gb257, 9, none⟩) (Kd.R_far (p := ⟨gb257, 8, none⟩) (Kd.R_far (p := ⟨gb257, 7, none⟩) (Kd.R_far (p := ⟨gb257, 6, none⟩) (Kd.R_far (p := ⟨gb257, 5, none⟩) (Kd.R_far (p := ⟨gb257, 4, none⟩) (Kd.R_far (p := ⟨gb257, 3, none⟩) (Kd.R_far (p := ⟨gb257, 2, none⟩) (Kd.R_far (p := ⟨gb257, 1, none⟩) (Kd.R_far (p := ⟨gb257, 0, none⟩) (Kd.R_types HO297.out BK257.out (by decide)) (fun _ hk => hk.2) (.int .i64 t282)) (fun _ hk => hk.2) (.int .i64 t283)) (fun _ hk => hk.2) (.int .i64 t284)) (fun _ hk => hk.2) (.int .i64 t285)) (fun _ hk => hk.2) (.int .i64 t286)) (fun _ hk => hk.2) (.int .i64 t287)) (fun _ hk => hk.2) (.int .i64 t288)) (fun _ hk => hk.2) (.slice Ao62 t289.length co62)) (fun _ hk => hk.2) (.slice Ao63 t292.length co63)) (fun _ hk => hk.2) (.slice Ao64 t295.length co64)) (fun _ hk => hk.1)), Q1⟩

/-! ### impl_isEntry: function 111 -/
def impl_isEntry.f (a0_0 : Int) (a0_1 : ByteArray) : Option (Bool) := if a0_0 > 0 then (if a0_0 ≤ 1000000 then (some (decide ((a0_1.size : Int) ≤ 40))) else (some false)) else (some false)
set_option maxHeartbeats 8000000 in
set_option maxRecDepth 100000 in
theorem impl_isEntry.calls (a0_0 : Int) (a0_1 : ByteArray) (r : Bool) (w : World) (h : impl_isEntry.f a0_0 a0_1 = some r) :
   Calls Try.prog 111 #[.agg #[.int .i64 a0_0, .string a0_1]] w fun e w' => e = .returned (.bool r) ∧ Below w.heap.size w w' := by
 have hu85 := Try.underlying85
 have HB := am (Below.refl w.heap.size w)
 have H : (if a0_0 > 0 then (if a0_0 ≤ 1000000 then (some (decide ((a0_1.size : Int) ≤ 40))) else (some false)) else (some false)) = some r := h
 clear h
 by_cases c2 : a0_0 > 0
 rotate_left
 · rw [if_neg c2] at H
   have c2b0 : decide (0 < a0_0) = false := decide_eq_false c2
   clear c2
   obtain rfl := sj H
   go_enter Try.func111, Try.ntmps111
   go_wp2_with (first | ((with_reducible refine gate_dst (N := 1) rfl ?_); (try (refine gate_guard (by rfl) ?_; dsimp only)); refine box_event ?hg (N := 1) ?hd (cs := #[.int .i64 a0_0, .string a0_1]) (t := 85) ?hr ?_; (case hd => rfl); (case hg => rfl); (case hr => first | (go_simp; done) | (go_simp; rfl)); intro gb314 hg w8 hbox hb; have BK314 := am (hbox); have GW314 := am ((by rw [hg]; exact (below_size Q1) : w.heap.size ≤ gb314)); have GE314 := am ((by rw [hg]; exact (below_size Q1) : w.heap.size ≤ gb314)); replace HB := am (below_step Q1 hb); clear hb hbox hg; obtain ⟨hcz9_0, hcz9_1, hfz9_0, hfz9_1⟩ := bc2f w8 BK314.out))
   go_ret
   exact ⟨er, Q1⟩
 rw [if_pos c2] at H
 have c2b0 : decide (0 < a0_0) = true := decide_eq_true c2
 clear c2
 by_cases c3 : a0_0 ≤ 1000000
 · rw [if_pos c3] at H
   have c3b0 : decide (a0_0 ≤ 1000000) = true := decide_eq_true c3
   clear c3
   obtain rfl := sj H
   go_enter Try.func111, Try.ntmps111
   go_wp2_with (first | ((with_reducible refine gate_dst (N := 1) rfl ?_); (try (refine gate_guard (by rfl) ?_; dsimp only)); refine box_event ?hg (N := 1) ?hd (cs := #[.int .i64 a0_0, .string a0_1]) (t := 85) ?hr ?_; (case hd => rfl); (case hg => rfl); (case hr => first | (go_simp; done) | (go_simp; rfl)); intro gb314 hg w4 hbox hb; have BK314 := am (hbox); have GW314 := am ((by rw [hg]; exact (below_size Q1) : w.heap.size ≤ gb314)); have GE314 := am ((by rw [hg]; exact (below_size Q1) : w.heap.size ≤ gb314)); replace HB := am (below_step Q1 hb); clear hb hbox hg; obtain ⟨hcz5_0, hcz5_1, hfz5_0, hfz5_1⟩ := bc2f w4 BK314.out))
   go_ret
   exact ⟨er, Q1⟩
 rw [if_neg c3] at H
 have c3b0 : decide (a0_0 ≤ 1000000) = false := decide_eq_false c3
 clear c3
 obtain rfl := sj H
 go_enter Try.func111, Try.ntmps111
 go_wp2_with (first | ((with_reducible refine gate_dst (N := 1) rfl ?_); (try (refine gate_guard (by rfl) ?_; dsimp only)); refine box_event ?hg (N := 1) ?hd (cs := #[.int .i64 a0_0, .string a0_1]) (t := 85) ?hr ?_; (case hd => rfl); (case hg => rfl); (case hr => first | (go_simp; done) | (go_simp; rfl)); intro gb314 hg w6 hbox hb; have BK314 := am (hbox); have GW314 := am ((by rw [hg]; exact (below_size Q1) : w.heap.size ≤ gb314)); have GE314 := am ((by rw [hg]; exact (below_size Q1) : w.heap.size ≤ gb314)); replace HB := am (below_step Q1 hb); clear hb hbox hg; obtain ⟨hcz7_0, hcz7_1, hfz7_0, hfz7_1⟩ := bc2f w6 BK314.out))
 go_ret
 exact ⟨er, Q1⟩

end Go.Proofs.Ytkcadcoohmofcaa.QFnExactPropose
