-- Printed by the session's own program wip/prx.py.
import Derived.Test.YtkcadcoohmofcaaSqFnExactElect
import Derived.Test.YtkcadcoohmofcaaQFnExactElectx0
import Derived.Test.YtkcadcoohmofcaaQFnExactElectx7
import Derived.Test.YtkcadcoohmofcaaQFnExactElectx9
import Derived.Test.YtkcadcoohmofcaaQFnExactElectx10
namespace Go.Proofs.Ytkcadcoohmofcaa.QFnExactElect
open Go.RowKit Go.Proofs.YtkcadcoohmofcaaW.PrintWords Go.Proofs.YtkcadcoohmofcaaW.PrintLast Go.Proofs.YtkcadcoohmofcaaW.PrintMore Go.Proofs.Ytkcadcoohmofcaa.SqFnExactElect
attribute [local go_sem] max2_int min2_int max_two min_two max_three min_three max_four min_four Go.Proofs.Ytkcadcoohmofcaa.Set.isSome_setCell
set_option linter.unusedVariables false
set_option linter.unusedSimpArgs false

-- squeezed
theorem u11_1 {P : Prop} (h : P := by (with_reducible repeat (first | refine blk_drewN ?_ _ | refine blk_drew ?_ | refine blk_alloc ?_ _)); refine blk_put (cs := #[.int .i64 t286, .int .i64 t287, .int .i64 t288, .int .i64 t289, .int .i64 t290, .int .i64 t291, .int .i64 t292, .slice Ao14 t293.length co14, .slice Ao15 t296.length co15, .slice none 0 0]) ?_ 9 _ rfl; (with_reducible repeat (first | refine blk_drewN ?_ _ | refine blk_drew ?_ | refine blk_alloc ?_ _)); refine blk_put (cs := #[.int .i64 t286, .int .i64 t287, .int .i64 t288, .int .i64 t289, .int .i64 t290, .int .i64 t291, .int .i64 t292, .slice Ao14 t293.length co14, .slice none 0 0, .slice none 0 0]) ?_ 8 _ rfl; (with_reducible repeat (first | refine blk_drewN ?_ _ | refine blk_drew ?_ | refine blk_alloc ?_ _)); refine blk_put (cs := #[.int .i64 t286, .int .i64 t287, .int .i64 t288, .int .i64 t289, .int .i64 t290, .int .i64 t291, .int .i64 t292, .slice none 0 0, .slice none 0 0, .slice none 0 0]) ?_ 7 _ rfl; (with_reducible repeat (first | refine blk_drewN ?_ _ | refine blk_drew ?_ | refine blk_alloc ?_ _)); refine blk_put (cs := #[.int .i64 t286, .int .i64 t287, .int .i64 t288, .int .i64 t289, .int .i64 t290, .int .i64 t291, .int .i64 0, .slice none 0 0, .slice none 0 0, .slice none 0 0]) ?_ 6 _ rfl; (with_reducible repeat (first | refine blk_drewN ?_ _ | refine blk_drew ?_ | refine blk_alloc ?_ _)); refine blk_put (cs := #[.int .i64 t286, .int .i64 t287, .int .i64 t288, .int .i64 t289, .int .i64 t290, .int .i64 0, .int .i64 0, .slice none 0 0, .slice none 0 0, .slice none 0 0]) ?_ 5 _ rfl; (with_reducible repeat (first | refine blk_drewN ?_ _ | refine blk_drew ?_ | refine blk_alloc ?_ _)); refine blk_put (cs := #[.int .i64 t286, .int .i64 t287, .int .i64 t288, .int .i64 t289, .int .i64 0, .int .i64 0, .int .i64 0, .slice none 0 0, .slice none 0 0, .slice none 0 0]) ?_ 4 _ rfl; (with_reducible repeat (first | refine blk_drewN ?_ _ | refine blk_drew ?_ | refine blk_alloc ?_ _)); refine blk_put (cs := #[.int .i64 t286, .int .i64 t287, .int .i64 t288, .int .i64 0, .int .i64 0, .int .i64 0, .int .i64 0, .slice none 0 0, .slice none 0 0, .slice none 0 0]) ?_ 3 _ rfl; (with_reducible repeat (first | refine blk_drewN ?_ _ | refine blk_drew ?_ | refine blk_alloc ?_ _)); refine blk_put (cs := #[.int .i64 t286, .int .i64 t287, .int .i64 0, .int .i64 0, .int .i64 0, .int .i64 0, .int .i64 0, .slice none 0 0, .slice none 0 0, .slice none 0 0]) ?_ 2 _ rfl; (with_reducible repeat (first | refine blk_drewN ?_ _ | refine blk_drew ?_ | refine blk_alloc ?_ _)); refine blk_put (cs := #[.int .i64 t286, .int .i64 0, .int .i64 0, .int .i64 0, .int .i64 0, .int .i64 0, .int .i64 0, .slice none 0 0, .slice none 0 0, .slice none 0 0]) ?_ 1 _ rfl; (with_reducible repeat (first | refine blk_drewN ?_ _ | refine blk_drew ?_ | refine blk_alloc ?_ _)); refine blk_put (cs := #[.int .i64 0, .int .i64 0, .int .i64 0, .int .i64 0, .int .i64 0, .int .i64 0, .int .i64 0, .slice none 0 0, .slice none 0 0, .slice none 0 0]) ?_ 0 _ rfl; (with_reducible repeat (first | refine blk_drewN ?_ _ | refine blk_drew ?_ | refine blk_alloc ?_ _)); exact BK302.out) : P := h
theorem u11_2 {P : Prop} (h : P := by (with_reducible repeat (first | refine blk_drewN ?_ _ | refine blk_drew ?_ | refine blk_alloc ?_ _)); refine blk_far ?_ NB284_302.out _; (with_reducible repeat (first | refine blk_drewN ?_ _ | refine blk_drew ?_ | refine blk_alloc ?_ _)); refine blk_far ?_ NB284_302.out _; (with_reducible repeat (first | refine blk_drewN ?_ _ | refine blk_drew ?_ | refine blk_alloc ?_ _)); refine blk_far ?_ NB284_302.out _; (with_reducible repeat (first | refine blk_drewN ?_ _ | refine blk_drew ?_ | refine blk_alloc ?_ _)); refine blk_far ?_ NB284_302.out _; (with_reducible repeat (first | refine blk_drewN ?_ _ | refine blk_drew ?_ | refine blk_alloc ?_ _)); refine blk_far ?_ NB284_302.out _; (with_reducible repeat (first | refine blk_drewN ?_ _ | refine blk_drew ?_ | refine blk_alloc ?_ _)); refine blk_far ?_ NB284_302.out _; (with_reducible repeat (first | refine blk_drewN ?_ _ | refine blk_drew ?_ | refine blk_alloc ?_ _)); refine blk_far ?_ NB284_302.out _; (with_reducible repeat (first | refine blk_drewN ?_ _ | refine blk_drew ?_ | refine blk_alloc ?_ _)); refine blk_far ?_ NB284_302.out _; (with_reducible repeat (first | refine blk_drewN ?_ _ | refine blk_drew ?_ | refine blk_alloc ?_ _)); refine blk_far ?_ NB284_302.out _; (with_reducible repeat (first | refine blk_drewN ?_ _ | refine blk_drew ?_ | refine blk_alloc ?_ _)); refine blk_far ?_ NB284_302.out _; (with_reducible repeat (first | refine blk_drewN ?_ _ | refine blk_drew ?_ | refine blk_alloc ?_ _)); exact BK284.out) : P := h
theorem u11_3 {P : Prop} (h : P := by (with_reducible repeat (first | refine blk_drewN ?_ _ | refine blk_drew ?_ | refine blk_alloc ?_ _)); refine blk_far ?_ NB285_302.out _; (with_reducible repeat (first | refine blk_drewN ?_ _ | refine blk_drew ?_ | refine blk_alloc ?_ _)); refine blk_far ?_ NB285_302.out _; (with_reducible repeat (first | refine blk_drewN ?_ _ | refine blk_drew ?_ | refine blk_alloc ?_ _)); refine blk_far ?_ NB285_302.out _; (with_reducible repeat (first | refine blk_drewN ?_ _ | refine blk_drew ?_ | refine blk_alloc ?_ _)); refine blk_far ?_ NB285_302.out _; (with_reducible repeat (first | refine blk_drewN ?_ _ | refine blk_drew ?_ | refine blk_alloc ?_ _)); refine blk_far ?_ NB285_302.out _; (with_reducible repeat (first | refine blk_drewN ?_ _ | refine blk_drew ?_ | refine blk_alloc ?_ _)); refine blk_far ?_ NB285_302.out _; (with_reducible repeat (first | refine blk_drewN ?_ _ | refine blk_drew ?_ | refine blk_alloc ?_ _)); refine blk_far ?_ NB285_302.out _; (with_reducible repeat (first | refine blk_drewN ?_ _ | refine blk_drew ?_ | refine blk_alloc ?_ _)); refine blk_far ?_ NB285_302.out _; (with_reducible repeat (first | refine blk_drewN ?_ _ | refine blk_drew ?_ | refine blk_alloc ?_ _)); refine blk_far ?_ NB285_302.out _; (with_reducible repeat (first | refine blk_drewN ?_ _ | refine blk_drew ?_ | refine blk_alloc ?_ _)); refine blk_far ?_ NB285_302.out _; (with_reducible repeat (first | refine blk_drewN ?_ _ | refine blk_drew ?_ | refine blk_alloc ?_ _)); exact BK285.out) : P := h
theorem u11_4 {P : Prop} (h : P := by (with_reducible repeat (first | refine blk_drewN ?_ _ | refine blk_drew ?_ | refine blk_alloc ?_ _)); exact BK284.out) : P := h
theorem u11_5 {P : Prop} (h : P := by (with_reducible repeat (first | apply Kd.R_alloc | apply Kd.R_drewN | apply Kd.R_drew)); exact (Kd.R_mono (Kd.R_far (p := ⟨gb302, 9, none⟩) (Kd.R_far (p := ⟨gb302, 8, none⟩) (Kd.R_far (p := ⟨gb302, 7, none⟩) (Kd.R_far (p := ⟨gb302, 6, none⟩) (Kd.R_far (p := ⟨gb302, 5, none⟩) (Kd.R_far (p := ⟨gb302, 4, none⟩) (Kd.R_far (p := ⟨gb302, 3, none⟩) (Kd.R_far (p := ⟨gb302, 2, none⟩) (Kd.R_far (p := ⟨gb302, 1, none⟩) (Kd.R_far (p := ⟨gb302, 0, none⟩) (Kd.R_types HO295.out BK302.out (by decide)) (fun _ hk => hk.2) (.int .i64 t286)) (fun _ hk => hk.2) (.int .i64 t287)) (fun _ hk => hk.2) (.int .i64 t288)) (fun _ hk => hk.2) (.int .i64 t289)) (fun _ hk => hk.2) (.int .i64 t290)) (fun _ hk => hk.2) (.int .i64 t291)) (fun _ hk => hk.2) (.int .i64 t292)) (fun _ hk => hk.2) (.slice Ao14 t293.length co14)) (fun _ hk => hk.2) (.slice Ao15 t296.length co15)) (fun _ hk => hk.2) (.slice Ao16 t299.length co16)) (fun _ h_ => h_.1))) : P := h
theorem u11_6 {P : Prop} (h : P := by (with_reducible repeat (first | apply Kd.R_alloc | apply Kd.R_drewN | apply Kd.R_drew)); exact (Kd.R_mono (Kd.R_far (p := ⟨gb302, 9, none⟩) (Kd.R_far (p := ⟨gb302, 8, none⟩) (Kd.R_far (p := ⟨gb302, 7, none⟩) (Kd.R_far (p := ⟨gb302, 6, none⟩) (Kd.R_far (p := ⟨gb302, 5, none⟩) (Kd.R_far (p := ⟨gb302, 4, none⟩) (Kd.R_far (p := ⟨gb302, 3, none⟩) (Kd.R_far (p := ⟨gb302, 2, none⟩) (Kd.R_far (p := ⟨gb302, 1, none⟩) (Kd.R_far (p := ⟨gb302, 0, none⟩) (Kd.R_types HO298.out BK302.out (by decide)) (fun _ hk => hk.2) (.int .i64 t286)) (fun _ hk => hk.2) (.int .i64 t287)) (fun _ hk => hk.2) (.int .i64 t288)) (fun _ hk => hk.2) (.int .i64 t289)) (fun _ hk => hk.2) (.int .i64 t290)) (fun _ hk => hk.2) (.int .i64 t291)) (fun _ hk => hk.2) (.int .i64 t292)) (fun _ hk => hk.2) (.slice Ao14 t293.length co14)) (fun _ hk => hk.2) (.slice Ao15 t296.length co15)) (fun _ hk => hk.2) (.slice Ao16 t299.length co16)) (fun _ h_ => h_.1))) : P := h
theorem u11_7 {P : Prop} (h : P := by (with_reducible repeat (first | apply Kd.R_alloc | apply Kd.R_drewN | apply Kd.R_drew)); exact (Kd.R_mono (Kd.R_far (p := ⟨gb302, 9, none⟩) (Kd.R_far (p := ⟨gb302, 8, none⟩) (Kd.R_far (p := ⟨gb302, 7, none⟩) (Kd.R_far (p := ⟨gb302, 6, none⟩) (Kd.R_far (p := ⟨gb302, 5, none⟩) (Kd.R_far (p := ⟨gb302, 4, none⟩) (Kd.R_far (p := ⟨gb302, 3, none⟩) (Kd.R_far (p := ⟨gb302, 2, none⟩) (Kd.R_far (p := ⟨gb302, 1, none⟩) (Kd.R_far (p := ⟨gb302, 0, none⟩) (Kd.R_types HO301.out BK302.out (by decide)) (fun _ hk => hk.2) (.int .i64 t286)) (fun _ hk => hk.2) (.int .i64 t287)) (fun _ hk => hk.2) (.int .i64 t288)) (fun _ hk => hk.2) (.int .i64 t289)) (fun _ hk => hk.2) (.int .i64 t290)) (fun _ hk => hk.2) (.int .i64 t291)) (fun _ hk => hk.2) (.int .i64 t292)) (fun _ hk => hk.2) (.slice Ao14 t293.length co14)) (fun _ hk => hk.2) (.slice Ao15 t296.length co15)) (fun _ hk => hk.2) (.slice Ao16 t299.length co16)) (fun _ h_ => h_.1))) : P := h
theorem u11_8 {P : Prop} (h : P := by (with_reducible repeat (first | refine blk_drewN ?_ _ | refine blk_drew ?_ | refine blk_alloc ?_ _)); exact BK285.out) : P := h
theorem u11_10 {P : Prop} (h : P := by (with_reducible repeat (first | refine blk_drewN ?_ _ | refine blk_drew ?_ | refine blk_alloc ?_ _)); exact BK302.out) : P := h
theorem u11_12 {P : Prop} (h : P := by (with_reducible repeat (first | apply Kd.R_alloc | apply Kd.R_drewN | apply Kd.R_drew)); exact HO_303008.out) : P := h
theorem u11_13 {P : Prop} (h : P := by (with_reducible repeat (first | apply Kd.R_alloc | apply Kd.R_drewN | apply Kd.R_drew)); exact HO_303009.out) : P := h
theorem u11_14 {P : Prop} (h : P := by (with_reducible repeat (first | apply Kd.R_alloc | apply Kd.R_drewN | apply Kd.R_drew)); exact HO_303007.out) : P := h
theorem u11_15 {P : Prop} (h : P := by (with_reducible repeat (first | apply Kd.S_alloc | apply Kd.S_drewN | apply Kd.S_drew)); exact HO_7.out) : P := h
theorem u11_17 {P : Prop} (h : P := by (with_reducible repeat (first | apply Kd.R_alloc | apply Kd.R_drewN | apply Kd.R_drew)); exact (Kd.R_mono (Kd.R_far (p := ⟨gb302, 3, none⟩) (Kd.R_far (p := ⟨gb302, 2, none⟩) (Kd.R_far (p := ⟨gb302, 1, none⟩) (Kd.R_types HO_303008.out BK302.out (by decide)) (fun _ hk => hk.2) (.int .i64 (wrap64 (a0_1 + 1)))) (fun _ hk => hk.2) (.int .i64 a0_0)) (fun _ hk => hk.2) (.int .i64 1)) (fun _ h_ => h_.1))) : P := h
theorem u11_18 {P : Prop} (h : P := by (with_reducible repeat (first | apply Kd.R_alloc | apply Kd.R_drewN | apply Kd.R_drew)); exact (Kd.R_mono (Kd.R_far (p := ⟨gb302, 3, none⟩) (Kd.R_far (p := ⟨gb302, 2, none⟩) (Kd.R_far (p := ⟨gb302, 1, none⟩) (Kd.R_types HO_303009.out BK302.out (by decide)) (fun _ hk => hk.2) (.int .i64 (wrap64 (a0_1 + 1)))) (fun _ hk => hk.2) (.int .i64 a0_0)) (fun _ hk => hk.2) (.int .i64 1)) (fun _ h_ => h_.1))) : P := h
theorem u11_20 {P : Prop} (h : P := by (with_reducible repeat (first | apply Kd.R_alloc | apply Kd.R_drewN | apply Kd.R_drew)); exact HO295.out) : P := h
theorem u11_21 {P : Prop} (h : P := by (with_reducible repeat (first | apply Kd.R_alloc | apply Kd.R_drewN | apply Kd.R_drew)); exact HO298.out) : P := h
theorem u11_22 {P : Prop} (h : P := by (with_reducible repeat (first | apply Kd.R_alloc | apply Kd.R_drewN | apply Kd.R_drew)); exact HO301.out) : P := h
theorem u11_24 {P : Prop} (h : P := by (with_reducible repeat (first | apply Kd.R_alloc | apply Kd.R_drewN | apply Kd.R_drew)); exact (Kd.R_mono (Kd.R_far (p := ⟨gb302, 8, none⟩) (Kd.R_types HO_303007.out BK302.out (by decide)) (fun _ hk => hk.2) (.slice Ao64 y320.length co64)) (fun _ h_ => h_.1))) : P := h
/-! ### spec_Elect: function 47 -/
mutual
def spec_Elect.j0 : Nat → Int → Bool → Int → Int → Int → Int → Int → Int → Int → List (S85) → List Int → List Int → Int → Int → Int → Int → Int → Int → Int → List (S85) → List Int → List Int → Option (Int × Int × Int × Int × Int × Int × Int × (List (S85)) × List Int × List Int × (List (S29)))
 | 0, _, _, _, _, _, _, _, _, _, _, _, _, _, _, _, _, _, _, _, _, _, _ => none
 | k + 1, x1, x24, x285000, x285001, x285002, x285003, x285004, x285005, x285006, x285007, x285008, x285009, x303000, x303001, x303002, x303003, x303004, x303005, x303006, x303007, x303008, x303009 => if x24 = true then (some (x303000, x303001, x303002, x303003, x303004, x303005, x303006, x303007, x303008, x303009, ([] : List (S29)))) else (if x1 = 1 then ((spec_l07Lead.f k x303000 (wrap64 (x285001 + 1)) x285000 x303003 x303004 x303005 x303006 x303007 x303008 x303009 x1).bind fun bt304 => (some (bt304.1, bt304.2.1, bt304.2.2.1, bt304.2.2.2.1, bt304.2.2.2.2.1, bt304.2.2.2.2.2.1, bt304.2.2.2.2.2.2.1, bt304.2.2.2.2.2.2.2.1, bt304.2.2.2.2.2.2.2.2.1, bt304.2.2.2.2.2.2.2.2.2, ([] : List (S29))))) else (spec_Elect.l0 k x1 (([] : List (S29))) 0 x285000 x285001 x285002 x285003 x285004 x285005 x285006 x285007 x285008 x285009 x303000 (wrap64 (x285001 + 1)) x285000 1 x303004 x303005 x303006 x303007 (([x285000] : List Int)) x303009))
def spec_Elect.l0 : Nat → Int → List (S29) → Int → Int → Int → Int → Int → Int → Int → Int → List (S85) → List Int → List Int → Int → Int → Int → Int → Int → Int → Int → List (S85) → List Int → List Int → Option (Int × Int × Int × Int × Int × Int × Int × (List (S85)) × List Int × List Int × (List (S29)))
 | 0, _, _, _, _, _, _, _, _, _, _, _, _, _, _, _, _, _, _, _, _, _, _, _ => none
 | k + 1, x1, x7, x8, x285000, x285001, x285002, x285003, x285004, x285005, x285006, x285007, x285008, x285009, x303000, x303001, x303002, x303003, x303004, x303005, x303006, x303007, x303008, x303009 => if x8 < x1 then (if x8 = x285000 then (spec_Elect.l0 k x1 x7 (wrap64 (x8 + 1)) x285000 x285001 x285002 x285003 x285004 x285005 x285006 x285007 x285008 x285009 x303000 x303001 x303002 x303003 x303004 x303005 x303006 x303007 x303008 x303009) else ((spec_LastIndex.f k x285005 x285006 x285007).bind fun t326 => ((spec_LastIndex.f k x285005 x285006 x285007).bind fun t327 => ((spec_TermAt.f k x285005 x285006 x285007 t327).bind fun t328 => (if x7.length < 1599289640401 then (spec_Elect.l0 k x1 (x7 ++ [(⟨0, x285000, x8, x303001, t326, t328, 0, false, ([] : List (S85))⟩ : S29)]) (wrap64 (x8 + 1)) x285000 x285001 x285002 x285003 x285004 x285005 x285006 x285007 x285008 x285009 x303000 x303001 x303002 x303003 x303004 x303005 x303006 x303007 x303008 x303009) else (none)))))) else (some (x303000, x303001, x303002, x303003, x303004, x303005, x303006, x303007, x303008, x303009, x7))
end
def spec_Elect.f (k : Nat) (a0_0 : Int) (a0_1 : Int) (a0_2 : Int) (a0_3 : Int) (a0_4 : Int) (a0_5 : Int) (a0_6 : Int) (l0_7 : List (S85)) (l0_8 : List Int) (l0_9 : List Int) (a1 : Int) : Option (Int × Int × Int × Int × Int × Int × Int × (List (S85)) × List Int × List Int × (List (S29))) := (spec_l07Copy.f k a0_0 a0_1 a0_2 a0_3 a0_4 a0_5 a0_6 l0_7 l0_8 l0_9).bind fun bt286 => ((spec_NodeOk.f k a0_0 a0_1 a0_2 a0_3 a0_4 a0_5 a0_6 l0_7 l0_8 l0_9 a1).bind fun t303 => (if t303 = true then (if a0_3 = 2 then (spec_Elect.j0 k a1 true a0_0 a0_1 a0_2 a0_3 a0_4 a0_5 a0_6 l0_7 l0_8 l0_9 bt286.1 bt286.2.1 bt286.2.2.1 bt286.2.2.2.1 bt286.2.2.2.2.1 bt286.2.2.2.2.2.1 bt286.2.2.2.2.2.2.1 bt286.2.2.2.2.2.2.2.1 bt286.2.2.2.2.2.2.2.2.1 bt286.2.2.2.2.2.2.2.2.2) else (spec_Elect.j0 k a1 (a0_1 == 1000000) a0_0 a0_1 a0_2 a0_3 a0_4 a0_5 a0_6 l0_7 l0_8 l0_9 bt286.1 bt286.2.1 bt286.2.2.1 bt286.2.2.2.1 bt286.2.2.2.2.1 bt286.2.2.2.2.2.1 bt286.2.2.2.2.2.2.1 bt286.2.2.2.2.2.2.2.1 bt286.2.2.2.2.2.2.2.2.1 bt286.2.2.2.2.2.2.2.2.2)) else (spec_Elect.j0 k a1 true a0_0 a0_1 a0_2 a0_3 a0_4 a0_5 a0_6 l0_7 l0_8 l0_9 bt286.1 bt286.2.1 bt286.2.2.1 bt286.2.2.2.1 bt286.2.2.2.2.1 bt286.2.2.2.2.2.1 bt286.2.2.2.2.2.2.1 bt286.2.2.2.2.2.2.2.1 bt286.2.2.2.2.2.2.2.2.1 bt286.2.2.2.2.2.2.2.2.2)))
theorem spec_Elect.mono_l : ∀ k, (∀ y0 y1 y2 y3 y4 y5 y6 y7 y8 y9 y10 y11 y12 y13 y14 y15 y16 y17 y18 y19 y20 y21, LeO (spec_Elect.j0 k y0 y1 y2 y3 y4 y5 y6 y7 y8 y9 y10 y11 y12 y13 y14 y15 y16 y17 y18 y19 y20 y21) (spec_Elect.j0 (k + 1) y0 y1 y2 y3 y4 y5 y6 y7 y8 y9 y10 y11 y12 y13 y14 y15 y16 y17 y18 y19 y20 y21)) ∧ (∀ y0 y1 y2 y3 y4 y5 y6 y7 y8 y9 y10 y11 y12 y13 y14 y15 y16 y17 y18 y19 y20 y21 y22, LeO (spec_Elect.l0 k y0 y1 y2 y3 y4 y5 y6 y7 y8 y9 y10 y11 y12 y13 y14 y15 y16 y17 y18 y19 y20 y21 y22) (spec_Elect.l0 (k + 1) y0 y1 y2 y3 y4 y5 y6 y7 y8 y9 y10 y11 y12 y13 y14 y15 y16 y17 y18 y19 y20 y21 y22))
 | 0 => ⟨fun _ _ _ _ _ _ _ _ _ _ _ _ _ _ _ _ _ _ _ _ _ _ r h => by simp [spec_Elect.j0] at h, fun _ _ _ _ _ _ _ _ _ _ _ _ _ _ _ _ _ _ _ _ _ _ _ r h => by simp [spec_Elect.l0] at h⟩
 | k + 1 => by
   obtain ⟨ih0, ih1⟩ := spec_Elect.mono_l k
   refine ⟨?_, ?_⟩ <;> intros <;> (first | unfold spec_Elect.j0 | unfold spec_Elect.l0) <;> repeat' first
   | (with_reducible exact ih0 _ _ _ _ _ _ _ _ _ _ _ _ _ _ _ _ _ _ _ _ _ _)
   | (with_reducible exact ih1 _ _ _ _ _ _ _ _ _ _ _ _ _ _ _ _ _ _ _ _ _ _ _)
   | (with_reducible exact spec_LastIndex.mono _ _ _ _)
   | (with_reducible exact spec_NodeOk.mono _ _ _ _ _ _ _ _ _ _ _ _)
   | (with_reducible exact spec_TermAt.mono _ _ _ _ _)
   | (with_reducible exact spec_l07Copy.mono _ _ _ _ _ _ _ _ _ _ _)
   | (with_reducible exact spec_l07Lead.mono _ _ _ _ _ _ _ _ _ _ _ _)
   | (with_reducible exact LeO.refl _)
   | (with_reducible exact LeO.none _)
   | (with_reducible refine LeO.ite ?_ ?_)
   | (with_reducible refine LeO.bind ?_ (fun _ => ?_))
   | exact ih0 _ _ _ _ _ _ _ _ _ _ _ _ _ _ _ _ _ _ _ _ _ _
   | exact ih1 _ _ _ _ _ _ _ _ _ _ _ _ _ _ _ _ _ _ _ _ _ _ _
   | exact spec_LastIndex.mono _ _ _ _
   | exact spec_NodeOk.mono _ _ _ _ _ _ _ _ _ _ _ _
   | exact spec_TermAt.mono _ _ _ _ _
   | exact spec_l07Copy.mono _ _ _ _ _ _ _ _ _ _ _
   | exact spec_l07Lead.mono _ _ _ _ _ _ _ _ _ _ _ _
   | exact LeO.none _
   | refine LeO.ite ?_ ?_
   | refine LeO.bind ?_ (fun _ => ?_)
theorem spec_Elect.mono : ∀ a0 a1 a2 a3 a4 a5 a6 a7 a8 a9 a10 k, LeO (spec_Elect.f k a0 a1 a2 a3 a4 a5 a6 a7 a8 a9 a10) (spec_Elect.f (k + 1) a0 a1 a2 a3 a4 a5 a6 a7 a8 a9 a10) := by
 intro a0 a1 a2 a3 a4 a5 a6 a7 a8 a9 a10 k
 obtain ⟨ih0, ih1⟩ := spec_Elect.mono_l k
 unfold spec_Elect.f
 repeat' first
     | (with_reducible exact ih0 _ _ _ _ _ _ _ _ _ _ _ _ _ _ _ _ _ _ _ _ _ _)
     | (with_reducible exact ih1 _ _ _ _ _ _ _ _ _ _ _ _ _ _ _ _ _ _ _ _ _ _ _)
     | (with_reducible exact spec_LastIndex.mono _ _ _ _)
     | (with_reducible exact spec_NodeOk.mono _ _ _ _ _ _ _ _ _ _ _ _)
     | (with_reducible exact spec_TermAt.mono _ _ _ _ _)
     | (with_reducible exact spec_l07Copy.mono _ _ _ _ _ _ _ _ _ _ _)
     | (with_reducible exact spec_l07Lead.mono _ _ _ _ _ _ _ _ _ _ _ _)
     | (with_reducible exact LeO.refl _)
     | (with_reducible exact LeO.none _)
     | (with_reducible refine LeO.ite ?_ ?_)
     | (with_reducible refine LeO.bind ?_ (fun _ => ?_))
     | exact ih0 _ _ _ _ _ _ _ _ _ _ _ _ _ _ _ _ _ _ _ _ _ _
     | exact ih1 _ _ _ _ _ _ _ _ _ _ _ _ _ _ _ _ _ _ _ _ _ _ _
     | exact spec_LastIndex.mono _ _ _ _
     | exact spec_NodeOk.mono _ _ _ _ _ _ _ _ _ _ _ _
     | exact spec_TermAt.mono _ _ _ _ _
     | exact spec_l07Copy.mono _ _ _ _ _ _ _ _ _ _ _
     | exact spec_l07Lead.mono _ _ _ _ _ _ _ _ _ _ _ _
     | exact LeO.none _
     | refine LeO.ite ?_ ?_
     | refine LeO.bind ?_ (fun _ => ?_)
def spec_Elect.T15 : Bool × List (List Nat × List Nat) := (true, [([], []), ([], []), ([1], [1]), ([], []), ([], []), ([4], [4]), ([], []), ([6], [6]), ([7], [7]), ([], []), ([9], [9]), ([], []), ([11], [11]), ([12, 8], [12]), ([10, 13, 13], [10, 13]), ([2, 3, 5, 8, 14], [2, 3, 5, 8, 14]), ([15], [15]), ([0, 16, 14], [0, 16]), ([17, 17, 0, 1, 2, 3, 4, 5, 6, 7, 8, 9, 10, 11, 12, 13, 14, 15, 16, 17], [0, 17])])
def spec_Elect.B15 : List Nat := [0, 0, 2, 0, 0, 16, 0, 64, 192, 0, 512, 0, 2048, 6592, 16320, 32766, 65534, 131071, 262143]
theorem spec_Elect.tab15 : rtab .any (opsOf Try.f47 15) = spec_Elect.T15 := by kernel_rfl
theorem spec_Elect.bits15 : waitsOk spec_Elect.T15.2 spec_Elect.B15 = true := by kernel_rfl
set_option maxHeartbeats 8000000 in
set_option maxRecDepth 100000 in
theorem spec_Elect.calls (k : Nat) (a0_0 : Int) (a0_1 : Int) (a0_2 : Int) (a0_3 : Int) (a0_4 : Int) (a0_5 : Int) (a0_6 : Int) (A0_7 : Option Addr) (c0_7 : Nat) (l0_7 : List (S85)) (A0_8 : Option Addr) (c0_8 : Nat) (l0_8 : List Int) (A0_9 : Option Addr) (c0_9 : Nat) (l0_9 : List Int) (a1 : Int) (r1 : Int) (r2 : Int) (r3 : Int) (r4 : Int) (r5 : Int) (r6 : Int) (r7 : Int) (r8 : List (S85)) (r9 : List Int) (r10 : List Int) (r11 : List (S29)) (w : World) (hr0_7 : Kd.C k85 w A0_7 l0_7.length l0_7) (hc0_7 : l0_7.length ≤ c0_7) (hr0_8 : Kd.C (Kd.int .i64) w A0_8 l0_8.length l0_8) (hc0_8 : l0_8.length ≤ c0_8) (hr0_9 : Kd.C (Kd.int .i64) w A0_9 l0_9.length l0_9) (hc0_9 : l0_9.length ≤ c0_9) (h : spec_Elect.f k a0_0 a0_1 a0_2 a0_3 a0_4 a0_5 a0_6 l0_7 l0_8 l0_9 a1 = some (r1, r2, r3, r4, r5, r6, r7, r8, r9, r10, r11)) :
   Calls Try.prog 47 #[.agg #[.int .i64 a0_0, .int .i64 a0_1, .int .i64 a0_2, .int .i64 a0_3, .int .i64 a0_4, .int .i64 a0_5, .int .i64 a0_6, .slice A0_7 l0_7.length c0_7, .slice A0_8 l0_8.length c0_8, .slice A0_9 l0_9.length c0_9], .int .i64 a1] w fun e w' => ∃ v7_ v8_ v9_ v10_ : Value, e = .returned (.tuple #[.agg #[.int .i64 r1, .int .i64 r2, .int .i64 r3, .int .i64 r4, .int .i64 r5, .int .i64 r6, .int .i64 r7, v7_, v8_, v9_], v10_]) ∧ Kd.R k85 85 w' w.heap.size (fun _ => True) v7_ r8 ∧ Kd.R (Kd.int .i64) 3 w' w.heap.size (fun k_ => some k_ ≠ (v9_ : Value).ownBlock) v8_ r9 ∧ Kd.R (Kd.int .i64) 3 w' w.heap.size (fun k_ => some k_ ≠ (v8_ : Value).ownBlock) v9_ r10 ∧ Kd.S k29 29 w' w.heap.size (fun k_ => some k_ ≠ (v7_ : Value).ownBlock) v10_ r11 ∧ Below w.heap.size w w' := by
 have hu37 := Try.underlying37
 have hu34 := Try.underlying34
 have hu29 := Try.underlying29
 have HR0_7 := am hr0_7
 have HC0_7 := am hc0_7
 clear hr0_7 hc0_7
 have HR0_8 := am hr0_8
 have HC0_8 := am hc0_8
 clear hr0_8 hc0_8
 have HR0_9 := am hr0_9
 have HC0_9 := am hc0_9
 clear hr0_9 hc0_9
 have HB := am (Below.refl w.heap.size w)
 have H : ((spec_l07Copy.f k a0_0 a0_1 a0_2 a0_3 a0_4 a0_5 a0_6 l0_7 l0_8 l0_9).bind fun bt286 => ((spec_NodeOk.f k a0_0 a0_1 a0_2 a0_3 a0_4 a0_5 a0_6 l0_7 l0_8 l0_9 a1).bind fun t303 => (if t303 = true then (if a0_3 = 2 then (spec_Elect.j0 k a1 true a0_0 a0_1 a0_2 a0_3 a0_4 a0_5 a0_6 l0_7 l0_8 l0_9 bt286.1 bt286.2.1 bt286.2.2.1 bt286.2.2.2.1 bt286.2.2.2.2.1 bt286.2.2.2.2.2.1 bt286.2.2.2.2.2.2.1 bt286.2.2.2.2.2.2.2.1 bt286.2.2.2.2.2.2.2.2.1 bt286.2.2.2.2.2.2.2.2.2) else (spec_Elect.j0 k a1 (a0_1 == 1000000) a0_0 a0_1 a0_2 a0_3 a0_4 a0_5 a0_6 l0_7 l0_8 l0_9 bt286.1 bt286.2.1 bt286.2.2.1 bt286.2.2.2.1 bt286.2.2.2.2.1 bt286.2.2.2.2.2.1 bt286.2.2.2.2.2.2.1 bt286.2.2.2.2.2.2.2.1 bt286.2.2.2.2.2.2.2.2.1 bt286.2.2.2.2.2.2.2.2.2)) else (spec_Elect.j0 k a1 true a0_0 a0_1 a0_2 a0_3 a0_4 a0_5 a0_6 l0_7 l0_8 l0_9 bt286.1 bt286.2.1 bt286.2.2.1 bt286.2.2.2.1 bt286.2.2.2.2.1 bt286.2.2.2.2.2.1 bt286.2.2.2.2.2.2.1 bt286.2.2.2.2.2.2.2.1 bt286.2.2.2.2.2.2.2.2.1 bt286.2.2.2.2.2.2.2.2.2)))) = some (r1, r2, r3, r4, r5, r6, r7, r8, r9, r10, r11) := h
 clear h
 replace H := Option.bind_eq_some_iff.mp H
 obtain ⟨⟨t286, t287, t288, t289, t290, t291, t292, t293, t296, t299⟩, A30, H⟩ := H
 (try dsimp only at H)
 have A3 := am A30
 clear A30
 have HC4 := am H
 clear H
 go_enter Try.func47, Try.ntmps47
 go_upto_region 2 with (first | ((with_reducible refine gate_dst (N := 2) rfl ?_); refine box_event ?hg (N := 2) ?hd (cs := #[.int .i64 a0_0, .int .i64 a0_1, .int .i64 a0_2, .int .i64 a0_3, .int .i64 a0_4, .int .i64 a0_5, .int .i64 a0_6, .slice A0_7 l0_7.length c0_7, .slice A0_8 l0_8.length c0_8, .slice A0_9 l0_9.length c0_9]) (t := 37) ?hr ?_; (case hd => rfl); (case hg => rfl); (case hr => first | (go_simp; done) | (go_simp; rfl)); intro gb284 hg w5 hbox hb; have BK284 := am (hbox); have GW284 := am ((by rw [hg]; exact (below_size Q0) : w.heap.size ≤ gb284)); have GE284 := am ((by rw [hg]; exact (below_size Q0) : w.heap.size ≤ gb284)); replace HB := am (below_step Q0 hb); clear hb hbox hg) | ((with_reducible refine gate_dst (N := 4) rfl ?_); refine box_event ?hg (N := 4) ?hd (cs := #[.int .i64 0, .int .i64 0, .int .i64 0, .int .i64 0, .int .i64 0, .int .i64 0, .int .i64 0, .slice none 0 0, .slice none 0 0, .slice none 0 0]) (t := 37) ?hr ?_; (case hd => rfl); (case hg => rfl); (case hr => first | (go_simp; done) | (go_simp; rfl)); intro gb285 hg w6 hbox hb; have BK285 := am (hbox); have GW285 := am ((by rw [hg]; exact (below_size Q0) : w.heap.size ≤ gb285)); have GE285 := am ((by rw [hg]; exact (below_size Q0) : w.heap.size ≤ gb285)); replace HB := am (below_step Q0 hb); have NB284_285 := am ((by rw [hg]; exact Nat.ne_of_lt (blk_lt (g := gb284) (o := .cells #[.int .i64 a0_0, .int .i64 a0_1, .int .i64 a0_2, .int .i64 a0_3, .int .i64 a0_4, .int .i64 a0_5, .int .i64 a0_6, .slice A0_7 l0_7.length c0_7, .slice A0_8 l0_8.length c0_8, .slice A0_9 l0_9.length c0_9] 37 (0, 0)) u11_4) : gb284 ≠ gb285)); have NB285_284 := am ((by rw [hg]; exact Nat.ne_of_gt (blk_lt (g := gb284) (o := .cells #[.int .i64 a0_0, .int .i64 a0_1, .int .i64 a0_2, .int .i64 a0_3, .int .i64 a0_4, .int .i64 a0_5, .int .i64 a0_6, .slice A0_7 l0_7.length c0_7, .slice A0_8 l0_8.length c0_8, .slice A0_9 l0_9.length c0_9] 37 (0, 0)) u11_4) : gb285 ≠ gb284)); replace BK284 := am (blk_below (g := gb284) (o := .cells #[.int .i64 a0_0, .int .i64 a0_1, .int .i64 a0_2, .int .i64 a0_3, .int .i64 a0_4, .int .i64 a0_5, .int .i64 a0_6, .slice A0_7 l0_7.length c0_7, .slice A0_8 l0_8.length c0_8, .slice A0_9 l0_9.length c0_9] 37 (0, 0)) u11_4 hb); clear hb hbox hg; have hnb7 := NB284_285.out; have hnc7 := NB285_284.out; obtain ⟨hcz8_0, hcz8_1, hcz8_2, hcz8_3, hcz8_4, hcz8_5, hcz8_6, hcz8_7, hcz8_8, hcz8_9, hfz8_0, hfz8_1, hfz8_2, hfz8_3, hfz8_4, hfz8_5, hfz8_6, hfz8_7, hfz8_8, hfz8_9⟩ := bc10f w6 BK284.out) | ((with_reducible refine gate_callee (f := 83) rfl ?_); refine goesL_ (some 10) rfl rfl Try.func83 kr rfl #[.agg #[.int .i64 a0_0, .int .i64 a0_1, .int .i64 a0_2, .int .i64 a0_3, .int .i64 a0_4, .int .i64 a0_5, .int .i64 a0_6, .slice A0_7 l0_7.length c0_7, .slice A0_8 l0_8.length c0_8, .slice A0_9 l0_9.length c0_9]] rfl Q3 ?_; (with_reducible refine (spec_l07Copy.calls k a0_0 a0_1 a0_2 a0_3 a0_4 a0_5 a0_6 _ _ l0_7 _ _ l0_8 _ _ l0_9 t286 t287 t288 t289 t290 t291 t292 t293 t296 t299 _ ?side1 ?side2 ?side3 ?side4 ?side5 ?side6 A3.out).mono ?_); (case side1 => exact Q9); (case side2 => exact HC0_7.out); (case side3 => exact (by repeat (first | exact (Kd.C_below HR0_8.out HB.out) | (with_reducible refine Kd.C_alloc ?_ _) | (with_reducible refine Kd.C_drewN ?_ _) | (with_reducible refine Kd.C_drew ?_)))); (case side4 => exact HC0_8.out); (case side5 => exact (by repeat (first | exact (Kd.C_below HR0_9.out HB.out) | (with_reducible refine Kd.C_alloc ?_ _) | (with_reducible refine Kd.C_drewN ?_ _) | (with_reducible refine Kd.C_drew ?_)))); (case side6 => exact HC0_9.out); rintro e w9 ⟨v294, v297, v300, rfl, ho0, ho1, ho2, hb⟩; refine ⟨_, rfl, ?_⟩; have HO295 := am (Kd.R_lower ho0 (below_size Q0)); have HO298 := am (Kd.R_lower ho1 (below_size Q0)); have HO301 := am (Kd.R_lower ho2 (below_size Q0)); replace BK284 := am (blk_below (g := gb284) (o := .cells #[.int .i64 a0_0, .int .i64 a0_1, .int .i64 a0_2, .int .i64 a0_3, .int .i64 a0_4, .int .i64 a0_5, .int .i64 a0_6, .slice A0_7 l0_7.length c0_7, .slice A0_8 l0_8.length c0_8, .slice A0_9 l0_9.length c0_9] 37 (0, 0)) u11_4 hb); replace BK285 := am (blk_below (g := gb285) (o := .cells #[.int .i64 0, .int .i64 0, .int .i64 0, .int .i64 0, .int .i64 0, .int .i64 0, .int .i64 0, .slice none 0 0, .slice none 0 0, .slice none 0 0] 37 (0, 0)) u11_8 hb); replace HB := am (below_step Q0 hb); (try clear hb); (try clear hb2); (try clear hk); (try clear hi); (try clear ho0); (try clear ho1); (try clear ho2)) | ((with_reducible refine gate_dst (N := 6) rfl ?_); refine box_event ?hg (N := 6) ?hd (cs := #[.int .i64 0, .int .i64 0, .int .i64 0, .int .i64 0, .int .i64 0, .int .i64 0, .int .i64 0, .slice none 0 0, .slice none 0 0, .slice none 0 0]) (t := 37) ?hr ?_; (case hd => rfl); (case hg => rfl); (case hr => first | (go_simp; done) | (go_simp; rfl)); intro gb302 hg w10 hbox hb; replace HO295 := am (Kd.R_below u11_20 hb); replace HO298 := am (Kd.R_below u11_21 hb); replace HO301 := am (Kd.R_below u11_22 hb); have BK302 := am (hbox); have GW302 := am ((by rw [hg]; exact (below_size Q0) : w.heap.size ≤ gb302)); have GE302 := am ((by rw [hg]; exact (below_size Q0) : w.heap.size ≤ gb302)); replace HB := am (below_step Q0 hb); have NB284_302 := am ((by rw [hg]; exact Nat.ne_of_lt (blk_lt (g := gb284) (o := .cells #[.int .i64 a0_0, .int .i64 a0_1, .int .i64 a0_2, .int .i64 a0_3, .int .i64 a0_4, .int .i64 a0_5, .int .i64 a0_6, .slice A0_7 l0_7.length c0_7, .slice A0_8 l0_8.length c0_8, .slice A0_9 l0_9.length c0_9] 37 (0, 0)) u11_4) : gb284 ≠ gb302)); have NB302_284 := am ((by rw [hg]; exact Nat.ne_of_gt (blk_lt (g := gb284) (o := .cells #[.int .i64 a0_0, .int .i64 a0_1, .int .i64 a0_2, .int .i64 a0_3, .int .i64 a0_4, .int .i64 a0_5, .int .i64 a0_6, .slice A0_7 l0_7.length c0_7, .slice A0_8 l0_8.length c0_8, .slice A0_9 l0_9.length c0_9] 37 (0, 0)) u11_4) : gb302 ≠ gb284)); replace BK284 := am (blk_below (g := gb284) (o := .cells #[.int .i64 a0_0, .int .i64 a0_1, .int .i64 a0_2, .int .i64 a0_3, .int .i64 a0_4, .int .i64 a0_5, .int .i64 a0_6, .slice A0_7 l0_7.length c0_7, .slice A0_8 l0_8.length c0_8, .slice A0_9 l0_9.length c0_9] 37 (0, 0)) u11_4 hb); have NB285_302 := am ((by rw [hg]; exact Nat.ne_of_lt (blk_lt (g := gb285) (o := .cells #[.int .i64 0, .int .i64 0, .int .i64 0, .int .i64 0, .int .i64 0, .int .i64 0, .int .i64 0, .slice none 0 0, .slice none 0 0, .slice none 0 0] 37 (0, 0)) u11_8) : gb285 ≠ gb302)); have NB302_285 := am ((by rw [hg]; exact Nat.ne_of_gt (blk_lt (g := gb285) (o := .cells #[.int .i64 0, .int .i64 0, .int .i64 0, .int .i64 0, .int .i64 0, .int .i64 0, .int .i64 0, .slice none 0 0, .slice none 0 0, .slice none 0 0] 37 (0, 0)) u11_8) : gb302 ≠ gb285)); replace BK285 := am (blk_below (g := gb285) (o := .cells #[.int .i64 0, .int .i64 0, .int .i64 0, .int .i64 0, .int .i64 0, .int .i64 0, .int .i64 0, .slice none 0 0, .slice none 0 0, .slice none 0 0] 37 (0, 0)) u11_8 hb); clear hb hbox hg; have hnb11 := NB302_284.out; have hnc11 := NB284_302.out; have hnb12 := NB302_285.out; have hnc12 := NB285_302.out; obtain ⟨hcz13_0, hcz13_1, hcz13_2, hcz13_3, hcz13_4, hcz13_5, hcz13_6, hcz13_7, hcz13_8, hcz13_9, hfz13_0, hfz13_1, hfz13_2, hfz13_3, hfz13_4, hfz13_5, hfz13_6, hfz13_7, hfz13_8, hfz13_9⟩ := bc10f w10 BK302.out; obtain ⟨Ao14, co14, eo14⟩ := Kd.R_slice HO295.out; subst eo14; obtain ⟨Ao15, co15, eo15⟩ := Kd.R_slice HO298.out; subst eo15; obtain ⟨Ao16, co16, eo16⟩ := Kd.R_slice HO301.out; subst eo16))
 (try simp only [Act.put, la, lb, lc])
 go_cut [24] (fun v24 wc => ∃ (kq : Nat) (x24_3 : Bool), v24 = .bool x24_3 ∧ Aside0 (spec_Elect.j0 kq a1 x24_3 a0_0 a0_1 a0_2 a0_3 a0_4 a0_5 a0_6 l0_7 l0_8 l0_9 t286 t287 t288 t289 t290 t291 t292 t293 t296 t299 = some (r1, r2, r3, r4, r5, r6, r7, r8, r9, r10, r11)) ∧ Aside0 (kq ≤ k) ∧ Aside0 (Kd.R k85 85 wc w.heap.size (fun _ => True) (.slice Ao14 t293.length co14) t293) ∧ Aside0 (Kd.R (Kd.int .i64) 3 wc w.heap.size (fun k_ => some k_ ≠ ((.slice Ao16 t299.length co16) : Value).ownBlock) (.slice Ao15 t296.length co15) t296) ∧ Aside0 (Kd.R (Kd.int .i64) 3 wc w.heap.size (fun k_ => some k_ ≠ ((.slice Ao15 t296.length co15) : Value).ownBlock) (.slice Ao16 t299.length co16) t299) ∧ Aside0 (wc.heap[gb284]? = some (.cells #[.int .i64 a0_0, .int .i64 a0_1, .int .i64 a0_2, .int .i64 a0_3, .int .i64 a0_4, .int .i64 a0_5, .int .i64 a0_6, (.slice A0_7 l0_7.length c0_7), (.slice A0_8 l0_8.length c0_8), (.slice A0_9 l0_9.length c0_9)] 37 (0, 0))) ∧ Aside0 (wc.heap[gb285]? = some (.cells #[.int .i64 0, .int .i64 0, .int .i64 0, .int .i64 0, .int .i64 0, .int .i64 0, .int .i64 0, (.slice none 0 0), (.slice none 0 0), (.slice none 0 0)] 37 (0, 0))) ∧ Aside0 (wc.heap[gb302]? = some (.cells #[.int .i64 t286, .int .i64 t287, .int .i64 t288, .int .i64 t289, .int .i64 t290, .int .i64 t291, .int .i64 t292, (.slice Ao14 t293.length co14), (.slice Ao15 t296.length co15), (.slice Ao16 t299.length co16)] 37 (0, 0))) ∧ Aside0 (Below w.heap.size w wc))
 case first =>
   have H := HC4.out
   clear HC4
   replace H := Option.bind_eq_some_iff.mp H
   obtain ⟨t303, A170, H⟩ := H
   have A17 := am A170
   clear A170
   by_cases c18 : t303 = true
   rotate_left
   · replace c18 := Bool.eq_false_iff.mpr c18
     subst c18
     rw [nf] at H
     have H' := am H
     clear H
     have hnb30 := NB284_285.out
     have hnc30 := NB285_284.out
     have hnb31 := NB284_302.out
     have hnc31 := NB302_284.out
     obtain ⟨hcz32_0, hcz32_1, hcz32_2, hcz32_3, hcz32_4, hcz32_5, hcz32_6, hcz32_7, hcz32_8, hcz32_9, hfz32_0, hfz32_1, hfz32_2, hfz32_3, hfz32_4, hfz32_5, hfz32_6, hfz32_7, hfz32_8, hfz32_9⟩ := bc10f w10 BK284.out
     go_wp2_with (first | ((with_reducible refine gate_callee (f := 26) rfl ?_); refine goesL_ (some 13) rfl rfl Try.func26 kr rfl #[.agg #[.int .i64 a0_0, .int .i64 a0_1, .int .i64 a0_2, .int .i64 a0_3, .int .i64 a0_4, .int .i64 a0_5, .int .i64 a0_6, .slice A0_7 l0_7.length c0_7, .slice A0_8 l0_8.length c0_8, .slice A0_9 l0_9.length c0_9], .int .i64 a1] rfl Q3 ?_; (with_reducible refine (spec_NodeOk.calls k a0_0 a0_1 a0_2 a0_3 a0_4 a0_5 a0_6 _ _ l0_7 _ _ l0_8 _ _ l0_9 a1 false _ ?side1 ?side2 ?side3 ?side4 ?side5 ?side6 A17.out).mono ?_); (case side1 => exact (by exact Kd.C_below HR0_7.out Q0)); (case side2 => exact HC0_7.out); (case side3 => exact (by exact Kd.C_below HR0_8.out Q0)); (case side4 => exact HC0_8.out); (case side5 => exact (by exact Kd.C_below HR0_9.out Q0)); (case side6 => exact HC0_9.out); rintro e w33 ⟨rfl, hb⟩; refine ⟨_, rfl, ?_⟩; replace HO295 := am (Kd.R_below u11_5 hb); replace HO298 := am (Kd.R_below u11_6 hb); replace HO301 := am (Kd.R_below u11_7 hb); replace BK284 := am (blk_below (g := gb284) (o := .cells #[.int .i64 a0_0, .int .i64 a0_1, .int .i64 a0_2, .int .i64 a0_3, .int .i64 a0_4, .int .i64 a0_5, .int .i64 a0_6, .slice A0_7 l0_7.length c0_7, .slice A0_8 l0_8.length c0_8, .slice A0_9 l0_9.length c0_9] 37 (0, 0)) u11_2 hb); replace BK285 := am (blk_below (g := gb285) (o := .cells #[.int .i64 0, .int .i64 0, .int .i64 0, .int .i64 0, .int .i64 0, .int .i64 0, .int .i64 0, .slice none 0 0, .slice none 0 0, .slice none 0 0] 37 (0, 0)) u11_3 hb); replace BK302 := am (blk_below (g := gb302) (o := .cells #[.int .i64 t286, .int .i64 t287, .int .i64 t288, .int .i64 t289, .int .i64 t290, .int .i64 t291, .int .i64 t292, .slice Ao14 t293.length co14, .slice Ao15 t296.length co15, .slice Ao16 t299.length co16] 37 (0, 0)) u11_1 hb); replace HB := am (below_step Q0 hb); (try clear hb); (try clear hb2); (try clear hk); (try clear hi)))
     go_meet
     case rel => exact ⟨_, (true), Q2, H', ⟨by first | omega | exact Nat.le_refl _⟩, ⟨u11_20⟩, ⟨u11_21⟩, ⟨u11_22⟩, ⟨u11_4⟩, ⟨u11_8⟩, ⟨u11_10⟩, ⟨Q0⟩⟩
   subst c18
   rw [if_pos rfl] at H
   by_cases c19 : a0_3 = 2
   rotate_left
   · rw [if_neg c19] at H
     have c19b0 : (a0_3 == 2) = false := beq_eq_false_iff_ne.mpr c19
     have c19b1 : (a0_3 != 2) = true := bne_iff_ne.mpr c19
     (first | rw [c19b0] | (simp only [i64_w, i32_w]; rw [c19b0]) | skip)
     have H' := am H
     clear H
     have hnb25 := NB284_285.out
     have hnc25 := NB285_284.out
     have hnb26 := NB284_302.out
     have hnc26 := NB302_284.out
     obtain ⟨hcz27_0, hcz27_1, hcz27_2, hcz27_3, hcz27_4, hcz27_5, hcz27_6, hcz27_7, hcz27_8, hcz27_9, hfz27_0, hfz27_1, hfz27_2, hfz27_3, hfz27_4, hfz27_5, hfz27_6, hfz27_7, hfz27_8, hfz27_9⟩ := bc10f w10 BK284.out
     go_wp2_with (first | ((with_reducible refine gate_callee (f := 26) rfl ?_); refine goesL_ (some 13) rfl rfl Try.func26 kr rfl #[.agg #[.int .i64 a0_0, .int .i64 a0_1, .int .i64 a0_2, .int .i64 a0_3, .int .i64 a0_4, .int .i64 a0_5, .int .i64 a0_6, .slice A0_7 l0_7.length c0_7, .slice A0_8 l0_8.length c0_8, .slice A0_9 l0_9.length c0_9], .int .i64 a1] rfl Q3 ?_; (with_reducible refine (spec_NodeOk.calls k a0_0 a0_1 a0_2 a0_3 a0_4 a0_5 a0_6 _ _ l0_7 _ _ l0_8 _ _ l0_9 a1 true _ ?side1 ?side2 ?side3 ?side4 ?side5 ?side6 A17.out).mono ?_); (case side1 => exact (by exact Kd.C_below HR0_7.out Q0)); (case side2 => exact HC0_7.out); (case side3 => exact (by exact Kd.C_below HR0_8.out Q0)); (case side4 => exact HC0_8.out); (case side5 => exact (by exact Kd.C_below HR0_9.out Q0)); (case side6 => exact HC0_9.out); rintro e w28 ⟨rfl, hb⟩; refine ⟨_, rfl, ?_⟩; replace HO295 := am (Kd.R_below u11_5 hb); replace HO298 := am (Kd.R_below u11_6 hb); replace HO301 := am (Kd.R_below u11_7 hb); replace BK284 := am (blk_below (g := gb284) (o := .cells #[.int .i64 a0_0, .int .i64 a0_1, .int .i64 a0_2, .int .i64 a0_3, .int .i64 a0_4, .int .i64 a0_5, .int .i64 a0_6, .slice A0_7 l0_7.length c0_7, .slice A0_8 l0_8.length c0_8, .slice A0_9 l0_9.length c0_9] 37 (0, 0)) u11_2 hb); replace BK285 := am (blk_below (g := gb285) (o := .cells #[.int .i64 0, .int .i64 0, .int .i64 0, .int .i64 0, .int .i64 0, .int .i64 0, .int .i64 0, .slice none 0 0, .slice none 0 0, .slice none 0 0] 37 (0, 0)) u11_3 hb); replace BK302 := am (blk_below (g := gb302) (o := .cells #[.int .i64 t286, .int .i64 t287, .int .i64 t288, .int .i64 t289, .int .i64 t290, .int .i64 t291, .int .i64 t292, .slice Ao14 t293.length co14, .slice Ao15 t296.length co15, .slice Ao16 t299.length co16] 37 (0, 0)) u11_1 hb); replace HB := am (below_step Q0 hb); (try clear hb); (try clear hb2); (try clear hk); (try clear hi); obtain ⟨hcz29_0, hcz29_1, hcz29_2, hcz29_3, hcz29_4, hcz29_5, hcz29_6, hcz29_7, hcz29_8, hcz29_9, hfz29_0, hfz29_1, hfz29_2, hfz29_3, hfz29_4, hfz29_5, hfz29_6, hfz29_7, hfz29_8, hfz29_9⟩ := bc10f w28 BK284.out))
     go_meet
     case rel => exact ⟨_, ((a0_1 == 1000000)), Q2, H', ⟨by first | omega | exact Nat.le_refl _⟩, ⟨u11_20⟩, ⟨u11_21⟩, ⟨u11_22⟩, ⟨u11_4⟩, ⟨u11_8⟩, ⟨u11_10⟩, ⟨Q0⟩⟩
   rw [if_pos c19] at H
   have c19b0 : (a0_3 == 2) = true := beq_iff_eq.mpr c19
   have c19b1 : (a0_3 != 2) = false := bne_eq_false_iff_eq.mpr c19
   clear c19
   (first | rw [c19b0] | (simp only [i64_w, i32_w]; rw [c19b0]) | skip)
   have H' := am H
   clear H
   have hnb20 := NB284_285.out
   have hnc20 := NB285_284.out
   have hnb21 := NB284_302.out
   have hnc21 := NB302_284.out
   obtain ⟨hcz22_0, hcz22_1, hcz22_2, hcz22_3, hcz22_4, hcz22_5, hcz22_6, hcz22_7, hcz22_8, hcz22_9, hfz22_0, hfz22_1, hfz22_2, hfz22_3, hfz22_4, hfz22_5, hfz22_6, hfz22_7, hfz22_8, hfz22_9⟩ := bc10f w10 BK284.out
   go_wp2_with (first | ((with_reducible refine gate_callee (f := 26) rfl ?_); refine goesL_ (some 13) rfl rfl Try.func26 kr rfl #[.agg #[.int .i64 a0_0, .int .i64 a0_1, .int .i64 a0_2, .int .i64 a0_3, .int .i64 a0_4, .int .i64 a0_5, .int .i64 a0_6, .slice A0_7 l0_7.length c0_7, .slice A0_8 l0_8.length c0_8, .slice A0_9 l0_9.length c0_9], .int .i64 a1] rfl Q3 ?_; (with_reducible refine (spec_NodeOk.calls k a0_0 a0_1 a0_2 a0_3 a0_4 a0_5 a0_6 _ _ l0_7 _ _ l0_8 _ _ l0_9 a1 true _ ?side1 ?side2 ?side3 ?side4 ?side5 ?side6 A17.out).mono ?_); (case side1 => exact (by exact Kd.C_below HR0_7.out Q0)); (case side2 => exact HC0_7.out); (case side3 => exact (by exact Kd.C_below HR0_8.out Q0)); (case side4 => exact HC0_8.out); (case side5 => exact (by exact Kd.C_below HR0_9.out Q0)); (case side6 => exact HC0_9.out); rintro e w23 ⟨rfl, hb⟩; refine ⟨_, rfl, ?_⟩; replace HO295 := am (Kd.R_below u11_5 hb); replace HO298 := am (Kd.R_below u11_6 hb); replace HO301 := am (Kd.R_below u11_7 hb); replace BK284 := am (blk_below (g := gb284) (o := .cells #[.int .i64 a0_0, .int .i64 a0_1, .int .i64 a0_2, .int .i64 a0_3, .int .i64 a0_4, .int .i64 a0_5, .int .i64 a0_6, .slice A0_7 l0_7.length c0_7, .slice A0_8 l0_8.length c0_8, .slice A0_9 l0_9.length c0_9] 37 (0, 0)) u11_2 hb); replace BK285 := am (blk_below (g := gb285) (o := .cells #[.int .i64 0, .int .i64 0, .int .i64 0, .int .i64 0, .int .i64 0, .int .i64 0, .int .i64 0, .slice none 0 0, .slice none 0 0, .slice none 0 0] 37 (0, 0)) u11_3 hb); replace BK302 := am (blk_below (g := gb302) (o := .cells #[.int .i64 t286, .int .i64 t287, .int .i64 t288, .int .i64 t289, .int .i64 t290, .int .i64 t291, .int .i64 t292, .slice Ao14 t293.length co14, .slice Ao15 t296.length co15, .slice Ao16 t299.length co16] 37 (0, 0)) u11_1 hb); replace HB := am (below_step Q0 hb); (try clear hb); (try clear hb2); (try clear hk); (try clear hi); obtain ⟨hcz24_0, hcz24_1, hcz24_2, hcz24_3, hcz24_4, hcz24_5, hcz24_6, hcz24_7, hcz24_8, hcz24_9, hfz24_0, hfz24_1, hfz24_2, hfz24_3, hfz24_4, hfz24_5, hfz24_6, hfz24_7, hfz24_8, hfz24_9⟩ := bc10f w23 BK284.out))
   go_meet
   case rel => exact ⟨_, (true), Q2, H', ⟨by first | omega | exact Nat.le_refl _⟩, ⟨u11_20⟩, ⟨u11_21⟩, ⟨u11_22⟩, ⟨u11_4⟩, ⟨u11_8⟩, ⟨u11_10⟩, ⟨Q0⟩⟩
 clear HC4
 try clear hcz13_0
 try clear hcz13_1
 try clear hcz13_2
 try clear hcz13_3
 try clear hcz13_4
 try clear hcz13_5
 try clear hcz13_6
 try clear hcz13_7
 try clear hcz13_8
 try clear hcz13_9
 try clear hcz8_0
 try clear hcz8_1
 try clear hcz8_2
 try clear hcz8_3
 try clear hcz8_4
 try clear hcz8_5
 try clear hcz8_6
 try clear hcz8_7
 try clear hcz8_8
 try clear hcz8_9
 try clear hfz13_0
 try clear hfz13_1
 try clear hfz13_2
 try clear hfz13_3
 try clear hfz13_4
 try clear hfz13_5
 try clear hfz13_6
 try clear hfz13_7
 try clear hfz13_8
 try clear hfz13_9
 try clear hfz8_0
 try clear hfz8_1
 try clear hfz8_2
 try clear hfz8_3
 try clear hfz8_4
 try clear hfz8_5
 try clear hfz8_6
 try clear hfz8_7
 try clear hfz8_8
 try clear hfz8_9
 obtain ⟨kq, x24_3, rfl, HA, HJ3, HO_303007, HO_303008, HO_303009, BK284, BK285, BK302, HB⟩ := hcut
 cases kq with
 | zero => exact absurd HA.out (by simp [spec_Elect.j0])
 | succ kj3 =>
   have H := HA.out
   clear HA
   simp only [spec_Elect.j0] at H
   by_cases c34 : x24_3 = true
   · subst c34
     rw [if_pos rfl] at H
     simp only [Option.some.injEq, Prod.mk.injEq] at H
     obtain ⟨rfl, rfl, rfl, rfl, rfl, rfl, rfl, rfl, rfl, rfl, rfl⟩ := H
     have hnb35 := NB302_284.out
     have hnc35 := NB284_302.out
     have hnb36 := NB302_285.out
     have hnc36 := NB285_302.out
     obtain ⟨hcz37_0, hcz37_1, hcz37_2, hcz37_3, hcz37_4, hcz37_5, hcz37_6, hcz37_7, hcz37_8, hcz37_9, hfz37_0, hfz37_1, hfz37_2, hfz37_3, hfz37_4, hfz37_5, hfz37_6, hfz37_7, hfz37_8, hfz37_9⟩ := bc10f wc BK302.out
     have hnb38 := NB285_284.out
     have hnc38 := NB284_285.out
     obtain ⟨hcz39_0, hcz39_1, hcz39_2, hcz39_3, hcz39_4, hcz39_5, hcz39_6, hcz39_7, hcz39_8, hcz39_9, hfz39_0, hfz39_1, hfz39_2, hfz39_3, hfz39_4, hfz39_5, hfz39_6, hfz39_7, hfz39_8, hfz39_9⟩ := bc10f wc BK285.out
     go_wp2
     refine bodyPost_ret (results_ct rfl _ _ gb285 37 #[.int .i64 t286, .int .i64 t287, .int .i64 t288, .int .i64 t289, .int .i64 t290, .int .i64 t291, .int .i64 t292, .slice Ao14 t293.length co14, .slice Ao15 t296.length co15, .slice Ao16 t299.length co16] (0, 0) _ rfl (by (with_reducible repeat (first | refine blk_drewN ?_ _ | refine blk_drew ?_ | refine blk_alloc ?_ _)); refine blk_put (cs := #[.int .i64 t286, .int .i64 t287, .int .i64 t288, .int .i64 t289, .int .i64 t290, .int .i64 t291, .int .i64 t292, .slice Ao14 t293.length co14, .slice Ao15 t296.length co15, .slice none 0 0]) ?_ 9 _ rfl; (with_reducible repeat (first | refine blk_drewN ?_ _ | refine blk_drew ?_ | refine blk_alloc ?_ _)); refine blk_put (cs := #[.int .i64 t286, .int .i64 t287, .int .i64 t288, .int .i64 t289, .int .i64 t290, .int .i64 t291, .int .i64 t292, .slice Ao14 t293.length co14, .slice none 0 0, .slice none 0 0]) ?_ 8 _ rfl; (with_reducible repeat (first | refine blk_drewN ?_ _ | refine blk_drew ?_ | refine blk_alloc ?_ _)); refine blk_put (cs := #[.int .i64 t286, .int .i64 t287, .int .i64 t288, .int .i64 t289, .int .i64 t290, .int .i64 t291, .int .i64 t292, .slice none 0 0, .slice none 0 0, .slice none 0 0]) ?_ 7 _ rfl; (with_reducible repeat (first | refine blk_drewN ?_ _ | refine blk_drew ?_ | refine blk_alloc ?_ _)); refine blk_put (cs := #[.int .i64 t286, .int .i64 t287, .int .i64 t288, .int .i64 t289, .int .i64 t290, .int .i64 t291, .int .i64 0, .slice none 0 0, .slice none 0 0, .slice none 0 0]) ?_ 6 _ rfl; (with_reducible repeat (first | refine blk_drewN ?_ _ | refine blk_drew ?_ | refine blk_alloc ?_ _)); refine blk_put (cs := #[.int .i64 t286, .int .i64 t287, .int .i64 t288, .int .i64 t289, .int .i64 t290, .int .i64 0, .int .i64 0, .slice none 0 0, .slice none 0 0, .slice none 0 0]) ?_ 5 _ rfl; (with_reducible repeat (first | refine blk_drewN ?_ _ | refine blk_drew ?_ | refine blk_alloc ?_ _)); refine blk_put (cs := #[.int .i64 t286, .int .i64 t287, .int .i64 t288, .int .i64 t289, .int .i64 0, .int .i64 0, .int .i64 0, .slice none 0 0, .slice none 0 0, .slice none 0 0]) ?_ 4 _ rfl; (with_reducible repeat (first | refine blk_drewN ?_ _ | refine blk_drew ?_ | refine blk_alloc ?_ _)); refine blk_put (cs := #[.int .i64 t286, .int .i64 t287, .int .i64 t288, .int .i64 0, .int .i64 0, .int .i64 0, .int .i64 0, .slice none 0 0, .slice none 0 0, .slice none 0 0]) ?_ 3 _ rfl; (with_reducible repeat (first | refine blk_drewN ?_ _ | refine blk_drew ?_ | refine blk_alloc ?_ _)); refine blk_put (cs := #[.int .i64 t286, .int .i64 t287, .int .i64 0, .int .i64 0, .int .i64 0, .int .i64 0, .int .i64 0, .slice none 0 0, .slice none 0 0, .slice none 0 0]) ?_ 2 _ rfl; (with_reducible repeat (first | refine blk_drewN ?_ _ | refine blk_drew ?_ | refine blk_alloc ?_ _)); refine blk_put (cs := #[.int .i64 t286, .int .i64 0, .int .i64 0, .int .i64 0, .int .i64 0, .int .i64 0, .int .i64 0, .slice none 0 0, .slice none 0 0, .slice none 0 0]) ?_ 1 _ rfl; (with_reducible repeat (first | refine blk_drewN ?_ _ | refine blk_drew ?_ | refine blk_alloc ?_ _)); refine blk_put (cs := #[.int .i64 0, .int .i64 0, .int .i64 0, .int .i64 0, .int .i64 0, .int .i64 0, .int .i64 0, .slice none 0 0, .slice none 0 0, .slice none 0 0]) ?_ 0 _ rfl; (with_reducible repeat (first | refine blk_drewN ?_ _ | refine blk_drew ?_ | refine blk_alloc ?_ _)); exact BK285.out) Try.underlying37 rfl kr) rfl ?_
     exact ⟨_, _, _, _, er, (by (with_reducible repeat (first | apply Kd.R_alloc | apply Kd.R_drewN | apply Kd.R_drew)); exact Kd.R_mono (Kd.R_far (p := ⟨gb285, 9, none⟩) (Kd.R_far (p := ⟨gb285, 8, none⟩) (Kd.R_far (p := ⟨gb285, 7, none⟩) (Kd.R_far (p := ⟨gb285, 6, none⟩) (Kd.R_far (p := ⟨gb285, 5, none⟩) (Kd.R_far (p := ⟨gb285, 4, none⟩) (Kd.R_far (p := ⟨gb285, 3, none⟩) (Kd.R_far (p := ⟨gb285, 2, none⟩) (Kd.R_far (p := ⟨gb285, 1, none⟩) (Kd.R_far (p := ⟨gb285, 0, none⟩) (Kd.R_types HO_303007.out BK285.out (by decide)) (fun _ hk => hk.2) (.int .i64 t286)) (fun _ hk => hk.2) (.int .i64 t287)) (fun _ hk => hk.2) (.int .i64 t288)) (fun _ hk => hk.2) (.int .i64 t289)) (fun _ hk => hk.2) (.int .i64 t290)) (fun _ hk => hk.2) (.int .i64 t291)) (fun _ hk => hk.2) (.int .i64 t292)) (fun _ hk => hk.2) (.slice Ao14 t293.length co14)) (fun _ hk => hk.2) (.slice Ao15 t296.length co15)) (fun _ hk => hk.2) (.slice Ao16 t299.length co16)) (fun _ hk => trivial)), (by (with_reducible repeat (first | apply Kd.R_alloc | apply Kd.R_drewN | apply Kd.R_drew)); exact Kd.R_mono (Kd.R_far (p := ⟨gb285, 9, none⟩) (Kd.R_far (p := ⟨gb285, 8, none⟩) (Kd.R_far (p := ⟨gb285, 7, none⟩) (Kd.R_far (p := ⟨gb285, 6, none⟩) (Kd.R_far (p := ⟨gb285, 5, none⟩) (Kd.R_far (p := ⟨gb285, 4, none⟩) (Kd.R_far (p := ⟨gb285, 3, none⟩) (Kd.R_far (p := ⟨gb285, 2, none⟩) (Kd.R_far (p := ⟨gb285, 1, none⟩) (Kd.R_far (p := ⟨gb285, 0, none⟩) (Kd.R_types HO_303008.out BK285.out (by decide)) (fun _ hk => hk.2) (.int .i64 t286)) (fun _ hk => hk.2) (.int .i64 t287)) (fun _ hk => hk.2) (.int .i64 t288)) (fun _ hk => hk.2) (.int .i64 t289)) (fun _ hk => hk.2) (.int .i64 t290)) (fun _ hk => hk.2) (.int .i64 t291)) (fun _ hk => hk.2) (.int .i64 t292)) (fun _ hk => hk.2) (.slice Ao14 t293.length co14)) (fun _ hk => hk.2) (.slice Ao15 t296.length co15)) (fun _ hk => hk.2) (.slice Ao16 t299.length co16)) (fun _ hk => hk.1)), (by (with_reducible repeat (first | apply Kd.R_alloc | apply Kd.R_drewN | apply Kd.R_drew)); exact Kd.R_mono (Kd.R_far (p := ⟨gb285, 9, none⟩) (Kd.R_far (p := ⟨gb285, 8, none⟩) (Kd.R_far (p := ⟨gb285, 7, none⟩) (Kd.R_far (p := ⟨gb285, 6, none⟩) (Kd.R_far (p := ⟨gb285, 5, none⟩) (Kd.R_far (p := ⟨gb285, 4, none⟩) (Kd.R_far (p := ⟨gb285, 3, none⟩) (Kd.R_far (p := ⟨gb285, 2, none⟩) (Kd.R_far (p := ⟨gb285, 1, none⟩) (Kd.R_far (p := ⟨gb285, 0, none⟩) (Kd.R_types HO_303009.out BK285.out (by decide)) (fun _ hk => hk.2) (.int .i64 t286)) (fun _ hk => hk.2) (.int .i64 t287)) (fun _ hk => hk.2) (.int .i64 t288)) (fun _ hk => hk.2) (.int .i64 t289)) (fun _ hk => hk.2) (.int .i64 t290)) (fun _ hk => hk.2) (.int .i64 t291)) (fun _ hk => hk.2) (.int .i64 t292)) (fun _ hk => hk.2) (.slice Ao14 t293.length co14)) (fun _ hk => hk.2) (.slice Ao15 t296.length co15)) (fun _ hk => hk.2) (.slice Ao16 t299.length co16)) (fun _ hk => hk.1)), Q12, Q0⟩
   replace c34 := Bool.eq_false_iff.mpr c34
   subst c34
   rw [nf] at H
   have H9 := am H
   clear H
   have hnb40 := NB284_285.out
   have hnc40 := NB285_284.out
   have hnb41 := NB284_302.out
   have hnc41 := NB302_284.out
   obtain ⟨hcz42_0, hcz42_1, hcz42_2, hcz42_3, hcz42_4, hcz42_5, hcz42_6, hcz42_7, hcz42_8, hcz42_9, hfz42_0, hfz42_1, hfz42_2, hfz42_3, hfz42_4, hfz42_5, hfz42_6, hfz42_7, hfz42_8, hfz42_9⟩ := bc10f wc BK284.out
   have hnb43 := NB302_285.out
   have hnc43 := NB285_302.out
   obtain ⟨hcz44_0, hcz44_1, hcz44_2, hcz44_3, hcz44_4, hcz44_5, hcz44_6, hcz44_7, hcz44_8, hcz44_9, hfz44_0, hfz44_1, hfz44_2, hfz44_3, hfz44_4, hfz44_5, hfz44_6, hfz44_7, hfz44_8, hfz44_9⟩ := bc10f wc BK302.out
   go_upto_if 34 with (fail)
   have H := H9.out
   clear H9
   by_cases c45 : a1 = 1
   · rw [if_pos c45] at H
     have c45b0 : (a1 == 1) = true := beq_iff_eq.mpr c45
     have c45b1 : (a1 != 1) = false := bne_eq_false_iff_eq.mpr c45
     clear c45
     (first | rw [c45b0] | (simp only [i64_w, i32_w]; rw [c45b0]) | skip)
     replace H := Option.bind_eq_some_iff.mp H
     obtain ⟨⟨t304, t305, t306, t307, t308, t309, t310, t311, t314, t317⟩, A460, H⟩ := H
     (try dsimp only at H)
     have A46 := am A460
     clear A460
     simp only [Option.some.injEq, Prod.mk.injEq] at H
     obtain ⟨rfl, rfl, rfl, rfl, rfl, rfl, rfl, rfl, rfl, rfl, rfl⟩ := H
     have hnb47 := NB302_284.out
     have hnc47 := NB284_302.out
     have hnb48 := NB302_285.out
     have hnc48 := NB285_302.out
     obtain ⟨hcz49_0, hcz49_1, hcz49_2, hcz49_3, hcz49_4, hcz49_5, hcz49_6, hcz49_7, hcz49_8, hcz49_9, hfz49_0, hfz49_1, hfz49_2, hfz49_3, hfz49_4, hfz49_5, hfz49_6, hfz49_7, hfz49_8, hfz49_9⟩ := bc10f wc BK302.out
     have n0_ : Aside0 (Kd.R k85 85 ((wc.setCell ⟨gb302, 1, none⟩ (.int .i64 (wrap64 (a0_1 + 1)))).setCell ⟨gb302, 2, none⟩ (.int .i64 a0_0)) w.heap.size (fun _ => True) (.slice Ao14 t293.length co14) t293) := ⟨by (with_reducible repeat (first | apply Kd.R_alloc | apply Kd.R_drewN | apply Kd.R_drew)); exact Kd.R_mono (Kd.R_far (p := ⟨gb302, 2, none⟩) (Kd.R_far (p := ⟨gb302, 1, none⟩) (Kd.R_types HO_303007.out BK302.out (by decide)) (fun _ hk => hk.2) (.int .i64 (wrap64 (a0_1 + 1)))) (fun _ hk => hk.2) (.int .i64 a0_0)) (fun _ hk => trivial)⟩
     have n1_ : Aside0 (Kd.R (Kd.int .i64) 3 ((wc.setCell ⟨gb302, 1, none⟩ (.int .i64 (wrap64 (a0_1 + 1)))).setCell ⟨gb302, 2, none⟩ (.int .i64 a0_0)) w.heap.size (fun k_ => some k_ ≠ (.slice Ao16 t299.length co16 : Value).ownBlock) (.slice Ao15 t296.length co15) t296) := ⟨by (with_reducible repeat (first | apply Kd.R_alloc | apply Kd.R_drewN | apply Kd.R_drew)); exact Kd.R_mono (Kd.R_far (p := ⟨gb302, 2, none⟩) (Kd.R_far (p := ⟨gb302, 1, none⟩) (Kd.R_types HO_303008.out BK302.out (by decide)) (fun _ hk => hk.2) (.int .i64 (wrap64 (a0_1 + 1)))) (fun _ hk => hk.2) (.int .i64 a0_0)) (fun _ hk => hk.1)⟩
     have n2_ : Aside0 (Kd.R (Kd.int .i64) 3 ((wc.setCell ⟨gb302, 1, none⟩ (.int .i64 (wrap64 (a0_1 + 1)))).setCell ⟨gb302, 2, none⟩ (.int .i64 a0_0)) w.heap.size (fun k_ => some k_ ≠ (.slice Ao15 t296.length co15 : Value).ownBlock) (.slice Ao16 t299.length co16) t299) := ⟨by (with_reducible repeat (first | apply Kd.R_alloc | apply Kd.R_drewN | apply Kd.R_drew)); exact Kd.R_mono (Kd.R_far (p := ⟨gb302, 2, none⟩) (Kd.R_far (p := ⟨gb302, 1, none⟩) (Kd.R_types HO_303009.out BK302.out (by decide)) (fun _ hk => hk.2) (.int .i64 (wrap64 (a0_1 + 1)))) (fun _ hk => hk.2) (.int .i64 a0_0)) (fun _ hk => hk.1)⟩
     have n3_ : Aside0 (((wc.setCell ⟨gb302, 1, none⟩ (.int .i64 (wrap64 (a0_1 + 1)))).setCell ⟨gb302, 2, none⟩ (.int .i64 a0_0)).heap[gb284]? = some (.cells #[.int .i64 a0_0, .int .i64 a0_1, .int .i64 a0_2, .int .i64 a0_3, .int .i64 a0_4, .int .i64 a0_5, .int .i64 a0_6, .slice A0_7 l0_7.length c0_7, .slice A0_8 l0_8.length c0_8, .slice A0_9 l0_9.length c0_9] 37 (0, 0))) := ⟨by (with_reducible repeat (first | refine blk_drewN ?_ _ | refine blk_drew ?_ | refine blk_alloc ?_ _)); refine blk_far ?_ NB284_302.out _; (with_reducible repeat (first | refine blk_drewN ?_ _ | refine blk_drew ?_ | refine blk_alloc ?_ _)); refine blk_far ?_ NB284_302.out _; (with_reducible repeat (first | refine blk_drewN ?_ _ | refine blk_drew ?_ | refine blk_alloc ?_ _)); exact BK284.out⟩
     have n4_ : Aside0 (((wc.setCell ⟨gb302, 1, none⟩ (.int .i64 (wrap64 (a0_1 + 1)))).setCell ⟨gb302, 2, none⟩ (.int .i64 a0_0)).heap[gb285]? = some (.cells #[.int .i64 0, .int .i64 0, .int .i64 0, .int .i64 0, .int .i64 0, .int .i64 0, .int .i64 0, .slice none 0 0, .slice none 0 0, .slice none 0 0] 37 (0, 0))) := ⟨by (with_reducible repeat (first | refine blk_drewN ?_ _ | refine blk_drew ?_ | refine blk_alloc ?_ _)); refine blk_far ?_ NB285_302.out _; (with_reducible repeat (first | refine blk_drewN ?_ _ | refine blk_drew ?_ | refine blk_alloc ?_ _)); refine blk_far ?_ NB285_302.out _; (with_reducible repeat (first | refine blk_drewN ?_ _ | refine blk_drew ?_ | refine blk_alloc ?_ _)); exact BK285.out⟩
     have n5_ : Aside0 (((wc.setCell ⟨gb302, 1, none⟩ (.int .i64 (wrap64 (a0_1 + 1)))).setCell ⟨gb302, 2, none⟩ (.int .i64 a0_0)).heap[gb302]? = some (.cells #[.int .i64 t286, .int .i64 (wrap64 (a0_1 + 1)), .int .i64 a0_0, .int .i64 t289, .int .i64 t290, .int .i64 t291, .int .i64 t292, .slice Ao14 t293.length co14, .slice Ao15 t296.length co15, .slice Ao16 t299.length co16] 37 (0, 0))) := ⟨by (with_reducible repeat (first | refine blk_drewN ?_ _ | refine blk_drew ?_ | refine blk_alloc ?_ _)); refine blk_put (cs := #[.int .i64 t286, .int .i64 (wrap64 (a0_1 + 1)), .int .i64 t288, .int .i64 t289, .int .i64 t290, .int .i64 t291, .int .i64 t292, .slice Ao14 t293.length co14, .slice Ao15 t296.length co15, .slice Ao16 t299.length co16]) ?_ 2 _ rfl; (with_reducible repeat (first | refine blk_drewN ?_ _ | refine blk_drew ?_ | refine blk_alloc ?_ _)); refine blk_put (cs := #[.int .i64 t286, .int .i64 t287, .int .i64 t288, .int .i64 t289, .int .i64 t290, .int .i64 t291, .int .i64 t292, .slice Ao14 t293.length co14, .slice Ao15 t296.length co15, .slice Ao16 t299.length co16]) ?_ 1 _ rfl; (with_reducible repeat (first | refine blk_drewN ?_ _ | refine blk_drew ?_ | refine blk_alloc ?_ _)); exact BK302.out⟩
     have n6_ : Aside0 (Below w.heap.size w ((wc.setCell ⟨gb302, 1, none⟩ (.int .i64 (wrap64 (a0_1 + 1)))).setCell ⟨gb302, 2, none⟩ (.int .i64 a0_0))) := ⟨by repeat (first | (with_reducible first | exact HB.out | apply below_alloc | apply pw_below_drewN | apply below_drew1 | refine below_set ?_ GE284.out | refine below_set ?_ GE285.out | refine below_set ?_ GE302.out) | exact HB.out)⟩
     (try clear HO_303007)
     (try clear HO_303008)
     (try clear HO_303009)
     (try clear BK284)
     (try clear BK285)
     (try clear BK302)
     (try clear HB)
     generalize ((wc.setCell ⟨gb302, 1, none⟩ (.int .i64 (wrap64 (a0_1 + 1)))).setCell ⟨gb302, 2, none⟩ (.int .i64 a0_0)) = w50 at n0_ n1_ n2_ n3_ n4_ n5_ n6_ ⊢
     have HO_303007 := n0_
     have HO_303008 := n1_
     have HO_303009 := n2_
     have BK284 := n3_
     have BK285 := n4_
     have BK302 := n5_
     have HB := n6_
     clear n0_ n1_ n2_ n3_ n4_ n5_ n6_
     obtain ⟨hcy_0, hcy_1, hcy_2, hcy_3, hcy_4, hcy_5, hcy_6, hcy_7, hcy_8, hcy_9, hfy_0, hfy_1, hfy_2, hfy_3, hfy_4, hfy_5, hfy_6, hfy_7, hfy_8, hfy_9⟩ := bc10f w50 BK302.out
     go_wp2_with (first | ((with_reducible refine gate_callee (f := 99) rfl ?_); refine goesL_ (some 37) rfl rfl Try.func99 kr rfl #[.agg #[.int .i64 t286, .int .i64 (wrap64 (a0_1 + 1)), .int .i64 a0_0, .int .i64 t289, .int .i64 t290, .int .i64 t291, .int .i64 t292, .slice Ao14 t293.length co14, .slice Ao15 t296.length co15, .slice Ao16 t299.length co16], .int .i64 a1] rfl Q3 ?_; (with_reducible refine (spec_l07Lead.calls kj3 t286 (wrap64 (a0_1 + 1)) a0_0 t289 t290 t291 t292 (fun k_ => some k_ = (.slice Ao14 t293.length co14 : Value).ownBlock) (.slice Ao14 t293.length co14) t293 _ _ t296 _ _ t299 a1 t304 t305 t306 t307 t308 t309 t310 t311 t314 t317 w _ ?side1 ?side2 ?side3 ?side4 ?side5 ?side6 A46.out).mono ?_); (case side1 => exact Q0); (case side2 => exact Kd.R_tight rfl HO_303007.out); (case side3 => exact (by exact Kd.C_kept_own ((Kd.R_apart' HO_303008.out (Kd.R_typed HO_303007.out) (by decide))) (fun k_ hk_ hs_ => (hk_.2) hs_))); (case side4 => exact (Kd.R_reads' HO_303008.out).2.1); (case side5 => exact (by exact Kd.C_kept_own ((Kd.R_apart' HO_303009.out (Kd.R_typed HO_303007.out) (by decide))) (fun k_ hk_ hs_ => (hk_.2) hs_))); (case side6 => exact (Kd.R_reads' HO_303009.out).2.1); rintro e w51 ⟨v312, v315, v318, rfl, ho0, ho1, ho2, hb, hkp⟩; refine ⟨_, rfl, ?_⟩; replace BK284 := am (blk_kept u11_4 hkp (fun hs_ => (fun e_ => (Kd.R_ne HO_303007.out BK284.out (by decide)) e_) hs_)); replace BK285 := am (blk_kept u11_8 hkp (fun hs_ => (fun e_ => (Kd.R_ne HO_303007.out BK285.out (by decide)) e_) hs_)); replace BK302 := am (blk_kept u11_10 hkp (fun hs_ => (fun e_ => (Kd.R_ne HO_303007.out BK302.out (by decide)) e_) hs_)); have HO313 := am (Kd.R_mono (ok' := fun k_ => True) ho0 (fun k_ hk_ => trivial)); have HO316 := am (Kd.R_mono (ok' := fun k_ => some k_ ≠ (v318 : Value).ownBlock ∧ some k_ ≠ (.slice Ao15 t296.length co15 : Value).ownBlock ∧ some k_ ≠ (.slice Ao16 t299.length co16 : Value).ownBlock) ho1 (fun k_ hk_ => ⟨hk_.2, Or.elim hk_.1 (fun hs_ => fun e_ => ((((Kd.R_apart' HO_303008.out (Kd.R_typed HO_303007.out) (by decide))).1 k_ e_.symm).2) hs_) (fun hn_ => (Kd.fresh' (Kd.R_lt u11_12) k_ hn_)), Or.elim hk_.1 (fun hs_ => fun e_ => ((((Kd.R_apart' HO_303009.out (Kd.R_typed HO_303007.out) (by decide))).1 k_ e_.symm).2) hs_) (fun hn_ => (Kd.fresh' (Kd.R_lt u11_13) k_ hn_))⟩)); have HO319 := am (Kd.R_mono (ok' := fun k_ => some k_ ≠ (v315 : Value).ownBlock ∧ some k_ ≠ (.slice Ao15 t296.length co15 : Value).ownBlock ∧ some k_ ≠ (.slice Ao16 t299.length co16 : Value).ownBlock) ho2 (fun k_ hk_ => ⟨hk_.2, Or.elim hk_.1 (fun hs_ => fun e_ => ((((Kd.R_apart' HO_303008.out (Kd.R_typed HO_303007.out) (by decide))).1 k_ e_.symm).2) hs_) (fun hn_ => (Kd.fresh' (Kd.R_lt u11_12) k_ hn_)), Or.elim hk_.1 (fun hs_ => fun e_ => ((((Kd.R_apart' HO_303009.out (Kd.R_typed HO_303007.out) (by decide))).1 k_ e_.symm).2) hs_) (fun hn_ => (Kd.fresh' (Kd.R_lt u11_13) k_ hn_))⟩)); replace HO_303008 := am (Kd.R_mono (ok' := fun k_ => some k_ ≠ (.slice Ao16 t299.length co16 : Value).ownBlock ∧ some k_ ≠ (v315 : Value).ownBlock ∧ some k_ ≠ (v318 : Value).ownBlock) (Kd.R_keptB ((Kd.R_apart' HO_303008.out (Kd.R_typed HO_303007.out) (by decide))) hkp (fun k_ hk_ hs_ => (hk_.2) hs_)) (fun k_ hk_ => ⟨hk_.1.1, fun e_ => Or.elim (ho1.1 k_ e_.symm).1 (fun hs_ => hk_.2.1 hs_) (fun hn_ => Nat.not_le.2 hk_.2.2 hn_), fun e_ => Or.elim (ho2.1 k_ e_.symm).1 (fun hs_ => hk_.2.1 hs_) (fun hn_ => Nat.not_le.2 hk_.2.2 hn_)⟩)); replace HO_303009 := am (Kd.R_mono (ok' := fun k_ => some k_ ≠ (.slice Ao15 t296.length co15 : Value).ownBlock ∧ some k_ ≠ (v315 : Value).ownBlock ∧ some k_ ≠ (v318 : Value).ownBlock) (Kd.R_keptB ((Kd.R_apart' HO_303009.out (Kd.R_typed HO_303007.out) (by decide))) hkp (fun k_ hk_ hs_ => (hk_.2) hs_)) (fun k_ hk_ => ⟨hk_.1.1, fun e_ => Or.elim (ho1.1 k_ e_.symm).1 (fun hs_ => hk_.2.1 hs_) (fun hn_ => Nat.not_le.2 hk_.2.2 hn_), fun e_ => Or.elim (ho2.1 k_ e_.symm).1 (fun hs_ => hk_.2.1 hs_) (fun hn_ => Nat.not_le.2 hk_.2.2 hn_)⟩)); replace HB := am (hb); clear HO_303007; (try clear hb); (try clear hkp); (try clear ho0); (try clear ho1); (try clear ho2); have hnb52 := NB285_284.out; have hnc52 := NB284_285.out; obtain ⟨hcz53_0, hcz53_1, hcz53_2, hcz53_3, hcz53_4, hcz53_5, hcz53_6, hcz53_7, hcz53_8, hcz53_9, hfz53_0, hfz53_1, hfz53_2, hfz53_3, hfz53_4, hfz53_5, hfz53_6, hfz53_7, hfz53_8, hfz53_9⟩ := bc10f w51 BK285.out; obtain ⟨Ao54, co54, eo54⟩ := Kd.R_slice HO313.out; subst eo54; obtain ⟨Ao55, co55, eo55⟩ := Kd.R_slice HO316.out; subst eo55; obtain ⟨Ao56, co56, eo56⟩ := Kd.R_slice HO319.out; subst eo56))
     refine bodyPost_ret (results_ct rfl _ _ gb285 37 #[.int .i64 t304, .int .i64 t305, .int .i64 t306, .int .i64 t307, .int .i64 t308, .int .i64 t309, .int .i64 t310, .slice Ao54 t311.length co54, .slice Ao55 t314.length co55, .slice Ao56 t317.length co56] (0, 0) _ rfl (by (with_reducible repeat (first | refine blk_drewN ?_ _ | refine blk_drew ?_ | refine blk_alloc ?_ _)); refine blk_put (cs := #[.int .i64 t304, .int .i64 t305, .int .i64 t306, .int .i64 t307, .int .i64 t308, .int .i64 t309, .int .i64 t310, .slice Ao54 t311.length co54, .slice Ao55 t314.length co55, .slice none 0 0]) ?_ 9 _ rfl; (with_reducible repeat (first | refine blk_drewN ?_ _ | refine blk_drew ?_ | refine blk_alloc ?_ _)); refine blk_put (cs := #[.int .i64 t304, .int .i64 t305, .int .i64 t306, .int .i64 t307, .int .i64 t308, .int .i64 t309, .int .i64 t310, .slice Ao54 t311.length co54, .slice none 0 0, .slice none 0 0]) ?_ 8 _ rfl; (with_reducible repeat (first | refine blk_drewN ?_ _ | refine blk_drew ?_ | refine blk_alloc ?_ _)); refine blk_put (cs := #[.int .i64 t304, .int .i64 t305, .int .i64 t306, .int .i64 t307, .int .i64 t308, .int .i64 t309, .int .i64 t310, .slice none 0 0, .slice none 0 0, .slice none 0 0]) ?_ 7 _ rfl; (with_reducible repeat (first | refine blk_drewN ?_ _ | refine blk_drew ?_ | refine blk_alloc ?_ _)); refine blk_put (cs := #[.int .i64 t304, .int .i64 t305, .int .i64 t306, .int .i64 t307, .int .i64 t308, .int .i64 t309, .int .i64 0, .slice none 0 0, .slice none 0 0, .slice none 0 0]) ?_ 6 _ rfl; (with_reducible repeat (first | refine blk_drewN ?_ _ | refine blk_drew ?_ | refine blk_alloc ?_ _)); refine blk_put (cs := #[.int .i64 t304, .int .i64 t305, .int .i64 t306, .int .i64 t307, .int .i64 t308, .int .i64 0, .int .i64 0, .slice none 0 0, .slice none 0 0, .slice none 0 0]) ?_ 5 _ rfl; (with_reducible repeat (first | refine blk_drewN ?_ _ | refine blk_drew ?_ | refine blk_alloc ?_ _)); refine blk_put (cs := #[.int .i64 t304, .int .i64 t305, .int .i64 t306, .int .i64 t307, .int .i64 0, .int .i64 0, .int .i64 0, .slice none 0 0, .slice none 0 0, .slice none 0 0]) ?_ 4 _ rfl; (with_reducible repeat (first | refine blk_drewN ?_ _ | refine blk_drew ?_ | refine blk_alloc ?_ _)); refine blk_put (cs := #[.int .i64 t304, .int .i64 t305, .int .i64 t306, .int .i64 0, .int .i64 0, .int .i64 0, .int .i64 0, .slice none 0 0, .slice none 0 0, .slice none 0 0]) ?_ 3 _ rfl; (with_reducible repeat (first | refine blk_drewN ?_ _ | refine blk_drew ?_ | refine blk_alloc ?_ _)); refine blk_put (cs := #[.int .i64 t304, .int .i64 t305, .int .i64 0, .int .i64 0, .int .i64 0, .int .i64 0, .int .i64 0, .slice none 0 0, .slice none 0 0, .slice none 0 0]) ?_ 2 _ rfl; (with_reducible repeat (first | refine blk_drewN ?_ _ | refine blk_drew ?_ | refine blk_alloc ?_ _)); refine blk_put (cs := #[.int .i64 t304, .int .i64 0, .int .i64 0, .int .i64 0, .int .i64 0, .int .i64 0, .int .i64 0, .slice none 0 0, .slice none 0 0, .slice none 0 0]) ?_ 1 _ rfl; (with_reducible repeat (first | refine blk_drewN ?_ _ | refine blk_drew ?_ | refine blk_alloc ?_ _)); refine blk_put (cs := #[.int .i64 0, .int .i64 0, .int .i64 0, .int .i64 0, .int .i64 0, .int .i64 0, .int .i64 0, .slice none 0 0, .slice none 0 0, .slice none 0 0]) ?_ 0 _ rfl; (with_reducible repeat (first | refine blk_drewN ?_ _ | refine blk_drew ?_ | refine blk_alloc ?_ _)); exact BK285.out) Try.underlying37 rfl kr) rfl ?_
     exact ⟨_, _, _, _, er, (by (with_reducible repeat (first | apply Kd.R_alloc | apply Kd.R_drewN | apply Kd.R_drew)); exact Kd.R_mono (Kd.R_far (p := ⟨gb285, 9, none⟩) (Kd.R_far (p := ⟨gb285, 8, none⟩) (Kd.R_far (p := ⟨gb285, 7, none⟩) (Kd.R_far (p := ⟨gb285, 6, none⟩) (Kd.R_far (p := ⟨gb285, 5, none⟩) (Kd.R_far (p := ⟨gb285, 4, none⟩) (Kd.R_far (p := ⟨gb285, 3, none⟩) (Kd.R_far (p := ⟨gb285, 2, none⟩) (Kd.R_far (p := ⟨gb285, 1, none⟩) (Kd.R_far (p := ⟨gb285, 0, none⟩) (Kd.R_types HO313.out BK285.out (by decide)) (fun _ hk => hk.2) (.int .i64 t304)) (fun _ hk => hk.2) (.int .i64 t305)) (fun _ hk => hk.2) (.int .i64 t306)) (fun _ hk => hk.2) (.int .i64 t307)) (fun _ hk => hk.2) (.int .i64 t308)) (fun _ hk => hk.2) (.int .i64 t309)) (fun _ hk => hk.2) (.int .i64 t310)) (fun _ hk => hk.2) (.slice Ao54 t311.length co54)) (fun _ hk => hk.2) (.slice Ao55 t314.length co55)) (fun _ hk => hk.2) (.slice Ao56 t317.length co56)) (fun _ hk => trivial)), (by (with_reducible repeat (first | apply Kd.R_alloc | apply Kd.R_drewN | apply Kd.R_drew)); exact Kd.R_mono (Kd.R_far (p := ⟨gb285, 9, none⟩) (Kd.R_far (p := ⟨gb285, 8, none⟩) (Kd.R_far (p := ⟨gb285, 7, none⟩) (Kd.R_far (p := ⟨gb285, 6, none⟩) (Kd.R_far (p := ⟨gb285, 5, none⟩) (Kd.R_far (p := ⟨gb285, 4, none⟩) (Kd.R_far (p := ⟨gb285, 3, none⟩) (Kd.R_far (p := ⟨gb285, 2, none⟩) (Kd.R_far (p := ⟨gb285, 1, none⟩) (Kd.R_far (p := ⟨gb285, 0, none⟩) (Kd.R_types HO316.out BK285.out (by decide)) (fun _ hk => hk.2) (.int .i64 t304)) (fun _ hk => hk.2) (.int .i64 t305)) (fun _ hk => hk.2) (.int .i64 t306)) (fun _ hk => hk.2) (.int .i64 t307)) (fun _ hk => hk.2) (.int .i64 t308)) (fun _ hk => hk.2) (.int .i64 t309)) (fun _ hk => hk.2) (.int .i64 t310)) (fun _ hk => hk.2) (.slice Ao54 t311.length co54)) (fun _ hk => hk.2) (.slice Ao55 t314.length co55)) (fun _ hk => hk.2) (.slice Ao56 t317.length co56)) (fun _ hk => hk.1.1)), (by (with_reducible repeat (first | apply Kd.R_alloc | apply Kd.R_drewN | apply Kd.R_drew)); exact Kd.R_mono (Kd.R_far (p := ⟨gb285, 9, none⟩) (Kd.R_far (p := ⟨gb285, 8, none⟩) (Kd.R_far (p := ⟨gb285, 7, none⟩) (Kd.R_far (p := ⟨gb285, 6, none⟩) (Kd.R_far (p := ⟨gb285, 5, none⟩) (Kd.R_far (p := ⟨gb285, 4, none⟩) (Kd.R_far (p := ⟨gb285, 3, none⟩) (Kd.R_far (p := ⟨gb285, 2, none⟩) (Kd.R_far (p := ⟨gb285, 1, none⟩) (Kd.R_far (p := ⟨gb285, 0, none⟩) (Kd.R_types HO319.out BK285.out (by decide)) (fun _ hk => hk.2) (.int .i64 t304)) (fun _ hk => hk.2) (.int .i64 t305)) (fun _ hk => hk.2) (.int .i64 t306)) (fun _ hk => hk.2) (.int .i64 t307)) (fun _ hk => hk.2) (.int .i64 t308)) (fun _ hk => hk.2) (.int .i64 t309)) (fun _ hk => hk.2) (.int .i64 t310)) (fun _ hk => hk.2) (.slice Ao54 t311.length co54)) (fun _ hk => hk.2) (.slice Ao55 t314.length co55)) (fun _ hk => hk.2) (.slice Ao56 t317.length co56)) (fun _ hk => hk.1.1)), Q12, Q0⟩
   rw [if_neg c45] at H
   have c45b0 : (a1 == 1) = false := beq_eq_false_iff_ne.mpr c45
   have c45b1 : (a1 != 1) = true := bne_iff_ne.mpr c45
   (first | rw [c45b0] | (simp only [i64_w, i32_w]; rw [c45b0]) | skip)
   obtain ⟨y320, hy320⟩ : ∃ y_ : List Int, y_ = (([a0_0] : List Int)) := ⟨_, rfl⟩
   replace H : (spec_Elect.l0 kj3 a1 (([] : List (S29))) 0 a0_0 a0_1 a0_2 a0_3 a0_4 a0_5 a0_6 l0_7 l0_8 l0_9 t286 (wrap64 (a0_1 + 1)) a0_0 1 t290 t291 t292 t293 y320 t299) = some (r1, r2, r3, r4, r5, r6, r7, r8, r9, r10, r11) := by first | (rw [hy320]; with_reducible exact H) | (have H2_ := (Option.bind_some _ _).symm.trans H; rw [hy320]; with_reducible exact H2_) | (have H2_ := (Option.bind_some _ _).symm.trans H; with_reducible exact H2_) | with_reducible exact H | (rw [hy320]; exact H) | exact H
   have Ny320 := am hy320
   clear hy320
   obtain ⟨y323, hy323⟩ : ∃ y_ : List (S29), y_ = (([] : List (S29))) := ⟨_, rfl⟩
   replace H : (spec_Elect.l0 kj3 a1 y323 0 a0_0 a0_1 a0_2 a0_3 a0_4 a0_5 a0_6 l0_7 l0_8 l0_9 t286 (wrap64 (a0_1 + 1)) a0_0 1 t290 t291 t292 t293 y320 t299) = some (r1, r2, r3, r4, r5, r6, r7, r8, r9, r10, r11) := by first | (rw [hy323]; with_reducible exact H) | (have H2_ := (Option.bind_some _ _).symm.trans H; rw [hy323]; with_reducible exact H2_) | (have H2_ := (Option.bind_some _ _).symm.trans H; with_reducible exact H2_) | with_reducible exact H | (rw [hy323]; exact H) | exact H
   have Ny323 := am hy323
   clear hy323
   have H' := am H
   clear H
   have hnb57 := NB302_284.out
   have hnc57 := NB284_302.out
   have hnb58 := NB302_285.out
   have hnc58 := NB285_302.out
   obtain ⟨hcz59_0, hcz59_1, hcz59_2, hcz59_3, hcz59_4, hcz59_5, hcz59_6, hcz59_7, hcz59_8, hcz59_9, hfz59_0, hfz59_1, hfz59_2, hfz59_3, hfz59_4, hfz59_5, hfz59_6, hfz59_7, hfz59_8, hfz59_9⟩ := bc10f wc BK302.out
   have hnb60 := NB284_285.out
   have hnc60 := NB285_284.out
   obtain ⟨hcz61_0, hcz61_1, hcz61_2, hcz61_3, hcz61_4, hcz61_5, hcz61_6, hcz61_7, hcz61_8, hcz61_9, hfz61_0, hfz61_1, hfz61_2, hfz61_3, hfz61_4, hfz61_5, hfz61_6, hfz61_7, hfz61_8, hfz61_9⟩ := bc10f wc BK284.out
   go_wp2_with (first | ((with_reducible refine gate_dst (N := 41) rfl ?_); refine Kd.R_lit (Kd.int .i64) _ 3 ?hg (N := 41) ?hd (xs := ([a0_0] : List Int)) (inner := [.int .i64 a0_0]) (ok := fun _ => True) (okp := fun _ => True) ?hr ?hp (fun _ hk => hk) trivial (Below.refl _ _) (Nat.le_refl _) (by simp) ?_; (case hd => rfl); (case hg => rfl); (case hr => first | (go_simp; done) | (go_simp; rfl)); (case hp => exact (Reps.one (show Kd.M (Kd.int .i64) _ _ _ a0_0 [.int .i64 a0_0] from rfl) (Reps.none _ _))); intro v321 w62 ho63 hb hg_ hnew_; clear hg_ hnew_; (first | rw [← Ny320.out] at ho63 | (simp only [Int.reduceToNat] at ho63; rw [← Ny320.out] at ho63)); replace HO_303007 := am (Kd.R_below (by (with_reducible repeat (first | apply Kd.R_alloc | apply Kd.R_drewN | apply Kd.R_drew)); exact (Kd.R_mono (Kd.R_far (p := ⟨gb302, 3, none⟩) (Kd.R_far (p := ⟨gb302, 2, none⟩) (Kd.R_far (p := ⟨gb302, 1, none⟩) (Kd.R_types HO_303007.out BK302.out (by decide)) (fun _ hk => hk.2) (.int .i64 (wrap64 (a0_1 + 1)))) (fun _ hk => hk.2) (.int .i64 a0_0)) (fun _ hk => hk.2) (.int .i64 1)) (fun _ h_ => h_.1))) hb); have HO322 := am (Kd.R_lower (Kd.R_new' (Kd.R_new' ho63 (Kd.R_lt u11_17)) (Kd.R_lt u11_18)) (below_size Q0)); replace HO_303008 := am (Kd.R_elder' u11_17 (Kd.R_base ho63) hb); replace HO_303009 := am (Kd.R_elder' u11_18 (Kd.R_base ho63) hb); replace BK284 := am (blk_below (g := gb284) (o := .cells #[.int .i64 a0_0, .int .i64 a0_1, .int .i64 a0_2, .int .i64 a0_3, .int .i64 a0_4, .int .i64 a0_5, .int .i64 a0_6, .slice A0_7 l0_7.length c0_7, .slice A0_8 l0_8.length c0_8, .slice A0_9 l0_9.length c0_9] 37 (0, 0)) (by (with_reducible repeat (first | refine blk_drewN ?_ _ | refine blk_drew ?_ | refine blk_alloc ?_ _)); refine blk_far ?_ NB284_302.out _; (with_reducible repeat (first | refine blk_drewN ?_ _ | refine blk_drew ?_ | refine blk_alloc ?_ _)); refine blk_far ?_ NB284_302.out _; (with_reducible repeat (first | refine blk_drewN ?_ _ | refine blk_drew ?_ | refine blk_alloc ?_ _)); refine blk_far ?_ NB284_302.out _; (with_reducible repeat (first | refine blk_drewN ?_ _ | refine blk_drew ?_ | refine blk_alloc ?_ _)); exact BK284.out) hb); replace BK285 := am (blk_below (g := gb285) (o := .cells #[.int .i64 0, .int .i64 0, .int .i64 0, .int .i64 0, .int .i64 0, .int .i64 0, .int .i64 0, .slice none 0 0, .slice none 0 0, .slice none 0 0] 37 (0, 0)) (by (with_reducible repeat (first | refine blk_drewN ?_ _ | refine blk_drew ?_ | refine blk_alloc ?_ _)); refine blk_far ?_ NB285_302.out _; (with_reducible repeat (first | refine blk_drewN ?_ _ | refine blk_drew ?_ | refine blk_alloc ?_ _)); refine blk_far ?_ NB285_302.out _; (with_reducible repeat (first | refine blk_drewN ?_ _ | refine blk_drew ?_ | refine blk_alloc ?_ _)); refine blk_far ?_ NB285_302.out _; (with_reducible repeat (first | refine blk_drewN ?_ _ | refine blk_drew ?_ | refine blk_alloc ?_ _)); exact BK285.out) hb); replace BK302 := am (blk_below (g := gb302) (o := .cells #[.int .i64 t286, .int .i64 (wrap64 (a0_1 + 1)), .int .i64 a0_0, .int .i64 1, .int .i64 t290, .int .i64 t291, .int .i64 t292, .slice Ao14 t293.length co14, .slice Ao15 t296.length co15, .slice Ao16 t299.length co16] 37 (0, 0)) (by (with_reducible repeat (first | refine blk_drewN ?_ _ | refine blk_drew ?_ | refine blk_alloc ?_ _)); refine blk_put (cs := #[.int .i64 t286, .int .i64 (wrap64 (a0_1 + 1)), .int .i64 a0_0, .int .i64 t289, .int .i64 t290, .int .i64 t291, .int .i64 t292, .slice Ao14 t293.length co14, .slice Ao15 t296.length co15, .slice Ao16 t299.length co16]) ?_ 3 _ rfl; (with_reducible repeat (first | refine blk_drewN ?_ _ | refine blk_drew ?_ | refine blk_alloc ?_ _)); refine blk_put (cs := #[.int .i64 t286, .int .i64 (wrap64 (a0_1 + 1)), .int .i64 t288, .int .i64 t289, .int .i64 t290, .int .i64 t291, .int .i64 t292, .slice Ao14 t293.length co14, .slice Ao15 t296.length co15, .slice Ao16 t299.length co16]) ?_ 2 _ rfl; (with_reducible repeat (first | refine blk_drewN ?_ _ | refine blk_drew ?_ | refine blk_alloc ?_ _)); refine blk_put (cs := #[.int .i64 t286, .int .i64 t287, .int .i64 t288, .int .i64 t289, .int .i64 t290, .int .i64 t291, .int .i64 t292, .slice Ao14 t293.length co14, .slice Ao15 t296.length co15, .slice Ao16 t299.length co16]) ?_ 1 _ rfl; (with_reducible repeat (first | refine blk_drewN ?_ _ | refine blk_drew ?_ | refine blk_alloc ?_ _)); exact BK302.out) hb); replace HB := am (below_step Q0 hb); clear hb ho63; obtain ⟨Ao64, co64, eo64⟩ := Kd.R_slice HO322.out; subst eo64; obtain ⟨hcz65_0, hcz65_1, hcz65_2, hcz65_3, hcz65_4, hcz65_5, hcz65_6, hcz65_7, hcz65_8, hcz65_9, hfz65_0, hfz65_1, hfz65_2, hfz65_3, hfz65_4, hfz65_5, hfz65_6, hfz65_7, hfz65_8, hfz65_9⟩ := bc10f w62 BK302.out) | ((with_reducible refine gate_dst (N := 43) rfl ?_); refine Kd.S_lit k29 _ 29 ?hg (N := 43) ?hd (xs := ([] : List (S29))) (inner := []) (ok := fun _ => True) (okp := fun _ => True) ?hr ?hp (fun _ hk => hk) trivial (Below.refl _ _) (Nat.le_refl _) (by simp) ?_; (case hd => rfl); (case hg => rfl); (case hr => first | (go_simp; done) | (go_simp; rfl)); (case hp => exact (Reps.none _ _)); intro v324 w66 ho67 hb hg_ hnew_; clear hg_ hnew_; (first | rw [← Ny323.out] at ho67 | (simp only [Int.reduceToNat] at ho67; rw [← Ny323.out] at ho67)); replace HO_303008 := am (Kd.R_below (by (with_reducible repeat (first | apply Kd.R_alloc | apply Kd.R_drewN | apply Kd.R_drew)); exact (Kd.R_mono (Kd.R_far (p := ⟨gb302, 8, none⟩) (Kd.R_types HO_303008.out BK302.out (by decide)) (fun _ hk => hk.2) (.slice Ao64 y320.length co64)) (fun _ h_ => h_.1))) hb); replace HO_303009 := am (Kd.R_below (by (with_reducible repeat (first | apply Kd.R_alloc | apply Kd.R_drewN | apply Kd.R_drew)); exact (Kd.R_mono (Kd.R_far (p := ⟨gb302, 8, none⟩) (Kd.R_types HO_303009.out BK302.out (by decide)) (fun _ hk => hk.2) (.slice Ao64 y320.length co64)) (fun _ h_ => h_.1))) hb); replace HO322 := am (Kd.R_below (by (with_reducible repeat (first | apply Kd.R_alloc | apply Kd.R_drewN | apply Kd.R_drew)); exact (Kd.R_mono (Kd.R_far (p := ⟨gb302, 8, none⟩) (Kd.R_types HO322.out BK302.out (by decide)) (fun _ hk => hk.2) (.slice Ao64 y320.length co64)) (fun _ h_ => h_.1))) hb); have HO325 := am (Kd.S_lower (Kd.S_new' ho67 (Kd.R_lt u11_24)) (below_size Q0)); replace HO_303007 := am (Kd.R_below u11_24 hb); replace BK284 := am (blk_below (g := gb284) (o := .cells #[.int .i64 a0_0, .int .i64 a0_1, .int .i64 a0_2, .int .i64 a0_3, .int .i64 a0_4, .int .i64 a0_5, .int .i64 a0_6, .slice A0_7 l0_7.length c0_7, .slice A0_8 l0_8.length c0_8, .slice A0_9 l0_9.length c0_9] 37 (0, 0)) (by (with_reducible repeat (first | refine blk_drewN ?_ _ | refine blk_drew ?_ | refine blk_alloc ?_ _)); refine blk_far ?_ NB284_302.out _; (with_reducible repeat (first | refine blk_drewN ?_ _ | refine blk_drew ?_ | refine blk_alloc ?_ _)); exact BK284.out) hb); replace BK285 := am (blk_below (g := gb285) (o := .cells #[.int .i64 0, .int .i64 0, .int .i64 0, .int .i64 0, .int .i64 0, .int .i64 0, .int .i64 0, .slice none 0 0, .slice none 0 0, .slice none 0 0] 37 (0, 0)) (by (with_reducible repeat (first | refine blk_drewN ?_ _ | refine blk_drew ?_ | refine blk_alloc ?_ _)); refine blk_far ?_ NB285_302.out _; (with_reducible repeat (first | refine blk_drewN ?_ _ | refine blk_drew ?_ | refine blk_alloc ?_ _)); exact BK285.out) hb); replace BK302 := am (blk_below (g := gb302) (o := .cells #[.int .i64 t286, .int .i64 (wrap64 (a0_1 + 1)), .int .i64 a0_0, .int .i64 1, .int .i64 t290, .int .i64 t291, .int .i64 t292, .slice Ao14 t293.length co14, .slice Ao64 y320.length co64, .slice Ao16 t299.length co16] 37 (0, 0)) (by (with_reducible repeat (first | refine blk_drewN ?_ _ | refine blk_drew ?_ | refine blk_alloc ?_ _)); refine blk_put (cs := #[.int .i64 t286, .int .i64 (wrap64 (a0_1 + 1)), .int .i64 a0_0, .int .i64 1, .int .i64 t290, .int .i64 t291, .int .i64 t292, .slice Ao14 t293.length co14, .slice Ao15 t296.length co15, .slice Ao16 t299.length co16]) ?_ 8 _ rfl; (with_reducible repeat (first | refine blk_drewN ?_ _ | refine blk_drew ?_ | refine blk_alloc ?_ _)); exact BK302.out) hb); replace HB := am (below_step Q0 hb); clear hb ho67))
   go_loopg [7, 8] kj3 (fun kq v7 v8 w' => ∃ (x7_2 : List (S29)) (x8_2 : Int), v8 = .int .i64 x8_2 ∧ Aside0 (spec_Elect.l0 kq a1 x7_2 x8_2 a0_0 a0_1 a0_2 a0_3 a0_4 a0_5 a0_6 l0_7 l0_8 l0_9 t286 (wrap64 (a0_1 + 1)) a0_0 1 t290 t291 t292 t293 y320 t299 = some (r1, r2, r3, r4, r5, r6, r7, r8, r9, r10, r11)) ∧ Aside0 (kq ≤ kj3) ∧ Aside0 (Kd.S k29 29 w' w.heap.size (fun k_ => some k_ ≠ ((.slice Ao14 t293.length co14) : Value).ownBlock) v7 x7_2) ∧ Aside0 (Kd.R k85 85 w' w.heap.size (fun _ => True) (.slice Ao14 t293.length co14) t293) ∧ Aside0 (Kd.R (Kd.int .i64) 3 w' w.heap.size (fun k_ => some k_ ≠ ((.slice Ao16 t299.length co16) : Value).ownBlock) (.slice Ao64 y320.length co64) y320) ∧ Aside0 (Kd.R (Kd.int .i64) 3 w' w.heap.size (fun k_ => some k_ ≠ ((.slice Ao64 y320.length co64) : Value).ownBlock) (.slice Ao16 t299.length co16) t299) ∧ Aside0 (w'.heap[gb284]? = some (.cells #[.int .i64 a0_0, .int .i64 a0_1, .int .i64 a0_2, .int .i64 a0_3, .int .i64 a0_4, .int .i64 a0_5, .int .i64 a0_6, (.slice A0_7 l0_7.length c0_7), (.slice A0_8 l0_8.length c0_8), (.slice A0_9 l0_9.length c0_9)] 37 (0, 0))) ∧ Aside0 (w'.heap[gb285]? = some (.cells #[.int .i64 0, .int .i64 0, .int .i64 0, .int .i64 0, .int .i64 0, .int .i64 0, .int .i64 0, (.slice none 0 0), (.slice none 0 0), (.slice none 0 0)] 37 (0, 0))) ∧ Aside0 (w'.heap[gb302]? = some (.cells #[.int .i64 t286, .int .i64 (wrap64 (a0_1 + 1)), .int .i64 a0_0, .int .i64 1, .int .i64 t290, .int .i64 t291, .int .i64 t292, (.slice Ao14 t293.length co14), (.slice Ao64 y320.length co64), (.slice Ao16 t299.length co16)] 37 (0, 0))) ∧ Aside0 (Below w.heap.size w w'))
   case atStart => exact ⟨(y323), (0), Q2, H', ⟨Nat.le_refl _⟩, ⟨(by (with_reducible repeat (first | apply Kd.S_alloc | apply Kd.S_drewN | apply Kd.S_drew)); exact Kd.S_mono HO325.out (fun _ hk => hk.2))⟩, ⟨u11_14⟩, ⟨(by (with_reducible repeat (first | apply Kd.R_alloc | apply Kd.R_drewN | apply Kd.R_drew)); exact Kd.R_mono HO322.out (fun _ hk => hk.2))⟩, ⟨(by (with_reducible repeat (first | apply Kd.R_alloc | apply Kd.R_drewN | apply Kd.R_drew)); exact Kd.R_mono HO_303009.out (fun _ hk => hk.2))⟩, ⟨u11_4⟩, ⟨u11_8⟩, ⟨u11_10⟩, ⟨Q0⟩⟩
   clear H'
   try clear c34
   try clear c45
   try clear c45b0
   try clear c45b1
   try clear hcz13_0
   try clear hcz13_1
   try clear hcz13_2
   try clear hcz13_3
   try clear hcz13_4
   try clear hcz13_5
   try clear hcz13_6
   try clear hcz13_7
   try clear hcz13_8
   try clear hcz13_9
   try clear hcz42_0
   try clear hcz42_1
   try clear hcz42_2
   try clear hcz42_3
   try clear hcz42_4
   try clear hcz42_5
   try clear hcz42_6
   try clear hcz42_7
   try clear hcz42_8
   try clear hcz42_9
   try clear hcz44_0
   try clear hcz44_1
   try clear hcz44_2
   try clear hcz44_3
   try clear hcz44_4
   try clear hcz44_5
   try clear hcz44_6
   try clear hcz44_7
   try clear hcz44_8
   try clear hcz44_9
   try clear hcz59_0
   try clear hcz59_1
   try clear hcz59_2
   try clear hcz59_3
   try clear hcz59_4
   try clear hcz59_5
   try clear hcz59_6
   try clear hcz59_7
   try clear hcz59_8
   try clear hcz59_9
   try clear hcz61_0
   try clear hcz61_1
   try clear hcz61_2
   try clear hcz61_3
   try clear hcz61_4
   try clear hcz61_5
   try clear hcz61_6
   try clear hcz61_7
   try clear hcz61_8
   try clear hcz61_9
   try clear hcz65_0
   try clear hcz65_1
   try clear hcz65_2
   try clear hcz65_3
   try clear hcz65_4
   try clear hcz65_5
   try clear hcz65_6
   try clear hcz65_7
   try clear hcz65_8
   try clear hcz65_9
   try clear hcz8_0
   try clear hcz8_1
   try clear hcz8_2
   try clear hcz8_3
   try clear hcz8_4
   try clear hcz8_5
   try clear hcz8_6
   try clear hcz8_7
   try clear hcz8_8
   try clear hcz8_9
   try clear hfz13_0
   try clear hfz13_1
   try clear hfz13_2
   try clear hfz13_3
   try clear hfz13_4
   try clear hfz13_5
   try clear hfz13_6
   try clear hfz13_7
   try clear hfz13_8
   try clear hfz13_9
   try clear hfz42_0
   try clear hfz42_1
   try clear hfz42_2
   try clear hfz42_3
   try clear hfz42_4
   try clear hfz42_5
   try clear hfz42_6
   try clear hfz42_7
   try clear hfz42_8
   try clear hfz42_9
   try clear hfz44_0
   try clear hfz44_1
   try clear hfz44_2
   try clear hfz44_3
   try clear hfz44_4
   try clear hfz44_5
   try clear hfz44_6
   try clear hfz44_7
   try clear hfz44_8
   try clear hfz44_9
   try clear hfz59_0
   try clear hfz59_1
   try clear hfz59_2
   try clear hfz59_3
   try clear hfz59_4
   try clear hfz59_5
   try clear hfz59_6
   try clear hfz59_7
   try clear hfz59_8
   try clear hfz59_9
   try clear hfz61_0
   try clear hfz61_1
   try clear hfz61_2
   try clear hfz61_3
   try clear hfz61_4
   try clear hfz61_5
   try clear hfz61_6
   try clear hfz61_7
   try clear hfz61_8
   try clear hfz61_9
   try clear hfz65_0
   try clear hfz65_1
   try clear hfz65_2
   try clear hfz65_3
   try clear hfz65_4
   try clear hfz65_5
   try clear hfz65_6
   try clear hfz65_7
   try clear hfz65_8
   try clear hfz65_9
   try clear hfz8_0
   try clear hfz8_1
   try clear hfz8_2
   try clear hfz8_3
   try clear hfz8_4
   try clear hfz8_5
   try clear hfz8_6
   try clear hfz8_7
   try clear hfz8_8
   try clear hfz8_9
   obtain ⟨x7_2, x8_2, rfl, HA, HK2, HO_7, HO_303007, HO_303008, HO_303009, BK284, BK285, BK302, HB⟩ := hrel
   cases gk with
   | zero => exact absurd HA.out (by simp [spec_Elect.l0])
   | succ k2 =>
     have H := HA.out
     clear HA
     simp only [spec_Elect.l0] at H
     by_cases c68 : x8_2 < a1
     rotate_left
     · rw [if_neg c68] at H
       have c68b0 : decide (x8_2 < a1) = false := decide_eq_false c68
       clear c68
       simp only [Option.some.injEq, Prod.mk.injEq] at H
       obtain ⟨rfl, rfl, rfl, rfl, rfl, rfl, rfl, rfl, rfl, rfl, rfl⟩ := H
       have hnb85 := NB302_284.out
       have hnc85 := NB284_302.out
       have hnb86 := NB302_285.out
       have hnc86 := NB285_302.out
       obtain ⟨hcz87_0, hcz87_1, hcz87_2, hcz87_3, hcz87_4, hcz87_5, hcz87_6, hcz87_7, hcz87_8, hcz87_9, hfz87_0, hfz87_1, hfz87_2, hfz87_3, hfz87_4, hfz87_5, hfz87_6, hfz87_7, hfz87_8, hfz87_9⟩ := bc10f wr BK302.out
       have hnb88 := NB285_284.out
       have hnc88 := NB284_285.out
       obtain ⟨hcz89_0, hcz89_1, hcz89_2, hcz89_3, hcz89_4, hcz89_5, hcz89_6, hcz89_7, hcz89_8, hcz89_9, hfz89_0, hfz89_1, hfz89_2, hfz89_3, hfz89_4, hfz89_5, hfz89_6, hfz89_7, hfz89_8, hfz89_9⟩ := bc10f wr BK285.out
       go_wp2
       refine bodyPost_ret (results_ct rfl _ _ gb285 37 #[.int .i64 t286, .int .i64 (wrap64 (a0_1 + 1)), .int .i64 a0_0, .int .i64 1, .int .i64 t290, .int .i64 t291, .int .i64 t292, .slice Ao14 t293.length co14, .slice Ao64 y320.length co64, .slice Ao16 t299.length co16] (0, 0) _ rfl (by (with_reducible repeat (first | refine blk_drewN ?_ _ | refine blk_drew ?_ | refine blk_alloc ?_ _)); refine blk_put (cs := #[.int .i64 t286, .int .i64 (wrap64 (a0_1 + 1)), .int .i64 a0_0, .int .i64 1, .int .i64 t290, .int .i64 t291, .int .i64 t292, .slice Ao14 t293.length co14, .slice Ao64 y320.length co64, .slice none 0 0]) ?_ 9 _ rfl; (with_reducible repeat (first | refine blk_drewN ?_ _ | refine blk_drew ?_ | refine blk_alloc ?_ _)); refine blk_put (cs := #[.int .i64 t286, .int .i64 (wrap64 (a0_1 + 1)), .int .i64 a0_0, .int .i64 1, .int .i64 t290, .int .i64 t291, .int .i64 t292, .slice Ao14 t293.length co14, .slice none 0 0, .slice none 0 0]) ?_ 8 _ rfl; (with_reducible repeat (first | refine blk_drewN ?_ _ | refine blk_drew ?_ | refine blk_alloc ?_ _)); refine blk_put (cs := #[.int .i64 t286, .int .i64 (wrap64 (a0_1 + 1)), .int .i64 a0_0, .int .i64 1, .int .i64 t290, .int .i64 t291, .int .i64 t292, .slice none 0 0, .slice none 0 0, .slice none 0 0]) ?_ 7 _ rfl; (with_reducible repeat (first | refine blk_drewN ?_ _ | refine blk_drew ?_ | refine blk_alloc ?_ _)); refine blk_put (cs := #[.int .i64 t286, .int .i64 (wrap64 (a0_1 + 1)), .int .i64 a0_0, .int .i64 1, .int .i64 t290, .int .i64 t291, .int .i64 0, .slice none 0 0, .slice none 0 0, .slice none 0 0]) ?_ 6 _ rfl; (with_reducible repeat (first | refine blk_drewN ?_ _ | refine blk_drew ?_ | refine blk_alloc ?_ _)); refine blk_put (cs := #[.int .i64 t286, .int .i64 (wrap64 (a0_1 + 1)), .int .i64 a0_0, .int .i64 1, .int .i64 t290, .int .i64 0, .int .i64 0, .slice none 0 0, .slice none 0 0, .slice none 0 0]) ?_ 5 _ rfl; (with_reducible repeat (first | refine blk_drewN ?_ _ | refine blk_drew ?_ | refine blk_alloc ?_ _)); refine blk_put (cs := #[.int .i64 t286, .int .i64 (wrap64 (a0_1 + 1)), .int .i64 a0_0, .int .i64 1, .int .i64 0, .int .i64 0, .int .i64 0, .slice none 0 0, .slice none 0 0, .slice none 0 0]) ?_ 4 _ rfl; (with_reducible repeat (first | refine blk_drewN ?_ _ | refine blk_drew ?_ | refine blk_alloc ?_ _)); refine blk_put (cs := #[.int .i64 t286, .int .i64 (wrap64 (a0_1 + 1)), .int .i64 a0_0, .int .i64 0, .int .i64 0, .int .i64 0, .int .i64 0, .slice none 0 0, .slice none 0 0, .slice none 0 0]) ?_ 3 _ rfl; (with_reducible repeat (first | refine blk_drewN ?_ _ | refine blk_drew ?_ | refine blk_alloc ?_ _)); refine blk_put (cs := #[.int .i64 t286, .int .i64 (wrap64 (a0_1 + 1)), .int .i64 0, .int .i64 0, .int .i64 0, .int .i64 0, .int .i64 0, .slice none 0 0, .slice none 0 0, .slice none 0 0]) ?_ 2 _ rfl; (with_reducible repeat (first | refine blk_drewN ?_ _ | refine blk_drew ?_ | refine blk_alloc ?_ _)); refine blk_put (cs := #[.int .i64 t286, .int .i64 0, .int .i64 0, .int .i64 0, .int .i64 0, .int .i64 0, .int .i64 0, .slice none 0 0, .slice none 0 0, .slice none 0 0]) ?_ 1 _ rfl; (with_reducible repeat (first | refine blk_drewN ?_ _ | refine blk_drew ?_ | refine blk_alloc ?_ _)); refine blk_put (cs := #[.int .i64 0, .int .i64 0, .int .i64 0, .int .i64 0, .int .i64 0, .int .i64 0, .int .i64 0, .slice none 0 0, .slice none 0 0, .slice none 0 0]) ?_ 0 _ rfl; (with_reducible repeat (first | refine blk_drewN ?_ _ | refine blk_drew ?_ | refine blk_alloc ?_ _)); exact BK285.out) Try.underlying37 rfl kr) rfl ?_
       exact ⟨_, _, _, _, er, (by (with_reducible repeat (first | apply Kd.R_alloc | apply Kd.R_drewN | apply Kd.R_drew)); exact Kd.R_mono (Kd.R_far (p := ⟨gb285, 9, none⟩) (Kd.R_far (p := ⟨gb285, 8, none⟩) (Kd.R_far (p := ⟨gb285, 7, none⟩) (Kd.R_far (p := ⟨gb285, 6, none⟩) (Kd.R_far (p := ⟨gb285, 5, none⟩) (Kd.R_far (p := ⟨gb285, 4, none⟩) (Kd.R_far (p := ⟨gb285, 3, none⟩) (Kd.R_far (p := ⟨gb285, 2, none⟩) (Kd.R_far (p := ⟨gb285, 1, none⟩) (Kd.R_far (p := ⟨gb285, 0, none⟩) (Kd.R_types HO_303007.out BK285.out (by decide)) (fun _ hk => hk.2) (.int .i64 t286)) (fun _ hk => hk.2) (.int .i64 (wrap64 (a0_1 + 1)))) (fun _ hk => hk.2) (.int .i64 a0_0)) (fun _ hk => hk.2) (.int .i64 1)) (fun _ hk => hk.2) (.int .i64 t290)) (fun _ hk => hk.2) (.int .i64 t291)) (fun _ hk => hk.2) (.int .i64 t292)) (fun _ hk => hk.2) (.slice Ao14 t293.length co14)) (fun _ hk => hk.2) (.slice Ao64 y320.length co64)) (fun _ hk => hk.2) (.slice Ao16 t299.length co16)) (fun _ hk => trivial)), (by (with_reducible repeat (first | apply Kd.R_alloc | apply Kd.R_drewN | apply Kd.R_drew)); exact Kd.R_mono (Kd.R_far (p := ⟨gb285, 9, none⟩) (Kd.R_far (p := ⟨gb285, 8, none⟩) (Kd.R_far (p := ⟨gb285, 7, none⟩) (Kd.R_far (p := ⟨gb285, 6, none⟩) (Kd.R_far (p := ⟨gb285, 5, none⟩) (Kd.R_far (p := ⟨gb285, 4, none⟩) (Kd.R_far (p := ⟨gb285, 3, none⟩) (Kd.R_far (p := ⟨gb285, 2, none⟩) (Kd.R_far (p := ⟨gb285, 1, none⟩) (Kd.R_far (p := ⟨gb285, 0, none⟩) (Kd.R_types HO_303008.out BK285.out (by decide)) (fun _ hk => hk.2) (.int .i64 t286)) (fun _ hk => hk.2) (.int .i64 (wrap64 (a0_1 + 1)))) (fun _ hk => hk.2) (.int .i64 a0_0)) (fun _ hk => hk.2) (.int .i64 1)) (fun _ hk => hk.2) (.int .i64 t290)) (fun _ hk => hk.2) (.int .i64 t291)) (fun _ hk => hk.2) (.int .i64 t292)) (fun _ hk => hk.2) (.slice Ao14 t293.length co14)) (fun _ hk => hk.2) (.slice Ao64 y320.length co64)) (fun _ hk => hk.2) (.slice Ao16 t299.length co16)) (fun _ hk => hk.1)), (by (with_reducible repeat (first | apply Kd.R_alloc | apply Kd.R_drewN | apply Kd.R_drew)); exact Kd.R_mono (Kd.R_far (p := ⟨gb285, 9, none⟩) (Kd.R_far (p := ⟨gb285, 8, none⟩) (Kd.R_far (p := ⟨gb285, 7, none⟩) (Kd.R_far (p := ⟨gb285, 6, none⟩) (Kd.R_far (p := ⟨gb285, 5, none⟩) (Kd.R_far (p := ⟨gb285, 4, none⟩) (Kd.R_far (p := ⟨gb285, 3, none⟩) (Kd.R_far (p := ⟨gb285, 2, none⟩) (Kd.R_far (p := ⟨gb285, 1, none⟩) (Kd.R_far (p := ⟨gb285, 0, none⟩) (Kd.R_types HO_303009.out BK285.out (by decide)) (fun _ hk => hk.2) (.int .i64 t286)) (fun _ hk => hk.2) (.int .i64 (wrap64 (a0_1 + 1)))) (fun _ hk => hk.2) (.int .i64 a0_0)) (fun _ hk => hk.2) (.int .i64 1)) (fun _ hk => hk.2) (.int .i64 t290)) (fun _ hk => hk.2) (.int .i64 t291)) (fun _ hk => hk.2) (.int .i64 t292)) (fun _ hk => hk.2) (.slice Ao14 t293.length co14)) (fun _ hk => hk.2) (.slice Ao64 y320.length co64)) (fun _ hk => hk.2) (.slice Ao16 t299.length co16)) (fun _ hk => hk.1)), (by (with_reducible repeat (first | apply Kd.S_alloc | apply Kd.S_drewN | apply Kd.S_drew)); exact Kd.S_mono (Kd.S_far (p := ⟨gb285, 9, none⟩) (Kd.S_far (p := ⟨gb285, 8, none⟩) (Kd.S_far (p := ⟨gb285, 7, none⟩) (Kd.S_far (p := ⟨gb285, 6, none⟩) (Kd.S_far (p := ⟨gb285, 5, none⟩) (Kd.S_far (p := ⟨gb285, 4, none⟩) (Kd.S_far (p := ⟨gb285, 3, none⟩) (Kd.S_far (p := ⟨gb285, 2, none⟩) (Kd.S_far (p := ⟨gb285, 1, none⟩) (Kd.S_far (p := ⟨gb285, 0, none⟩) (Kd.S_types HO_7.out BK285.out (by decide)) (fun _ hk => hk.2) (.int .i64 t286)) (fun _ hk => hk.2) (.int .i64 (wrap64 (a0_1 + 1)))) (fun _ hk => hk.2) (.int .i64 a0_0)) (fun _ hk => hk.2) (.int .i64 1)) (fun _ hk => hk.2) (.int .i64 t290)) (fun _ hk => hk.2) (.int .i64 t291)) (fun _ hk => hk.2) (.int .i64 t292)) (fun _ hk => hk.2) (.slice Ao14 t293.length co14)) (fun _ hk => hk.2) (.slice Ao64 y320.length co64)) (fun _ hk => hk.2) (.slice Ao16 t299.length co16)) (fun _ hk => hk.1)), Q0⟩
     rw [if_pos c68] at H
     have c68b0 : decide (x8_2 < a1) = true := decide_eq_true c68
     clear c68
     by_cases c69 : x8_2 = a0_0
     · rw [if_pos c69] at H
       have c69b0 : (x8_2 == a0_0) = true := beq_iff_eq.mpr c69
       have c69b1 : (x8_2 != a0_0) = false := bne_eq_false_iff_eq.mpr c69
       clear c69
       have H' := am H
       clear H
       have hnb70 := NB284_285.out
       have hnc70 := NB285_284.out
       have hnb71 := NB284_302.out
       have hnc71 := NB302_284.out
       obtain ⟨hcz72_0, hcz72_1, hcz72_2, hcz72_3, hcz72_4, hcz72_5, hcz72_6, hcz72_7, hcz72_8, hcz72_9, hfz72_0, hfz72_1, hfz72_2, hfz72_3, hfz72_4, hfz72_5, hfz72_6, hfz72_7, hfz72_8, hfz72_9⟩ := bc10f wr BK284.out
       go_wp2
       go_roundg k2
       case measure => have := HJ3.out; have := HK2.out; omega
       case rel => exact ⟨(x7_2), (wrap64 (x8_2 + 1)), Q2, H', ⟨(by have := HJ3.out; have := HK2.out; omega)⟩, ⟨u11_15⟩, ⟨u11_14⟩, ⟨u11_12⟩, ⟨u11_13⟩, ⟨u11_4⟩, ⟨u11_8⟩, ⟨u11_10⟩, ⟨Q0⟩⟩
     rw [if_neg c69] at H
     have c69b0 : (x8_2 == a0_0) = false := beq_eq_false_iff_ne.mpr c69
     have c69b1 : (x8_2 != a0_0) = true := bne_iff_ne.mpr c69
     replace H := Option.bind_eq_some_iff.mp H
     obtain ⟨t326, A730, H⟩ := H
     have A73 := am A730
     clear A730
     replace H := Option.bind_eq_some_iff.mp H
     obtain ⟨t327, A740, H⟩ := H
     have A74 := am A740
     clear A740
     replace H := Option.bind_eq_some_iff.mp H
     obtain ⟨t328, A750, H⟩ := H
     have A75 := am A750
     clear A750
     by_cases c76 : x7_2.length < 1599289640401
     rotate_left
     · rw [if_neg c76] at H
       exact absurd H (by simp)
     rw [if_pos c76] at H
     have LMc76 := am c76
     clear c76
     obtain ⟨y329, hy329⟩ : ∃ y_ : List (S29), y_ = (x7_2 ++ [(⟨0, a0_0, x8_2, (wrap64 (a0_1 + 1)), t326, t328, 0, false, ([] : List (S85))⟩ : S29)]) := ⟨_, rfl⟩
     replace H : (spec_Elect.l0 k2 a1 y329 (wrap64 (x8_2 + 1)) a0_0 a0_1 a0_2 a0_3 a0_4 a0_5 a0_6 l0_7 l0_8 l0_9 t286 (wrap64 (a0_1 + 1)) a0_0 1 t290 t291 t292 t293 y320 t299) = some (r1, r2, r3, r4, r5, r6, r7, r8, r9, r10, r11) := by first | (rw [hy329]; with_reducible exact H) | (have H2_ := (Option.bind_some _ _).symm.trans H; rw [hy329]; with_reducible exact H2_) | (have H2_ := (Option.bind_some _ _).symm.trans H; with_reducible exact H2_) | with_reducible exact H | (rw [hy329]; exact H) | exact H
     have Ny329 := am hy329
     clear hy329
     have H' := am H
     clear H
     have hnb77 := NB284_285.out
     have hnc77 := NB285_284.out
     have hnb78 := NB284_302.out
     have hnc78 := NB302_284.out
     obtain ⟨hcz79_0, hcz79_1, hcz79_2, hcz79_3, hcz79_4, hcz79_5, hcz79_6, hcz79_7, hcz79_8, hcz79_9, hfz79_0, hfz79_1, hfz79_2, hfz79_3, hfz79_4, hfz79_5, hfz79_6, hfz79_7, hfz79_8, hfz79_9⟩ := bc10f wr BK284.out
     try go_wp2
     replace HO_7 := am (Kd.S_drew HO_7.out)
     replace HO_303007 := am (Kd.R_drew HO_303007.out)
     replace HO_303008 := am (Kd.R_drew HO_303008.out)
     replace HO_303009 := am (Kd.R_drew HO_303009.out)
     replace BK284 := am (blk_drew BK284.out)
     replace BK285 := am (blk_drew BK285.out)
     replace BK302 := am (blk_drew BK302.out)
     replace HB := am (below_drew1 HB.out)
     refine start_ (n := 19) (S := fun w' => w'.cell? ⟨gb284, 0, none⟩ = some (.int .i64 a0_0) ∧ w'.cell? ⟨gb284, 1, none⟩ = some (.int .i64 a0_1) ∧ w'.cell? ⟨gb284, 2, none⟩ = some (.int .i64 a0_2) ∧ w'.cell? ⟨gb284, 3, none⟩ = some (.int .i64 a0_3) ∧ w'.cell? ⟨gb284, 4, none⟩ = some (.int .i64 a0_4) ∧ w'.cell? ⟨gb284, 5, none⟩ = some (.int .i64 a0_5) ∧ w'.cell? ⟨gb284, 6, none⟩ = some (.int .i64 a0_6) ∧ w'.cell? ⟨gb284, 7, none⟩ = some (.slice A0_7 l0_7.length c0_7) ∧ w'.cell? ⟨gb284, 8, none⟩ = some (.slice A0_8 l0_8.length c0_8) ∧ w'.cell? ⟨gb284, 9, none⟩ = some (.slice A0_9 l0_9.length c0_9) ∧ w'.cell? ⟨gb302, 0, none⟩ = some (.int .i64 t286) ∧ w'.cell? ⟨gb302, 1, none⟩ = some (.int .i64 (wrap64 (a0_1 + 1))) ∧ w'.cell? ⟨gb302, 2, none⟩ = some (.int .i64 a0_0) ∧ w'.cell? ⟨gb302, 3, none⟩ = some (.int .i64 1) ∧ w'.cell? ⟨gb302, 4, none⟩ = some (.int .i64 t290) ∧ w'.cell? ⟨gb302, 5, none⟩ = some (.int .i64 t291) ∧ w'.cell? ⟨gb302, 6, none⟩ = some (.int .i64 t292) ∧ w'.cell? ⟨gb302, 7, none⟩ = some (.slice Ao14 t293.length co14) ∧ w'.cell? ⟨gb302, 8, none⟩ = some (.slice Ao64 y320.length co64) ∧ w'.cell? ⟨gb302, 9, none⟩ = some (.slice Ao16 t299.length co16)) (ds := []) #[false, false, false, false, false, false, false, false, false, false, false, false, false, false, false, false, false, false, false] kr rfl rfl ⟨(blk_cell BK284.out 0).trans rfl, (blk_cell BK284.out 1).trans rfl, (blk_cell BK284.out 2).trans rfl, (blk_cell BK284.out 3).trans rfl, (blk_cell BK284.out 4).trans rfl, (blk_cell BK284.out 5).trans rfl, (blk_cell BK284.out 6).trans rfl, (blk_cell BK284.out 7).trans rfl, (blk_cell BK284.out 8).trans rfl, (blk_cell BK284.out 9).trans rfl, (blk_cell BK302.out 0).trans rfl, (blk_cell BK302.out 1).trans rfl, (blk_cell BK302.out 2).trans rfl, (blk_cell BK302.out 3).trans rfl, (blk_cell BK302.out 4).trans rfl, (blk_cell BK302.out 5).trans rfl, (blk_cell BK302.out 6).trans rfl, (blk_cell BK302.out 7).trans rfl, (blk_cell BK302.out 8).trans rfl, (blk_cell BK302.out 9).trans rfl⟩ (fun hHeld => ?_); refine with_tabW spec_Elect.tab15 spec_Elect.bits15 (fun HT_ HW_ => ?_)
     generalize wr.drew = w80 at HO_7 HO_303007 HO_303008 HO_303009 BK284 BK285 BK302 HB hHeld ⊢
     refine pV 0 53 (bt 1 19) ?_
     refine pV 1 54 (bt 2 19) ?_
     refine pV 3 56 #[true, true, false, true, false, false, false, false, false, false, false, false, false, false, false, false, false, false, false] ?_
     refine pV 4 57 #[true, true, false, true, true, false, false, false, false, false, false, false, false, false, false, false, false, false, false] ?_
     refine pV 6 59 #[true, true, false, true, true, false, true, false, false, false, false, false, false, false, false, false, false, false, false] ?_
     refine pV 9 62 #[true, true, false, true, true, false, true, false, false, true, false, false, false, false, false, false, false, false, false] ?_
     refine pV 11 64 #[true, true, false, true, true, false, true, false, false, true, false, true, false, false, false, false, false, false, false] ?_
     refine tV 2 55 #[true, true, true, true, true, false, true, false, false, true, false, true, false, false, false, false, false, false, false] ?_
     refine tV 5 58 #[true, true, true, true, true, true, true, false, false, true, false, true, false, false, false, false, false, false, false] ?_
     refine tV 7 60 #[true, true, true, true, true, true, true, true, false, true, false, true, false, false, false, false, false, false, false] ?_
     refine tV 10 63 #[true, true, true, true, true, true, true, true, false, true, true, true, false, false, false, false, false, false, false] ?_
     refine tV 12 65 #[true, true, true, true, true, true, true, true, false, true, true, true, true, false, false, false, false, false, false] ?_
     refine one_ (i := 8) (N := some 61) #[true, true, true, true, true, true, true, true, true, true, true, true, true, false, false, false, false, false, false] rfl rfl (one_of HT_.out kr) (by decide) (fun K hK => ?_)
     refine goes_ Try.func72 kr rfl #[.agg #[.int .i64 a0_5, .int .i64 a0_6, .slice A0_7 l0_7.length c0_7]] (by rfl) rfl rfl Q3 ?_
     with_reducible refine (spec_LastIndex.calls k2 a0_5 a0_6 _ _ l0_7 t326 _ ?side1 ?side2 A73.out).mono ?_
     (case side1 => exact Q9)
     (case side2 => exact HC0_7.out)
     rintro e w81 ⟨rfl, hb⟩
     refine ⟨_, rfl, ?_⟩
     replace HO_7 := am (Kd.S_below u11_15 hb)
     replace HO_303007 := am (Kd.R_below u11_14 hb)
     replace HO_303008 := am (Kd.R_below u11_12 hb)
     replace HO_303009 := am (Kd.R_below u11_13 hb)
     replace BK284 := am (blk_below (g := gb284) (o := .cells #[.int .i64 a0_0, .int .i64 a0_1, .int .i64 a0_2, .int .i64 a0_3, .int .i64 a0_4, .int .i64 a0_5, .int .i64 a0_6, .slice A0_7 l0_7.length c0_7, .slice A0_8 l0_8.length c0_8, .slice A0_9 l0_9.length c0_9] 37 (0, 0)) u11_4 hb)
     replace BK285 := am (blk_below (g := gb285) (o := .cells #[.int .i64 0, .int .i64 0, .int .i64 0, .int .i64 0, .int .i64 0, .int .i64 0, .int .i64 0, .slice none 0 0, .slice none 0 0, .slice none 0 0] 37 (0, 0)) u11_8 hb)
     replace BK302 := am (blk_below (g := gb302) (o := .cells #[.int .i64 t286, .int .i64 (wrap64 (a0_1 + 1)), .int .i64 a0_0, .int .i64 1, .int .i64 t290, .int .i64 t291, .int .i64 t292, .slice Ao14 t293.length co14, .slice Ao64 y320.length co64, .slice Ao16 t299.length co16] 37 (0, 0)) u11_10 hb)
     replace HB := am (below_step Q0 hb)
     (try clear hb)
     (try clear hb2)
     (try clear hk)
     (try clear hi)
     refine hK.out _ _ ⟨(blk_cell BK284.out 0).trans rfl, (blk_cell BK284.out 1).trans rfl, (blk_cell BK284.out 2).trans rfl, (blk_cell BK284.out 3).trans rfl, (blk_cell BK284.out 4).trans rfl, (blk_cell BK284.out 5).trans rfl, (blk_cell BK284.out 6).trans rfl, (blk_cell BK284.out 7).trans rfl, (blk_cell BK284.out 8).trans rfl, (blk_cell BK284.out 9).trans rfl, (blk_cell BK302.out 0).trans rfl, (blk_cell BK302.out 1).trans rfl, (blk_cell BK302.out 2).trans rfl, (blk_cell BK302.out 3).trans rfl, (blk_cell BK302.out 4).trans rfl, (blk_cell BK302.out 5).trans rfl, (blk_cell BK302.out 6).trans rfl, (blk_cell BK302.out 7).trans rfl, (blk_cell BK302.out 8).trans rfl, (blk_cell BK302.out 9).trans rfl⟩ (fun hHeld => ?_)
     clear hK K
     refine norm_ (a' := ?_) ?_ ?_
     rotate_left
     · show Act.put _ (some 61) _ = _
       simp only [Act.put, la, lb, lc, i64_w, i32_w]
       rfl
     refine one_ (i := 13) (N := some 66) #[true, true, true, true, true, true, true, true, true, true, true, true, true, true, false, false, false, false, false] rfl rfl (one_of HT_.out kr) (by decide) (fun K hK => ?_)
     refine goes_ Try.func72 kr rfl #[.agg #[.int .i64 a0_5, .int .i64 a0_6, .slice A0_7 l0_7.length c0_7]] (by rfl) rfl rfl Q3 ?_
     with_reducible refine (spec_LastIndex.calls k2 a0_5 a0_6 _ _ l0_7 t327 _ ?side1 ?side2 A74.out).mono ?_
     (case side1 => exact Q9)
     (case side2 => exact HC0_7.out)
     rintro e w82 ⟨rfl, hb⟩
     refine ⟨_, rfl, ?_⟩
     replace HO_7 := am (Kd.S_below u11_15 hb)
     replace HO_303007 := am (Kd.R_below u11_14 hb)
     replace HO_303008 := am (Kd.R_below u11_12 hb)
     replace HO_303009 := am (Kd.R_below u11_13 hb)
     replace BK284 := am (blk_below (g := gb284) (o := .cells #[.int .i64 a0_0, .int .i64 a0_1, .int .i64 a0_2, .int .i64 a0_3, .int .i64 a0_4, .int .i64 a0_5, .int .i64 a0_6, .slice A0_7 l0_7.length c0_7, .slice A0_8 l0_8.length c0_8, .slice A0_9 l0_9.length c0_9] 37 (0, 0)) u11_4 hb)
     replace BK285 := am (blk_below (g := gb285) (o := .cells #[.int .i64 0, .int .i64 0, .int .i64 0, .int .i64 0, .int .i64 0, .int .i64 0, .int .i64 0, .slice none 0 0, .slice none 0 0, .slice none 0 0] 37 (0, 0)) u11_8 hb)
     replace BK302 := am (blk_below (g := gb302) (o := .cells #[.int .i64 t286, .int .i64 (wrap64 (a0_1 + 1)), .int .i64 a0_0, .int .i64 1, .int .i64 t290, .int .i64 t291, .int .i64 t292, .slice Ao14 t293.length co14, .slice Ao64 y320.length co64, .slice Ao16 t299.length co16] 37 (0, 0)) u11_10 hb)
     replace HB := am (below_step Q0 hb)
     (try clear hb)
     (try clear hb2)
     (try clear hk)
     (try clear hi)
     refine hK.out _ _ ⟨(blk_cell BK284.out 0).trans rfl, (blk_cell BK284.out 1).trans rfl, (blk_cell BK284.out 2).trans rfl, (blk_cell BK284.out 3).trans rfl, (blk_cell BK284.out 4).trans rfl, (blk_cell BK284.out 5).trans rfl, (blk_cell BK284.out 6).trans rfl, (blk_cell BK284.out 7).trans rfl, (blk_cell BK284.out 8).trans rfl, (blk_cell BK284.out 9).trans rfl, (blk_cell BK302.out 0).trans rfl, (blk_cell BK302.out 1).trans rfl, (blk_cell BK302.out 2).trans rfl, (blk_cell BK302.out 3).trans rfl, (blk_cell BK302.out 4).trans rfl, (blk_cell BK302.out 5).trans rfl, (blk_cell BK302.out 6).trans rfl, (blk_cell BK302.out 7).trans rfl, (blk_cell BK302.out 8).trans rfl, (blk_cell BK302.out 9).trans rfl⟩ (fun hHeld => ?_)
     clear hK K
     refine norm_ (a' := ?_) ?_ ?_
     rotate_left
     · show Act.put _ (some 66) _ = _
       simp only [Act.put, la, lb, lc, i64_w, i32_w]
       rfl
     refine one_ (i := 14) (N := some 67) #[true, true, true, true, true, true, true, true, true, true, true, true, true, true, true, false, false, false, false] rfl rfl (one_of HT_.out kr) (by decide) (fun K hK => ?_)
     refine goes_ Try.func73 kr rfl #[.agg #[.int .i64 a0_5, .int .i64 a0_6, .slice A0_7 l0_7.length c0_7], .int .i64 t327] (by rfl) rfl rfl Q3 ?_
     with_reducible refine (spec_TermAt.calls k2 a0_5 a0_6 _ _ l0_7 t327 t328 _ ?side1 ?side2 A75.out).mono ?_
     (case side1 => exact Q9)
     (case side2 => exact HC0_7.out)
     rintro e w83 ⟨rfl, hb⟩
     refine ⟨_, rfl, ?_⟩
     replace HO_7 := am (Kd.S_below u11_15 hb)
     replace HO_303007 := am (Kd.R_below u11_14 hb)
     replace HO_303008 := am (Kd.R_below u11_12 hb)
     replace HO_303009 := am (Kd.R_below u11_13 hb)
     replace BK284 := am (blk_below (g := gb284) (o := .cells #[.int .i64 a0_0, .int .i64 a0_1, .int .i64 a0_2, .int .i64 a0_3, .int .i64 a0_4, .int .i64 a0_5, .int .i64 a0_6, .slice A0_7 l0_7.length c0_7, .slice A0_8 l0_8.length c0_8, .slice A0_9 l0_9.length c0_9] 37 (0, 0)) u11_4 hb)
     replace BK285 := am (blk_below (g := gb285) (o := .cells #[.int .i64 0, .int .i64 0, .int .i64 0, .int .i64 0, .int .i64 0, .int .i64 0, .int .i64 0, .slice none 0 0, .slice none 0 0, .slice none 0 0] 37 (0, 0)) u11_8 hb)
     replace BK302 := am (blk_below (g := gb302) (o := .cells #[.int .i64 t286, .int .i64 (wrap64 (a0_1 + 1)), .int .i64 a0_0, .int .i64 1, .int .i64 t290, .int .i64 t291, .int .i64 t292, .slice Ao14 t293.length co14, .slice Ao64 y320.length co64, .slice Ao16 t299.length co16] 37 (0, 0)) u11_10 hb)
     replace HB := am (below_step Q0 hb)
     (try clear hb)
     (try clear hb2)
     (try clear hk)
     (try clear hi)
     refine hK.out _ _ ⟨(blk_cell BK284.out 0).trans rfl, (blk_cell BK284.out 1).trans rfl, (blk_cell BK284.out 2).trans rfl, (blk_cell BK284.out 3).trans rfl, (blk_cell BK284.out 4).trans rfl, (blk_cell BK284.out 5).trans rfl, (blk_cell BK284.out 6).trans rfl, (blk_cell BK284.out 7).trans rfl, (blk_cell BK284.out 8).trans rfl, (blk_cell BK284.out 9).trans rfl, (blk_cell BK302.out 0).trans rfl, (blk_cell BK302.out 1).trans rfl, (blk_cell BK302.out 2).trans rfl, (blk_cell BK302.out 3).trans rfl, (blk_cell BK302.out 4).trans rfl, (blk_cell BK302.out 5).trans rfl, (blk_cell BK302.out 6).trans rfl, (blk_cell BK302.out 7).trans rfl, (blk_cell BK302.out 8).trans rfl, (blk_cell BK302.out 9).trans rfl⟩ (fun hHeld => ?_)
     clear hK K
     refine norm_ (a' := ?_) ?_ ?_
     rotate_left
     · show Act.put _ (some 67) _ = _
       simp only [Act.put, la, lb, lc, i64_w, i32_w]
       rfl
     refine pV 15 68 (bt 16 19) ?_
     refine one_ (i := 16) (N := some 69) #[true, true, true, true, true, true, true, true, true, true, true, true, true, true, true, true, true, false, false] rfl rfl (one_of HT_.out kr) (by decide) (fun K hK => ?_)
     refine value_ (w1 := ?_) (v := ?_) (by rfl) rfl ?_ ?_
     rotate_left 2
     · go_simp
       constructor
       · rfl
       rfl
     refine hK.out _ _ ⟨(blk_cell (blk_alloc BK284.out _) 0).trans rfl, (blk_cell (blk_alloc BK284.out _) 1).trans rfl, (blk_cell (blk_alloc BK284.out _) 2).trans rfl, (blk_cell (blk_alloc BK284.out _) 3).trans rfl, (blk_cell (blk_alloc BK284.out _) 4).trans rfl, (blk_cell (blk_alloc BK284.out _) 5).trans rfl, (blk_cell (blk_alloc BK284.out _) 6).trans rfl, (blk_cell (blk_alloc BK284.out _) 7).trans rfl, (blk_cell (blk_alloc BK284.out _) 8).trans rfl, (blk_cell (blk_alloc BK284.out _) 9).trans rfl, (blk_cell (blk_alloc BK302.out _) 0).trans rfl, (blk_cell (blk_alloc BK302.out _) 1).trans rfl, (blk_cell (blk_alloc BK302.out _) 2).trans rfl, (blk_cell (blk_alloc BK302.out _) 3).trans rfl, (blk_cell (blk_alloc BK302.out _) 4).trans rfl, (blk_cell (blk_alloc BK302.out _) 5).trans rfl, (blk_cell (blk_alloc BK302.out _) 6).trans rfl, (blk_cell (blk_alloc BK302.out _) 7).trans rfl, (blk_cell (blk_alloc BK302.out _) 8).trans rfl, (blk_cell (blk_alloc BK302.out _) 9).trans rfl⟩ (fun hHeld => ?_)
     clear hK K
     refine norm_ (a' := ?_) ?_ ?_
     rotate_left
     · show Act.put _ (some 69) _ = _
       simp only [Act.put, la, lb, lc, i64_w, i32_w]
       rfl
     refine one_ (i := 17) (N := some 70) #[true, true, true, true, true, true, true, true, true, true, true, true, true, true, true, true, true, true, false] rfl rfl (one_of HT_.out kr) (by decide) (fun K hK => ?_)
     refine Kd.S_append_step k29 (w0 := w) w.heap.size (by rfl) (.tmp 53) (.tmp 69) 51 29 (.agg #[(.int .i64 0), (.int .i64 0), (.int .i64 0), (.int .i64 0), (.int .i64 0), (.int .i64 0), (.int .i64 0), (.bool false), (.slice none 0 0)]) 88 rfl Try.underlying51 info29 rfl (by decide) (by omega) u7 x7_2 (⟨0, a0_0, x8_2, (wrap64 (a0_1 + 1)), t326, t328, 0, false, ([] : List (S85))⟩ : S29) [.int .i64 0, .int .i64 a0_0, .int .i64 x8_2, .int .i64 (wrap64 (a0_1 + 1)), .int .i64 t326, .int .i64 t328, .int .i64 0, .bool false, .slice none 0 0] (fun k_ => some k_ ≠ (.slice Ao14 t293.length co14 : Value).ownBlock) (fun _ => False) rfl rfl ?aP (fun k_ hk_ => hk_.elim) ?aF ?aO ?aB ?aS ?aL ?_
     (case aP => exact k29_mkM _ _ _ (⟨0, a0_0, x8_2, (wrap64 (a0_1 + 1)), t326, t328, 0, false, ([] : List (S85))⟩ : S29) (Kd.R_nil _ _ _ _ _))
     (case aB => exact Q0)
     (case aF => exact (fun k_ hk => Kd.fresh' (Kd.R_lt u11_14) k_ hk))
     (case aO => exact (by (with_reducible repeat (first | apply Kd.S_alloc | apply Kd.S_drewN | apply Kd.S_drew)); exact Kd.S_mono HO_7.out (fun k_ hk => ⟨hk, fun e_ => e_⟩)))
     (case aS => exact (below_size Q0))
     (case aL => have := LMc76.out; omega)
     intro v330 w84 ho hb hg hat
     rw [← Ny329.out] at ho
     replace HO_303007 := am (Kd.R_over' u11_14 (Kd.S_typed u11_15) (by decide) hg)
     replace HO_303008 := am (Kd.R_over' u11_12 (Kd.S_typed u11_15) (by decide) hg)
     replace HO_303009 := am (Kd.R_over' u11_13 (Kd.S_typed u11_15) (by decide) hg)
     replace BK284 := am (blk_grown (g := gb284) (o := .cells #[.int .i64 a0_0, .int .i64 a0_1, .int .i64 a0_2, .int .i64 a0_3, .int .i64 a0_4, .int .i64 a0_5, .int .i64 a0_6, .slice A0_7 l0_7.length c0_7, .slice A0_8 l0_8.length c0_8, .slice A0_9 l0_9.length c0_9] 37 (0, 0)) u11_4 hg (Kd.S_ne HO_7.out BK284.out (by decide)))
     replace BK285 := am (blk_grown (g := gb285) (o := .cells #[.int .i64 0, .int .i64 0, .int .i64 0, .int .i64 0, .int .i64 0, .int .i64 0, .int .i64 0, .slice none 0 0, .slice none 0 0, .slice none 0 0] 37 (0, 0)) u11_8 hg (Kd.S_ne HO_7.out BK285.out (by decide)))
     replace BK302 := am (blk_grown (g := gb302) (o := .cells #[.int .i64 t286, .int .i64 (wrap64 (a0_1 + 1)), .int .i64 a0_0, .int .i64 1, .int .i64 t290, .int .i64 t291, .int .i64 t292, .slice Ao14 t293.length co14, .slice Ao64 y320.length co64, .slice Ao16 t299.length co16] 37 (0, 0)) u11_10 hg (Kd.S_ne HO_7.out BK302.out (by decide)))
     replace HB := am (hb)
     have HO331 := am (ho)
     clear HO_7
     clear ho hb hg hat
     refine hK.out _ _ ⟨(blk_cell BK284.out 0).trans rfl, (blk_cell BK284.out 1).trans rfl, (blk_cell BK284.out 2).trans rfl, (blk_cell BK284.out 3).trans rfl, (blk_cell BK284.out 4).trans rfl, (blk_cell BK284.out 5).trans rfl, (blk_cell BK284.out 6).trans rfl, (blk_cell BK284.out 7).trans rfl, (blk_cell BK284.out 8).trans rfl, (blk_cell BK284.out 9).trans rfl, (blk_cell BK302.out 0).trans rfl, (blk_cell BK302.out 1).trans rfl, (blk_cell BK302.out 2).trans rfl, (blk_cell BK302.out 3).trans rfl, (blk_cell BK302.out 4).trans rfl, (blk_cell BK302.out 5).trans rfl, (blk_cell BK302.out 6).trans rfl, (blk_cell BK302.out 7).trans rfl, (blk_cell BK302.out 8).trans rfl, (blk_cell BK302.out 9).trans rfl⟩ (fun hHeld => ?_)
     clear hK K
     refine norm_ (a' := ?_) ?_ ?_
     rotate_left
     · show Act.put _ (some 70) _ = _
       simp only [Act.put, la, lb, lc, i64_w, i32_w]
       rfl
     refine pV 18 7 (bt 19 19) ?_
     refine done_ (done_of HT_.out kr) ?_
     try go_wp2
     go_roundg k2
     case measure => have := HJ3.out; have := HK2.out; omega
     case rel => exact ⟨(y329), (wrap64 (x8_2 + 1)), Q2, H', ⟨(by have := HJ3.out; have := HK2.out; omega)⟩, ⟨(by (with_reducible repeat (first | apply Kd.S_alloc | apply Kd.S_drewN | apply Kd.S_drew)); exact HO331.out)⟩, ⟨u11_14⟩, ⟨u11_12⟩, ⟨u11_13⟩, ⟨u11_4⟩, ⟨u11_8⟩, ⟨u11_10⟩, ⟨Q0⟩⟩

end Go.Proofs.Ytkcadcoohmofcaa.QFnExactElect
