-- Printed by the session's own program wip/prx.py.
import Derived.Test.YtkcadcoohmofcaaSqFnExactElect
import Derived.Test.YtkcadcoohmofcaaQFnExactElectx0
import Derived.Test.YtkcadcoohmofcaaQFnExactElectx12
import Derived.Test.YtkcadcoohmofcaaQFnExactElectx14
import Derived.Test.YtkcadcoohmofcaaQFnExactElectx15
namespace Go.Proofs.Ytkcadcoohmofcaa.QFnExactElect
open Go.RowKit Go.Proofs.YtkcadcoohmofcaaW.PrintWords Go.Proofs.YtkcadcoohmofcaaW.PrintLast Go.Proofs.YtkcadcoohmofcaaW.PrintMore Go.Proofs.Ytkcadcoohmofcaa.SqFnExactElect
attribute [local go_sem] max2_int min2_int max_two min_two max_three min_three max_four min_four Go.Proofs.Ytkcadcoohmofcaa.Set.isSome_setCell
set_option linter.unusedVariables false
set_option linter.unusedSimpArgs false

-- squeezed
theorem u16_1 {P : Prop} (h : P := by (with_reducible repeat (first | refine blk_drewN ?_ _ | refine blk_drew ?_ | refine blk_alloc ?_ _)); refine blk_put (cs := #[.int .i64 t386, .int .i64 t387, .int .i64 t388, .int .i64 t389, .int .i64 t390, .int .i64 t391, .int .i64 t392, .slice Ao14 t393.length co14, .slice Ao15 t396.length co15, .slice none 0 0]) ?_ 9 _ rfl; (with_reducible repeat (first | refine blk_drewN ?_ _ | refine blk_drew ?_ | refine blk_alloc ?_ _)); refine blk_put (cs := #[.int .i64 t386, .int .i64 t387, .int .i64 t388, .int .i64 t389, .int .i64 t390, .int .i64 t391, .int .i64 t392, .slice Ao14 t393.length co14, .slice none 0 0, .slice none 0 0]) ?_ 8 _ rfl; (with_reducible repeat (first | refine blk_drewN ?_ _ | refine blk_drew ?_ | refine blk_alloc ?_ _)); refine blk_put (cs := #[.int .i64 t386, .int .i64 t387, .int .i64 t388, .int .i64 t389, .int .i64 t390, .int .i64 t391, .int .i64 t392, .slice none 0 0, .slice none 0 0, .slice none 0 0]) ?_ 7 _ rfl; (with_reducible repeat (first | refine blk_drewN ?_ _ | refine blk_drew ?_ | refine blk_alloc ?_ _)); refine blk_put (cs := #[.int .i64 t386, .int .i64 t387, .int .i64 t388, .int .i64 t389, .int .i64 t390, .int .i64 t391, .int .i64 0, .slice none 0 0, .slice none 0 0, .slice none 0 0]) ?_ 6 _ rfl; (with_reducible repeat (first | refine blk_drewN ?_ _ | refine blk_drew ?_ | refine blk_alloc ?_ _)); refine blk_put (cs := #[.int .i64 t386, .int .i64 t387, .int .i64 t388, .int .i64 t389, .int .i64 t390, .int .i64 0, .int .i64 0, .slice none 0 0, .slice none 0 0, .slice none 0 0]) ?_ 5 _ rfl; (with_reducible repeat (first | refine blk_drewN ?_ _ | refine blk_drew ?_ | refine blk_alloc ?_ _)); refine blk_put (cs := #[.int .i64 t386, .int .i64 t387, .int .i64 t388, .int .i64 t389, .int .i64 0, .int .i64 0, .int .i64 0, .slice none 0 0, .slice none 0 0, .slice none 0 0]) ?_ 4 _ rfl; (with_reducible repeat (first | refine blk_drewN ?_ _ | refine blk_drew ?_ | refine blk_alloc ?_ _)); refine blk_put (cs := #[.int .i64 t386, .int .i64 t387, .int .i64 t388, .int .i64 0, .int .i64 0, .int .i64 0, .int .i64 0, .slice none 0 0, .slice none 0 0, .slice none 0 0]) ?_ 3 _ rfl; (with_reducible repeat (first | refine blk_drewN ?_ _ | refine blk_drew ?_ | refine blk_alloc ?_ _)); refine blk_put (cs := #[.int .i64 t386, .int .i64 t387, .int .i64 0, .int .i64 0, .int .i64 0, .int .i64 0, .int .i64 0, .slice none 0 0, .slice none 0 0, .slice none 0 0]) ?_ 2 _ rfl; (with_reducible repeat (first | refine blk_drewN ?_ _ | refine blk_drew ?_ | refine blk_alloc ?_ _)); refine blk_put (cs := #[.int .i64 t386, .int .i64 0, .int .i64 0, .int .i64 0, .int .i64 0, .int .i64 0, .int .i64 0, .slice none 0 0, .slice none 0 0, .slice none 0 0]) ?_ 1 _ rfl; (with_reducible repeat (first | refine blk_drewN ?_ _ | refine blk_drew ?_ | refine blk_alloc ?_ _)); refine blk_put (cs := #[.int .i64 0, .int .i64 0, .int .i64 0, .int .i64 0, .int .i64 0, .int .i64 0, .int .i64 0, .slice none 0 0, .slice none 0 0, .slice none 0 0]) ?_ 0 _ rfl; (with_reducible repeat (first | refine blk_drewN ?_ _ | refine blk_drew ?_ | refine blk_alloc ?_ _)); exact BK402.out) : P := h
theorem u16_2 {P : Prop} (h : P := by (with_reducible repeat (first | refine blk_drewN ?_ _ | refine blk_drew ?_ | refine blk_alloc ?_ _)); refine blk_far ?_ NB384_402.out _; (with_reducible repeat (first | refine blk_drewN ?_ _ | refine blk_drew ?_ | refine blk_alloc ?_ _)); refine blk_far ?_ NB384_402.out _; (with_reducible repeat (first | refine blk_drewN ?_ _ | refine blk_drew ?_ | refine blk_alloc ?_ _)); refine blk_far ?_ NB384_402.out _; (with_reducible repeat (first | refine blk_drewN ?_ _ | refine blk_drew ?_ | refine blk_alloc ?_ _)); refine blk_far ?_ NB384_402.out _; (with_reducible repeat (first | refine blk_drewN ?_ _ | refine blk_drew ?_ | refine blk_alloc ?_ _)); refine blk_far ?_ NB384_402.out _; (with_reducible repeat (first | refine blk_drewN ?_ _ | refine blk_drew ?_ | refine blk_alloc ?_ _)); refine blk_far ?_ NB384_402.out _; (with_reducible repeat (first | refine blk_drewN ?_ _ | refine blk_drew ?_ | refine blk_alloc ?_ _)); refine blk_far ?_ NB384_402.out _; (with_reducible repeat (first | refine blk_drewN ?_ _ | refine blk_drew ?_ | refine blk_alloc ?_ _)); refine blk_far ?_ NB384_402.out _; (with_reducible repeat (first | refine blk_drewN ?_ _ | refine blk_drew ?_ | refine blk_alloc ?_ _)); refine blk_far ?_ NB384_402.out _; (with_reducible repeat (first | refine blk_drewN ?_ _ | refine blk_drew ?_ | refine blk_alloc ?_ _)); refine blk_far ?_ NB384_402.out _; (with_reducible repeat (first | refine blk_drewN ?_ _ | refine blk_drew ?_ | refine blk_alloc ?_ _)); exact BK384.out) : P := h
theorem u16_3 {P : Prop} (h : P := by (with_reducible repeat (first | refine blk_drewN ?_ _ | refine blk_drew ?_ | refine blk_alloc ?_ _)); refine blk_far ?_ NB385_402.out _; (with_reducible repeat (first | refine blk_drewN ?_ _ | refine blk_drew ?_ | refine blk_alloc ?_ _)); refine blk_far ?_ NB385_402.out _; (with_reducible repeat (first | refine blk_drewN ?_ _ | refine blk_drew ?_ | refine blk_alloc ?_ _)); refine blk_far ?_ NB385_402.out _; (with_reducible repeat (first | refine blk_drewN ?_ _ | refine blk_drew ?_ | refine blk_alloc ?_ _)); refine blk_far ?_ NB385_402.out _; (with_reducible repeat (first | refine blk_drewN ?_ _ | refine blk_drew ?_ | refine blk_alloc ?_ _)); refine blk_far ?_ NB385_402.out _; (with_reducible repeat (first | refine blk_drewN ?_ _ | refine blk_drew ?_ | refine blk_alloc ?_ _)); refine blk_far ?_ NB385_402.out _; (with_reducible repeat (first | refine blk_drewN ?_ _ | refine blk_drew ?_ | refine blk_alloc ?_ _)); refine blk_far ?_ NB385_402.out _; (with_reducible repeat (first | refine blk_drewN ?_ _ | refine blk_drew ?_ | refine blk_alloc ?_ _)); refine blk_far ?_ NB385_402.out _; (with_reducible repeat (first | refine blk_drewN ?_ _ | refine blk_drew ?_ | refine blk_alloc ?_ _)); refine blk_far ?_ NB385_402.out _; (with_reducible repeat (first | refine blk_drewN ?_ _ | refine blk_drew ?_ | refine blk_alloc ?_ _)); refine blk_far ?_ NB385_402.out _; (with_reducible repeat (first | refine blk_drewN ?_ _ | refine blk_drew ?_ | refine blk_alloc ?_ _)); exact BK385.out) : P := h
theorem u16_4 {P : Prop} (h : P := by (with_reducible repeat (first | apply Kd.R_alloc | apply Kd.R_drewN | apply Kd.R_drew)); exact (Kd.R_mono (Kd.R_far (p := ⟨gb402, 9, none⟩) (Kd.R_far (p := ⟨gb402, 8, none⟩) (Kd.R_far (p := ⟨gb402, 7, none⟩) (Kd.R_far (p := ⟨gb402, 6, none⟩) (Kd.R_far (p := ⟨gb402, 5, none⟩) (Kd.R_far (p := ⟨gb402, 4, none⟩) (Kd.R_far (p := ⟨gb402, 3, none⟩) (Kd.R_far (p := ⟨gb402, 2, none⟩) (Kd.R_far (p := ⟨gb402, 1, none⟩) (Kd.R_far (p := ⟨gb402, 0, none⟩) (Kd.R_types HO395.out BK402.out (by decide)) (fun _ hk => hk.2) (.int .i64 t386)) (fun _ hk => hk.2) (.int .i64 t387)) (fun _ hk => hk.2) (.int .i64 t388)) (fun _ hk => hk.2) (.int .i64 t389)) (fun _ hk => hk.2) (.int .i64 t390)) (fun _ hk => hk.2) (.int .i64 t391)) (fun _ hk => hk.2) (.int .i64 t392)) (fun _ hk => hk.2) (.slice Ao14 t393.length co14)) (fun _ hk => hk.2) (.slice Ao15 t396.length co15)) (fun _ hk => hk.2) (.slice Ao16 t399.length co16)) (fun _ h_ => h_.1))) : P := h
theorem u16_5 {P : Prop} (h : P := by (with_reducible repeat (first | apply Kd.R_alloc | apply Kd.R_drewN | apply Kd.R_drew)); exact (Kd.R_mono (Kd.R_far (p := ⟨gb402, 9, none⟩) (Kd.R_far (p := ⟨gb402, 8, none⟩) (Kd.R_far (p := ⟨gb402, 7, none⟩) (Kd.R_far (p := ⟨gb402, 6, none⟩) (Kd.R_far (p := ⟨gb402, 5, none⟩) (Kd.R_far (p := ⟨gb402, 4, none⟩) (Kd.R_far (p := ⟨gb402, 3, none⟩) (Kd.R_far (p := ⟨gb402, 2, none⟩) (Kd.R_far (p := ⟨gb402, 1, none⟩) (Kd.R_far (p := ⟨gb402, 0, none⟩) (Kd.R_types HO398.out BK402.out (by decide)) (fun _ hk => hk.2) (.int .i64 t386)) (fun _ hk => hk.2) (.int .i64 t387)) (fun _ hk => hk.2) (.int .i64 t388)) (fun _ hk => hk.2) (.int .i64 t389)) (fun _ hk => hk.2) (.int .i64 t390)) (fun _ hk => hk.2) (.int .i64 t391)) (fun _ hk => hk.2) (.int .i64 t392)) (fun _ hk => hk.2) (.slice Ao14 t393.length co14)) (fun _ hk => hk.2) (.slice Ao15 t396.length co15)) (fun _ hk => hk.2) (.slice Ao16 t399.length co16)) (fun _ h_ => h_.1))) : P := h
theorem u16_6 {P : Prop} (h : P := by (with_reducible repeat (first | apply Kd.R_alloc | apply Kd.R_drewN | apply Kd.R_drew)); exact (Kd.R_mono (Kd.R_far (p := ⟨gb402, 9, none⟩) (Kd.R_far (p := ⟨gb402, 8, none⟩) (Kd.R_far (p := ⟨gb402, 7, none⟩) (Kd.R_far (p := ⟨gb402, 6, none⟩) (Kd.R_far (p := ⟨gb402, 5, none⟩) (Kd.R_far (p := ⟨gb402, 4, none⟩) (Kd.R_far (p := ⟨gb402, 3, none⟩) (Kd.R_far (p := ⟨gb402, 2, none⟩) (Kd.R_far (p := ⟨gb402, 1, none⟩) (Kd.R_far (p := ⟨gb402, 0, none⟩) (Kd.R_types HO401.out BK402.out (by decide)) (fun _ hk => hk.2) (.int .i64 t386)) (fun _ hk => hk.2) (.int .i64 t387)) (fun _ hk => hk.2) (.int .i64 t388)) (fun _ hk => hk.2) (.int .i64 t389)) (fun _ hk => hk.2) (.int .i64 t390)) (fun _ hk => hk.2) (.int .i64 t391)) (fun _ hk => hk.2) (.int .i64 t392)) (fun _ hk => hk.2) (.slice Ao14 t393.length co14)) (fun _ hk => hk.2) (.slice Ao15 t396.length co15)) (fun _ hk => hk.2) (.slice Ao16 t399.length co16)) (fun _ h_ => h_.1))) : P := h
theorem u16_7 {P : Prop} (h : P := by (with_reducible repeat (first | refine blk_drewN ?_ _ | refine blk_drew ?_ | refine blk_alloc ?_ _)); exact BK384.out) : P := h
theorem u16_8 {P : Prop} (h : P := by (with_reducible repeat (first | refine blk_drewN ?_ _ | refine blk_drew ?_ | refine blk_alloc ?_ _)); exact BK385.out) : P := h
theorem u16_9 {P : Prop} (h : P := by (with_reducible repeat (first | refine blk_drewN ?_ _ | refine blk_drew ?_ | refine blk_alloc ?_ _)); exact BK402.out) : P := h
theorem u16_11 {P : Prop} (h : P := by (with_reducible repeat (first | apply Kd.R_alloc | apply Kd.R_drewN | apply Kd.R_drew)); exact HO_403007.out) : P := h
theorem u16_13 {P : Prop} (h : P := by (with_reducible repeat (first | apply Kd.R_alloc | apply Kd.R_drewN | apply Kd.R_drew)); exact HO_403008.out) : P := h
theorem u16_14 {P : Prop} (h : P := by (with_reducible repeat (first | apply Kd.R_alloc | apply Kd.R_drewN | apply Kd.R_drew)); exact HO_403009.out) : P := h
theorem u16_15 {P : Prop} (h : P := by (with_reducible repeat (first | apply Kd.S_alloc | apply Kd.S_drewN | apply Kd.S_drew)); exact HO_8.out) : P := h
theorem u16_16 {P : Prop} (h : P := by (with_reducible repeat (first | apply Kd.R_alloc | apply Kd.R_drewN | apply Kd.R_drew)); exact (Kd.R_mono (Kd.R_far (p := ⟨gb402, 3, none⟩) (Kd.R_far (p := ⟨gb402, 2, none⟩) (Kd.R_far (p := ⟨gb402, 1, none⟩) (Kd.R_types HO_403008.out BK402.out (by decide)) (fun _ hk => hk.2) (.int .i64 (wrap64 (t387 + 1)))) (fun _ hk => hk.2) (.int .i64 a0_0)) (fun _ hk => hk.2) (.int .i64 1)) (fun _ h_ => h_.1))) : P := h
theorem u16_17 {P : Prop} (h : P := by (with_reducible repeat (first | apply Kd.R_alloc | apply Kd.R_drewN | apply Kd.R_drew)); exact (Kd.R_mono (Kd.R_far (p := ⟨gb402, 3, none⟩) (Kd.R_far (p := ⟨gb402, 2, none⟩) (Kd.R_far (p := ⟨gb402, 1, none⟩) (Kd.R_types HO_403009.out BK402.out (by decide)) (fun _ hk => hk.2) (.int .i64 (wrap64 (t387 + 1)))) (fun _ hk => hk.2) (.int .i64 a0_0)) (fun _ hk => hk.2) (.int .i64 1)) (fun _ h_ => h_.1))) : P := h
theorem u16_19 {P : Prop} (h : P := by (with_reducible repeat (first | apply Kd.R_alloc | apply Kd.R_drewN | apply Kd.R_drew)); exact HO395.out) : P := h
theorem u16_20 {P : Prop} (h : P := by (with_reducible repeat (first | apply Kd.R_alloc | apply Kd.R_drewN | apply Kd.R_drew)); exact HO398.out) : P := h
theorem u16_21 {P : Prop} (h : P := by (with_reducible repeat (first | apply Kd.R_alloc | apply Kd.R_drewN | apply Kd.R_drew)); exact HO401.out) : P := h
theorem u16_23 {P : Prop} (h : P := by (with_reducible repeat (first | apply Kd.R_alloc | apply Kd.R_drewN | apply Kd.R_drew)); exact (Kd.R_mono (Kd.R_far (p := ⟨gb402, 8, none⟩) (Kd.R_types HO_403007.out BK402.out (by decide)) (fun _ hk => hk.2) (.slice Ao47 y404.length co47)) (fun _ h_ => h_.1))) : P := h
theorem u16_25 {P : Prop} (h : P := by (with_reducible repeat (first | apply Kd.R_alloc | apply Kd.R_drewN | apply Kd.R_drew)); exact HO406.out) : P := h
/-! ### impl_Elect: function 48 -/
mutual
def impl_Elect.j0 : Nat → Int → Bool → Int → Int → Int → Int → Int → Int → Int → List (S85) → List Int → List Int → Int → Int → Int → Int → Int → Int → Int → List (S85) → List Int → List Int → Option (Int × Int × Int × Int × Int × Int × Int × (List (S85)) × List Int × List Int × (List (S29)))
 | 0, _, _, _, _, _, _, _, _, _, _, _, _, _, _, _, _, _, _, _, _, _, _ => none
 | k + 1, x1, x25, x385000, x385001, x385002, x385003, x385004, x385005, x385006, x385007, x385008, x385009, x403000, x403001, x403002, x403003, x403004, x403005, x403006, x403007, x403008, x403009 => if x25 = true then (some (x403000, x403001, x403002, x403003, x403004, x403005, x403006, x403007, x403008, x403009, ([] : List (S29)))) else ((some (([x385000] : List Int) : List Int)).bind fun y404 => (if x1 = 1 then ((impl_Node_lead.f x403000 (wrap64 (x403001 + 1)) x385000 1 x403004 x403005 x403006 x403007 y404 x403009 x1).bind fun t407 => (some (x403000, wrap64 (x403001 + 1), x385000, 2, x403004, x403005, x403006, x403007, ([] : List Int), t407, ([] : List (S29))))) else ((impl_RLog_last.f x403005 x403006 x403007).bind fun t410 => (impl_Elect.l0 k t410 (([] : List (S29))) x1 0 x385000 x385001 x385002 x385003 x385004 x385005 x385006 x385007 x385008 x385009 x403000 (wrap64 (x403001 + 1)) x385000 1 x403004 x403005 x403006 x403007 y404 x403009))))
def impl_Elect.l0 : Nat → Int → List (S29) → Int → Int → Int → Int → Int → Int → Int → Int → Int → List (S85) → List Int → List Int → Int → Int → Int → Int → Int → Int → Int → List (S85) → List Int → List Int → Option (Int × Int × Int × Int × Int × Int × Int × (List (S85)) × List Int × List Int × (List (S29)))
 | 0, _, _, _, _, _, _, _, _, _, _, _, _, _, _, _, _, _, _, _, _, _, _, _, _ => none
 | k + 1, x7, x8, x48, x49, x385000, x385001, x385002, x385003, x385004, x385005, x385006, x385007, x385008, x385009, x403000, x403001, x403002, x403003, x403004, x403005, x403006, x403007, x403008, x403009 => if x49 < x48 then (if x49 = x385000 then (impl_Elect.l0 k x7 x8 x48 (wrap64 (x49 + 1)) x385000 x385001 x385002 x385003 x385004 x385005 x385006 x385007 x385008 x385009 x403000 x403001 x403002 x403003 x403004 x403005 x403006 x403007 x403008 x403009) else ((impl_RLog_term.f x403005 x403006 x403007 x7).bind fun t414 => (if x8.length < 1599289640401 then (impl_Elect.l0 k x7 (x8 ++ [(⟨0, x385000, x49, x403001, x7, t414, 0, false, ([] : List (S85))⟩ : S29)]) x48 (wrap64 (x49 + 1)) x385000 x385001 x385002 x385003 x385004 x385005 x385006 x385007 x385008 x385009 x403000 x403001 x403002 x403003 x403004 x403005 x403006 x403007 x403008 x403009) else (none)))) else (some (x403000, x403001, x403002, x403003, x403004, x403005, x403006, x403007, x403008, x403009, x8))
end
def impl_Elect.f (k : Nat) (a0_0 : Int) (a0_1 : Int) (a0_2 : Int) (a0_3 : Int) (a0_4 : Int) (a0_5 : Int) (a0_6 : Int) (l0_7 : List (S85)) (l0_8 : List Int) (l0_9 : List Int) (a1 : Int) : Option (Int × Int × Int × Int × Int × Int × Int × (List (S85)) × List Int × List Int × (List (S29))) := (impl_copyNode.f a0_0 a0_1 a0_2 a0_3 a0_4 a0_5 a0_6 l0_7 l0_8 l0_9).bind fun bt386 => ((impl_isNode.f k a0_0 a0_1 a0_2 a0_3 a0_4 a0_5 a0_6 l0_7 l0_8 l0_9 a1).bind fun t403 => (if t403 = true then (if a0_3 = 2 then (impl_Elect.j0 k a1 true a0_0 a0_1 a0_2 a0_3 a0_4 a0_5 a0_6 l0_7 l0_8 l0_9 bt386.1 bt386.2.1 bt386.2.2.1 bt386.2.2.2.1 bt386.2.2.2.2.1 bt386.2.2.2.2.2.1 bt386.2.2.2.2.2.2.1 bt386.2.2.2.2.2.2.2.1 bt386.2.2.2.2.2.2.2.2.1 bt386.2.2.2.2.2.2.2.2.2) else (impl_Elect.j0 k a1 (a0_1 == 1000000) a0_0 a0_1 a0_2 a0_3 a0_4 a0_5 a0_6 l0_7 l0_8 l0_9 bt386.1 bt386.2.1 bt386.2.2.1 bt386.2.2.2.1 bt386.2.2.2.2.1 bt386.2.2.2.2.2.1 bt386.2.2.2.2.2.2.1 bt386.2.2.2.2.2.2.2.1 bt386.2.2.2.2.2.2.2.2.1 bt386.2.2.2.2.2.2.2.2.2)) else (impl_Elect.j0 k a1 true a0_0 a0_1 a0_2 a0_3 a0_4 a0_5 a0_6 l0_7 l0_8 l0_9 bt386.1 bt386.2.1 bt386.2.2.1 bt386.2.2.2.1 bt386.2.2.2.2.1 bt386.2.2.2.2.2.1 bt386.2.2.2.2.2.2.1 bt386.2.2.2.2.2.2.2.1 bt386.2.2.2.2.2.2.2.2.1 bt386.2.2.2.2.2.2.2.2.2)))
theorem impl_Elect.mono_l : ∀ k, (∀ y0 y1 y2 y3 y4 y5 y6 y7 y8 y9 y10 y11 y12 y13 y14 y15 y16 y17 y18 y19 y20 y21, LeO (impl_Elect.j0 k y0 y1 y2 y3 y4 y5 y6 y7 y8 y9 y10 y11 y12 y13 y14 y15 y16 y17 y18 y19 y20 y21) (impl_Elect.j0 (k + 1) y0 y1 y2 y3 y4 y5 y6 y7 y8 y9 y10 y11 y12 y13 y14 y15 y16 y17 y18 y19 y20 y21)) ∧ (∀ y0 y1 y2 y3 y4 y5 y6 y7 y8 y9 y10 y11 y12 y13 y14 y15 y16 y17 y18 y19 y20 y21 y22 y23, LeO (impl_Elect.l0 k y0 y1 y2 y3 y4 y5 y6 y7 y8 y9 y10 y11 y12 y13 y14 y15 y16 y17 y18 y19 y20 y21 y22 y23) (impl_Elect.l0 (k + 1) y0 y1 y2 y3 y4 y5 y6 y7 y8 y9 y10 y11 y12 y13 y14 y15 y16 y17 y18 y19 y20 y21 y22 y23))
 | 0 => ⟨fun _ _ _ _ _ _ _ _ _ _ _ _ _ _ _ _ _ _ _ _ _ _ r h => by simp [impl_Elect.j0] at h, fun _ _ _ _ _ _ _ _ _ _ _ _ _ _ _ _ _ _ _ _ _ _ _ _ r h => by simp [impl_Elect.l0] at h⟩
 | k + 1 => by
   obtain ⟨ih0, ih1⟩ := impl_Elect.mono_l k
   refine ⟨?_, ?_⟩ <;> intros <;> (first | unfold impl_Elect.j0 | unfold impl_Elect.l0) <;> repeat' first
   | (with_reducible exact ih0 _ _ _ _ _ _ _ _ _ _ _ _ _ _ _ _ _ _ _ _ _ _)
   | (with_reducible exact ih1 _ _ _ _ _ _ _ _ _ _ _ _ _ _ _ _ _ _ _ _ _ _ _ _)
   | (with_reducible exact impl_isNode.mono _ _ _ _ _ _ _ _ _ _ _ _)
   | (with_reducible exact LeO.refl _)
   | (with_reducible exact LeO.none _)
   | (with_reducible refine LeO.ite ?_ ?_)
   | (with_reducible refine LeO.bind ?_ (fun _ => ?_))
   | exact ih0 _ _ _ _ _ _ _ _ _ _ _ _ _ _ _ _ _ _ _ _ _ _
   | exact ih1 _ _ _ _ _ _ _ _ _ _ _ _ _ _ _ _ _ _ _ _ _ _ _ _
   | exact impl_isNode.mono _ _ _ _ _ _ _ _ _ _ _ _
   | exact LeO.none _
   | refine LeO.ite ?_ ?_
   | refine LeO.bind ?_ (fun _ => ?_)
theorem impl_Elect.mono : ∀ a0 a1 a2 a3 a4 a5 a6 a7 a8 a9 a10 k, LeO (impl_Elect.f k a0 a1 a2 a3 a4 a5 a6 a7 a8 a9 a10) (impl_Elect.f (k + 1) a0 a1 a2 a3 a4 a5 a6 a7 a8 a9 a10) := by
 intro a0 a1 a2 a3 a4 a5 a6 a7 a8 a9 a10 k
 obtain ⟨ih0, ih1⟩ := impl_Elect.mono_l k
 unfold impl_Elect.f
 repeat' first
     | (with_reducible exact ih0 _ _ _ _ _ _ _ _ _ _ _ _ _ _ _ _ _ _ _ _ _ _)
     | (with_reducible exact ih1 _ _ _ _ _ _ _ _ _ _ _ _ _ _ _ _ _ _ _ _ _ _ _ _)
     | (with_reducible exact impl_isNode.mono _ _ _ _ _ _ _ _ _ _ _ _)
     | (with_reducible exact LeO.refl _)
     | (with_reducible exact LeO.none _)
     | (with_reducible refine LeO.ite ?_ ?_)
     | (with_reducible refine LeO.bind ?_ (fun _ => ?_))
     | exact ih0 _ _ _ _ _ _ _ _ _ _ _ _ _ _ _ _ _ _ _ _ _ _
     | exact ih1 _ _ _ _ _ _ _ _ _ _ _ _ _ _ _ _ _ _ _ _ _ _ _ _
     | exact impl_isNode.mono _ _ _ _ _ _ _ _ _ _ _ _
     | exact LeO.none _
     | refine LeO.ite ?_ ?_
     | refine LeO.bind ?_ (fun _ => ?_)
def impl_Elect.T17 : Bool × List (List Nat × List Nat) := (true, [([], []), ([], []), ([1], [1]), ([], []), ([], []), ([4], [4]), ([], []), ([], []), ([7], [7]), ([], []), ([8, 9], [8, 9]), ([2, 3, 5, 6, 10], [2, 3, 5, 6, 10]), ([11], [11]), ([0, 12, 10], [0, 12]), ([13, 13, 0, 1, 2, 3, 4, 5, 6, 7, 8, 9, 10, 11, 12, 13], [0, 13])])
def impl_Elect.B17 : List Nat := [0, 0, 2, 0, 0, 16, 0, 0, 128, 0, 896, 2046, 4094, 8191, 16383]
theorem impl_Elect.tab17 : rtab .any (opsOf Try.f48 17) = impl_Elect.T17 := by kernel_rfl
theorem impl_Elect.bits17 : waitsOk impl_Elect.T17.2 impl_Elect.B17 = true := by kernel_rfl
set_option maxHeartbeats 8000000 in
set_option maxRecDepth 100000 in
theorem impl_Elect.calls (k : Nat) (a0_0 : Int) (a0_1 : Int) (a0_2 : Int) (a0_3 : Int) (a0_4 : Int) (a0_5 : Int) (a0_6 : Int) (A0_7 : Option Addr) (c0_7 : Nat) (l0_7 : List (S85)) (A0_8 : Option Addr) (c0_8 : Nat) (l0_8 : List Int) (A0_9 : Option Addr) (c0_9 : Nat) (l0_9 : List Int) (a1 : Int) (r1 : Int) (r2 : Int) (r3 : Int) (r4 : Int) (r5 : Int) (r6 : Int) (r7 : Int) (r8 : List (S85)) (r9 : List Int) (r10 : List Int) (r11 : List (S29)) (w : World) (hr0_7 : Kd.C k85 w A0_7 l0_7.length l0_7) (hc0_7 : l0_7.length ≤ c0_7) (hr0_8 : Kd.C (Kd.int .i64) w A0_8 l0_8.length l0_8) (hc0_8 : l0_8.length ≤ c0_8) (hr0_9 : Kd.C (Kd.int .i64) w A0_9 l0_9.length l0_9) (hc0_9 : l0_9.length ≤ c0_9) (h : impl_Elect.f k a0_0 a0_1 a0_2 a0_3 a0_4 a0_5 a0_6 l0_7 l0_8 l0_9 a1 = some (r1, r2, r3, r4, r5, r6, r7, r8, r9, r10, r11)) :
   Calls Try.prog 48 #[.agg #[.int .i64 a0_0, .int .i64 a0_1, .int .i64 a0_2, .int .i64 a0_3, .int .i64 a0_4, .int .i64 a0_5, .int .i64 a0_6, .slice A0_7 l0_7.length c0_7, .slice A0_8 l0_8.length c0_8, .slice A0_9 l0_9.length c0_9], .int .i64 a1] w fun e w' => ∃ v7_ v8_ v9_ v10_ : Value, e = .returned (.tuple #[.agg #[.int .i64 r1, .int .i64 r2, .int .i64 r3, .int .i64 r4, .int .i64 r5, .int .i64 r6, .int .i64 r7, v7_, v8_, v9_], v10_]) ∧ Kd.R k85 85 w' w.heap.size (fun _ => True) v7_ r8 ∧ Kd.R (Kd.int .i64) 3 w' w.heap.size (fun k_ => some k_ ≠ (v9_ : Value).ownBlock) v8_ r9 ∧ Kd.R (Kd.int .i64) 3 w' w.heap.size (fun k_ => some k_ ≠ (v8_ : Value).ownBlock) v9_ r10 ∧ Kd.S k29 29 w' w.heap.size (fun k_ => some k_ ≠ (v7_ : Value).ownBlock) v10_ r11 ∧ Below w.heap.size w w' := by
 have hu37 := Try.underlying37
 have hu34 := Try.underlying34
 have hu29 := Try.underlying29
 have HR0_7 := am hr0_7
 have HC0_7 := am hc0_7
 clear hr0_7 hc0_7
 have HR0_8 := am hr0_8
 have HC0_8 := am hc0_8
 clear hr0_8 hc0_8
 have HR0_9 := am hr0_9
 have HC0_9 := am hc0_9
 clear hr0_9 hc0_9
 have HB := am (Below.refl w.heap.size w)
 have H : ((impl_copyNode.f a0_0 a0_1 a0_2 a0_3 a0_4 a0_5 a0_6 l0_7 l0_8 l0_9).bind fun bt386 => ((impl_isNode.f k a0_0 a0_1 a0_2 a0_3 a0_4 a0_5 a0_6 l0_7 l0_8 l0_9 a1).bind fun t403 => (if t403 = true then (if a0_3 = 2 then (impl_Elect.j0 k a1 true a0_0 a0_1 a0_2 a0_3 a0_4 a0_5 a0_6 l0_7 l0_8 l0_9 bt386.1 bt386.2.1 bt386.2.2.1 bt386.2.2.2.1 bt386.2.2.2.2.1 bt386.2.2.2.2.2.1 bt386.2.2.2.2.2.2.1 bt386.2.2.2.2.2.2.2.1 bt386.2.2.2.2.2.2.2.2.1 bt386.2.2.2.2.2.2.2.2.2) else (impl_Elect.j0 k a1 (a0_1 == 1000000) a0_0 a0_1 a0_2 a0_3 a0_4 a0_5 a0_6 l0_7 l0_8 l0_9 bt386.1 bt386.2.1 bt386.2.2.1 bt386.2.2.2.1 bt386.2.2.2.2.1 bt386.2.2.2.2.2.1 bt386.2.2.2.2.2.2.1 bt386.2.2.2.2.2.2.2.1 bt386.2.2.2.2.2.2.2.2.1 bt386.2.2.2.2.2.2.2.2.2)) else (impl_Elect.j0 k a1 true a0_0 a0_1 a0_2 a0_3 a0_4 a0_5 a0_6 l0_7 l0_8 l0_9 bt386.1 bt386.2.1 bt386.2.2.1 bt386.2.2.2.1 bt386.2.2.2.2.1 bt386.2.2.2.2.2.1 bt386.2.2.2.2.2.2.1 bt386.2.2.2.2.2.2.2.1 bt386.2.2.2.2.2.2.2.2.1 bt386.2.2.2.2.2.2.2.2.2)))) = some (r1, r2, r3, r4, r5, r6, r7, r8, r9, r10, r11) := h
 clear h
 replace H := Option.bind_eq_some_iff.mp H
 obtain ⟨⟨t386, t387, t388, t389, t390, t391, t392, t393, t396, t399⟩, A30, H⟩ := H
 (try dsimp only at H)
 have A3 := am A30
 clear A30
 have HC4 := am H
 clear H
 go_enter Try.func48, Try.ntmps48
 go_upto_region 2 with (first | ((with_reducible refine gate_dst (N := 2) rfl ?_); refine box_event ?hg (N := 2) ?hd (cs := #[.int .i64 a0_0, .int .i64 a0_1, .int .i64 a0_2, .int .i64 a0_3, .int .i64 a0_4, .int .i64 a0_5, .int .i64 a0_6, .slice A0_7 l0_7.length c0_7, .slice A0_8 l0_8.length c0_8, .slice A0_9 l0_9.length c0_9]) (t := 37) ?hr ?_; (case hd => rfl); (case hg => rfl); (case hr => first | (go_simp; done) | (go_simp; rfl)); intro gb384 hg w5 hbox hb; have BK384 := am (hbox); have GW384 := am ((by rw [hg]; exact (below_size Q0) : w.heap.size ≤ gb384)); have GE384 := am ((by rw [hg]; exact (below_size Q0) : w.heap.size ≤ gb384)); replace HB := am (below_step Q0 hb); clear hb hbox hg) | ((with_reducible refine gate_dst (N := 4) rfl ?_); refine box_event ?hg (N := 4) ?hd (cs := #[.int .i64 0, .int .i64 0, .int .i64 0, .int .i64 0, .int .i64 0, .int .i64 0, .int .i64 0, .slice none 0 0, .slice none 0 0, .slice none 0 0]) (t := 37) ?hr ?_; (case hd => rfl); (case hg => rfl); (case hr => first | (go_simp; done) | (go_simp; rfl)); intro gb385 hg w6 hbox hb; have BK385 := am (hbox); have GW385 := am ((by rw [hg]; exact (below_size Q0) : w.heap.size ≤ gb385)); have GE385 := am ((by rw [hg]; exact (below_size Q0) : w.heap.size ≤ gb385)); replace HB := am (below_step Q0 hb); have NB384_385 := am ((by rw [hg]; exact Nat.ne_of_lt (blk_lt (g := gb384) (o := .cells #[.int .i64 a0_0, .int .i64 a0_1, .int .i64 a0_2, .int .i64 a0_3, .int .i64 a0_4, .int .i64 a0_5, .int .i64 a0_6, .slice A0_7 l0_7.length c0_7, .slice A0_8 l0_8.length c0_8, .slice A0_9 l0_9.length c0_9] 37 (0, 0)) u16_7) : gb384 ≠ gb385)); have NB385_384 := am ((by rw [hg]; exact Nat.ne_of_gt (blk_lt (g := gb384) (o := .cells #[.int .i64 a0_0, .int .i64 a0_1, .int .i64 a0_2, .int .i64 a0_3, .int .i64 a0_4, .int .i64 a0_5, .int .i64 a0_6, .slice A0_7 l0_7.length c0_7, .slice A0_8 l0_8.length c0_8, .slice A0_9 l0_9.length c0_9] 37 (0, 0)) u16_7) : gb385 ≠ gb384)); replace BK384 := am (blk_below (g := gb384) (o := .cells #[.int .i64 a0_0, .int .i64 a0_1, .int .i64 a0_2, .int .i64 a0_3, .int .i64 a0_4, .int .i64 a0_5, .int .i64 a0_6, .slice A0_7 l0_7.length c0_7, .slice A0_8 l0_8.length c0_8, .slice A0_9 l0_9.length c0_9] 37 (0, 0)) u16_7 hb); clear hb hbox hg; have hnb7 := NB384_385.out; have hnc7 := NB385_384.out; obtain ⟨hcz8_0, hcz8_1, hcz8_2, hcz8_3, hcz8_4, hcz8_5, hcz8_6, hcz8_7, hcz8_8, hcz8_9, hfz8_0, hfz8_1, hfz8_2, hfz8_3, hfz8_4, hfz8_5, hfz8_6, hfz8_7, hfz8_8, hfz8_9⟩ := bc10f w6 BK384.out) | ((with_reducible refine gate_callee (f := 85) rfl ?_); refine goesL_ (some 11) rfl rfl Try.func85 kr rfl #[.agg #[.int .i64 a0_0, .int .i64 a0_1, .int .i64 a0_2, .int .i64 a0_3, .int .i64 a0_4, .int .i64 a0_5, .int .i64 a0_6, .slice A0_7 l0_7.length c0_7, .slice A0_8 l0_8.length c0_8, .slice A0_9 l0_9.length c0_9]] rfl Q3 ?_; (with_reducible refine (impl_copyNode.calls a0_0 a0_1 a0_2 a0_3 a0_4 a0_5 a0_6 _ _ l0_7 _ _ l0_8 _ _ l0_9 t386 t387 t388 t389 t390 t391 t392 t393 t396 t399 _ ?side1 ?side2 ?side3 ?side4 ?side5 ?side6 A3.out).mono ?_); (case side1 => exact (by repeat (first | exact (Kd.C_below HR0_7.out HB.out) | (with_reducible refine Kd.C_alloc ?_ _) | (with_reducible refine Kd.C_drewN ?_ _) | (with_reducible refine Kd.C_drew ?_)))); (case side2 => exact HC0_7.out); (case side3 => exact (by repeat (first | exact (Kd.C_below HR0_8.out HB.out) | (with_reducible refine Kd.C_alloc ?_ _) | (with_reducible refine Kd.C_drewN ?_ _) | (with_reducible refine Kd.C_drew ?_)))); (case side4 => exact HC0_8.out); (case side5 => exact (by repeat (first | exact (Kd.C_below HR0_9.out HB.out) | (with_reducible refine Kd.C_alloc ?_ _) | (with_reducible refine Kd.C_drewN ?_ _) | (with_reducible refine Kd.C_drew ?_)))); (case side6 => exact HC0_9.out); rintro e w9 ⟨v394, v397, v400, rfl, ho0, ho1, ho2, hb⟩; refine ⟨_, rfl, ?_⟩; have HO395 := am (Kd.R_lower ho0 (below_size Q0)); have HO398 := am (Kd.R_lower ho1 (below_size Q0)); have HO401 := am (Kd.R_lower ho2 (below_size Q0)); replace BK384 := am (blk_below (g := gb384) (o := .cells #[.int .i64 a0_0, .int .i64 a0_1, .int .i64 a0_2, .int .i64 a0_3, .int .i64 a0_4, .int .i64 a0_5, .int .i64 a0_6, .slice A0_7 l0_7.length c0_7, .slice A0_8 l0_8.length c0_8, .slice A0_9 l0_9.length c0_9] 37 (0, 0)) u16_7 hb); replace BK385 := am (blk_below (g := gb385) (o := .cells #[.int .i64 0, .int .i64 0, .int .i64 0, .int .i64 0, .int .i64 0, .int .i64 0, .int .i64 0, .slice none 0 0, .slice none 0 0, .slice none 0 0] 37 (0, 0)) u16_8 hb); replace HB := am (below_step Q0 hb); (try clear hb); (try clear hb2); (try clear hk); (try clear hi); (try clear ho0); (try clear ho1); (try clear ho2)) | ((with_reducible refine gate_dst (N := 6) rfl ?_); refine box_event ?hg (N := 6) ?hd (cs := #[.int .i64 0, .int .i64 0, .int .i64 0, .int .i64 0, .int .i64 0, .int .i64 0, .int .i64 0, .slice none 0 0, .slice none 0 0, .slice none 0 0]) (t := 37) ?hr ?_; (case hd => rfl); (case hg => rfl); (case hr => first | (go_simp; done) | (go_simp; rfl)); intro gb402 hg w10 hbox hb; replace HO395 := am (Kd.R_below u16_19 hb); replace HO398 := am (Kd.R_below u16_20 hb); replace HO401 := am (Kd.R_below u16_21 hb); have BK402 := am (hbox); have GW402 := am ((by rw [hg]; exact (below_size Q0) : w.heap.size ≤ gb402)); have GE402 := am ((by rw [hg]; exact (below_size Q0) : w.heap.size ≤ gb402)); replace HB := am (below_step Q0 hb); have NB384_402 := am ((by rw [hg]; exact Nat.ne_of_lt (blk_lt (g := gb384) (o := .cells #[.int .i64 a0_0, .int .i64 a0_1, .int .i64 a0_2, .int .i64 a0_3, .int .i64 a0_4, .int .i64 a0_5, .int .i64 a0_6, .slice A0_7 l0_7.length c0_7, .slice A0_8 l0_8.length c0_8, .slice A0_9 l0_9.length c0_9] 37 (0, 0)) u16_7) : gb384 ≠ gb402)); have NB402_384 := am ((by rw [hg]; exact Nat.ne_of_gt (blk_lt (g := gb384) (o := .cells #[.int .i64 a0_0, .int .i64 a0_1, .int .i64 a0_2, .int .i64 a0_3, .int .i64 a0_4, .int .i64 a0_5, .int .i64 a0_6, .slice A0_7 l0_7.length c0_7, .slice A0_8 l0_8.length c0_8, .slice A0_9 l0_9.length c0_9] 37 (0, 0)) u16_7) : gb402 ≠ gb384)); replace BK384 := am (blk_below (g := gb384) (o := .cells #[.int .i64 a0_0, .int .i64 a0_1, .int .i64 a0_2, .int .i64 a0_3, .int .i64 a0_4, .int .i64 a0_5, .int .i64 a0_6, .slice A0_7 l0_7.length c0_7, .slice A0_8 l0_8.length c0_8, .slice A0_9 l0_9.length c0_9] 37 (0, 0)) u16_7 hb); have NB385_402 := am ((by rw [hg]; exact Nat.ne_of_lt (blk_lt (g := gb385) (o := .cells #[.int .i64 0, .int .i64 0, .int .i64 0, .int .i64 0, .int .i64 0, .int .i64 0, .int .i64 0, .slice none 0 0, .slice none 0 0, .slice none 0 0] 37 (0, 0)) u16_8) : gb385 ≠ gb402)); have NB402_385 := am ((by rw [hg]; exact Nat.ne_of_gt (blk_lt (g := gb385) (o := .cells #[.int .i64 0, .int .i64 0, .int .i64 0, .int .i64 0, .int .i64 0, .int .i64 0, .int .i64 0, .slice none 0 0, .slice none 0 0, .slice none 0 0] 37 (0, 0)) u16_8) : gb402 ≠ gb385)); replace BK385 := am (blk_below (g := gb385) (o := .cells #[.int .i64 0, .int .i64 0, .int .i64 0, .int .i64 0, .int .i64 0, .int .i64 0, .int .i64 0, .slice none 0 0, .slice none 0 0, .slice none 0 0] 37 (0, 0)) u16_8 hb); clear hb hbox hg; have hnb11 := NB402_384.out; have hnc11 := NB384_402.out; have hnb12 := NB402_385.out; have hnc12 := NB385_402.out; obtain ⟨hcz13_0, hcz13_1, hcz13_2, hcz13_3, hcz13_4, hcz13_5, hcz13_6, hcz13_7, hcz13_8, hcz13_9, hfz13_0, hfz13_1, hfz13_2, hfz13_3, hfz13_4, hfz13_5, hfz13_6, hfz13_7, hfz13_8, hfz13_9⟩ := bc10f w10 BK402.out; obtain ⟨Ao14, co14, eo14⟩ := Kd.R_slice HO395.out; subst eo14; obtain ⟨Ao15, co15, eo15⟩ := Kd.R_slice HO398.out; subst eo15; obtain ⟨Ao16, co16, eo16⟩ := Kd.R_slice HO401.out; subst eo16))
 (try simp only [Act.put, la, lb, lc])
 go_cut [25] (fun v25 wc => ∃ (kq : Nat) (x25_3 : Bool), v25 = .bool x25_3 ∧ Aside0 (impl_Elect.j0 kq a1 x25_3 a0_0 a0_1 a0_2 a0_3 a0_4 a0_5 a0_6 l0_7 l0_8 l0_9 t386 t387 t388 t389 t390 t391 t392 t393 t396 t399 = some (r1, r2, r3, r4, r5, r6, r7, r8, r9, r10, r11)) ∧ Aside0 (kq ≤ k) ∧ Aside0 (Kd.R k85 85 wc w.heap.size (fun _ => True) (.slice Ao14 t393.length co14) t393) ∧ Aside0 (Kd.R (Kd.int .i64) 3 wc w.heap.size (fun k_ => some k_ ≠ ((.slice Ao16 t399.length co16) : Value).ownBlock) (.slice Ao15 t396.length co15) t396) ∧ Aside0 (Kd.R (Kd.int .i64) 3 wc w.heap.size (fun k_ => some k_ ≠ ((.slice Ao15 t396.length co15) : Value).ownBlock) (.slice Ao16 t399.length co16) t399) ∧ Aside0 (wc.heap[gb384]? = some (.cells #[.int .i64 a0_0, .int .i64 a0_1, .int .i64 a0_2, .int .i64 a0_3, .int .i64 a0_4, .int .i64 a0_5, .int .i64 a0_6, (.slice A0_7 l0_7.length c0_7), (.slice A0_8 l0_8.length c0_8), (.slice A0_9 l0_9.length c0_9)] 37 (0, 0))) ∧ Aside0 (wc.heap[gb385]? = some (.cells #[.int .i64 0, .int .i64 0, .int .i64 0, .int .i64 0, .int .i64 0, .int .i64 0, .int .i64 0, (.slice none 0 0), (.slice none 0 0), (.slice none 0 0)] 37 (0, 0))) ∧ Aside0 (wc.heap[gb402]? = some (.cells #[.int .i64 t386, .int .i64 t387, .int .i64 t388, .int .i64 t389, .int .i64 t390, .int .i64 t391, .int .i64 t392, (.slice Ao14 t393.length co14), (.slice Ao15 t396.length co15), (.slice Ao16 t399.length co16)] 37 (0, 0))) ∧ Aside0 (Below w.heap.size w wc))
 case first =>
   have H := HC4.out
   clear HC4
   replace H := Option.bind_eq_some_iff.mp H
   obtain ⟨t403, A170, H⟩ := H
   have A17 := am A170
   clear A170
   by_cases c18 : t403 = true
   rotate_left
   · replace c18 := Bool.eq_false_iff.mpr c18
     subst c18
     rw [nf] at H
     have H' := am H
     clear H
     have hnb30 := NB384_385.out
     have hnc30 := NB385_384.out
     have hnb31 := NB384_402.out
     have hnc31 := NB402_384.out
     obtain ⟨hcz32_0, hcz32_1, hcz32_2, hcz32_3, hcz32_4, hcz32_5, hcz32_6, hcz32_7, hcz32_8, hcz32_9, hfz32_0, hfz32_1, hfz32_2, hfz32_3, hfz32_4, hfz32_5, hfz32_6, hfz32_7, hfz32_8, hfz32_9⟩ := bc10f w10 BK384.out
     go_wp2_with (first | ((with_reducible refine gate_callee (f := 78) rfl ?_); refine goesL_ (some 14) rfl rfl Try.func78 kr rfl #[.agg #[.int .i64 a0_0, .int .i64 a0_1, .int .i64 a0_2, .int .i64 a0_3, .int .i64 a0_4, .int .i64 a0_5, .int .i64 a0_6, .slice A0_7 l0_7.length c0_7, .slice A0_8 l0_8.length c0_8, .slice A0_9 l0_9.length c0_9], .int .i64 a1] rfl Q3 ?_; (with_reducible refine (impl_isNode.calls k a0_0 a0_1 a0_2 a0_3 a0_4 a0_5 a0_6 _ _ l0_7 _ _ l0_8 _ _ l0_9 a1 false _ ?side1 ?side2 ?side3 ?side4 ?side5 ?side6 A17.out).mono ?_); (case side1 => exact (by exact Kd.C_below HR0_7.out Q0)); (case side2 => exact HC0_7.out); (case side3 => exact (by exact Kd.C_below HR0_8.out Q0)); (case side4 => exact HC0_8.out); (case side5 => exact (by exact Kd.C_below HR0_9.out Q0)); (case side6 => exact HC0_9.out); rintro e w33 ⟨rfl, hb⟩; refine ⟨_, rfl, ?_⟩; replace HO395 := am (Kd.R_below u16_4 hb); replace HO398 := am (Kd.R_below u16_5 hb); replace HO401 := am (Kd.R_below u16_6 hb); replace BK384 := am (blk_below (g := gb384) (o := .cells #[.int .i64 a0_0, .int .i64 a0_1, .int .i64 a0_2, .int .i64 a0_3, .int .i64 a0_4, .int .i64 a0_5, .int .i64 a0_6, .slice A0_7 l0_7.length c0_7, .slice A0_8 l0_8.length c0_8, .slice A0_9 l0_9.length c0_9] 37 (0, 0)) u16_2 hb); replace BK385 := am (blk_below (g := gb385) (o := .cells #[.int .i64 0, .int .i64 0, .int .i64 0, .int .i64 0, .int .i64 0, .int .i64 0, .int .i64 0, .slice none 0 0, .slice none 0 0, .slice none 0 0] 37 (0, 0)) u16_3 hb); replace BK402 := am (blk_below (g := gb402) (o := .cells #[.int .i64 t386, .int .i64 t387, .int .i64 t388, .int .i64 t389, .int .i64 t390, .int .i64 t391, .int .i64 t392, .slice Ao14 t393.length co14, .slice Ao15 t396.length co15, .slice Ao16 t399.length co16] 37 (0, 0)) u16_1 hb); replace HB := am (below_step Q0 hb); (try clear hb); (try clear hb2); (try clear hk); (try clear hi)))
     go_meet
     case rel => exact ⟨_, (true), Q2, H', ⟨by first | omega | exact Nat.le_refl _⟩, ⟨u16_19⟩, ⟨u16_20⟩, ⟨u16_21⟩, ⟨u16_7⟩, ⟨u16_8⟩, ⟨u16_9⟩, ⟨Q0⟩⟩
   subst c18
   rw [if_pos rfl] at H
   by_cases c19 : a0_3 = 2
   rotate_left
   · rw [if_neg c19] at H
     have c19b0 : (a0_3 == 2) = false := beq_eq_false_iff_ne.mpr c19
     have c19b1 : (a0_3 != 2) = true := bne_iff_ne.mpr c19
     (first | rw [c19b0] | (simp only [i64_w, i32_w]; rw [c19b0]) | skip)
     have H' := am H
     clear H
     have hnb25 := NB384_385.out
     have hnc25 := NB385_384.out
     have hnb26 := NB384_402.out
     have hnc26 := NB402_384.out
     obtain ⟨hcz27_0, hcz27_1, hcz27_2, hcz27_3, hcz27_4, hcz27_5, hcz27_6, hcz27_7, hcz27_8, hcz27_9, hfz27_0, hfz27_1, hfz27_2, hfz27_3, hfz27_4, hfz27_5, hfz27_6, hfz27_7, hfz27_8, hfz27_9⟩ := bc10f w10 BK384.out
     go_wp2_with (first | ((with_reducible refine gate_callee (f := 78) rfl ?_); refine goesL_ (some 14) rfl rfl Try.func78 kr rfl #[.agg #[.int .i64 a0_0, .int .i64 a0_1, .int .i64 a0_2, .int .i64 a0_3, .int .i64 a0_4, .int .i64 a0_5, .int .i64 a0_6, .slice A0_7 l0_7.length c0_7, .slice A0_8 l0_8.length c0_8, .slice A0_9 l0_9.length c0_9], .int .i64 a1] rfl Q3 ?_; (with_reducible refine (impl_isNode.calls k a0_0 a0_1 a0_2 a0_3 a0_4 a0_5 a0_6 _ _ l0_7 _ _ l0_8 _ _ l0_9 a1 true _ ?side1 ?side2 ?side3 ?side4 ?side5 ?side6 A17.out).mono ?_); (case side1 => exact (by exact Kd.C_below HR0_7.out Q0)); (case side2 => exact HC0_7.out); (case side3 => exact (by exact Kd.C_below HR0_8.out Q0)); (case side4 => exact HC0_8.out); (case side5 => exact (by exact Kd.C_below HR0_9.out Q0)); (case side6 => exact HC0_9.out); rintro e w28 ⟨rfl, hb⟩; refine ⟨_, rfl, ?_⟩; replace HO395 := am (Kd.R_below u16_4 hb); replace HO398 := am (Kd.R_below u16_5 hb); replace HO401 := am (Kd.R_below u16_6 hb); replace BK384 := am (blk_below (g := gb384) (o := .cells #[.int .i64 a0_0, .int .i64 a0_1, .int .i64 a0_2, .int .i64 a0_3, .int .i64 a0_4, .int .i64 a0_5, .int .i64 a0_6, .slice A0_7 l0_7.length c0_7, .slice A0_8 l0_8.length c0_8, .slice A0_9 l0_9.length c0_9] 37 (0, 0)) u16_2 hb); replace BK385 := am (blk_below (g := gb385) (o := .cells #[.int .i64 0, .int .i64 0, .int .i64 0, .int .i64 0, .int .i64 0, .int .i64 0, .int .i64 0, .slice none 0 0, .slice none 0 0, .slice none 0 0] 37 (0, 0)) u16_3 hb); replace BK402 := am (blk_below (g := gb402) (o := .cells #[.int .i64 t386, .int .i64 t387, .int .i64 t388, .int .i64 t389, .int .i64 t390, .int .i64 t391, .int .i64 t392, .slice Ao14 t393.length co14, .slice Ao15 t396.length co15, .slice Ao16 t399.length co16] 37 (0, 0)) u16_1 hb); replace HB := am (below_step Q0 hb); (try clear hb); (try clear hb2); (try clear hk); (try clear hi); obtain ⟨hcz29_0, hcz29_1, hcz29_2, hcz29_3, hcz29_4, hcz29_5, hcz29_6, hcz29_7, hcz29_8, hcz29_9, hfz29_0, hfz29_1, hfz29_2, hfz29_3, hfz29_4, hfz29_5, hfz29_6, hfz29_7, hfz29_8, hfz29_9⟩ := bc10f w28 BK384.out))
     go_meet
     case rel => exact ⟨_, ((a0_1 == 1000000)), Q2, H', ⟨by first | omega | exact Nat.le_refl _⟩, ⟨u16_19⟩, ⟨u16_20⟩, ⟨u16_21⟩, ⟨u16_7⟩, ⟨u16_8⟩, ⟨u16_9⟩, ⟨Q0⟩⟩
   rw [if_pos c19] at H
   have c19b0 : (a0_3 == 2) = true := beq_iff_eq.mpr c19
   have c19b1 : (a0_3 != 2) = false := bne_eq_false_iff_eq.mpr c19
   clear c19
   (first | rw [c19b0] | (simp only [i64_w, i32_w]; rw [c19b0]) | skip)
   have H' := am H
   clear H
   have hnb20 := NB384_385.out
   have hnc20 := NB385_384.out
   have hnb21 := NB384_402.out
   have hnc21 := NB402_384.out
   obtain ⟨hcz22_0, hcz22_1, hcz22_2, hcz22_3, hcz22_4, hcz22_5, hcz22_6, hcz22_7, hcz22_8, hcz22_9, hfz22_0, hfz22_1, hfz22_2, hfz22_3, hfz22_4, hfz22_5, hfz22_6, hfz22_7, hfz22_8, hfz22_9⟩ := bc10f w10 BK384.out
   go_wp2_with (first | ((with_reducible refine gate_callee (f := 78) rfl ?_); refine goesL_ (some 14) rfl rfl Try.func78 kr rfl #[.agg #[.int .i64 a0_0, .int .i64 a0_1, .int .i64 a0_2, .int .i64 a0_3, .int .i64 a0_4, .int .i64 a0_5, .int .i64 a0_6, .slice A0_7 l0_7.length c0_7, .slice A0_8 l0_8.length c0_8, .slice A0_9 l0_9.length c0_9], .int .i64 a1] rfl Q3 ?_; (with_reducible refine (impl_isNode.calls k a0_0 a0_1 a0_2 a0_3 a0_4 a0_5 a0_6 _ _ l0_7 _ _ l0_8 _ _ l0_9 a1 true _ ?side1 ?side2 ?side3 ?side4 ?side5 ?side6 A17.out).mono ?_); (case side1 => exact (by exact Kd.C_below HR0_7.out Q0)); (case side2 => exact HC0_7.out); (case side3 => exact (by exact Kd.C_below HR0_8.out Q0)); (case side4 => exact HC0_8.out); (case side5 => exact (by exact Kd.C_below HR0_9.out Q0)); (case side6 => exact HC0_9.out); rintro e w23 ⟨rfl, hb⟩; refine ⟨_, rfl, ?_⟩; replace HO395 := am (Kd.R_below u16_4 hb); replace HO398 := am (Kd.R_below u16_5 hb); replace HO401 := am (Kd.R_below u16_6 hb); replace BK384 := am (blk_below (g := gb384) (o := .cells #[.int .i64 a0_0, .int .i64 a0_1, .int .i64 a0_2, .int .i64 a0_3, .int .i64 a0_4, .int .i64 a0_5, .int .i64 a0_6, .slice A0_7 l0_7.length c0_7, .slice A0_8 l0_8.length c0_8, .slice A0_9 l0_9.length c0_9] 37 (0, 0)) u16_2 hb); replace BK385 := am (blk_below (g := gb385) (o := .cells #[.int .i64 0, .int .i64 0, .int .i64 0, .int .i64 0, .int .i64 0, .int .i64 0, .int .i64 0, .slice none 0 0, .slice none 0 0, .slice none 0 0] 37 (0, 0)) u16_3 hb); replace BK402 := am (blk_below (g := gb402) (o := .cells #[.int .i64 t386, .int .i64 t387, .int .i64 t388, .int .i64 t389, .int .i64 t390, .int .i64 t391, .int .i64 t392, .slice Ao14 t393.length co14, .slice Ao15 t396.length co15, .slice Ao16 t399.length co16] 37 (0, 0)) u16_1 hb); replace HB := am (below_step Q0 hb); (try clear hb); (try clear hb2); (try clear hk); (try clear hi); obtain ⟨hcz24_0, hcz24_1, hcz24_2, hcz24_3, hcz24_4, hcz24_5, hcz24_6, hcz24_7, hcz24_8, hcz24_9, hfz24_0, hfz24_1, hfz24_2, hfz24_3, hfz24_4, hfz24_5, hfz24_6, hfz24_7, hfz24_8, hfz24_9⟩ := bc10f w23 BK384.out))
   go_meet
   case rel => exact ⟨_, (true), Q2, H', ⟨by first | omega | exact Nat.le_refl _⟩, ⟨u16_19⟩, ⟨u16_20⟩, ⟨u16_21⟩, ⟨u16_7⟩, ⟨u16_8⟩, ⟨u16_9⟩, ⟨Q0⟩⟩
 clear HC4
 try clear hcz13_0
 try clear hcz13_1
 try clear hcz13_2
 try clear hcz13_3
 try clear hcz13_4
 try clear hcz13_5
 try clear hcz13_6
 try clear hcz13_7
 try clear hcz13_8
 try clear hcz13_9
 try clear hcz8_0
 try clear hcz8_1
 try clear hcz8_2
 try clear hcz8_3
 try clear hcz8_4
 try clear hcz8_5
 try clear hcz8_6
 try clear hcz8_7
 try clear hcz8_8
 try clear hcz8_9
 try clear hfz13_0
 try clear hfz13_1
 try clear hfz13_2
 try clear hfz13_3
 try clear hfz13_4
 try clear hfz13_5
 try clear hfz13_6
 try clear hfz13_7
 try clear hfz13_8
 try clear hfz13_9
 try clear hfz8_0
 try clear hfz8_1
 try clear hfz8_2
 try clear hfz8_3
 try clear hfz8_4
 try clear hfz8_5
 try clear hfz8_6
 try clear hfz8_7
 try clear hfz8_8
 try clear hfz8_9
 obtain ⟨kq, x25_3, rfl, HA, HJ3, HO_403007, HO_403008, HO_403009, BK384, BK385, BK402, HB⟩ := hcut
 cases kq with
 | zero => exact absurd HA.out (by simp [impl_Elect.j0])
 | succ kj3 =>
   have H := HA.out
   clear HA
   simp only [impl_Elect.j0] at H
   by_cases c34 : x25_3 = true
   · subst c34
     rw [if_pos rfl] at H
     simp only [Option.some.injEq, Prod.mk.injEq] at H
     obtain ⟨rfl, rfl, rfl, rfl, rfl, rfl, rfl, rfl, rfl, rfl, rfl⟩ := H
     have hnb35 := NB402_384.out
     have hnc35 := NB384_402.out
     have hnb36 := NB402_385.out
     have hnc36 := NB385_402.out
     obtain ⟨hcz37_0, hcz37_1, hcz37_2, hcz37_3, hcz37_4, hcz37_5, hcz37_6, hcz37_7, hcz37_8, hcz37_9, hfz37_0, hfz37_1, hfz37_2, hfz37_3, hfz37_4, hfz37_5, hfz37_6, hfz37_7, hfz37_8, hfz37_9⟩ := bc10f wc BK402.out
     have hnb38 := NB385_384.out
     have hnc38 := NB384_385.out
     obtain ⟨hcz39_0, hcz39_1, hcz39_2, hcz39_3, hcz39_4, hcz39_5, hcz39_6, hcz39_7, hcz39_8, hcz39_9, hfz39_0, hfz39_1, hfz39_2, hfz39_3, hfz39_4, hfz39_5, hfz39_6, hfz39_7, hfz39_8, hfz39_9⟩ := bc10f wc BK385.out
     go_wp2
     refine bodyPost_ret (results_ct rfl _ _ gb385 37 #[.int .i64 t386, .int .i64 t387, .int .i64 t388, .int .i64 t389, .int .i64 t390, .int .i64 t391, .int .i64 t392, .slice Ao14 t393.length co14, .slice Ao15 t396.length co15, .slice Ao16 t399.length co16] (0, 0) _ rfl (by (with_reducible repeat (first | refine blk_drewN ?_ _ | refine blk_drew ?_ | refine blk_alloc ?_ _)); refine blk_put (cs := #[.int .i64 t386, .int .i64 t387, .int .i64 t388, .int .i64 t389, .int .i64 t390, .int .i64 t391, .int .i64 t392, .slice Ao14 t393.length co14, .slice Ao15 t396.length co15, .slice none 0 0]) ?_ 9 _ rfl; (with_reducible repeat (first | refine blk_drewN ?_ _ | refine blk_drew ?_ | refine blk_alloc ?_ _)); refine blk_put (cs := #[.int .i64 t386, .int .i64 t387, .int .i64 t388, .int .i64 t389, .int .i64 t390, .int .i64 t391, .int .i64 t392, .slice Ao14 t393.length co14, .slice none 0 0, .slice none 0 0]) ?_ 8 _ rfl; (with_reducible repeat (first | refine blk_drewN ?_ _ | refine blk_drew ?_ | refine blk_alloc ?_ _)); refine blk_put (cs := #[.int .i64 t386, .int .i64 t387, .int .i64 t388, .int .i64 t389, .int .i64 t390, .int .i64 t391, .int .i64 t392, .slice none 0 0, .slice none 0 0, .slice none 0 0]) ?_ 7 _ rfl; (with_reducible repeat (first | refine blk_drewN ?_ _ | refine blk_drew ?_ | refine blk_alloc ?_ _)); refine blk_put (cs := #[.int .i64 t386, .int .i64 t387, .int .i64 t388, .int .i64 t389, .int .i64 t390, .int .i64 t391, .int .i64 0, .slice none 0 0, .slice none 0 0, .slice none 0 0]) ?_ 6 _ rfl; (with_reducible repeat (first | refine blk_drewN ?_ _ | refine blk_drew ?_ | refine blk_alloc ?_ _)); refine blk_put (cs := #[.int .i64 t386, .int .i64 t387, .int .i64 t388, .int .i64 t389, .int .i64 t390, .int .i64 0, .int .i64 0, .slice none 0 0, .slice none 0 0, .slice none 0 0]) ?_ 5 _ rfl; (with_reducible repeat (first | refine blk_drewN ?_ _ | refine blk_drew ?_ | refine blk_alloc ?_ _)); refine blk_put (cs := #[.int .i64 t386, .int .i64 t387, .int .i64 t388, .int .i64 t389, .int .i64 0, .int .i64 0, .int .i64 0, .slice none 0 0, .slice none 0 0, .slice none 0 0]) ?_ 4 _ rfl; (with_reducible repeat (first | refine blk_drewN ?_ _ | refine blk_drew ?_ | refine blk_alloc ?_ _)); refine blk_put (cs := #[.int .i64 t386, .int .i64 t387, .int .i64 t388, .int .i64 0, .int .i64 0, .int .i64 0, .int .i64 0, .slice none 0 0, .slice none 0 0, .slice none 0 0]) ?_ 3 _ rfl; (with_reducible repeat (first | refine blk_drewN ?_ _ | refine blk_drew ?_ | refine blk_alloc ?_ _)); refine blk_put (cs := #[.int .i64 t386, .int .i64 t387, .int .i64 0, .int .i64 0, .int .i64 0, .int .i64 0, .int .i64 0, .slice none 0 0, .slice none 0 0, .slice none 0 0]) ?_ 2 _ rfl; (with_reducible repeat (first | refine blk_drewN ?_ _ | refine blk_drew ?_ | refine blk_alloc ?_ _)); refine blk_put (cs := #[.int .i64 t386, .int .i64 0, .int .i64 0, .int .i64 0, .int .i64 0, .int .i64 0, .int .i64 0, .slice none 0 0, .slice none 0 0, .slice none 0 0]) ?_ 1 _ rfl; (with_reducible repeat (first | refine blk_drewN ?_ _ | refine blk_drew ?_ | refine blk_alloc ?_ _)); refine blk_put (cs := #[.int .i64 0, .int .i64 0, .int .i64 0, .int .i64 0, .int .i64 0, .int .i64 0, .int .i64 0, .slice none 0 0, .slice none 0 0, .slice none 0 0]) ?_ 0 _ rfl; (with_reducible repeat (first | refine blk_drewN ?_ _ | refine blk_drew ?_ | refine blk_alloc ?_ _)); exact BK385.out) Try.underlying37 rfl kr) rfl ?_
     exact ⟨_, _, _, _, er, (by (with_reducible repeat (first | apply Kd.R_alloc | apply Kd.R_drewN | apply Kd.R_drew)); exact Kd.R_mono (Kd.R_far (p := ⟨gb385, 9, none⟩) (Kd.R_far (p := ⟨gb385, 8, none⟩) (Kd.R_far (p := ⟨gb385, 7, none⟩) (Kd.R_far (p := ⟨gb385, 6, none⟩) (Kd.R_far (p := ⟨gb385, 5, none⟩) (Kd.R_far (p := ⟨gb385, 4, none⟩) (Kd.R_far (p := ⟨gb385, 3, none⟩) (Kd.R_far (p := ⟨gb385, 2, none⟩) (Kd.R_far (p := ⟨gb385, 1, none⟩) (Kd.R_far (p := ⟨gb385, 0, none⟩) (Kd.R_types HO_403007.out BK385.out (by decide)) (fun _ hk => hk.2) (.int .i64 t386)) (fun _ hk => hk.2) (.int .i64 t387)) (fun _ hk => hk.2) (.int .i64 t388)) (fun _ hk => hk.2) (.int .i64 t389)) (fun _ hk => hk.2) (.int .i64 t390)) (fun _ hk => hk.2) (.int .i64 t391)) (fun _ hk => hk.2) (.int .i64 t392)) (fun _ hk => hk.2) (.slice Ao14 t393.length co14)) (fun _ hk => hk.2) (.slice Ao15 t396.length co15)) (fun _ hk => hk.2) (.slice Ao16 t399.length co16)) (fun _ hk => trivial)), (by (with_reducible repeat (first | apply Kd.R_alloc | apply Kd.R_drewN | apply Kd.R_drew)); exact Kd.R_mono (Kd.R_far (p := ⟨gb385, 9, none⟩) (Kd.R_far (p := ⟨gb385, 8, none⟩) (Kd.R_far (p := ⟨gb385, 7, none⟩) (Kd.R_far (p := ⟨gb385, 6, none⟩) (Kd.R_far (p := ⟨gb385, 5, none⟩) (Kd.R_far (p := ⟨gb385, 4, none⟩) (Kd.R_far (p := ⟨gb385, 3, none⟩) (Kd.R_far (p := ⟨gb385, 2, none⟩) (Kd.R_far (p := ⟨gb385, 1, none⟩) (Kd.R_far (p := ⟨gb385, 0, none⟩) (Kd.R_types HO_403008.out BK385.out (by decide)) (fun _ hk => hk.2) (.int .i64 t386)) (fun _ hk => hk.2) (.int .i64 t387)) (fun _ hk => hk.2) (.int .i64 t388)) (fun _ hk => hk.2) (.int .i64 t389)) (fun _ hk => hk.2) (.int .i64 t390)) (fun _ hk => hk.2) (.int .i64 t391)) (fun _ hk => hk.2) (.int .i64 t392)) (fun _ hk => hk.2) (.slice Ao14 t393.length co14)) (fun _ hk => hk.2) (.slice Ao15 t396.length co15)) (fun _ hk => hk.2) (.slice Ao16 t399.length co16)) (fun _ hk => hk.1)), (by (with_reducible repeat (first | apply Kd.R_alloc | apply Kd.R_drewN | apply Kd.R_drew)); exact Kd.R_mono (Kd.R_far (p := ⟨gb385, 9, none⟩) (Kd.R_far (p := ⟨gb385, 8, none⟩) (Kd.R_far (p := ⟨gb385, 7, none⟩) (Kd.R_far (p := ⟨gb385, 6, none⟩) (Kd.R_far (p := ⟨gb385, 5, none⟩) (Kd.R_far (p := ⟨gb385, 4, none⟩) (Kd.R_far (p := ⟨gb385, 3, none⟩) (Kd.R_far (p := ⟨gb385, 2, none⟩) (Kd.R_far (p := ⟨gb385, 1, none⟩) (Kd.R_far (p := ⟨gb385, 0, none⟩) (Kd.R_types HO_403009.out BK385.out (by decide)) (fun _ hk => hk.2) (.int .i64 t386)) (fun _ hk => hk.2) (.int .i64 t387)) (fun _ hk => hk.2) (.int .i64 t388)) (fun _ hk => hk.2) (.int .i64 t389)) (fun _ hk => hk.2) (.int .i64 t390)) (fun _ hk => hk.2) (.int .i64 t391)) (fun _ hk => hk.2) (.int .i64 t392)) (fun _ hk => hk.2) (.slice Ao14 t393.length co14)) (fun _ hk => hk.2) (.slice Ao15 t396.length co15)) (fun _ hk => hk.2) (.slice Ao16 t399.length co16)) (fun _ hk => hk.1)), Q12, Q0⟩
   replace c34 := Bool.eq_false_iff.mpr c34
   subst c34
   rw [nf] at H
   obtain ⟨y404, hy404⟩ : ∃ y_ : List Int, y_ = (([a0_0] : List Int)) := ⟨_, rfl⟩
   replace H : (if a1 = 1 then ((impl_Node_lead.f t386 (wrap64 (t387 + 1)) a0_0 1 t390 t391 t392 t393 y404 t399 a1).bind fun t407 => (some (t386, wrap64 (t387 + 1), a0_0, 2, t390, t391, t392, t393, ([] : List Int), t407, ([] : List (S29))))) else ((impl_RLog_last.f t391 t392 t393).bind fun t410 => (impl_Elect.l0 kj3 t410 (([] : List (S29))) a1 0 a0_0 a0_1 a0_2 a0_3 a0_4 a0_5 a0_6 l0_7 l0_8 l0_9 t386 (wrap64 (t387 + 1)) a0_0 1 t390 t391 t392 t393 y404 t399))) = some (r1, r2, r3, r4, r5, r6, r7, r8, r9, r10, r11) := by first | (rw [hy404]; with_reducible exact H) | (have H2_ := (Option.bind_some _ _).symm.trans H; rw [hy404]; with_reducible exact H2_) | (have H2_ := (Option.bind_some _ _).symm.trans H; with_reducible exact H2_) | with_reducible exact H | (rw [hy404]; exact H) | exact H
   have Ny404 := am hy404
   clear hy404
   have H9 := am H
   clear H
   have hnb40 := NB402_384.out
   have hnc40 := NB384_402.out
   have hnb41 := NB402_385.out
   have hnc41 := NB385_402.out
   obtain ⟨hcz42_0, hcz42_1, hcz42_2, hcz42_3, hcz42_4, hcz42_5, hcz42_6, hcz42_7, hcz42_8, hcz42_9, hfz42_0, hfz42_1, hfz42_2, hfz42_3, hfz42_4, hfz42_5, hfz42_6, hfz42_7, hfz42_8, hfz42_9⟩ := bc10f wc BK402.out
   have hnb43 := NB384_385.out
   have hnc43 := NB385_384.out
   obtain ⟨hcz44_0, hcz44_1, hcz44_2, hcz44_3, hcz44_4, hcz44_5, hcz44_6, hcz44_7, hcz44_8, hcz44_9, hfz44_0, hfz44_1, hfz44_2, hfz44_3, hfz44_4, hfz44_5, hfz44_6, hfz44_7, hfz44_8, hfz44_9⟩ := bc10f wc BK384.out
   go_upto_if 40 with (first | ((with_reducible refine gate_dst (N := 37) rfl ?_); refine Kd.R_lit (Kd.int .i64) _ 3 ?hg (N := 37) ?hd (xs := ([a0_0] : List Int)) (inner := [.int .i64 a0_0]) (ok := fun _ => True) (okp := fun _ => True) ?hr ?hp (fun _ hk => hk) trivial (Below.refl _ _) (Nat.le_refl _) (by simp) ?_; (case hd => rfl); (case hg => rfl); (case hr => first | (go_simp; done) | (go_simp; rfl)); (case hp => exact (Reps.one (show Kd.M (Kd.int .i64) _ _ _ a0_0 [.int .i64 a0_0] from rfl) (Reps.none _ _))); intro v405 w45 ho46 hb hg_ hnew_; clear hg_ hnew_; (first | rw [← Ny404.out] at ho46 | (simp only [Int.reduceToNat] at ho46; rw [← Ny404.out] at ho46)); replace HO_403007 := am (Kd.R_below (by (with_reducible repeat (first | apply Kd.R_alloc | apply Kd.R_drewN | apply Kd.R_drew)); exact (Kd.R_mono (Kd.R_far (p := ⟨gb402, 3, none⟩) (Kd.R_far (p := ⟨gb402, 2, none⟩) (Kd.R_far (p := ⟨gb402, 1, none⟩) (Kd.R_types HO_403007.out BK402.out (by decide)) (fun _ hk => hk.2) (.int .i64 (wrap64 (t387 + 1)))) (fun _ hk => hk.2) (.int .i64 a0_0)) (fun _ hk => hk.2) (.int .i64 1)) (fun _ h_ => h_.1))) hb); have HO406 := am (Kd.R_lower (Kd.R_new' (Kd.R_new' ho46 (Kd.R_lt u16_16)) (Kd.R_lt u16_17)) (below_size Q0)); replace HO_403008 := am (Kd.R_elder' u16_16 (Kd.R_base ho46) hb); replace HO_403009 := am (Kd.R_elder' u16_17 (Kd.R_base ho46) hb); replace BK384 := am (blk_below (g := gb384) (o := .cells #[.int .i64 a0_0, .int .i64 a0_1, .int .i64 a0_2, .int .i64 a0_3, .int .i64 a0_4, .int .i64 a0_5, .int .i64 a0_6, .slice A0_7 l0_7.length c0_7, .slice A0_8 l0_8.length c0_8, .slice A0_9 l0_9.length c0_9] 37 (0, 0)) (by (with_reducible repeat (first | refine blk_drewN ?_ _ | refine blk_drew ?_ | refine blk_alloc ?_ _)); refine blk_far ?_ NB384_402.out _; (with_reducible repeat (first | refine blk_drewN ?_ _ | refine blk_drew ?_ | refine blk_alloc ?_ _)); refine blk_far ?_ NB384_402.out _; (with_reducible repeat (first | refine blk_drewN ?_ _ | refine blk_drew ?_ | refine blk_alloc ?_ _)); refine blk_far ?_ NB384_402.out _; (with_reducible repeat (first | refine blk_drewN ?_ _ | refine blk_drew ?_ | refine blk_alloc ?_ _)); exact BK384.out) hb); replace BK385 := am (blk_below (g := gb385) (o := .cells #[.int .i64 0, .int .i64 0, .int .i64 0, .int .i64 0, .int .i64 0, .int .i64 0, .int .i64 0, .slice none 0 0, .slice none 0 0, .slice none 0 0] 37 (0, 0)) (by (with_reducible repeat (first | refine blk_drewN ?_ _ | refine blk_drew ?_ | refine blk_alloc ?_ _)); refine blk_far ?_ NB385_402.out _; (with_reducible repeat (first | refine blk_drewN ?_ _ | refine blk_drew ?_ | refine blk_alloc ?_ _)); refine blk_far ?_ NB385_402.out _; (with_reducible repeat (first | refine blk_drewN ?_ _ | refine blk_drew ?_ | refine blk_alloc ?_ _)); refine blk_far ?_ NB385_402.out _; (with_reducible repeat (first | refine blk_drewN ?_ _ | refine blk_drew ?_ | refine blk_alloc ?_ _)); exact BK385.out) hb); replace BK402 := am (blk_below (g := gb402) (o := .cells #[.int .i64 t386, .int .i64 (wrap64 (t387 + 1)), .int .i64 a0_0, .int .i64 1, .int .i64 t390, .int .i64 t391, .int .i64 t392, .slice Ao14 t393.length co14, .slice Ao15 t396.length co15, .slice Ao16 t399.length co16] 37 (0, 0)) (by (with_reducible repeat (first | refine blk_drewN ?_ _ | refine blk_drew ?_ | refine blk_alloc ?_ _)); refine blk_put (cs := #[.int .i64 t386, .int .i64 (wrap64 (t387 + 1)), .int .i64 a0_0, .int .i64 t389, .int .i64 t390, .int .i64 t391, .int .i64 t392, .slice Ao14 t393.length co14, .slice Ao15 t396.length co15, .slice Ao16 t399.length co16]) ?_ 3 _ rfl; (with_reducible repeat (first | refine blk_drewN ?_ _ | refine blk_drew ?_ | refine blk_alloc ?_ _)); refine blk_put (cs := #[.int .i64 t386, .int .i64 (wrap64 (t387 + 1)), .int .i64 t388, .int .i64 t389, .int .i64 t390, .int .i64 t391, .int .i64 t392, .slice Ao14 t393.length co14, .slice Ao15 t396.length co15, .slice Ao16 t399.length co16]) ?_ 2 _ rfl; (with_reducible repeat (first | refine blk_drewN ?_ _ | refine blk_drew ?_ | refine blk_alloc ?_ _)); refine blk_put (cs := #[.int .i64 t386, .int .i64 t387, .int .i64 t388, .int .i64 t389, .int .i64 t390, .int .i64 t391, .int .i64 t392, .slice Ao14 t393.length co14, .slice Ao15 t396.length co15, .slice Ao16 t399.length co16]) ?_ 1 _ rfl; (with_reducible repeat (first | refine blk_drewN ?_ _ | refine blk_drew ?_ | refine blk_alloc ?_ _)); exact BK402.out) hb); replace HB := am (below_step Q0 hb); clear hb ho46; obtain ⟨Ao47, co47, eo47⟩ := Kd.R_slice HO406.out; subst eo47; obtain ⟨hcz48_0, hcz48_1, hcz48_2, hcz48_3, hcz48_4, hcz48_5, hcz48_6, hcz48_7, hcz48_8, hcz48_9, hfz48_0, hfz48_1, hfz48_2, hfz48_3, hfz48_4, hfz48_5, hfz48_6, hfz48_7, hfz48_8, hfz48_9⟩ := bc10f w45 BK402.out))
   have H := H9.out
   clear H9
   by_cases c49 : a1 = 1
   · rw [if_pos c49] at H
     have c49b0 : (a1 == 1) = true := beq_iff_eq.mpr c49
     have c49b1 : (a1 != 1) = false := bne_eq_false_iff_eq.mpr c49
     clear c49
     (first | rw [c49b0] | (simp only [i64_w, i32_w]; rw [c49b0]) | skip)
     replace H := Option.bind_eq_some_iff.mp H
     obtain ⟨t407, A500, H⟩ := H
     have A50 := am A500
     clear A500
     simp only [Option.some.injEq, Prod.mk.injEq] at H
     obtain ⟨rfl, rfl, rfl, rfl, rfl, rfl, rfl, rfl, rfl, rfl, rfl⟩ := H
     have n0_ : Aside0 (Kd.R k85 85 (w45.setCell ⟨gb402, 8, none⟩ (.slice Ao47 y404.length co47)) w.heap.size (fun _ => True) (.slice Ao14 t393.length co14) t393) := ⟨by (with_reducible repeat (first | apply Kd.R_alloc | apply Kd.R_drewN | apply Kd.R_drew)); exact Kd.R_mono (Kd.R_far (p := ⟨gb402, 8, none⟩) (Kd.R_types HO_403007.out BK402.out (by decide)) (fun _ hk => hk.2) (.slice Ao47 y404.length co47)) (fun _ hk => trivial)⟩
     have n1_ : Aside0 (Kd.R (Kd.int .i64) 3 (w45.setCell ⟨gb402, 8, none⟩ (.slice Ao47 y404.length co47)) w.heap.size (fun k_ => some k_ ≠ (.slice Ao16 t399.length co16 : Value).ownBlock ∧ some k_ ≠ (.slice Ao47 y404.length co47 : Value).ownBlock) (.slice Ao15 t396.length co15) t396) := ⟨by (with_reducible repeat (first | apply Kd.R_alloc | apply Kd.R_drewN | apply Kd.R_drew)); exact Kd.R_mono (Kd.R_far (p := ⟨gb402, 8, none⟩) (Kd.R_types HO_403008.out BK402.out (by decide)) (fun _ hk => hk.2) (.slice Ao47 y404.length co47)) (fun _ hk => ⟨hk.1.1, hk.1.2⟩)⟩
     have n2_ : Aside0 (Kd.R (Kd.int .i64) 3 (w45.setCell ⟨gb402, 8, none⟩ (.slice Ao47 y404.length co47)) w.heap.size (fun k_ => some k_ ≠ (.slice Ao15 t396.length co15 : Value).ownBlock ∧ some k_ ≠ (.slice Ao47 y404.length co47 : Value).ownBlock) (.slice Ao16 t399.length co16) t399) := ⟨by (with_reducible repeat (first | apply Kd.R_alloc | apply Kd.R_drewN | apply Kd.R_drew)); exact Kd.R_mono (Kd.R_far (p := ⟨gb402, 8, none⟩) (Kd.R_types HO_403009.out BK402.out (by decide)) (fun _ hk => hk.2) (.slice Ao47 y404.length co47)) (fun _ hk => ⟨hk.1.1, hk.1.2⟩)⟩
     have n3_ : Aside0 (Kd.R (Kd.int .i64) 3 (w45.setCell ⟨gb402, 8, none⟩ (.slice Ao47 y404.length co47)) w.heap.size (fun k_ => some k_ ≠ (.slice Ao15 t396.length co15 : Value).ownBlock ∧ some k_ ≠ (.slice Ao16 t399.length co16 : Value).ownBlock) (.slice Ao47 y404.length co47) y404) := ⟨by (with_reducible repeat (first | apply Kd.R_alloc | apply Kd.R_drewN | apply Kd.R_drew)); exact Kd.R_mono (Kd.R_far (p := ⟨gb402, 8, none⟩) (Kd.R_types HO406.out BK402.out (by decide)) (fun _ hk => hk.2) (.slice Ao47 y404.length co47)) (fun _ hk => ⟨hk.1.1.2, hk.1.2⟩)⟩
     have n4_ : Aside0 ((w45.setCell ⟨gb402, 8, none⟩ (.slice Ao47 y404.length co47)).heap[gb384]? = some (.cells #[.int .i64 a0_0, .int .i64 a0_1, .int .i64 a0_2, .int .i64 a0_3, .int .i64 a0_4, .int .i64 a0_5, .int .i64 a0_6, .slice A0_7 l0_7.length c0_7, .slice A0_8 l0_8.length c0_8, .slice A0_9 l0_9.length c0_9] 37 (0, 0))) := ⟨by (with_reducible repeat (first | refine blk_drewN ?_ _ | refine blk_drew ?_ | refine blk_alloc ?_ _)); refine blk_far ?_ NB384_402.out _; (with_reducible repeat (first | refine blk_drewN ?_ _ | refine blk_drew ?_ | refine blk_alloc ?_ _)); exact BK384.out⟩
     have n5_ : Aside0 ((w45.setCell ⟨gb402, 8, none⟩ (.slice Ao47 y404.length co47)).heap[gb385]? = some (.cells #[.int .i64 0, .int .i64 0, .int .i64 0, .int .i64 0, .int .i64 0, .int .i64 0, .int .i64 0, .slice none 0 0, .slice none 0 0, .slice none 0 0] 37 (0, 0))) := ⟨by (with_reducible repeat (first | refine blk_drewN ?_ _ | refine blk_drew ?_ | refine blk_alloc ?_ _)); refine blk_far ?_ NB385_402.out _; (with_reducible repeat (first | refine blk_drewN ?_ _ | refine blk_drew ?_ | refine blk_alloc ?_ _)); exact BK385.out⟩
     have n6_ : Aside0 ((w45.setCell ⟨gb402, 8, none⟩ (.slice Ao47 y404.length co47)).heap[gb402]? = some (.cells #[.int .i64 t386, .int .i64 (wrap64 (t387 + 1)), .int .i64 a0_0, .int .i64 1, .int .i64 t390, .int .i64 t391, .int .i64 t392, .slice Ao14 t393.length co14, .slice Ao47 y404.length co47, .slice Ao16 t399.length co16] 37 (0, 0))) := ⟨by (with_reducible repeat (first | refine blk_drewN ?_ _ | refine blk_drew ?_ | refine blk_alloc ?_ _)); refine blk_put (cs := #[.int .i64 t386, .int .i64 (wrap64 (t387 + 1)), .int .i64 a0_0, .int .i64 1, .int .i64 t390, .int .i64 t391, .int .i64 t392, .slice Ao14 t393.length co14, .slice Ao15 t396.length co15, .slice Ao16 t399.length co16]) ?_ 8 _ rfl; (with_reducible repeat (first | refine blk_drewN ?_ _ | refine blk_drew ?_ | refine blk_alloc ?_ _)); exact BK402.out⟩
     have n7_ : Aside0 (Below w.heap.size w (w45.setCell ⟨gb402, 8, none⟩ (.slice Ao47 y404.length co47))) := ⟨by repeat (first | (with_reducible first | exact HB.out | apply below_alloc | apply pw_below_drewN | apply below_drew1 | refine below_set ?_ GE384.out | refine below_set ?_ GE385.out | refine below_set ?_ GE402.out) | exact HB.out)⟩
     (try clear HO_403007)
     (try clear HO_403008)
     (try clear HO_403009)
     (try clear HO406)
     (try clear BK384)
     (try clear BK385)
     (try clear BK402)
     (try clear HB)
     generalize (w45.setCell ⟨gb402, 8, none⟩ (.slice Ao47 y404.length co47)) = w51 at n0_ n1_ n2_ n3_ n4_ n5_ n6_ n7_ ⊢
     have HO_403007 := n0_
     have HO_403008 := n1_
     have HO_403009 := n2_
     have HO406 := n3_
     have BK384 := n4_
     have BK385 := n5_
     have BK402 := n6_
     have HB := n7_
     clear n0_ n1_ n2_ n3_ n4_ n5_ n6_ n7_
     go_wp2_with (first | ((with_reducible refine gate_callee (f := 100) rfl ?_); refine goesL_ (some 42) rfl rfl Try.func100 kr rfl #[.pointer (some ⟨gb402, 0, none⟩), .int .i64 a1] rfl (by (try simp only [List.map_toArray, List.map_cons, List.map_nil]); first | done | rfl) ?_; (with_reducible refine (impl_Node_lead.calls gb402 w.heap.size t386 (wrap64 (t387 + 1)) a0_0 1 t390 t391 t392 Ao14 co14 t393 Ao47 co47 y404 Ao16 co16 t399 a1 t407 _ GE402.out ?side1 A50.out).mono ?_); (case side1 => exact (by exact u16_9)); rintro e w52 ⟨v408, rfl, ho0, hbx, hb, hkp⟩; refine ⟨_, rfl, ?_⟩; replace HO_403007 := am (Kd.R_mono (Kd.R_kept (Kd.R_types u16_11 u16_9 (by decide)) hkp (fun k_ hk_ e_ => hk_.2 e_)) (fun _ h_ => h_.1)); replace BK384 := am (blk_kept u16_7 hkp (fun e_ => NB384_402.out e_)); replace BK385 := am (blk_kept u16_8 hkp (fun e_ => NB385_402.out e_)); have HO409 := am (Kd.R_lower (Kd.R_new' (Kd.R_new' (Kd.R_new' ho0 (Kd.R_lt u16_13)) (Kd.R_lt u16_14)) (Kd.R_lt u16_25)) (below_size Q0)); replace HO_403008 := am (kept_elder_ u16_13 u16_9 (by decide) hkp (Kd.R_base ho0)); replace HO_403009 := am (kept_elder_ u16_14 u16_9 (by decide) hkp (Kd.R_base ho0)); replace HO406 := am (kept_elder_ u16_25 u16_9 (by decide) hkp (Kd.R_base ho0)); replace BK402 := am (hbx); replace HB := am (below_two_ Q0 hb); (try clear hb); (try clear hkp); (try clear hbx); (try clear ho0); have hnb53 := NB402_384.out; have hnc53 := NB384_402.out; have hnb54 := NB402_385.out; have hnc54 := NB385_402.out; obtain ⟨hcz55_0, hcz55_1, hcz55_2, hcz55_3, hcz55_4, hcz55_5, hcz55_6, hcz55_7, hcz55_8, hcz55_9, hfz55_0, hfz55_1, hfz55_2, hfz55_3, hfz55_4, hfz55_5, hfz55_6, hfz55_7, hfz55_8, hfz55_9⟩ := bc10f w52 BK402.out; have hnb56 := NB385_384.out; have hnc56 := NB384_385.out; obtain ⟨hcz57_0, hcz57_1, hcz57_2, hcz57_3, hcz57_4, hcz57_5, hcz57_6, hcz57_7, hcz57_8, hcz57_9, hfz57_0, hfz57_1, hfz57_2, hfz57_3, hfz57_4, hfz57_5, hfz57_6, hfz57_7, hfz57_8, hfz57_9⟩ := bc10f w52 BK385.out; obtain ⟨Ao58, co58, eo58⟩ := Kd.R_slice HO409.out; subst eo58))
     refine bodyPost_ret (results_ct rfl _ _ gb385 37 #[.int .i64 t386, .int .i64 (wrap64 (t387 + 1)), .int .i64 a0_0, .int .i64 2, .int .i64 t390, .int .i64 t391, .int .i64 t392, .slice Ao14 t393.length co14, .slice none 0 0, .slice Ao58 t407.length co58] (0, 0) _ rfl (by (with_reducible repeat (first | refine blk_drewN ?_ _ | refine blk_drew ?_ | refine blk_alloc ?_ _)); refine blk_put (cs := #[.int .i64 t386, .int .i64 (wrap64 (t387 + 1)), .int .i64 a0_0, .int .i64 2, .int .i64 t390, .int .i64 t391, .int .i64 t392, .slice Ao14 t393.length co14, .slice none 0 0, .slice none 0 0]) ?_ 9 _ rfl; (with_reducible repeat (first | refine blk_drewN ?_ _ | refine blk_drew ?_ | refine blk_alloc ?_ _)); refine blk_put (cs := #[.int .i64 t386, .int .i64 (wrap64 (t387 + 1)), .int .i64 a0_0, .int .i64 2, .int .i64 t390, .int .i64 t391, .int .i64 t392, .slice Ao14 t393.length co14, .slice none 0 0, .slice none 0 0]) ?_ 8 _ rfl; (with_reducible repeat (first | refine blk_drewN ?_ _ | refine blk_drew ?_ | refine blk_alloc ?_ _)); refine blk_put (cs := #[.int .i64 t386, .int .i64 (wrap64 (t387 + 1)), .int .i64 a0_0, .int .i64 2, .int .i64 t390, .int .i64 t391, .int .i64 t392, .slice none 0 0, .slice none 0 0, .slice none 0 0]) ?_ 7 _ rfl; (with_reducible repeat (first | refine blk_drewN ?_ _ | refine blk_drew ?_ | refine blk_alloc ?_ _)); refine blk_put (cs := #[.int .i64 t386, .int .i64 (wrap64 (t387 + 1)), .int .i64 a0_0, .int .i64 2, .int .i64 t390, .int .i64 t391, .int .i64 0, .slice none 0 0, .slice none 0 0, .slice none 0 0]) ?_ 6 _ rfl; (with_reducible repeat (first | refine blk_drewN ?_ _ | refine blk_drew ?_ | refine blk_alloc ?_ _)); refine blk_put (cs := #[.int .i64 t386, .int .i64 (wrap64 (t387 + 1)), .int .i64 a0_0, .int .i64 2, .int .i64 t390, .int .i64 0, .int .i64 0, .slice none 0 0, .slice none 0 0, .slice none 0 0]) ?_ 5 _ rfl; (with_reducible repeat (first | refine blk_drewN ?_ _ | refine blk_drew ?_ | refine blk_alloc ?_ _)); refine blk_put (cs := #[.int .i64 t386, .int .i64 (wrap64 (t387 + 1)), .int .i64 a0_0, .int .i64 2, .int .i64 0, .int .i64 0, .int .i64 0, .slice none 0 0, .slice none 0 0, .slice none 0 0]) ?_ 4 _ rfl; (with_reducible repeat (first | refine blk_drewN ?_ _ | refine blk_drew ?_ | refine blk_alloc ?_ _)); refine blk_put (cs := #[.int .i64 t386, .int .i64 (wrap64 (t387 + 1)), .int .i64 a0_0, .int .i64 0, .int .i64 0, .int .i64 0, .int .i64 0, .slice none 0 0, .slice none 0 0, .slice none 0 0]) ?_ 3 _ rfl; (with_reducible repeat (first | refine blk_drewN ?_ _ | refine blk_drew ?_ | refine blk_alloc ?_ _)); refine blk_put (cs := #[.int .i64 t386, .int .i64 (wrap64 (t387 + 1)), .int .i64 0, .int .i64 0, .int .i64 0, .int .i64 0, .int .i64 0, .slice none 0 0, .slice none 0 0, .slice none 0 0]) ?_ 2 _ rfl; (with_reducible repeat (first | refine blk_drewN ?_ _ | refine blk_drew ?_ | refine blk_alloc ?_ _)); refine blk_put (cs := #[.int .i64 t386, .int .i64 0, .int .i64 0, .int .i64 0, .int .i64 0, .int .i64 0, .int .i64 0, .slice none 0 0, .slice none 0 0, .slice none 0 0]) ?_ 1 _ rfl; (with_reducible repeat (first | refine blk_drewN ?_ _ | refine blk_drew ?_ | refine blk_alloc ?_ _)); refine blk_put (cs := #[.int .i64 0, .int .i64 0, .int .i64 0, .int .i64 0, .int .i64 0, .int .i64 0, .int .i64 0, .slice none 0 0, .slice none 0 0, .slice none 0 0]) ?_ 0 _ rfl; (with_reducible repeat (first | refine blk_drewN ?_ _ | refine blk_drew ?_ | refine blk_alloc ?_ _)); exact BK385.out) Try.underlying37 rfl kr) rfl ?_
     exact ⟨_, _, _, _, er, (by (with_reducible repeat (first | apply Kd.R_alloc | apply Kd.R_drewN | apply Kd.R_drew)); exact Kd.R_mono (Kd.R_far (p := ⟨gb385, 9, none⟩) (Kd.R_far (p := ⟨gb385, 8, none⟩) (Kd.R_far (p := ⟨gb385, 7, none⟩) (Kd.R_far (p := ⟨gb385, 6, none⟩) (Kd.R_far (p := ⟨gb385, 5, none⟩) (Kd.R_far (p := ⟨gb385, 4, none⟩) (Kd.R_far (p := ⟨gb385, 3, none⟩) (Kd.R_far (p := ⟨gb385, 2, none⟩) (Kd.R_far (p := ⟨gb385, 1, none⟩) (Kd.R_far (p := ⟨gb385, 0, none⟩) (Kd.R_types HO_403007.out BK385.out (by decide)) (fun _ hk => hk.2) (.int .i64 t386)) (fun _ hk => hk.2) (.int .i64 (wrap64 (t387 + 1)))) (fun _ hk => hk.2) (.int .i64 a0_0)) (fun _ hk => hk.2) (.int .i64 2)) (fun _ hk => hk.2) (.int .i64 t390)) (fun _ hk => hk.2) (.int .i64 t391)) (fun _ hk => hk.2) (.int .i64 t392)) (fun _ hk => hk.2) (.slice Ao14 t393.length co14)) (fun _ hk => hk.2) (.slice none 0 0)) (fun _ hk => hk.2) (.slice Ao58 t407.length co58)) (fun _ hk => trivial)), (by first | exact Kd.R_nil _ _ _ _ _ | exact Kd.N_nil _ _ _ _ _ | exact Kd.V_nil _ _ _ _ _ | exact Kd.Q_nil _ _ _ _ _ | exact Kd.S_nil _ _ _ _ _), (by (with_reducible repeat (first | apply Kd.R_alloc | apply Kd.R_drewN | apply Kd.R_drew)); exact Kd.R_mono (Kd.R_far (p := ⟨gb385, 9, none⟩) (Kd.R_far (p := ⟨gb385, 8, none⟩) (Kd.R_far (p := ⟨gb385, 7, none⟩) (Kd.R_far (p := ⟨gb385, 6, none⟩) (Kd.R_far (p := ⟨gb385, 5, none⟩) (Kd.R_far (p := ⟨gb385, 4, none⟩) (Kd.R_far (p := ⟨gb385, 3, none⟩) (Kd.R_far (p := ⟨gb385, 2, none⟩) (Kd.R_far (p := ⟨gb385, 1, none⟩) (Kd.R_far (p := ⟨gb385, 0, none⟩) (Kd.R_types HO409.out BK385.out (by decide)) (fun _ hk => hk.2) (.int .i64 t386)) (fun _ hk => hk.2) (.int .i64 (wrap64 (t387 + 1)))) (fun _ hk => hk.2) (.int .i64 a0_0)) (fun _ hk => hk.2) (.int .i64 2)) (fun _ hk => hk.2) (.int .i64 t390)) (fun _ hk => hk.2) (.int .i64 t391)) (fun _ hk => hk.2) (.int .i64 t392)) (fun _ hk => hk.2) (.slice Ao14 t393.length co14)) (fun _ hk => hk.2) (.slice none 0 0)) (fun _ hk => hk.2) (.slice Ao58 t407.length co58)) (fun _ hk => (by simp [Value.ownBlock]))), Q12, Q0⟩
   rw [if_neg c49] at H
   have c49b0 : (a1 == 1) = false := beq_eq_false_iff_ne.mpr c49
   have c49b1 : (a1 != 1) = true := bne_iff_ne.mpr c49
   (first | rw [c49b0] | (simp only [i64_w, i32_w]; rw [c49b0]) | skip)
   replace H := Option.bind_eq_some_iff.mp H
   obtain ⟨t410, A590, H⟩ := H
   have A59 := am A590
   clear A590
   obtain ⟨y411, hy411⟩ : ∃ y_ : List (S29), y_ = (([] : List (S29))) := ⟨_, rfl⟩
   replace H : (impl_Elect.l0 kj3 t410 y411 a1 0 a0_0 a0_1 a0_2 a0_3 a0_4 a0_5 a0_6 l0_7 l0_8 l0_9 t386 (wrap64 (t387 + 1)) a0_0 1 t390 t391 t392 t393 y404 t399) = some (r1, r2, r3, r4, r5, r6, r7, r8, r9, r10, r11) := by first | (rw [hy411]; with_reducible exact H) | (have H2_ := (Option.bind_some _ _).symm.trans H; rw [hy411]; with_reducible exact H2_) | (have H2_ := (Option.bind_some _ _).symm.trans H; with_reducible exact H2_) | with_reducible exact H | (rw [hy411]; exact H) | exact H
   have Ny411 := am hy411
   clear hy411
   have H' := am H
   clear H
   have hnb60 := NB402_384.out
   have hnc60 := NB384_402.out
   have hnb61 := NB402_385.out
   have hnc61 := NB385_402.out
   obtain ⟨hcz62_0, hcz62_1, hcz62_2, hcz62_3, hcz62_4, hcz62_5, hcz62_6, hcz62_7, hcz62_8, hcz62_9, hfz62_0, hfz62_1, hfz62_2, hfz62_3, hfz62_4, hfz62_5, hfz62_6, hfz62_7, hfz62_8, hfz62_9⟩ := bc10f w45 BK402.out
   go_wp2_with (first | ((with_reducible refine gate_callee (f := 89) rfl ?_); refine goesL_ (some 46) rfl rfl Try.func89 kr rfl #[.agg #[.int .i64 t391, .int .i64 t392, .slice Ao14 t393.length co14]] rfl Q3 ?_; (with_reducible refine (impl_RLog_last.calls t391 t392 _ _ t393 t410 _ ?side1 ?side2 A59.out).mono ?_); (case side1 => exact (by refine (Kd.R_reads' (e := 85) (base := w.heap.size) (ok := fun k_ => True) (n := t393.length) (c := co14) ?_).2.2; exact u16_23)); (case side2 => exact (Kd.R_reads' HO_403007.out).2.1); rintro e w63 ⟨rfl, hb⟩; refine ⟨_, rfl, ?_⟩; replace HO_403007 := am (Kd.R_below u16_23 hb); replace HO_403008 := am (Kd.R_below (by (with_reducible repeat (first | apply Kd.R_alloc | apply Kd.R_drewN | apply Kd.R_drew)); exact (Kd.R_mono (Kd.R_far (p := ⟨gb402, 8, none⟩) (Kd.R_types HO_403008.out BK402.out (by decide)) (fun _ hk => hk.2) (.slice Ao47 y404.length co47)) (fun _ h_ => h_.1))) hb); replace HO_403009 := am (Kd.R_below (by (with_reducible repeat (first | apply Kd.R_alloc | apply Kd.R_drewN | apply Kd.R_drew)); exact (Kd.R_mono (Kd.R_far (p := ⟨gb402, 8, none⟩) (Kd.R_types HO_403009.out BK402.out (by decide)) (fun _ hk => hk.2) (.slice Ao47 y404.length co47)) (fun _ h_ => h_.1))) hb); replace HO406 := am (Kd.R_below (by (with_reducible repeat (first | apply Kd.R_alloc | apply Kd.R_drewN | apply Kd.R_drew)); exact (Kd.R_mono (Kd.R_far (p := ⟨gb402, 8, none⟩) (Kd.R_types HO406.out BK402.out (by decide)) (fun _ hk => hk.2) (.slice Ao47 y404.length co47)) (fun _ h_ => h_.1))) hb); replace BK384 := am (blk_below (g := gb384) (o := .cells #[.int .i64 a0_0, .int .i64 a0_1, .int .i64 a0_2, .int .i64 a0_3, .int .i64 a0_4, .int .i64 a0_5, .int .i64 a0_6, .slice A0_7 l0_7.length c0_7, .slice A0_8 l0_8.length c0_8, .slice A0_9 l0_9.length c0_9] 37 (0, 0)) (by (with_reducible repeat (first | refine blk_drewN ?_ _ | refine blk_drew ?_ | refine blk_alloc ?_ _)); refine blk_far ?_ NB384_402.out _; (with_reducible repeat (first | refine blk_drewN ?_ _ | refine blk_drew ?_ | refine blk_alloc ?_ _)); exact BK384.out) hb); replace BK385 := am (blk_below (g := gb385) (o := .cells #[.int .i64 0, .int .i64 0, .int .i64 0, .int .i64 0, .int .i64 0, .int .i64 0, .int .i64 0, .slice none 0 0, .slice none 0 0, .slice none 0 0] 37 (0, 0)) (by (with_reducible repeat (first | refine blk_drewN ?_ _ | refine blk_drew ?_ | refine blk_alloc ?_ _)); refine blk_far ?_ NB385_402.out _; (with_reducible repeat (first | refine blk_drewN ?_ _ | refine blk_drew ?_ | refine blk_alloc ?_ _)); exact BK385.out) hb); replace BK402 := am (blk_below (g := gb402) (o := .cells #[.int .i64 t386, .int .i64 (wrap64 (t387 + 1)), .int .i64 a0_0, .int .i64 1, .int .i64 t390, .int .i64 t391, .int .i64 t392, .slice Ao14 t393.length co14, .slice Ao47 y404.length co47, .slice Ao16 t399.length co16] 37 (0, 0)) (by (with_reducible repeat (first | refine blk_drewN ?_ _ | refine blk_drew ?_ | refine blk_alloc ?_ _)); refine blk_put (cs := #[.int .i64 t386, .int .i64 (wrap64 (t387 + 1)), .int .i64 a0_0, .int .i64 1, .int .i64 t390, .int .i64 t391, .int .i64 t392, .slice Ao14 t393.length co14, .slice Ao15 t396.length co15, .slice Ao16 t399.length co16]) ?_ 8 _ rfl; (with_reducible repeat (first | refine blk_drewN ?_ _ | refine blk_drew ?_ | refine blk_alloc ?_ _)); exact BK402.out) hb); replace HB := am (below_step Q0 hb); (try clear hb); (try clear hb2); (try clear hk); (try clear hi)) | ((with_reducible refine gate_dst (N := 47) rfl ?_); refine Kd.S_lit k29 _ 29 ?hg (N := 47) ?hd (xs := ([] : List (S29))) (inner := []) (ok := fun _ => True) (okp := fun _ => True) ?hr ?hp (fun _ hk => hk) trivial (Below.refl _ _) (Nat.le_refl _) (by simp) ?_; (case hd => rfl); (case hg => rfl); (case hr => first | (go_simp; done) | (go_simp; rfl)); (case hp => exact (Reps.none _ _)); intro v412 w64 ho65 hb hg_ hnew_; clear hg_ hnew_; (first | rw [← Ny411.out] at ho65 | (simp only [Int.reduceToNat] at ho65; rw [← Ny411.out] at ho65)); replace HO_403008 := am (Kd.R_below u16_13 hb); replace HO_403009 := am (Kd.R_below u16_14 hb); replace HO406 := am (Kd.R_below u16_25 hb); have HO413 := am (Kd.S_lower (Kd.S_new' ho65 (Kd.R_lt u16_11)) (below_size Q0)); replace HO_403007 := am (Kd.R_below u16_11 hb); replace BK384 := am (blk_below (g := gb384) (o := .cells #[.int .i64 a0_0, .int .i64 a0_1, .int .i64 a0_2, .int .i64 a0_3, .int .i64 a0_4, .int .i64 a0_5, .int .i64 a0_6, .slice A0_7 l0_7.length c0_7, .slice A0_8 l0_8.length c0_8, .slice A0_9 l0_9.length c0_9] 37 (0, 0)) u16_7 hb); replace BK385 := am (blk_below (g := gb385) (o := .cells #[.int .i64 0, .int .i64 0, .int .i64 0, .int .i64 0, .int .i64 0, .int .i64 0, .int .i64 0, .slice none 0 0, .slice none 0 0, .slice none 0 0] 37 (0, 0)) u16_8 hb); replace BK402 := am (blk_below (g := gb402) (o := .cells #[.int .i64 t386, .int .i64 (wrap64 (t387 + 1)), .int .i64 a0_0, .int .i64 1, .int .i64 t390, .int .i64 t391, .int .i64 t392, .slice Ao14 t393.length co14, .slice Ao47 y404.length co47, .slice Ao16 t399.length co16] 37 (0, 0)) u16_9 hb); replace HB := am (below_step Q0 hb); clear hb ho65))
   go_loopg [8, 49] kj3 (fun kq v8 v49 w' => ∃ (x8_2 : List (S29)) (x49_2 : Int), v49 = .int .i64 x49_2 ∧ Aside0 (impl_Elect.l0 kq t410 x8_2 a1 x49_2 a0_0 a0_1 a0_2 a0_3 a0_4 a0_5 a0_6 l0_7 l0_8 l0_9 t386 (wrap64 (t387 + 1)) a0_0 1 t390 t391 t392 t393 y404 t399 = some (r1, r2, r3, r4, r5, r6, r7, r8, r9, r10, r11)) ∧ Aside0 (kq ≤ kj3) ∧ Aside0 (Kd.S k29 29 w' w.heap.size (fun k_ => some k_ ≠ ((.slice Ao14 t393.length co14) : Value).ownBlock) v8 x8_2) ∧ Aside0 (Kd.R k85 85 w' w.heap.size (fun _ => True) (.slice Ao14 t393.length co14) t393) ∧ Aside0 (Kd.R (Kd.int .i64) 3 w' w.heap.size (fun k_ => some k_ ≠ ((.slice Ao16 t399.length co16) : Value).ownBlock) (.slice Ao47 y404.length co47) y404) ∧ Aside0 (Kd.R (Kd.int .i64) 3 w' w.heap.size (fun k_ => some k_ ≠ ((.slice Ao47 y404.length co47) : Value).ownBlock) (.slice Ao16 t399.length co16) t399) ∧ Aside0 (w'.heap[gb384]? = some (.cells #[.int .i64 a0_0, .int .i64 a0_1, .int .i64 a0_2, .int .i64 a0_3, .int .i64 a0_4, .int .i64 a0_5, .int .i64 a0_6, (.slice A0_7 l0_7.length c0_7), (.slice A0_8 l0_8.length c0_8), (.slice A0_9 l0_9.length c0_9)] 37 (0, 0))) ∧ Aside0 (w'.heap[gb385]? = some (.cells #[.int .i64 0, .int .i64 0, .int .i64 0, .int .i64 0, .int .i64 0, .int .i64 0, .int .i64 0, (.slice none 0 0), (.slice none 0 0), (.slice none 0 0)] 37 (0, 0))) ∧ Aside0 (w'.heap[gb402]? = some (.cells #[.int .i64 t386, .int .i64 (wrap64 (t387 + 1)), .int .i64 a0_0, .int .i64 1, .int .i64 t390, .int .i64 t391, .int .i64 t392, (.slice Ao14 t393.length co14), (.slice Ao47 y404.length co47), (.slice Ao16 t399.length co16)] 37 (0, 0))) ∧ Aside0 (Below w.heap.size w w'))
   case atStart => exact ⟨(y411), (0), Q2, H', ⟨Nat.le_refl _⟩, ⟨(by (with_reducible repeat (first | apply Kd.S_alloc | apply Kd.S_drewN | apply Kd.S_drew)); exact Kd.S_mono HO413.out (fun _ hk => hk.2))⟩, ⟨u16_11⟩, ⟨(by (with_reducible repeat (first | apply Kd.R_alloc | apply Kd.R_drewN | apply Kd.R_drew)); exact Kd.R_mono HO406.out (fun _ hk => hk.2))⟩, ⟨(by (with_reducible repeat (first | apply Kd.R_alloc | apply Kd.R_drewN | apply Kd.R_drew)); exact Kd.R_mono HO_403009.out (fun _ hk => hk.2))⟩, ⟨u16_7⟩, ⟨u16_8⟩, ⟨u16_9⟩, ⟨Q0⟩⟩
   clear H'
   try clear c34
   try clear c49
   try clear c49b0
   try clear c49b1
   try clear hcz13_0
   try clear hcz13_1
   try clear hcz13_2
   try clear hcz13_3
   try clear hcz13_4
   try clear hcz13_5
   try clear hcz13_6
   try clear hcz13_7
   try clear hcz13_8
   try clear hcz13_9
   try clear hcz42_0
   try clear hcz42_1
   try clear hcz42_2
   try clear hcz42_3
   try clear hcz42_4
   try clear hcz42_5
   try clear hcz42_6
   try clear hcz42_7
   try clear hcz42_8
   try clear hcz42_9
   try clear hcz44_0
   try clear hcz44_1
   try clear hcz44_2
   try clear hcz44_3
   try clear hcz44_4
   try clear hcz44_5
   try clear hcz44_6
   try clear hcz44_7
   try clear hcz44_8
   try clear hcz44_9
   try clear hcz48_0
   try clear hcz48_1
   try clear hcz48_2
   try clear hcz48_3
   try clear hcz48_4
   try clear hcz48_5
   try clear hcz48_6
   try clear hcz48_7
   try clear hcz48_8
   try clear hcz48_9
   try clear hcz62_0
   try clear hcz62_1
   try clear hcz62_2
   try clear hcz62_3
   try clear hcz62_4
   try clear hcz62_5
   try clear hcz62_6
   try clear hcz62_7
   try clear hcz62_8
   try clear hcz62_9
   try clear hcz8_0
   try clear hcz8_1
   try clear hcz8_2
   try clear hcz8_3
   try clear hcz8_4
   try clear hcz8_5
   try clear hcz8_6
   try clear hcz8_7
   try clear hcz8_8
   try clear hcz8_9
   try clear hfz13_0
   try clear hfz13_1
   try clear hfz13_2
   try clear hfz13_3
   try clear hfz13_4
   try clear hfz13_5
   try clear hfz13_6
   try clear hfz13_7
   try clear hfz13_8
   try clear hfz13_9
   try clear hfz42_0
   try clear hfz42_1
   try clear hfz42_2
   try clear hfz42_3
   try clear hfz42_4
   try clear hfz42_5
   try clear hfz42_6
   try clear hfz42_7
   try clear hfz42_8
   try clear hfz42_9
   try clear hfz44_0
   try clear hfz44_1
   try clear hfz44_2
   try clear hfz44_3
   try clear hfz44_4
   try clear hfz44_5
   try clear hfz44_6
   try clear hfz44_7
   try clear hfz44_8
   try clear hfz44_9
   try clear hfz48_0
   try clear hfz48_1
   try clear hfz48_2
   try clear hfz48_3
   try clear hfz48_4
   try clear hfz48_5
   try clear hfz48_6
   try clear hfz48_7
   try clear hfz48_8
   try clear hfz48_9
   try clear hfz62_0
   try clear hfz62_1
   try clear hfz62_2
   try clear hfz62_3
   try clear hfz62_4
   try clear hfz62_5
   try clear hfz62_6
   try clear hfz62_7
   try clear hfz62_8
   try clear hfz62_9
   try clear hfz8_0
   try clear hfz8_1
   try clear hfz8_2
   try clear hfz8_3
   try clear hfz8_4
   try clear hfz8_5
   try clear hfz8_6
   try clear hfz8_7
   try clear hfz8_8
   try clear hfz8_9
   obtain ⟨x8_2, x49_2, rfl, HA, HK2, HO_8, HO_403007, HO_403008, HO_403009, BK384, BK385, BK402, HB⟩ := hrel
   cases gk with
   | zero => exact absurd HA.out (by simp [impl_Elect.l0])
   | succ k2 =>
     have H := HA.out
     clear HA
     simp only [impl_Elect.l0] at H
     by_cases c66 : x49_2 < a1
     rotate_left
     · rw [if_neg c66] at H
       have c66b0 : decide (x49_2 < a1) = false := decide_eq_false c66
       clear c66
       simp only [Option.some.injEq, Prod.mk.injEq] at H
       obtain ⟨rfl, rfl, rfl, rfl, rfl, rfl, rfl, rfl, rfl, rfl, rfl⟩ := H
       have hnb79 := NB402_384.out
       have hnc79 := NB384_402.out
       have hnb80 := NB402_385.out
       have hnc80 := NB385_402.out
       obtain ⟨hcz81_0, hcz81_1, hcz81_2, hcz81_3, hcz81_4, hcz81_5, hcz81_6, hcz81_7, hcz81_8, hcz81_9, hfz81_0, hfz81_1, hfz81_2, hfz81_3, hfz81_4, hfz81_5, hfz81_6, hfz81_7, hfz81_8, hfz81_9⟩ := bc10f wr BK402.out
       have hnb82 := NB385_384.out
       have hnc82 := NB384_385.out
       obtain ⟨hcz83_0, hcz83_1, hcz83_2, hcz83_3, hcz83_4, hcz83_5, hcz83_6, hcz83_7, hcz83_8, hcz83_9, hfz83_0, hfz83_1, hfz83_2, hfz83_3, hfz83_4, hfz83_5, hfz83_6, hfz83_7, hfz83_8, hfz83_9⟩ := bc10f wr BK385.out
       go_wp2
       refine bodyPost_ret (results_ct rfl _ _ gb385 37 #[.int .i64 t386, .int .i64 (wrap64 (t387 + 1)), .int .i64 a0_0, .int .i64 1, .int .i64 t390, .int .i64 t391, .int .i64 t392, .slice Ao14 t393.length co14, .slice Ao47 y404.length co47, .slice Ao16 t399.length co16] (0, 0) _ rfl (by (with_reducible repeat (first | refine blk_drewN ?_ _ | refine blk_drew ?_ | refine blk_alloc ?_ _)); refine blk_put (cs := #[.int .i64 t386, .int .i64 (wrap64 (t387 + 1)), .int .i64 a0_0, .int .i64 1, .int .i64 t390, .int .i64 t391, .int .i64 t392, .slice Ao14 t393.length co14, .slice Ao47 y404.length co47, .slice none 0 0]) ?_ 9 _ rfl; (with_reducible repeat (first | refine blk_drewN ?_ _ | refine blk_drew ?_ | refine blk_alloc ?_ _)); refine blk_put (cs := #[.int .i64 t386, .int .i64 (wrap64 (t387 + 1)), .int .i64 a0_0, .int .i64 1, .int .i64 t390, .int .i64 t391, .int .i64 t392, .slice Ao14 t393.length co14, .slice none 0 0, .slice none 0 0]) ?_ 8 _ rfl; (with_reducible repeat (first | refine blk_drewN ?_ _ | refine blk_drew ?_ | refine blk_alloc ?_ _)); refine blk_put (cs := #[.int .i64 t386, .int .i64 (wrap64 (t387 + 1)), .int .i64 a0_0, .int .i64 1, .int .i64 t390, .int .i64 t391, .int .i64 t392, .slice none 0 0, .slice none 0 0, .slice none 0 0]) ?_ 7 _ rfl; (with_reducible repeat (first | refine blk_drewN ?_ _ | refine blk_drew ?_ | refine blk_alloc ?_ _)); refine blk_put (cs := #[.int .i64 t386, .int .i64 (wrap64 (t387 + 1)), .int .i64 a0_0, .int .i64 1, .int .i64 t390, .int .i64 t391, .int .i64 0, .slice none 0 0, .slice none 0 0, .slice none 0 0]) ?_ 6 _ rfl; (with_reducible repeat (first | refine blk_drewN ?_ _ | refine blk_drew ?_ | refine blk_alloc ?_ _)); refine blk_put (cs := #[.int .i64 t386, .int .i64 (wrap64 (t387 + 1)), .int .i64 a0_0, .int .i64 1, .int .i64 t390, .int .i64 0, .int .i64 0, .slice none 0 0, .slice none 0 0, .slice none 0 0]) ?_ 5 _ rfl; (with_reducible repeat (first | refine blk_drewN ?_ _ | refine blk_drew ?_ | refine blk_alloc ?_ _)); refine blk_put (cs := #[.int .i64 t386, .int .i64 (wrap64 (t387 + 1)), .int .i64 a0_0, .int .i64 1, .int .i64 0, .int .i64 0, .int .i64 0, .slice none 0 0, .slice none 0 0, .slice none 0 0]) ?_ 4 _ rfl; (with_reducible repeat (first | refine blk_drewN ?_ _ | refine blk_drew ?_ | refine blk_alloc ?_ _)); refine blk_put (cs := #[.int .i64 t386, .int .i64 (wrap64 (t387 + 1)), .int .i64 a0_0, .int .i64 0, .int .i64 0, .int .i64 0, .int .i64 0, .slice none 0 0, .slice none 0 0, .slice none 0 0]) ?_ 3 _ rfl; (with_reducible repeat (first | refine blk_drewN ?_ _ | refine blk_drew ?_ | refine blk_alloc ?_ _)); refine blk_put (cs := #[.int .i64 t386, .int .i64 (wrap64 (t387 + 1)), .int .i64 0, .int .i64 0, .int .i64 0, .int .i64 0, .int .i64 0, .slice none 0 0, .slice none 0 0, .slice none 0 0]) ?_ 2 _ rfl; (with_reducible repeat (first | refine blk_drewN ?_ _ | refine blk_drew ?_ | refine blk_alloc ?_ _)); refine blk_put (cs := #[.int .i64 t386, .int .i64 0, .int .i64 0, .int .i64 0, .int .i64 0, .int .i64 0, .int .i64 0, .slice none 0 0, .slice none 0 0, .slice none 0 0]) ?_ 1 _ rfl; (with_reducible repeat (first | refine blk_drewN ?_ _ | refine blk_drew ?_ | refine blk_alloc ?_ _)); refine blk_put (cs := #[.int .i64 0, .int .i64 0, .int .i64 0, .int .i64 0, .int .i64 0, .int .i64 0, .int .i64 0, .slice none 0 0, .slice none 0 0, .slice none 0 0]) ?_ 0 _ rfl; (with_reducible repeat (first | refine blk_drewN ?_ _ | refine blk_drew ?_ | refine blk_alloc ?_ _)); exact BK385.out) Try.underlying37 rfl kr) rfl ?_
       exact ⟨_, _, _, _, er, (by (with_reducible repeat (first | apply Kd.R_alloc | apply Kd.R_drewN | apply Kd.R_drew)); exact Kd.R_mono (Kd.R_far (p := ⟨gb385, 9, none⟩) (Kd.R_far (p := ⟨gb385, 8, none⟩) (Kd.R_far (p := ⟨gb385, 7, none⟩) (Kd.R_far (p := ⟨gb385, 6, none⟩) (Kd.R_far (p := ⟨gb385, 5, none⟩) (Kd.R_far (p := ⟨gb385, 4, none⟩) (Kd.R_far (p := ⟨gb385, 3, none⟩) (Kd.R_far (p := ⟨gb385, 2, none⟩) (Kd.R_far (p := ⟨gb385, 1, none⟩) (Kd.R_far (p := ⟨gb385, 0, none⟩) (Kd.R_types HO_403007.out BK385.out (by decide)) (fun _ hk => hk.2) (.int .i64 t386)) (fun _ hk => hk.2) (.int .i64 (wrap64 (t387 + 1)))) (fun _ hk => hk.2) (.int .i64 a0_0)) (fun _ hk => hk.2) (.int .i64 1)) (fun _ hk => hk.2) (.int .i64 t390)) (fun _ hk => hk.2) (.int .i64 t391)) (fun _ hk => hk.2) (.int .i64 t392)) (fun _ hk => hk.2) (.slice Ao14 t393.length co14)) (fun _ hk => hk.2) (.slice Ao47 y404.length co47)) (fun _ hk => hk.2) (.slice Ao16 t399.length co16)) (fun _ hk => trivial)), (by (with_reducible repeat (first | apply Kd.R_alloc | apply Kd.R_drewN | apply Kd.R_drew)); exact Kd.R_mono (Kd.R_far (p := ⟨gb385, 9, none⟩) (Kd.R_far (p := ⟨gb385, 8, none⟩) (Kd.R_far (p := ⟨gb385, 7, none⟩) (Kd.R_far (p := ⟨gb385, 6, none⟩) (Kd.R_far (p := ⟨gb385, 5, none⟩) (Kd.R_far (p := ⟨gb385, 4, none⟩) (Kd.R_far (p := ⟨gb385, 3, none⟩) (Kd.R_far (p := ⟨gb385, 2, none⟩) (Kd.R_far (p := ⟨gb385, 1, none⟩) (Kd.R_far (p := ⟨gb385, 0, none⟩) (Kd.R_types HO_403008.out BK385.out (by decide)) (fun _ hk => hk.2) (.int .i64 t386)) (fun _ hk => hk.2) (.int .i64 (wrap64 (t387 + 1)))) (fun _ hk => hk.2) (.int .i64 a0_0)) (fun _ hk => hk.2) (.int .i64 1)) (fun _ hk => hk.2) (.int .i64 t390)) (fun _ hk => hk.2) (.int .i64 t391)) (fun _ hk => hk.2) (.int .i64 t392)) (fun _ hk => hk.2) (.slice Ao14 t393.length co14)) (fun _ hk => hk.2) (.slice Ao47 y404.length co47)) (fun _ hk => hk.2) (.slice Ao16 t399.length co16)) (fun _ hk => hk.1)), (by (with_reducible repeat (first | apply Kd.R_alloc | apply Kd.R_drewN | apply Kd.R_drew)); exact Kd.R_mono (Kd.R_far (p := ⟨gb385, 9, none⟩) (Kd.R_far (p := ⟨gb385, 8, none⟩) (Kd.R_far (p := ⟨gb385, 7, none⟩) (Kd.R_far (p := ⟨gb385, 6, none⟩) (Kd.R_far (p := ⟨gb385, 5, none⟩) (Kd.R_far (p := ⟨gb385, 4, none⟩) (Kd.R_far (p := ⟨gb385, 3, none⟩) (Kd.R_far (p := ⟨gb385, 2, none⟩) (Kd.R_far (p := ⟨gb385, 1, none⟩) (Kd.R_far (p := ⟨gb385, 0, none⟩) (Kd.R_types HO_403009.out BK385.out (by decide)) (fun _ hk => hk.2) (.int .i64 t386)) (fun _ hk => hk.2) (.int .i64 (wrap64 (t387 + 1)))) (fun _ hk => hk.2) (.int .i64 a0_0)) (fun _ hk => hk.2) (.int .i64 1)) (fun _ hk => hk.2) (.int .i64 t390)) (fun _ hk => hk.2) (.int .i64 t391)) (fun _ hk => hk.2) (.int .i64 t392)) (fun _ hk => hk.2) (.slice Ao14 t393.length co14)) (fun _ hk => hk.2) (.slice Ao47 y404.length co47)) (fun _ hk => hk.2) (.slice Ao16 t399.length co16)) (fun _ hk => hk.1)), (by (with_reducible repeat (first | apply Kd.S_alloc | apply Kd.S_drewN | apply Kd.S_drew)); exact Kd.S_mono (Kd.S_far (p := ⟨gb385, 9, none⟩) (Kd.S_far (p := ⟨gb385, 8, none⟩) (Kd.S_far (p := ⟨gb385, 7, none⟩) (Kd.S_far (p := ⟨gb385, 6, none⟩) (Kd.S_far (p := ⟨gb385, 5, none⟩) (Kd.S_far (p := ⟨gb385, 4, none⟩) (Kd.S_far (p := ⟨gb385, 3, none⟩) (Kd.S_far (p := ⟨gb385, 2, none⟩) (Kd.S_far (p := ⟨gb385, 1, none⟩) (Kd.S_far (p := ⟨gb385, 0, none⟩) (Kd.S_types HO_8.out BK385.out (by decide)) (fun _ hk => hk.2) (.int .i64 t386)) (fun _ hk => hk.2) (.int .i64 (wrap64 (t387 + 1)))) (fun _ hk => hk.2) (.int .i64 a0_0)) (fun _ hk => hk.2) (.int .i64 1)) (fun _ hk => hk.2) (.int .i64 t390)) (fun _ hk => hk.2) (.int .i64 t391)) (fun _ hk => hk.2) (.int .i64 t392)) (fun _ hk => hk.2) (.slice Ao14 t393.length co14)) (fun _ hk => hk.2) (.slice Ao47 y404.length co47)) (fun _ hk => hk.2) (.slice Ao16 t399.length co16)) (fun _ hk => hk.1)), Q0⟩
     rw [if_pos c66] at H
     have c66b0 : decide (x49_2 < a1) = true := decide_eq_true c66
     clear c66
     by_cases c67 : x49_2 = a0_0
     · rw [if_pos c67] at H
       have c67b0 : (x49_2 == a0_0) = true := beq_iff_eq.mpr c67
       have c67b1 : (x49_2 != a0_0) = false := bne_eq_false_iff_eq.mpr c67
       clear c67
       have H' := am H
       clear H
       have hnb68 := NB384_385.out
       have hnc68 := NB385_384.out
       have hnb69 := NB384_402.out
       have hnc69 := NB402_384.out
       obtain ⟨hcz70_0, hcz70_1, hcz70_2, hcz70_3, hcz70_4, hcz70_5, hcz70_6, hcz70_7, hcz70_8, hcz70_9, hfz70_0, hfz70_1, hfz70_2, hfz70_3, hfz70_4, hfz70_5, hfz70_6, hfz70_7, hfz70_8, hfz70_9⟩ := bc10f wr BK384.out
       go_wp2
       go_roundg k2
       case measure => have := HJ3.out; have := HK2.out; omega
       case rel => exact ⟨(x8_2), (wrap64 (x49_2 + 1)), Q2, H', ⟨(by have := HJ3.out; have := HK2.out; omega)⟩, ⟨u16_15⟩, ⟨u16_11⟩, ⟨u16_13⟩, ⟨u16_14⟩, ⟨u16_7⟩, ⟨u16_8⟩, ⟨u16_9⟩, ⟨Q0⟩⟩
     rw [if_neg c67] at H
     have c67b0 : (x49_2 == a0_0) = false := beq_eq_false_iff_ne.mpr c67
     have c67b1 : (x49_2 != a0_0) = true := bne_iff_ne.mpr c67
     replace H := Option.bind_eq_some_iff.mp H
     obtain ⟨t414, A710, H⟩ := H
     have A71 := am A710
     clear A710
     by_cases c72 : x8_2.length < 1599289640401
     rotate_left
     · rw [if_neg c72] at H
       exact absurd H (by simp)
     rw [if_pos c72] at H
     have LMc72 := am c72
     clear c72
     obtain ⟨y415, hy415⟩ : ∃ y_ : List (S29), y_ = (x8_2 ++ [(⟨0, a0_0, x49_2, (wrap64 (t387 + 1)), t410, t414, 0, false, ([] : List (S85))⟩ : S29)]) := ⟨_, rfl⟩
     replace H : (impl_Elect.l0 k2 t410 y415 a1 (wrap64 (x49_2 + 1)) a0_0 a0_1 a0_2 a0_3 a0_4 a0_5 a0_6 l0_7 l0_8 l0_9 t386 (wrap64 (t387 + 1)) a0_0 1 t390 t391 t392 t393 y404 t399) = some (r1, r2, r3, r4, r5, r6, r7, r8, r9, r10, r11) := by first | (rw [hy415]; with_reducible exact H) | (have H2_ := (Option.bind_some _ _).symm.trans H; rw [hy415]; with_reducible exact H2_) | (have H2_ := (Option.bind_some _ _).symm.trans H; with_reducible exact H2_) | with_reducible exact H | (rw [hy415]; exact H) | exact H
     have Ny415 := am hy415
     clear hy415
     have H' := am H
     clear H
     have hnb73 := NB384_385.out
     have hnc73 := NB385_384.out
     have hnb74 := NB384_402.out
     have hnc74 := NB402_384.out
     obtain ⟨hcz75_0, hcz75_1, hcz75_2, hcz75_3, hcz75_4, hcz75_5, hcz75_6, hcz75_7, hcz75_8, hcz75_9, hfz75_0, hfz75_1, hfz75_2, hfz75_3, hfz75_4, hfz75_5, hfz75_6, hfz75_7, hfz75_8, hfz75_9⟩ := bc10f wr BK384.out
     try go_wp2
     replace HO_8 := am (Kd.S_drew HO_8.out)
     replace HO_403007 := am (Kd.R_drew HO_403007.out)
     replace HO_403008 := am (Kd.R_drew HO_403008.out)
     replace HO_403009 := am (Kd.R_drew HO_403009.out)
     replace BK384 := am (blk_drew BK384.out)
     replace BK385 := am (blk_drew BK385.out)
     replace BK402 := am (blk_drew BK402.out)
     replace HB := am (below_drew1 HB.out)
     refine start_ (n := 15) (S := fun w' => w'.cell? ⟨gb384, 0, none⟩ = some (.int .i64 a0_0) ∧ w'.cell? ⟨gb384, 1, none⟩ = some (.int .i64 a0_1) ∧ w'.cell? ⟨gb384, 2, none⟩ = some (.int .i64 a0_2) ∧ w'.cell? ⟨gb384, 3, none⟩ = some (.int .i64 a0_3) ∧ w'.cell? ⟨gb384, 4, none⟩ = some (.int .i64 a0_4) ∧ w'.cell? ⟨gb384, 5, none⟩ = some (.int .i64 a0_5) ∧ w'.cell? ⟨gb384, 6, none⟩ = some (.int .i64 a0_6) ∧ w'.cell? ⟨gb384, 7, none⟩ = some (.slice A0_7 l0_7.length c0_7) ∧ w'.cell? ⟨gb384, 8, none⟩ = some (.slice A0_8 l0_8.length c0_8) ∧ w'.cell? ⟨gb384, 9, none⟩ = some (.slice A0_9 l0_9.length c0_9) ∧ w'.cell? ⟨gb402, 0, none⟩ = some (.int .i64 t386) ∧ w'.cell? ⟨gb402, 1, none⟩ = some (.int .i64 (wrap64 (t387 + 1))) ∧ w'.cell? ⟨gb402, 2, none⟩ = some (.int .i64 a0_0) ∧ w'.cell? ⟨gb402, 3, none⟩ = some (.int .i64 1) ∧ w'.cell? ⟨gb402, 4, none⟩ = some (.int .i64 t390) ∧ w'.cell? ⟨gb402, 5, none⟩ = some (.int .i64 t391) ∧ w'.cell? ⟨gb402, 6, none⟩ = some (.int .i64 t392) ∧ w'.cell? ⟨gb402, 7, none⟩ = some (.slice Ao14 t393.length co14) ∧ w'.cell? ⟨gb402, 8, none⟩ = some (.slice Ao47 y404.length co47) ∧ w'.cell? ⟨gb402, 9, none⟩ = some (.slice Ao16 t399.length co16)) (ds := []) #[false, false, false, false, false, false, false, false, false, false, false, false, false, false, false] kr rfl rfl ⟨(blk_cell BK384.out 0).trans rfl, (blk_cell BK384.out 1).trans rfl, (blk_cell BK384.out 2).trans rfl, (blk_cell BK384.out 3).trans rfl, (blk_cell BK384.out 4).trans rfl, (blk_cell BK384.out 5).trans rfl, (blk_cell BK384.out 6).trans rfl, (blk_cell BK384.out 7).trans rfl, (blk_cell BK384.out 8).trans rfl, (blk_cell BK384.out 9).trans rfl, (blk_cell BK402.out 0).trans rfl, (blk_cell BK402.out 1).trans rfl, (blk_cell BK402.out 2).trans rfl, (blk_cell BK402.out 3).trans rfl, (blk_cell BK402.out 4).trans rfl, (blk_cell BK402.out 5).trans rfl, (blk_cell BK402.out 6).trans rfl, (blk_cell BK402.out 7).trans rfl, (blk_cell BK402.out 8).trans rfl, (blk_cell BK402.out 9).trans rfl⟩ (fun hHeld => ?_); refine with_tabW impl_Elect.tab17 impl_Elect.bits17 (fun HT_ HW_ => ?_)
     generalize wr.drew = w76 at HO_8 HO_403007 HO_403008 HO_403009 BK384 BK385 BK402 HB hHeld ⊢
     refine pV 0 56 (bt 1 15) ?_
     refine pV 1 57 (bt 2 15) ?_
     refine pV 3 59 #[true, true, false, true, false, false, false, false, false, false, false, false, false, false, false] ?_
     refine pV 4 60 #[true, true, false, true, true, false, false, false, false, false, false, false, false, false, false] ?_
     refine pV 6 62 #[true, true, false, true, true, false, true, false, false, false, false, false, false, false, false] ?_
     refine pV 7 63 #[true, true, false, true, true, false, true, true, false, false, false, false, false, false, false] ?_
     refine pV 9 65 #[true, true, false, true, true, false, true, true, false, true, false, false, false, false, false] ?_
     refine tV 2 58 #[true, true, true, true, true, false, true, true, false, true, false, false, false, false, false] ?_
     refine tV 5 61 #[true, true, true, true, true, true, true, true, false, true, false, false, false, false, false] ?_
     refine tV 8 64 (bt 10 15) ?_
     refine one_ (i := 10) (N := some 66) #[true, true, true, true, true, true, true, true, true, true, true, false, false, false, false] rfl rfl (one_of HT_.out kr) (by decide) (fun K hK => ?_)
     refine goes_ Try.func92 kr rfl #[.agg #[.int .i64 t391, .int .i64 t392, .slice Ao14 t393.length co14], .int .i64 t410] (by rfl) rfl rfl Q3 ?_
     with_reducible refine (impl_RLog_term.calls t391 t392 _ _ t393 t410 t414 _ ?side1 ?side2 A71.out).mono ?_
     (case side1 => exact (by repeat (first | exact (Kd.R_reads' HO_403007.out).2.2 | (with_reducible refine Kd.C_alloc ?_ _) | (with_reducible refine Kd.C_drewN ?_ _) | (with_reducible refine Kd.C_drew ?_))))
     (case side2 => exact (Kd.R_reads' HO_403007.out).2.1)
     rintro e w77 ⟨rfl, hb⟩
     refine ⟨_, rfl, ?_⟩
     replace HO_8 := am (Kd.S_below u16_15 hb)
     replace HO_403007 := am (Kd.R_below u16_11 hb)
     replace HO_403008 := am (Kd.R_below u16_13 hb)
     replace HO_403009 := am (Kd.R_below u16_14 hb)
     replace BK384 := am (blk_below (g := gb384) (o := .cells #[.int .i64 a0_0, .int .i64 a0_1, .int .i64 a0_2, .int .i64 a0_3, .int .i64 a0_4, .int .i64 a0_5, .int .i64 a0_6, .slice A0_7 l0_7.length c0_7, .slice A0_8 l0_8.length c0_8, .slice A0_9 l0_9.length c0_9] 37 (0, 0)) u16_7 hb)
     replace BK385 := am (blk_below (g := gb385) (o := .cells #[.int .i64 0, .int .i64 0, .int .i64 0, .int .i64 0, .int .i64 0, .int .i64 0, .int .i64 0, .slice none 0 0, .slice none 0 0, .slice none 0 0] 37 (0, 0)) u16_8 hb)
     replace BK402 := am (blk_below (g := gb402) (o := .cells #[.int .i64 t386, .int .i64 (wrap64 (t387 + 1)), .int .i64 a0_0, .int .i64 1, .int .i64 t390, .int .i64 t391, .int .i64 t392, .slice Ao14 t393.length co14, .slice Ao47 y404.length co47, .slice Ao16 t399.length co16] 37 (0, 0)) u16_9 hb)
     replace HB := am (below_step Q0 hb)
     (try clear hb)
     (try clear hb2)
     (try clear hk)
     (try clear hi)
     refine hK.out _ _ ⟨(blk_cell BK384.out 0).trans rfl, (blk_cell BK384.out 1).trans rfl, (blk_cell BK384.out 2).trans rfl, (blk_cell BK384.out 3).trans rfl, (blk_cell BK384.out 4).trans rfl, (blk_cell BK384.out 5).trans rfl, (blk_cell BK384.out 6).trans rfl, (blk_cell BK384.out 7).trans rfl, (blk_cell BK384.out 8).trans rfl, (blk_cell BK384.out 9).trans rfl, (blk_cell BK402.out 0).trans rfl, (blk_cell BK402.out 1).trans rfl, (blk_cell BK402.out 2).trans rfl, (blk_cell BK402.out 3).trans rfl, (blk_cell BK402.out 4).trans rfl, (blk_cell BK402.out 5).trans rfl, (blk_cell BK402.out 6).trans rfl, (blk_cell BK402.out 7).trans rfl, (blk_cell BK402.out 8).trans rfl, (blk_cell BK402.out 9).trans rfl⟩ (fun hHeld => ?_)
     clear hK K
     refine norm_ (a' := ?_) ?_ ?_
     rotate_left
     · show Act.put _ (some 66) _ = _
       simp only [Act.put, la, lb, lc, i64_w, i32_w]
       rfl
     refine pV 11 67 (bt 12 15) ?_
     refine one_ (i := 12) (N := some 68) #[true, true, true, true, true, true, true, true, true, true, true, true, true, false, false] rfl rfl (one_of HT_.out kr) (by decide) (fun K hK => ?_)
     refine value_ (w1 := ?_) (v := ?_) (by rfl) rfl ?_ ?_
     rotate_left 2
     · go_simp
       constructor
       · rfl
       rfl
     refine hK.out _ _ ⟨(blk_cell (blk_alloc BK384.out _) 0).trans rfl, (blk_cell (blk_alloc BK384.out _) 1).trans rfl, (blk_cell (blk_alloc BK384.out _) 2).trans rfl, (blk_cell (blk_alloc BK384.out _) 3).trans rfl, (blk_cell (blk_alloc BK384.out _) 4).trans rfl, (blk_cell (blk_alloc BK384.out _) 5).trans rfl, (blk_cell (blk_alloc BK384.out _) 6).trans rfl, (blk_cell (blk_alloc BK384.out _) 7).trans rfl, (blk_cell (blk_alloc BK384.out _) 8).trans rfl, (blk_cell (blk_alloc BK384.out _) 9).trans rfl, (blk_cell (blk_alloc BK402.out _) 0).trans rfl, (blk_cell (blk_alloc BK402.out _) 1).trans rfl, (blk_cell (blk_alloc BK402.out _) 2).trans rfl, (blk_cell (blk_alloc BK402.out _) 3).trans rfl, (blk_cell (blk_alloc BK402.out _) 4).trans rfl, (blk_cell (blk_alloc BK402.out _) 5).trans rfl, (blk_cell (blk_alloc BK402.out _) 6).trans rfl, (blk_cell (blk_alloc BK402.out _) 7).trans rfl, (blk_cell (blk_alloc BK402.out _) 8).trans rfl, (blk_cell (blk_alloc BK402.out _) 9).trans rfl⟩ (fun hHeld => ?_)
     clear hK K
     refine norm_ (a' := ?_) ?_ ?_
     rotate_left
     · show Act.put _ (some 68) _ = _
       simp only [Act.put, la, lb, lc, i64_w, i32_w]
       rfl
     refine one_ (i := 13) (N := some 69) #[true, true, true, true, true, true, true, true, true, true, true, true, true, true, false] rfl rfl (one_of HT_.out kr) (by decide) (fun K hK => ?_)
     refine Kd.S_append_step k29 (w0 := w) w.heap.size (by rfl) (.tmp 56) (.tmp 68) 51 29 (.agg #[(.int .i64 0), (.int .i64 0), (.int .i64 0), (.int .i64 0), (.int .i64 0), (.int .i64 0), (.int .i64 0), (.bool false), (.slice none 0 0)]) 88 rfl Try.underlying51 info29 rfl (by decide) (by omega) u8 x8_2 (⟨0, a0_0, x49_2, (wrap64 (t387 + 1)), t410, t414, 0, false, ([] : List (S85))⟩ : S29) [.int .i64 0, .int .i64 a0_0, .int .i64 x49_2, .int .i64 (wrap64 (t387 + 1)), .int .i64 t410, .int .i64 t414, .int .i64 0, .bool false, .slice none 0 0] (fun k_ => some k_ ≠ (.slice Ao14 t393.length co14 : Value).ownBlock) (fun _ => False) rfl rfl ?aP (fun k_ hk_ => hk_.elim) ?aF ?aO ?aB ?aS ?aL ?_
     (case aP => exact k29_mkM _ _ _ (⟨0, a0_0, x49_2, (wrap64 (t387 + 1)), t410, t414, 0, false, ([] : List (S85))⟩ : S29) (Kd.R_nil _ _ _ _ _))
     (case aB => exact Q0)
     (case aF => exact (fun k_ hk => Kd.fresh' (Kd.R_lt u16_11) k_ hk))
     (case aO => exact (by (with_reducible repeat (first | apply Kd.S_alloc | apply Kd.S_drewN | apply Kd.S_drew)); exact Kd.S_mono HO_8.out (fun k_ hk => ⟨hk, fun e_ => e_⟩)))
     (case aS => exact (below_size Q0))
     (case aL => have := LMc72.out; omega)
     intro v416 w78 ho hb hg hat
     rw [← Ny415.out] at ho
     replace HO_403007 := am (Kd.R_over' u16_11 (Kd.S_typed u16_15) (by decide) hg)
     replace HO_403008 := am (Kd.R_over' u16_13 (Kd.S_typed u16_15) (by decide) hg)
     replace HO_403009 := am (Kd.R_over' u16_14 (Kd.S_typed u16_15) (by decide) hg)
     replace BK384 := am (blk_grown (g := gb384) (o := .cells #[.int .i64 a0_0, .int .i64 a0_1, .int .i64 a0_2, .int .i64 a0_3, .int .i64 a0_4, .int .i64 a0_5, .int .i64 a0_6, .slice A0_7 l0_7.length c0_7, .slice A0_8 l0_8.length c0_8, .slice A0_9 l0_9.length c0_9] 37 (0, 0)) u16_7 hg (Kd.S_ne HO_8.out BK384.out (by decide)))
     replace BK385 := am (blk_grown (g := gb385) (o := .cells #[.int .i64 0, .int .i64 0, .int .i64 0, .int .i64 0, .int .i64 0, .int .i64 0, .int .i64 0, .slice none 0 0, .slice none 0 0, .slice none 0 0] 37 (0, 0)) u16_8 hg (Kd.S_ne HO_8.out BK385.out (by decide)))
     replace BK402 := am (blk_grown (g := gb402) (o := .cells #[.int .i64 t386, .int .i64 (wrap64 (t387 + 1)), .int .i64 a0_0, .int .i64 1, .int .i64 t390, .int .i64 t391, .int .i64 t392, .slice Ao14 t393.length co14, .slice Ao47 y404.length co47, .slice Ao16 t399.length co16] 37 (0, 0)) u16_9 hg (Kd.S_ne HO_8.out BK402.out (by decide)))
     replace HB := am (hb)
     have HO417 := am (ho)
     clear HO_8
     clear ho hb hg hat
     refine hK.out _ _ ⟨(blk_cell BK384.out 0).trans rfl, (blk_cell BK384.out 1).trans rfl, (blk_cell BK384.out 2).trans rfl, (blk_cell BK384.out 3).trans rfl, (blk_cell BK384.out 4).trans rfl, (blk_cell BK384.out 5).trans rfl, (blk_cell BK384.out 6).trans rfl, (blk_cell BK384.out 7).trans rfl, (blk_cell BK384.out 8).trans rfl, (blk_cell BK384.out 9).trans rfl, (blk_cell BK402.out 0).trans rfl, (blk_cell BK402.out 1).trans rfl, (blk_cell BK402.out 2).trans rfl, (blk_cell BK402.out 3).trans rfl, (blk_cell BK402.out 4).trans rfl, (blk_cell BK402.out 5).trans rfl, (blk_cell BK402.out 6).trans rfl, (blk_cell BK402.out 7).trans rfl, (blk_cell BK402.out 8).trans rfl, (blk_cell BK402.out 9).trans rfl⟩ (fun hHeld => ?_)
     clear hK K
     refine norm_ (a' := ?_) ?_ ?_
     rotate_left
     · show Act.put _ (some 69) _ = _
       simp only [Act.put, la, lb, lc, i64_w, i32_w]
       rfl
     refine pV 14 8 (bt 15 15) ?_
     refine done_ (done_of HT_.out kr) ?_
     try go_wp2
     go_roundg k2
     case measure => have := HJ3.out; have := HK2.out; omega
     case rel => exact ⟨(y415), (wrap64 (x49_2 + 1)), Q2, H', ⟨(by have := HJ3.out; have := HK2.out; omega)⟩, ⟨(by (with_reducible repeat (first | apply Kd.S_alloc | apply Kd.S_drewN | apply Kd.S_drew)); exact HO417.out)⟩, ⟨u16_11⟩, ⟨u16_13⟩, ⟨u16_14⟩, ⟨u16_7⟩, ⟨u16_8⟩, ⟨u16_9⟩, ⟨Q0⟩⟩

end Go.Proofs.Ytkcadcoohmofcaa.QFnExactElect
