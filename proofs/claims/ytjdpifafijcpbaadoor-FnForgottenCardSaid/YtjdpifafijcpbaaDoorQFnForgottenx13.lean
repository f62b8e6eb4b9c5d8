-- Printed by the session's own program wip/prx.py.
import Derived.Test.YtjdpifafijcpbaaDoorSqFnForgotten
import Derived.Test.YtjdpifafijcpbaaDoorQFnForgottenx0
import Derived.Test.YtjdpifafijcpbaaDoorQFnForgottenx6
import Derived.Test.YtjdpifafijcpbaaDoorQFnForgottenx11
import Derived.Test.YtjdpifafijcpbaaDoorQFnForgottenx12
namespace Go.Proofs.YtjdpifafijcpbaaDoor.QFnForgotten
open Go.RowKit Go.Proofs.YtjdpifafijcpbaaDoorW.PrintWords Go.Proofs.YtjdpifafijcpbaaDoorW.PrintLast Go.Proofs.YtjdpifafijcpbaaDoorW.PrintMore Go.Proofs.YtjdpifafijcpbaaDoor.SqFnForgotten
attribute [local go_sem] max2_int min2_int max_two min_two max_three min_three max_four min_four Go.Proofs.YtjdpifafijcpbaaDoor.Set.isSome_setCell
set_option linter.unusedVariables false
set_option linter.unusedSimpArgs false

-- squeezed
theorem u13_0 {P : Prop} (h : P := by (with_reducible repeat (first | refine blk_drewN ?_ _ | refine blk_drew ?_ | refine blk_alloc ?_ _)); exact BK458.out) : P := h
theorem u13_1 {P : Prop} (h : P := by (with_reducible repeat (first | refine blk_drewN ?_ _ | refine blk_drew ?_ | refine blk_alloc ?_ _)); exact BK467.out) : P := h
theorem u13_2 {P : Prop} (h : P := by repeat (first | (with_reducible first | exact HB.out | apply below_alloc | apply pw_below_drewN | apply below_drew1 | refine below_set ?_ GE458.out | refine below_set ?_ GE467.out) | exact HB.out)) : P := h
theorem u13_3 {P : Prop} (h : P := by repeat (first | (with_reducible first | exact HB.out | apply below_alloc | apply pw_below_drewN | apply below_drew1 | refine below_set ?_ GE458.out | refine below_set ?_ GE467.out | refine below_set ?_ GE476.out) | exact HB.out)) : P := h
theorem u13_4 {P : Prop} (h : P := by (with_reducible repeat (first | apply Kd.R_alloc | apply Kd.R_drewN | apply Kd.R_drew)); exact (Kd.R_mono (Kd.R_far (p := ⟨gb480, 3, none⟩) (Kd.R_far (p := ⟨gb480, 2, none⟩) (Kd.R_far (p := ⟨gb480, 1, none⟩) (Kd.R_far (p := ⟨gb480, 0, none⟩) (Kd.R_mono HO_477002.out (fun k_ hk => (⟨hk, hk.2⟩ : _ ∧ k_ ≠ gb480))) (fun _ hk => hk.2) (.int .i64 ((rd_T54 t461 x13_2).f0))) (fun _ hk => hk.2) (.int .i64 ((rd_T54 t461 x13_2).f1))) (fun _ hk => hk.2) (.int .i64 ((rd_T54 t461 x13_2).f2))) (fun _ hk => hk.2) (.string ((rd_T54 t461 x13_2).f3))) (fun _ h_ => h_.1))) : P := h
theorem u13_5 {P : Prop} (h : P := by (try simp only [List.map_toArray, List.map_cons, List.map_nil]); first | done | rfl | (simp only [List.length_drop, List.length_take]; rfl)) : P := h
theorem u13_6 {P : Prop} (h : P := by repeat (first | (with_reducible first | exact HB.out | apply below_alloc | apply pw_below_drewN | apply below_drew1 | refine below_set ?_ GE458.out | refine below_set ?_ GE467.out | refine below_set ?_ GE489.out) | exact HB.out)) : P := h
theorem u13_7 {P : Prop} (h : P := by (with_reducible repeat (first | refine blk_drewN ?_ _ | refine blk_drew ?_ | refine blk_alloc ?_ _)); refine blk_put (cs := #[.int .i64 ((rd_T54 t461 x13_2).f0), .int .i64 ((rd_T54 t461 x13_2).f1), .int .i64 ((rd_T54 t461 x13_2).f2), .string (⟨#[]⟩ : ByteArray)]) ?_ 3 _ rfl; (with_reducible repeat (first | refine blk_drewN ?_ _ | refine blk_drew ?_ | refine blk_alloc ?_ _)); refine blk_put (cs := #[.int .i64 ((rd_T54 t461 x13_2).f0), .int .i64 ((rd_T54 t461 x13_2).f1), .int .i64 0, .string (⟨#[]⟩ : ByteArray)]) ?_ 2 _ rfl; (with_reducible repeat (first | refine blk_drewN ?_ _ | refine blk_drew ?_ | refine blk_alloc ?_ _)); refine blk_put (cs := #[.int .i64 ((rd_T54 t461 x13_2).f0), .int .i64 0, .int .i64 0, .string (⟨#[]⟩ : ByteArray)]) ?_ 1 _ rfl; (with_reducible repeat (first | refine blk_drewN ?_ _ | refine blk_drew ?_ | refine blk_alloc ?_ _)); refine blk_put (cs := #[.int .i64 0, .int .i64 0, .int .i64 0, .string (⟨#[]⟩ : ByteArray)]) ?_ 0 _ rfl; (with_reducible repeat (first | refine blk_drewN ?_ _ | refine blk_drew ?_ | refine blk_alloc ?_ _)); exact BK480.out) : P := h
theorem u13_8 {P : Prop} (h : P := by (with_reducible repeat (first | apply Kd.R_alloc | apply Kd.R_drewN | apply Kd.R_drew)); exact HO_4.out) : P := h
theorem u13_9 {P : Prop} (h : P := by (with_reducible repeat (first | apply Kd.R_alloc | apply Kd.R_drewN | apply Kd.R_drew)); exact HO_459002.out) : P := h
theorem u13_10 {P : Prop} (h : P := by (with_reducible repeat (first | apply Kd.R_alloc | apply Kd.R_drewN | apply Kd.R_drew)); exact HO_468002.out) : P := h
theorem u13_11 {P : Prop} (h : P := by (with_reducible repeat (first | refine blk_drewN ?_ _ | refine blk_drew ?_ | refine blk_alloc ?_ _)); exact BK476.out) : P := h
theorem u13_12 {P : Prop} (h : P := by repeat (first | (with_reducible first | exact HB.out | apply below_alloc | apply pw_below_drewN | apply below_drew1 | refine below_set ?_ GE458.out) | exact HB.out)) : P := h
theorem u13_13 {P : Prop} (h : P := by (with_reducible repeat (first | apply Kd.R_alloc | apply Kd.R_drewN | apply Kd.R_drew)); exact (Kd.R_mono (Kd.R_far (p := ⟨gb489, 2, none⟩) (Kd.R_far (p := ⟨gb489, 1, none⟩) (Kd.R_far (p := ⟨gb489, 0, none⟩) (Kd.R_types HO_459002.out BK489.out (by decide)) (fun _ hk => hk.2) (.int .i64 t483)) (fun _ hk => hk.2) (.int .i64 t484)) (fun _ hk => hk.2) (.slice Ao82 t485.length co82)) (fun _ h_ => h_.1))) : P := h
theorem u13_14 {P : Prop} (h : P := by (with_reducible repeat (first | apply Kd.R_alloc | apply Kd.R_drewN | apply Kd.R_drew)); exact (Kd.R_mono (Kd.R_far (p := ⟨gb458, 2, none⟩) (Kd.R_far (p := ⟨gb458, 1, none⟩) (Kd.R_far (p := ⟨gb458, 0, none⟩) (Kd.R_types HO454.out BK458.out (by decide)) (fun _ hk => hk.2) (.int .i64 t450)) (fun _ hk => hk.2) (.int .i64 t451)) (fun _ hk => hk.2) (.slice Ao12 t452.length co12)) (fun _ h_ => h_.1))) : P := h
theorem u13_15 {P : Prop} (h : P := by repeat (first | (with_reducible first | exact HB.out | apply below_alloc | apply pw_below_drewN | apply below_drew1) | exact HB.out)) : P := h
theorem u13_16 {P : Prop} (h : P := by repeat (first | (with_reducible first | exact HB.out | apply below_alloc | apply pw_below_drewN | apply below_drew1 | refine below_set ?_ GE458.out | refine below_set ?_ GE467.out | refine below_set ?_ GE476.out | refine below_set ?_ GE480.out) | exact HB.out)) : P := h
theorem u13_17 {P : Prop} (h : P := by (with_reducible repeat (first | refine blk_drewN ?_ _ | refine blk_drew ?_ | refine blk_alloc ?_ _)); refine blk_far ?_ NB458_480.out _; (with_reducible repeat (first | refine blk_drewN ?_ _ | refine blk_drew ?_ | refine blk_alloc ?_ _)); refine blk_far ?_ NB458_480.out _; (with_reducible repeat (first | refine blk_drewN ?_ _ | refine blk_drew ?_ | refine blk_alloc ?_ _)); refine blk_far ?_ NB458_480.out _; (with_reducible repeat (first | refine blk_drewN ?_ _ | refine blk_drew ?_ | refine blk_alloc ?_ _)); refine blk_far ?_ NB458_480.out _; (with_reducible repeat (first | refine blk_drewN ?_ _ | refine blk_drew ?_ | refine blk_alloc ?_ _)); exact BK458.out) : P := h
theorem u13_18 {P : Prop} (h : P := by (with_reducible repeat (first | refine blk_drewN ?_ _ | refine blk_drew ?_ | refine blk_alloc ?_ _)); refine blk_far ?_ NB467_480.out _; (with_reducible repeat (first | refine blk_drewN ?_ _ | refine blk_drew ?_ | refine blk_alloc ?_ _)); refine blk_far ?_ NB467_480.out _; (with_reducible repeat (first | refine blk_drewN ?_ _ | refine blk_drew ?_ | refine blk_alloc ?_ _)); refine blk_far ?_ NB467_480.out _; (with_reducible repeat (first | refine blk_drewN ?_ _ | refine blk_drew ?_ | refine blk_alloc ?_ _)); refine blk_far ?_ NB467_480.out _; (with_reducible repeat (first | refine blk_drewN ?_ _ | refine blk_drew ?_ | refine blk_alloc ?_ _)); exact BK467.out) : P := h
theorem u13_19 {P : Prop} (h : P := by (with_reducible repeat (first | refine blk_drewN ?_ _ | refine blk_drew ?_ | refine blk_alloc ?_ _)); refine blk_far ?_ NB476_480.out _; (with_reducible repeat (first | refine blk_drewN ?_ _ | refine blk_drew ?_ | refine blk_alloc ?_ _)); refine blk_far ?_ NB476_480.out _; (with_reducible repeat (first | refine blk_drewN ?_ _ | refine blk_drew ?_ | refine blk_alloc ?_ _)); refine blk_far ?_ NB476_480.out _; (with_reducible repeat (first | refine blk_drewN ?_ _ | refine blk_drew ?_ | refine blk_alloc ?_ _)); refine blk_far ?_ NB476_480.out _; (with_reducible repeat (first | refine blk_drewN ?_ _ | refine blk_drew ?_ | refine blk_alloc ?_ _)); exact BK476.out) : P := h
theorem u13_20 {P : Prop} (h : P := by (with_reducible repeat (first | apply Kd.R_alloc | apply Kd.R_drewN | apply Kd.R_drew)); exact (Kd.R_mono (Kd.R_far (p := ⟨gb480, 3, none⟩) (Kd.R_far (p := ⟨gb480, 2, none⟩) (Kd.R_far (p := ⟨gb480, 1, none⟩) (Kd.R_far (p := ⟨gb480, 0, none⟩) (Kd.R_mono HO_459002.out (fun k_ hk => (⟨hk, hk.2⟩ : _ ∧ k_ ≠ gb480))) (fun _ hk => hk.2) (.int .i64 ((rd_T54 t461 x13_2).f0))) (fun _ hk => hk.2) (.int .i64 ((rd_T54 t461 x13_2).f1))) (fun _ hk => hk.2) (.int .i64 ((rd_T54 t461 x13_2).f2))) (fun _ hk => hk.2) (.string ((rd_T54 t461 x13_2).f3))) (fun _ h_ => h_.1))) : P := h
theorem u13_21 {P : Prop} (h : P := by (with_reducible repeat (first | apply Kd.R_alloc | apply Kd.R_drewN | apply Kd.R_drew)); exact (Kd.R_mono (Kd.R_far (p := ⟨gb480, 3, none⟩) (Kd.R_far (p := ⟨gb480, 2, none⟩) (Kd.R_far (p := ⟨gb480, 1, none⟩) (Kd.R_far (p := ⟨gb480, 0, none⟩) (Kd.R_mono HO_468002.out (fun k_ hk => (⟨hk, hk.2⟩ : _ ∧ k_ ≠ gb480))) (fun _ hk => hk.2) (.int .i64 ((rd_T54 t461 x13_2).f0))) (fun _ hk => hk.2) (.int .i64 ((rd_T54 t461 x13_2).f1))) (fun _ hk => hk.2) (.int .i64 ((rd_T54 t461 x13_2).f2))) (fun _ hk => hk.2) (.string ((rd_T54 t461 x13_2).f3))) (fun _ h_ => h_.1))) : P := h
theorem u13_22 {P : Prop} (h : P := by (with_reducible repeat (first | apply Kd.R_alloc | apply Kd.R_drewN | apply Kd.R_drew)); exact (Kd.R_mono (Kd.R_far (p := ⟨gb480, 3, none⟩) (Kd.R_far (p := ⟨gb480, 2, none⟩) (Kd.R_far (p := ⟨gb480, 1, none⟩) (Kd.R_far (p := ⟨gb480, 0, none⟩) (Kd.R_types HO_4.out BK480.out (by decide)) (fun _ hk => hk.2) (.int .i64 ((rd_T54 t461 x13_2).f0))) (fun _ hk => hk.2) (.int .i64 ((rd_T54 t461 x13_2).f1))) (fun _ hk => hk.2) (.int .i64 ((rd_T54 t461 x13_2).f2))) (fun _ hk => hk.2) (.string ((rd_T54 t461 x13_2).f3))) (fun _ h_ => h_.1))) : P := h
theorem u13_23 {P : Prop} (h : P := by (with_reducible repeat (first | apply Kd.R_alloc | apply Kd.R_drewN | apply Kd.R_drew)); exact (Kd.R_mono (Kd.R_far (p := ⟨gb489, 2, none⟩) (Kd.R_far (p := ⟨gb489, 1, none⟩) (Kd.R_far (p := ⟨gb489, 0, none⟩) (Kd.R_types HO_468002.out BK489.out (by decide)) (fun _ hk => hk.2) (.int .i64 t483)) (fun _ hk => hk.2) (.int .i64 t484)) (fun _ hk => hk.2) (.slice Ao82 t485.length co82)) (fun _ h_ => h_.1))) : P := h
theorem u13_24 {P : Prop} (h : P := by (with_reducible repeat (first | apply Kd.R_alloc | apply Kd.R_drewN | apply Kd.R_drew)); exact (Kd.R_mono (Kd.R_far (p := ⟨gb458, 2, none⟩) (Kd.R_far (p := ⟨gb458, 1, none⟩) (Kd.R_far (p := ⟨gb458, 0, none⟩) (Kd.R_types HO457.out BK458.out (by decide)) (fun _ hk => hk.2) (.int .i64 t450)) (fun _ hk => hk.2) (.int .i64 t451)) (fun _ hk => hk.2) (.slice Ao12 t452.length co12)) (fun _ h_ => h_.1))) : P := h
theorem u13_25 {P : Prop} (h : P := by (with_reducible repeat (first | apply Kd.R_alloc | apply Kd.R_drewN | apply Kd.R_drew)); exact (Kd.R_mono (Kd.R_far (p := ⟨gb467, 2, none⟩) (Kd.R_far (p := ⟨gb467, 1, none⟩) (Kd.R_far (p := ⟨gb467, 0, none⟩) (Kd.R_types HO463.out BK467.out (by decide)) (fun _ hk => hk.2) (.int .i64 t459)) (fun _ hk => hk.2) (.int .i64 t460)) (fun _ hk => hk.2) (.slice Ao18 t461.length co18)) (fun _ h_ => h_.1))) : P := h
theorem u13_26 {P : Prop} (h : P := by (with_reducible repeat (first | apply Kd.R_alloc | apply Kd.R_drewN | apply Kd.R_drew)); exact (Kd.R_mono (Kd.R_far (p := ⟨gb489, 2, none⟩) (Kd.R_far (p := ⟨gb489, 1, none⟩) (Kd.R_far (p := ⟨gb489, 0, none⟩) (Kd.R_types HO487.out BK489.out (by decide)) (fun _ hk => hk.2) (.int .i64 t483)) (fun _ hk => hk.2) (.int .i64 t484)) (fun _ hk => hk.2) (.slice Ao82 t485.length co82)) (fun _ h_ => h_.1))) : P := h
theorem u13_27 {P : Prop} (h : P := by (with_reducible repeat (first | apply Kd.R_alloc | apply Kd.R_drewN | apply Kd.R_drew)); exact (Kd.R_mono (Kd.R_far (p := ⟨gb476, 2, none⟩) (Kd.R_far (p := ⟨gb476, 1, none⟩) (Kd.R_far (p := ⟨gb476, 0, none⟩) (Kd.R_types HO474.out BK476.out (by decide)) (fun _ hk => hk.2) (.int .i64 t470)) (fun _ hk => hk.2) (.int .i64 t471)) (fun _ hk => hk.2) (.slice Ao36 t472.length co36)) (fun _ h_ => h_.1))) : P := h
theorem u13_28 {P : Prop} (h : P := by (with_reducible repeat (first | apply Kd.R_alloc | apply Kd.R_drewN | apply Kd.R_drew)); exact (Kd.R_mono (Kd.R_far (p := ⟨gb489, 2, none⟩) (Kd.R_far (p := ⟨gb489, 1, none⟩) (Kd.R_far (p := ⟨gb489, 0, none⟩) (Kd.R_types HO_4.out BK489.out (by decide)) (fun _ hk => hk.2) (.int .i64 t483)) (fun _ hk => hk.2) (.int .i64 t484)) (fun _ hk => hk.2) (.slice Ao82 t485.length co82)) (fun _ h_ => h_.1))) : P := h
theorem u13_29 {P : Prop} (h : P := by refine (Kd.R_reads' (e := 54) (base := w.heap.size) (ok := fun k_ => ((some k_ ≠ (.slice Ao12 t452.length co12 : Value).ownBlock ∧ some k_ ≠ (.slice (some ad469) t461.length co18 : Value).ownBlock) ∧ k_ ≠ gb480)) (n := t472.length) (c := co36) ?_).2.2; exact u13_4) : P := h
theorem u13_30 {P : Prop} (h : P := by (with_reducible repeat (first | refine blk_drewN ?_ _ | refine blk_drew ?_ | refine blk_alloc ?_ _)); exact BK489.out) : P := h
theorem u13_31 {P : Prop} (h : P := by first | (with_reducible assumption) | assumption) : P := h
theorem u13_32 {P : Prop} (h : P := by (with_reducible repeat (first | apply Kd.R_alloc | apply Kd.R_drewN | apply Kd.R_drew)); exact HO457.out) : P := h
theorem u13_33 {P : Prop} (h : P := by repeat (first | exact (Kd.R_reads' HO_468002.out).2.2 | (with_reducible refine Kd.C_alloc ?_ _) | (with_reducible refine Kd.C_drewN ?_ _) | (with_reducible refine Kd.C_drew ?_))) : P := h
theorem u13_34 {P : Prop} (h : P := by first | rfl | (simp; done) | (simp [*]; done)) : P := h
theorem u13_35 {P : Prop} (h : P := by (with_reducible repeat (first | apply Kd.R_alloc | apply Kd.R_drewN | apply Kd.R_drew)); exact Kd.R_mono HO_459002.out (fun _ hk => ⟨hk.1.1, hk.1.2⟩)) : P := h
theorem u13_36 {P : Prop} (h : P := by (with_reducible repeat (first | apply Kd.R_alloc | apply Kd.R_drewN | apply Kd.R_drew)); exact Kd.R_mono HO_468002.out (fun _ hk => ⟨hk.1.1, hk.1.2⟩)) : P := h
theorem u13_37 {P : Prop} (h : P := by (with_reducible repeat (first | apply Kd.R_alloc | apply Kd.R_drewN | apply Kd.R_drew)); exact Kd.R_mono HO_477002.out (fun _ hk => ⟨hk.1.1, hk.1.2⟩)) : P := h
theorem u13_38 {P : Prop} (h : P := by (with_reducible repeat (first | apply Kd.R_alloc | apply Kd.R_drewN | apply Kd.R_drew)); exact HO_477002.out) : P := h
theorem u13_39 {P : Prop} (h : P := by (with_reducible repeat (first | apply Kd.R_alloc | apply Kd.R_drewN | apply Kd.R_drew)); exact HO454.out) : P := h
theorem u13_40 {P : Prop} (h : P := by (with_reducible repeat (first | apply Kd.R_alloc | apply Kd.R_drewN | apply Kd.R_drew)); exact HO487.out) : P := h
theorem u13_41 {P : Prop} (h : P := by have := HK1.out; have := HK2.out; omega) : P := h
/-! ### laws_FnForgotten: function 5 -/
mutual
def laws_FnForgotten.l0 : Nat → List (S50) → Int → Int → Int → List (S54) → Int → Int → List (S54) → Option (Bool)
 | 0, _, _, _, _, _, _, _, _ => none
 | k + 1, x4, x7, x459000, x459001, x459002, x468000, x468001, x468002 => if x7 < (x468002.length : Int) then (if 0 ≤ x7 then ((impl_Forget.f k x468000 x468001 x468002 ((rd_T54 x468002 x7).f0)).bind fun bt470 => ((impl_Look.f k bt470.1 bt470.2.1 bt470.2.2.1 ((rd_T54 x468002 x7).f0) 1).bind fun bt477 => (if bt470.2.2.2 = true then (if bt477.1 = 0 then (if (bt470.2.2.1.length : Int) = (wrap64 ((x468002.length : Int) - 1)) then (laws_FnForgotten.l1 k x4 x7 0 x459000 x459001 x459002 x468000 x468001 x468002 bt470.1 bt470.2.1 bt470.2.2.1) else (some false)) else (some false)) else (some false)))) else (none)) else ((impl_Forget.f k x468000 x468001 x468002 998).bind fun bt483 => ((spec_OnceEach.f k x459000 x459001 x459002 x4).bind fun bt490 => (if bt483.2.2.2 = true then (some false) else (some ((bt490.2.2.1.length : Int) == (x468002.length : Int))))))
def laws_FnForgotten.l1 : Nat → List (S50) → Int → Int → Int → Int → List (S54) → Int → Int → List (S54) → Int → Int → List (S54) → Option (Bool)
 | 0, _, _, _, _, _, _, _, _, _, _, _, _ => none
 | k + 1, x4, x7, x13, x459000, x459001, x459002, x468000, x468001, x468002, x477000, x477001, x477002 => if x13 < (x468002.length : Int) then (if 0 ≤ x13 then ((impl_Look.f k x477000 x477001 x477002 ((rd_T54 x468002 x13).f0) ((rd_T54 x468002 x13).f1)).bind fun bt481 => (if x13 = x7 then (laws_FnForgotten.l1 k x4 x7 (wrap64 (x13 + 1)) x459000 x459001 x459002 x468000 x468001 x468002 x477000 x477001 x477002) else (if bt481.1 = 1 then (if bt481.2.toList = ((rd_T54 x468002 x13).f3).toList then (laws_FnForgotten.l1 k x4 x7 (wrap64 (x13 + 1)) x459000 x459001 x459002 x468000 x468001 x468002 x477000 x477001 x477002) else (some false)) else (some false)))) else (none)) else (laws_FnForgotten.l0 k x4 (wrap64 (x7 + 1)) x459000 x459001 x459002 x468000 x468001 x468002)
end
def laws_FnForgotten.f (k : Nat) (l0 : List Int) : Option (Bool) := (laws_big.f l0).bind fun t449 => (if t449 = true then (some true) else ((spec_DrawRightSessions.f k l0).bind fun bt450 => ((impl_OnceEach.f k bt450.1 bt450.2.1 bt450.2.2.1 bt450.2.2.2).bind fun bt459 => ((impl_SessionsOk.f k bt459.1 bt459.2.1 bt459.2.2.1).bind fun t468 => (if t468 = true then (if (bt459.2.2.1.length : Int) > bt450.1 then (some false) else (laws_FnForgotten.l0 k bt450.2.2.2 0 bt450.1 bt450.2.1 bt450.2.2.1 bt459.1 bt459.2.1 bt459.2.2.1)) else (some false))))))
theorem laws_FnForgotten.mono_l : ∀ k, (∀ y0 y1 y2 y3 y4 y5 y6 y7, LeO (laws_FnForgotten.l0 k y0 y1 y2 y3 y4 y5 y6 y7) (laws_FnForgotten.l0 (k + 1) y0 y1 y2 y3 y4 y5 y6 y7)) ∧ (∀ y0 y1 y2 y3 y4 y5 y6 y7 y8 y9 y10 y11, LeO (laws_FnForgotten.l1 k y0 y1 y2 y3 y4 y5 y6 y7 y8 y9 y10 y11) (laws_FnForgotten.l1 (k + 1) y0 y1 y2 y3 y4 y5 y6 y7 y8 y9 y10 y11))
 | 0 => ⟨fun _ _ _ _ _ _ _ _ r h => by simp [laws_FnForgotten.l0] at h, fun _ _ _ _ _ _ _ _ _ _ _ _ r h => by simp [laws_FnForgotten.l1] at h⟩
 | k + 1 => by
   obtain ⟨ih0, ih1⟩ := laws_FnForgotten.mono_l k
   refine ⟨?_, ?_⟩ <;> intros <;> (first | unfold laws_FnForgotten.l0 | unfold laws_FnForgotten.l1) <;> repeat' first
   | (with_reducible exact ih0 _ _ _ _ _ _ _ _)
   | (with_reducible exact ih1 _ _ _ _ _ _ _ _ _ _ _ _)
   | (with_reducible exact impl_Forget.mono _ _ _ _ _)
   | (with_reducible exact impl_Look.mono _ _ _ _ _ _)
   | (with_reducible exact impl_OnceEach.mono _ _ _ _ _)
   | (with_reducible exact impl_SessionsOk.mono _ _ _ _)
   | (with_reducible exact spec_DrawRightSessions.mono _ _)
   | (with_reducible exact spec_OnceEach.mono _ _ _ _ _)
   | (with_reducible exact LeO.refl _)
   | (with_reducible exact LeO.none _)
   | (with_reducible refine LeO.ite ?_ ?_)
   | (with_reducible refine LeO.bind ?_ (fun _ => ?_))
   | exact ih0 _ _ _ _ _ _ _ _
   | exact ih1 _ _ _ _ _ _ _ _ _ _ _ _
   | exact impl_Forget.mono _ _ _ _ _
   | exact impl_Look.mono _ _ _ _ _ _
   | exact impl_OnceEach.mono _ _ _ _ _
   | exact impl_SessionsOk.mono _ _ _ _
   | exact spec_DrawRightSessions.mono _ _
   | exact spec_OnceEach.mono _ _ _ _ _
   | exact LeO.none _
   | refine LeO.ite ?_ ?_
   | refine LeO.bind ?_ (fun _ => ?_)
theorem laws_FnForgotten.mono : ∀ a0 k, LeO (laws_FnForgotten.f k a0) (laws_FnForgotten.f (k + 1) a0) := by
 intro a0 k
 obtain ⟨ih0, ih1⟩ := laws_FnForgotten.mono_l k
 unfold laws_FnForgotten.f
 repeat' first
     | (with_reducible exact ih0 _ _ _ _ _ _ _ _)
     | (with_reducible exact ih1 _ _ _ _ _ _ _ _ _ _ _ _)
     | (with_reducible exact impl_Forget.mono _ _ _ _ _)
     | (with_reducible exact impl_Look.mono _ _ _ _ _ _)
     | (with_reducible exact impl_OnceEach.mono _ _ _ _ _)
     | (with_reducible exact impl_SessionsOk.mono _ _ _ _)
     | (with_reducible exact spec_DrawRightSessions.mono _ _)
     | (with_reducible exact spec_OnceEach.mono _ _ _ _ _)
     | (with_reducible exact LeO.refl _)
     | (with_reducible exact LeO.none _)
     | (with_reducible refine LeO.ite ?_ ?_)
     | (with_reducible refine LeO.bind ?_ (fun _ => ?_))
     | exact ih0 _ _ _ _ _ _ _ _
     | exact ih1 _ _ _ _ _ _ _ _ _ _ _ _
     | exact impl_Forget.mono _ _ _ _ _
     | exact impl_Look.mono _ _ _ _ _ _
     | exact impl_OnceEach.mono _ _ _ _ _
     | exact impl_SessionsOk.mono _ _ _ _
     | exact spec_DrawRightSessions.mono _ _
     | exact spec_OnceEach.mono _ _ _ _ _
     | exact LeO.none _
     | refine LeO.ite ?_ ?_
     | refine LeO.bind ?_ (fun _ => ?_)
set_option maxHeartbeats 8000000 in
set_option maxRecDepth 100000 in
theorem laws_FnForgotten.calls (k : Nat) (A0 : Option Addr) (c0 : Nat) (l0 : List Int) (r : Bool) (w : World) (hr0 : Kd.C (Kd.int .u8) w A0 l0.length l0) (hc0 : l0.length ≤ c0) (h : laws_FnForgotten.f k l0 = some r) (hr_ : Aside0 (r = true)) :
   Calls Tryd.prog 5 #[.slice A0 l0.length c0] w fun e w' => e = .returned (.bool r) ∧ Below w.heap.size w w' := by
 have hu30 := Tryd.underlying30
 have hu54 := Tryd.underlying54
 have HR0 := am hr0
 have HC0 := am hc0
 clear hr0 hc0
 have HB := am (Below.refl w.heap.size w)
 have H : ((laws_big.f l0).bind fun t449 => (if t449 = true then (some true) else ((spec_DrawRightSessions.f k l0).bind fun bt450 => ((impl_OnceEach.f k bt450.1 bt450.2.1 bt450.2.2.1 bt450.2.2.2).bind fun bt459 => ((impl_SessionsOk.f k bt459.1 bt459.2.1 bt459.2.2.1).bind fun t468 => (if t468 = true then (if (bt459.2.2.1.length : Int) > bt450.1 then (some false) else (laws_FnForgotten.l0 k bt450.2.2.2 0 bt450.1 bt450.2.1 bt450.2.2.1 bt459.1 bt459.2.1 bt459.2.2.1)) else (some false))))))) = some r := h
 clear h
 replace H := Option.bind_eq_some_iff.mp H
 obtain ⟨t449, A20, H⟩ := H
 have A2 := am A20
 clear A20
 have H9 := am H
 clear H
 go_enter Tryd.func5, Tryd.ntmps5
 go_upto_if 22 with (first | ((with_reducible refine gate_callee (f := 20) rfl ?_); refine goesL_ (some 22) rfl rfl Tryd.func20 kr rfl #[.slice A0 l0.length c0] rfl u13_5 ?_; (with_reducible refine (laws_big.calls _ _ l0 t449 _ ?side1 ?side2 A2.out).mono ?_); (case side1 => exact (by repeat (first | exact HR0.out | (with_reducible refine Kd.C_alloc ?_ _) | (with_reducible refine Kd.C_drewN ?_ _) | (with_reducible refine Kd.C_drew ?_)))); (case side2 => exact HC0.out); rintro e w' ⟨rfl, ⟨nd, rfl⟩⟩; refine ⟨_, rfl, ?_⟩))
 have H := H9.out
 clear H9
 by_cases c3 : t449 = true
 · subst c3
   rw [if_pos rfl] at H
   obtain rfl := Option.some.inj H
   go_wp2
   go_ret
   exact ⟨by first | rfl | (simp [errW_none, errW_some] <;> rfl) | (simp [*, errW_none, errW_some] <;> rfl), u13_15⟩
 replace c3 := Bool.eq_false_iff.mpr c3
 subst c3
 rw [if_neg (show ¬ (false = true) by decide)] at H
 replace H := Option.bind_eq_some_iff.mp H
 obtain ⟨⟨t450, t451, t452, t455⟩, A40, H⟩ := H
 (try dsimp only at H)
 have A4 := am A40
 clear A40
 replace H := Option.bind_eq_some_iff.mp H
 obtain ⟨⟨t459, t460, t461, t464⟩, A50, H⟩ := H
 (try dsimp only at H)
 have A5 := am A50
 clear A50
 replace H := Option.bind_eq_some_iff.mp H
 obtain ⟨t468, A60, H⟩ := H
 have A6 := am A60
 clear A60
 by_cases c7 : t468 = true
 rotate_left
 · replace c7 := Bool.eq_false_iff.mpr c7
   subst c7
   rw [if_neg (show ¬ (false = true) by decide)] at H
   exact absurd ((Option.some.inj H).trans hr_.out) (by decide)
 subst c7
 rw [if_pos rfl] at H
 by_cases c8 : (t461.length : Int) > t450
 · rw [if_pos c8] at H
   have c8b0 : decide (t450 < (t461.length : Int)) = true := decide_eq_true c8
   clear c8
   (first | rw [c8b0] | (simp only [i64_w, i32_w]; rw [c8b0]) | skip)
   exact absurd ((Option.some.inj H).trans hr_.out) (by decide)
 rw [if_neg c8] at H
 have c8b0 : decide (t450 < (t461.length : Int)) = false := decide_eq_false c8
 clear c8
 (first | rw [c8b0] | (simp only [i64_w, i32_w]; rw [c8b0]) | skip)
 have H' := am H
 clear H
 go_wp2_with (first | ((with_reducible refine gate_callee (f := 21) rfl ?_); refine goesL_ (some 25) rfl rfl Tryd.func21 kr rfl #[.slice A0 l0.length c0] rfl u13_5 ?_; (with_reducible refine (spec_DrawRightSessions.calls k _ _ l0 t450 t451 t452 t455 _ ?side1 ?side2 A4.out).mono ?_); (case side1 => exact (by repeat (first | exact (Kd.C_below HR0.out HB.out) | (with_reducible refine Kd.C_alloc ?_ _) | (with_reducible refine Kd.C_drewN ?_ _) | (with_reducible refine Kd.C_drew ?_)))); (case side2 => exact HC0.out); rintro e w9 ⟨v453, v456, rfl, ho0, ho1, hb⟩; refine ⟨_, rfl, ?_⟩; have HO454 := am (Kd.R_lower ho0 (below_size u13_15)); have HO457 := am (Kd.R_lower ho1 (below_size u13_15)); replace HB := am (below_step u13_15 hb); (try clear hb); (try clear hb2); (try clear hk); (try clear hi); (try clear ho0); (try clear ho1)) | ((with_reducible refine gate_dst (N := 3) rfl ?_); (try (refine gate_guard (by rfl) ?_; dsimp only)); refine box_event ?hg (N := 3) ?hd (cs := #[.int .i64 0, .int .i64 0, .slice none 0 0]) (t := 30) ?hr ?_; (case hd => rfl); (case hg => rfl); (case hr => first | (go_simp; done) | (go_simp; rfl)); intro gb458 hg w10 hbox hb; replace HO454 := am (Kd.R_below u13_39 hb); replace HO457 := am (Kd.R_below u13_32 hb); have BK458 := am (hbox); have GW458 := am ((by rw [hg]; exact (below_size u13_15) : w.heap.size ≤ gb458)); have GE458 := am ((by rw [hg]; exact (below_size u13_15) : w.heap.size ≤ gb458)); replace HB := am (below_step u13_15 hb); clear hb hbox hg; obtain ⟨hcz11_0, hcz11_1, hcz11_2, hfz11_0, hfz11_1, hfz11_2⟩ := bc3f w10 BK458.out; obtain ⟨Ao12, co12, eo12⟩ := Kd.R_slice HO454.out; subst eo12; obtain ⟨Ao13, co13, eo13⟩ := Kd.R_slice HO457.out; subst eo13) | ((with_reducible refine gate_callee (f := 11) rfl ?_); refine goesL_ (some 31) rfl rfl Tryd.func11 kr rfl #[.agg #[.int .i64 t450, .int .i64 t451, .slice Ao12 t452.length co12], .slice Ao13 t455.length co13] rfl u13_5 ?_; (with_reducible refine (impl_OnceEach.calls k t450 t451 _ _ t452 _ _ t455 t459 t460 t461 t464 _ ?side1 ?side2 ?side3 ?side4 A5.out).mono ?_); (case side1 => exact (by refine (Kd.R_reads' (e := 54) (base := w.heap.size) (ok := fun k_ => True) (n := t452.length) (c := co12) ?_).2.2; exact u13_14)); (case side2 => exact (Kd.R_reads' HO454.out).2.1); (case side3 => exact (by refine (Kd.R_reads' (e := 50) (base := w.heap.size) (ok := fun k_ => True) (n := t455.length) (c := co13) ?_).2.2; exact u13_24)); (case side4 => exact (Kd.R_reads' HO457.out).2.1); rintro e w14 ⟨v462, v465, rfl, ho0, ho1, hb⟩; refine ⟨_, rfl, ?_⟩; replace HO457 := am (Kd.R_below u13_24 hb); have HO463 := am (Kd.R_lower (Kd.R_new' ho0 (Kd.R_lt u13_14)) (below_size u13_12)); replace HO454 := am (Kd.R_elder' u13_14 (Kd.R_base ho0) hb); have HO466 := am (Kd.R_lower ho1 (below_size u13_12)); replace BK458 := am (blk_below (g := gb458) (o := .cells #[.int .i64 t450, .int .i64 t451, .slice Ao12 t452.length co12] 30 (0, 0)) (by (with_reducible repeat (first | refine blk_drewN ?_ _ | refine blk_drew ?_ | refine blk_alloc ?_ _)); refine blk_put (cs := #[.int .i64 t450, .int .i64 t451, .slice none 0 0]) ?_ 2 _ rfl; (with_reducible repeat (first | refine blk_drewN ?_ _ | refine blk_drew ?_ | refine blk_alloc ?_ _)); refine blk_put (cs := #[.int .i64 t450, .int .i64 0, .slice none 0 0]) ?_ 1 _ rfl; (with_reducible repeat (first | refine blk_drewN ?_ _ | refine blk_drew ?_ | refine blk_alloc ?_ _)); refine blk_put (cs := #[.int .i64 0, .int .i64 0, .slice none 0 0]) ?_ 0 _ rfl; (with_reducible repeat (first | refine blk_drewN ?_ _ | refine blk_drew ?_ | refine blk_alloc ?_ _)); exact BK458.out) hb); replace HB := am (below_step u13_12 hb); (try clear hb); (try clear hb2); (try clear hk); (try clear hi); (try clear ho0); (try clear ho1)) | ((with_reducible refine gate_dst (N := 5) rfl ?_); (try (refine gate_guard (by rfl) ?_; dsimp only)); refine box_event ?hg (N := 5) ?hd (cs := #[.int .i64 0, .int .i64 0, .slice none 0 0]) (t := 30) ?hr ?_; (case hd => rfl); (case hg => rfl); (case hr => first | (go_simp; done) | (go_simp; rfl)); intro gb467 hg w15 hbox hb; replace HO454 := am (Kd.R_below u13_39 hb); replace HO457 := am (Kd.R_below u13_32 hb); replace HO463 := am (Kd.R_below (by (with_reducible repeat (first | apply Kd.R_alloc | apply Kd.R_drewN | apply Kd.R_drew)); exact HO463.out) hb); replace HO466 := am (Kd.R_below (by (with_reducible repeat (first | apply Kd.R_alloc | apply Kd.R_drewN | apply Kd.R_drew)); exact HO466.out) hb); have BK467 := am (hbox); have GW467 := am ((by rw [hg]; exact (below_size u13_12) : w.heap.size ≤ gb467)); have GE467 := am ((by rw [hg]; exact (below_size u13_12) : w.heap.size ≤ gb467)); replace HB := am (below_step u13_12 hb); have NB458_467 := am ((by rw [hg]; exact Nat.ne_of_lt (blk_lt (g := gb458) (o := .cells #[.int .i64 t450, .int .i64 t451, .slice Ao12 t452.length co12] 30 (0, 0)) u13_0) : gb458 ≠ gb467)); have NB467_458 := am ((by rw [hg]; exact Nat.ne_of_gt (blk_lt (g := gb458) (o := .cells #[.int .i64 t450, .int .i64 t451, .slice Ao12 t452.length co12] 30 (0, 0)) u13_0) : gb467 ≠ gb458)); replace BK458 := am (blk_below (g := gb458) (o := .cells #[.int .i64 t450, .int .i64 t451, .slice Ao12 t452.length co12] 30 (0, 0)) u13_0 hb); clear hb hbox hg; have hnb16 := NB467_458.out; have hnc16 := NB458_467.out; obtain ⟨hcz17_0, hcz17_1, hcz17_2, hfz17_0, hfz17_1, hfz17_2⟩ := bc3f w15 BK467.out; obtain ⟨Ao18, co18, eo18⟩ := Kd.R_slice HO463.out; subst eo18) | ((with_reducible refine gate_callee (f := 22) rfl ?_); refine goesL_ (some 35) rfl rfl Tryd.func22 kr rfl #[.agg #[.int .i64 t459, .int .i64 t460, .slice Ao18 t461.length co18]] rfl u13_5 ?_; (with_reducible refine (impl_SessionsOk.calls k t459 t460 _ _ t461 true _ ?side1 ?side2 A6.out).mono ?_); (case side1 => exact (by refine (Kd.R_reads' (e := 54) (base := w.heap.size) (ok := fun k_ => (True ∧ some k_ ≠ (.slice Ao12 t452.length co12 : Value).ownBlock)) (n := t461.length) (c := co18) ?_).2.2; exact u13_25)); (case side2 => exact (Kd.R_reads' HO463.out).2.1); rintro e w19 ⟨rfl, hb⟩; refine ⟨_, rfl, ?_⟩; replace HO454 := am (Kd.R_below (by (with_reducible repeat (first | apply Kd.R_alloc | apply Kd.R_drewN | apply Kd.R_drew)); exact (Kd.R_mono (Kd.R_far (p := ⟨gb467, 2, none⟩) (Kd.R_far (p := ⟨gb467, 1, none⟩) (Kd.R_far (p := ⟨gb467, 0, none⟩) (Kd.R_types HO454.out BK467.out (by decide)) (fun _ hk => hk.2) (.int .i64 t459)) (fun _ hk => hk.2) (.int .i64 t460)) (fun _ hk => hk.2) (.slice Ao18 t461.length co18)) (fun _ h_ => h_.1))) hb); replace HO457 := am (Kd.R_below (by (with_reducible repeat (first | apply Kd.R_alloc | apply Kd.R_drewN | apply Kd.R_drew)); exact (Kd.R_mono (Kd.R_far (p := ⟨gb467, 2, none⟩) (Kd.R_far (p := ⟨gb467, 1, none⟩) (Kd.R_far (p := ⟨gb467, 0, none⟩) (Kd.R_types HO457.out BK467.out (by decide)) (fun _ hk => hk.2) (.int .i64 t459)) (fun _ hk => hk.2) (.int .i64 t460)) (fun _ hk => hk.2) (.slice Ao18 t461.length co18)) (fun _ h_ => h_.1))) hb); replace HO463 := am (Kd.R_below u13_25 hb); replace HO466 := am (Kd.R_below (by (with_reducible repeat (first | apply Kd.R_alloc | apply Kd.R_drewN | apply Kd.R_drew)); exact (Kd.R_mono (Kd.R_far (p := ⟨gb467, 2, none⟩) (Kd.R_far (p := ⟨gb467, 1, none⟩) (Kd.R_far (p := ⟨gb467, 0, none⟩) (Kd.R_types HO466.out BK467.out (by decide)) (fun _ hk => hk.2) (.int .i64 t459)) (fun _ hk => hk.2) (.int .i64 t460)) (fun _ hk => hk.2) (.slice Ao18 t461.length co18)) (fun _ h_ => h_.1))) hb); replace BK458 := am (blk_below (g := gb458) (o := .cells #[.int .i64 t450, .int .i64 t451, .slice Ao12 t452.length co12] 30 (0, 0)) (by (with_reducible repeat (first | refine blk_drewN ?_ _ | refine blk_drew ?_ | refine blk_alloc ?_ _)); refine blk_far ?_ NB458_467.out _; (with_reducible repeat (first | refine blk_drewN ?_ _ | refine blk_drew ?_ | refine blk_alloc ?_ _)); refine blk_far ?_ NB458_467.out _; (with_reducible repeat (first | refine blk_drewN ?_ _ | refine blk_drew ?_ | refine blk_alloc ?_ _)); refine blk_far ?_ NB458_467.out _; (with_reducible repeat (first | refine blk_drewN ?_ _ | refine blk_drew ?_ | refine blk_alloc ?_ _)); exact BK458.out) hb); replace BK467 := am (blk_below (g := gb467) (o := .cells #[.int .i64 t459, .int .i64 t460, .slice Ao18 t461.length co18] 30 (0, 0)) (by (with_reducible repeat (first | refine blk_drewN ?_ _ | refine blk_drew ?_ | refine blk_alloc ?_ _)); refine blk_put (cs := #[.int .i64 t459, .int .i64 t460, .slice none 0 0]) ?_ 2 _ rfl; (with_reducible repeat (first | refine blk_drewN ?_ _ | refine blk_drew ?_ | refine blk_alloc ?_ _)); refine blk_put (cs := #[.int .i64 t459, .int .i64 0, .slice none 0 0]) ?_ 1 _ rfl; (with_reducible repeat (first | refine blk_drewN ?_ _ | refine blk_drew ?_ | refine blk_alloc ?_ _)); refine blk_put (cs := #[.int .i64 0, .int .i64 0, .slice none 0 0]) ?_ 0 _ rfl; (with_reducible repeat (first | refine blk_drewN ?_ _ | refine blk_drew ?_ | refine blk_alloc ?_ _)); exact BK467.out) hb); replace HB := am (below_step u13_2 hb); (try clear hb); (try clear hb2); (try clear hk); (try clear hi); obtain ⟨hcz20_0, hcz20_1, hcz20_2, hfz20_0, hfz20_1, hfz20_2⟩ := bc3f w19 BK467.out; obtain ⟨hcz21_0, hcz21_1, hcz21_2, hfz21_0, hfz21_1, hfz21_2⟩ := bc3f w19 BK458.out))
 go_loopg [7] k (fun kq v7 w' => ∃ (x7_1 : Int), v7 = .int .i64 x7_1 ∧ Aside0 (laws_FnForgotten.l0 kq t455 x7_1 t450 t451 t452 t459 t460 t461 = some r) ∧ Aside0 (kq ≤ k) ∧ Aside0 (Kd.R k50 50 w' w.heap.size (fun _ => True) (.slice Ao13 t455.length co13) t455) ∧ Aside0 (Kd.R k54 54 w' w.heap.size (fun k_ => some k_ ≠ ((.slice Ao18 t461.length co18) : Value).ownBlock) (.slice Ao12 t452.length co12) t452) ∧ Aside0 (Kd.R k54 54 w' w.heap.size (fun k_ => some k_ ≠ ((.slice Ao12 t452.length co12) : Value).ownBlock) (.slice Ao18 t461.length co18) t461) ∧ Aside0 (w'.heap[gb458]? = some (.cells #[.int .i64 t450, .int .i64 t451, (.slice Ao12 t452.length co12)] 30 (0, 0))) ∧ Aside0 (w'.heap[gb467]? = some (.cells #[.int .i64 t459, .int .i64 t460, (.slice Ao18 t461.length co18)] 30 (0, 0))) ∧ Aside0 (Below w.heap.size w w'))
 case atStart => exact ⟨(0), u13_34, H', ⟨Nat.le_refl _⟩, ⟨u13_32⟩, ⟨(by (with_reducible repeat (first | apply Kd.R_alloc | apply Kd.R_drewN | apply Kd.R_drew)); exact Kd.R_mono HO454.out (fun _ hk => hk.2))⟩, ⟨(by (with_reducible repeat (first | apply Kd.R_alloc | apply Kd.R_drewN | apply Kd.R_drew)); exact Kd.R_mono HO463.out (fun _ hk => hk.2))⟩, ⟨u13_0⟩, ⟨u13_1⟩, ⟨u13_2⟩⟩
 clear H'
 try clear c1
 try clear c2
 try clear p2
 try clear c3
 try clear c5
 try clear c7
 try clear c8
 try clear c8b0
 try clear c11
 try clear c16
 try clear c20
 try clear c21
 try clear hcz11_0
 try clear hcz11_1
 try clear hcz11_2
 try clear hcz17_0
 try clear hcz17_1
 try clear hcz17_2
 try clear hcz20_0
 try clear hcz20_1
 try clear hcz20_2
 try clear hcz21_0
 try clear hcz21_1
 try clear hcz21_2
 try clear hfz11_0
 try clear hfz11_1
 try clear hfz11_2
 try clear hfz17_0
 try clear hfz17_1
 try clear hfz17_2
 try clear hfz20_0
 try clear hfz20_1
 try clear hfz20_2
 try clear hfz21_0
 try clear hfz21_1
 try clear hfz21_2
 obtain ⟨x7_1, rfl, HA, HK1, HO_4, HO_459002, HO_468002, BK458, BK467, HB⟩ := hrel
 cases gk with
 | zero => exact absurd HA.out (by simp [laws_FnForgotten.l0])
 | succ k1 =>
   have H := HA.out
   clear HA
   simp only [laws_FnForgotten.l0] at H
   by_cases c22 : x7_1 < (t461.length : Int)
   rotate_left
   · rw [if_neg c22] at H
     have c22b0 : decide (x7_1 < (t461.length : Int)) = false := decide_eq_false c22
     clear c22
     replace H := Option.bind_eq_some_iff.mp H
     obtain ⟨⟨t483, t484, t485, t488⟩, A720, H⟩ := H
     (try dsimp only at H)
     have A72 := am A720
     clear A720
     replace H := Option.bind_eq_some_iff.mp H
     obtain ⟨⟨t490, t491, t492, t495⟩, A730, H⟩ := H
     replace H : (if t488 = true then (some false) else (some ((t492.length : Int) == (t461.length : Int)))) = some r := H
     have A73 := am A730
     clear A730
     by_cases c74 : t488 = true
     · subst c74
       rw [if_pos rfl] at H
       exact absurd ((Option.some.inj H).trans hr_.out) (by decide)
     replace c74 := Bool.eq_false_iff.mpr c74
     subst c74
     rw [if_neg (show ¬ (false = true) by decide)] at H
     obtain rfl := Option.some.inj H
     have hnb75 := NB467_458.out
     have hnc75 := NB458_467.out
     obtain ⟨hcz76_0, hcz76_1, hcz76_2, hfz76_0, hfz76_1, hfz76_2⟩ := bc3f wr BK467.out
     go_wp2_with (first | ((with_reducible refine gate_callee (f := 24) rfl ?_); refine goesL_ (some 122) rfl rfl Tryd.func24 kr rfl #[.agg #[.int .i64 t459, .int .i64 t460, .slice Ao18 t461.length co18], .int .i64 998] rfl u13_5 ?_; (with_reducible refine (impl_Forget.calls k1 t459 t460 _ _ t461 998 t483 t484 t485 false _ ?side1 ?side2 A72.out).mono ?_); (case side1 => exact u13_33); (case side2 => exact (Kd.R_reads' HO_468002.out).2.1); rintro e w77 ⟨v486, rfl, ho0, hb⟩; refine ⟨_, rfl, ?_⟩; replace HO_4 := am (Kd.R_below u13_8 hb); have HO487 := am (Kd.R_lower (Kd.R_new' (Kd.R_new' ho0 (Kd.R_lt u13_9)) (Kd.R_lt u13_10)) (below_size u13_2)); replace HO_459002 := am (Kd.R_elder' u13_9 (Kd.R_base ho0) hb); replace HO_468002 := am (Kd.R_elder' u13_10 (Kd.R_base ho0) hb); replace BK458 := am (blk_below (g := gb458) (o := .cells #[.int .i64 t450, .int .i64 t451, .slice Ao12 t452.length co12] 30 (0, 0)) u13_0 hb); replace BK467 := am (blk_below (g := gb467) (o := .cells #[.int .i64 t459, .int .i64 t460, .slice Ao18 t461.length co18] 30 (0, 0)) u13_1 hb); replace HB := am (below_step u13_2 hb); (try clear hb); (try clear hb2); (try clear hk); (try clear hi); (try clear ho0)) | ((with_reducible refine gate_dst (N := 17) rfl ?_); (try (refine gate_guard (by rfl) ?_; dsimp only)); refine box_event ?hg (N := 17) ?hd (cs := #[.int .i64 0, .int .i64 0, .slice none 0 0]) (t := 30) ?hr ?_; (case hd => rfl); (case hg => rfl); (case hr => first | (go_simp; done) | (go_simp; rfl)); intro gb489 hg w78 hbox hb; replace HO_4 := am (Kd.R_below u13_8 hb); replace HO_459002 := am (Kd.R_below u13_9 hb); replace HO_468002 := am (Kd.R_below u13_10 hb); replace HO487 := am (Kd.R_below u13_40 hb); have BK489 := am (hbox); have GW489 := am ((by rw [hg]; exact (below_size u13_2) : w.heap.size ≤ gb489)); have GE489 := am ((by rw [hg]; exact (below_size u13_2) : w.heap.size ≤ gb489)); replace HB := am (below_step u13_2 hb); have NB458_489 := am ((by rw [hg]; exact Nat.ne_of_lt (blk_lt (g := gb458) (o := .cells #[.int .i64 t450, .int .i64 t451, .slice Ao12 t452.length co12] 30 (0, 0)) u13_0) : gb458 ≠ gb489)); have NB489_458 := am ((by rw [hg]; exact Nat.ne_of_gt (blk_lt (g := gb458) (o := .cells #[.int .i64 t450, .int .i64 t451, .slice Ao12 t452.length co12] 30 (0, 0)) u13_0) : gb489 ≠ gb458)); replace BK458 := am (blk_below (g := gb458) (o := .cells #[.int .i64 t450, .int .i64 t451, .slice Ao12 t452.length co12] 30 (0, 0)) u13_0 hb); have NB467_489 := am ((by rw [hg]; exact Nat.ne_of_lt (blk_lt (g := gb467) (o := .cells #[.int .i64 t459, .int .i64 t460, .slice Ao18 t461.length co18] 30 (0, 0)) u13_1) : gb467 ≠ gb489)); have NB489_467 := am ((by rw [hg]; exact Nat.ne_of_gt (blk_lt (g := gb467) (o := .cells #[.int .i64 t459, .int .i64 t460, .slice Ao18 t461.length co18] 30 (0, 0)) u13_1) : gb489 ≠ gb467)); replace BK467 := am (blk_below (g := gb467) (o := .cells #[.int .i64 t459, .int .i64 t460, .slice Ao18 t461.length co18] 30 (0, 0)) u13_1 hb); clear hb hbox hg; have hnb79 := NB489_458.out; have hnc79 := NB458_489.out; have hnb80 := NB489_467.out; have hnc80 := NB467_489.out; obtain ⟨hcz81_0, hcz81_1, hcz81_2, hfz81_0, hfz81_1, hfz81_2⟩ := bc3f w78 BK489.out; obtain ⟨Ao82, co82, eo82⟩ := Kd.R_slice HO487.out; subst eo82; obtain ⟨hcz83_0, hcz83_1, hcz83_2, hfz83_0, hfz83_1, hfz83_2⟩ := bc3f w78 BK458.out) | ((with_reducible refine gate_callee (f := 8) rfl ?_); refine goesL_ (some 128) rfl rfl Tryd.func8 kr rfl #[.agg #[.int .i64 t450, .int .i64 t451, .slice Ao12 t452.length co12], .slice Ao13 t455.length co13] rfl u13_5 ?_; (with_reducible refine (spec_OnceEach.calls k1 t450 t451 _ _ t452 _ _ t455 t490 t491 t492 t495 _ ?side1 ?side2 ?side3 ?side4 A73.out).mono ?_); (case side1 => exact (by refine (Kd.R_reads' (e := 54) (base := w.heap.size) (ok := fun k_ => (some k_ ≠ (.slice Ao18 t461.length co18 : Value).ownBlock ∧ some k_ ≠ (.slice Ao82 t485.length co82 : Value).ownBlock)) (n := t452.length) (c := co12) ?_).2.2; exact u13_13)); (case side2 => exact (Kd.R_reads' HO_459002.out).2.1); (case side3 => exact (by refine (Kd.R_reads' (e := 50) (base := w.heap.size) (ok := fun k_ => True) (n := t455.length) (c := co13) ?_).2.2; exact u13_28)); (case side4 => exact (Kd.R_reads' HO_4.out).2.1); rintro e w84 ⟨v493, v496, rfl, ho0, ho1, hb⟩; refine ⟨_, rfl, ?_⟩; replace HO_4 := am (Kd.R_below u13_28 hb); have HO494 := am (Kd.R_lower (Kd.R_new' (Kd.R_new' (Kd.R_new' ho0 (Kd.R_lt u13_13)) (Kd.R_lt u13_23)) (Kd.R_lt u13_26)) (below_size u13_6)); replace HO_459002 := am (Kd.R_elder' u13_13 (Kd.R_base ho0) hb); replace HO_468002 := am (Kd.R_elder' u13_23 (Kd.R_base ho0) hb); replace HO487 := am (Kd.R_elder' u13_26 (Kd.R_base ho0) hb); have HO497 := am (Kd.R_lower ho1 (below_size u13_6)); replace BK458 := am (blk_below (g := gb458) (o := .cells #[.int .i64 t450, .int .i64 t451, .slice Ao12 t452.length co12] 30 (0, 0)) (by (with_reducible repeat (first | refine blk_drewN ?_ _ | refine blk_drew ?_ | refine blk_alloc ?_ _)); refine blk_far ?_ NB458_489.out _; (with_reducible repeat (first | refine blk_drewN ?_ _ | refine blk_drew ?_ | refine blk_alloc ?_ _)); refine blk_far ?_ NB458_489.out _; (with_reducible repeat (first | refine blk_drewN ?_ _ | refine blk_drew ?_ | refine blk_alloc ?_ _)); refine blk_far ?_ NB458_489.out _; (with_reducible repeat (first | refine blk_drewN ?_ _ | refine blk_drew ?_ | refine blk_alloc ?_ _)); exact BK458.out) hb); replace BK467 := am (blk_below (g := gb467) (o := .cells #[.int .i64 t459, .int .i64 t460, .slice Ao18 t461.length co18] 30 (0, 0)) (by (with_reducible repeat (first | refine blk_drewN ?_ _ | refine blk_drew ?_ | refine blk_alloc ?_ _)); refine blk_far ?_ NB467_489.out _; (with_reducible repeat (first | refine blk_drewN ?_ _ | refine blk_drew ?_ | refine blk_alloc ?_ _)); refine blk_far ?_ NB467_489.out _; (with_reducible repeat (first | refine blk_drewN ?_ _ | refine blk_drew ?_ | refine blk_alloc ?_ _)); refine blk_far ?_ NB467_489.out _; (with_reducible repeat (first | refine blk_drewN ?_ _ | refine blk_drew ?_ | refine blk_alloc ?_ _)); exact BK467.out) hb); replace BK489 := am (blk_below (g := gb489) (o := .cells #[.int .i64 t483, .int .i64 t484, .slice Ao82 t485.length co82] 30 (0, 0)) (by (with_reducible repeat (first | refine blk_drewN ?_ _ | refine blk_drew ?_ | refine blk_alloc ?_ _)); refine blk_put (cs := #[.int .i64 t483, .int .i64 t484, .slice none 0 0]) ?_ 2 _ rfl; (with_reducible repeat (first | refine blk_drewN ?_ _ | refine blk_drew ?_ | refine blk_alloc ?_ _)); refine blk_put (cs := #[.int .i64 t483, .int .i64 0, .slice none 0 0]) ?_ 1 _ rfl; (with_reducible repeat (first | refine blk_drewN ?_ _ | refine blk_drew ?_ | refine blk_alloc ?_ _)); refine blk_put (cs := #[.int .i64 0, .int .i64 0, .slice none 0 0]) ?_ 0 _ rfl; (with_reducible repeat (first | refine blk_drewN ?_ _ | refine blk_drew ?_ | refine blk_alloc ?_ _)); exact BK489.out) hb); replace HB := am (below_step u13_6 hb); (try clear hb); (try clear hb2); (try clear hk); (try clear hi); (try clear ho0); (try clear ho1)) | ((with_reducible refine gate_dst (N := 19) rfl ?_); (try (refine gate_guard (by rfl) ?_; dsimp only)); refine box_event ?hg (N := 19) ?hd (cs := #[.int .i64 0, .int .i64 0, .slice none 0 0]) (t := 30) ?hr ?_; (case hd => rfl); (case hg => rfl); (case hr => first | (go_simp; done) | (go_simp; rfl)); intro gb498 hg w85 hbox hb; replace HO_4 := am (Kd.R_below u13_8 hb); replace HO_459002 := am (Kd.R_below u13_9 hb); replace HO_468002 := am (Kd.R_below u13_10 hb); replace HO487 := am (Kd.R_below u13_40 hb); replace HO494 := am (Kd.R_below (by (with_reducible repeat (first | apply Kd.R_alloc | apply Kd.R_drewN | apply Kd.R_drew)); exact HO494.out) hb); replace HO497 := am (Kd.R_below (by (with_reducible repeat (first | apply Kd.R_alloc | apply Kd.R_drewN | apply Kd.R_drew)); exact HO497.out) hb); have BK498 := am (hbox); have GW498 := am ((by rw [hg]; exact (below_size u13_6) : w.heap.size ≤ gb498)); have GE498 := am ((by rw [hg]; exact (below_size u13_6) : w.heap.size ≤ gb498)); replace HB := am (below_step u13_6 hb); have NB458_498 := am ((by rw [hg]; exact Nat.ne_of_lt (blk_lt (g := gb458) (o := .cells #[.int .i64 t450, .int .i64 t451, .slice Ao12 t452.length co12] 30 (0, 0)) u13_0) : gb458 ≠ gb498)); have NB498_458 := am ((by rw [hg]; exact Nat.ne_of_gt (blk_lt (g := gb458) (o := .cells #[.int .i64 t450, .int .i64 t451, .slice Ao12 t452.length co12] 30 (0, 0)) u13_0) : gb498 ≠ gb458)); replace BK458 := am (blk_below (g := gb458) (o := .cells #[.int .i64 t450, .int .i64 t451, .slice Ao12 t452.length co12] 30 (0, 0)) u13_0 hb); have NB467_498 := am ((by rw [hg]; exact Nat.ne_of_lt (blk_lt (g := gb467) (o := .cells #[.int .i64 t459, .int .i64 t460, .slice Ao18 t461.length co18] 30 (0, 0)) u13_1) : gb467 ≠ gb498)); have NB498_467 := am ((by rw [hg]; exact Nat.ne_of_gt (blk_lt (g := gb467) (o := .cells #[.int .i64 t459, .int .i64 t460, .slice Ao18 t461.length co18] 30 (0, 0)) u13_1) : gb498 ≠ gb467)); replace BK467 := am (blk_below (g := gb467) (o := .cells #[.int .i64 t459, .int .i64 t460, .slice Ao18 t461.length co18] 30 (0, 0)) u13_1 hb); have NB489_498 := am ((by rw [hg]; exact Nat.ne_of_lt (blk_lt (g := gb489) (o := .cells #[.int .i64 t483, .int .i64 t484, .slice Ao82 t485.length co82] 30 (0, 0)) u13_30) : gb489 ≠ gb498)); have NB498_489 := am ((by rw [hg]; exact Nat.ne_of_gt (blk_lt (g := gb489) (o := .cells #[.int .i64 t483, .int .i64 t484, .slice Ao82 t485.length co82] 30 (0, 0)) u13_30) : gb498 ≠ gb489)); replace BK489 := am (blk_below (g := gb489) (o := .cells #[.int .i64 t483, .int .i64 t484, .slice Ao82 t485.length co82] 30 (0, 0)) u13_30 hb); clear hb hbox hg; have hnb86 := NB498_458.out; have hnc86 := NB458_498.out; have hnb87 := NB498_467.out; have hnc87 := NB467_498.out; have hnb88 := NB498_489.out; have hnc88 := NB489_498.out; obtain ⟨hcz89_0, hcz89_1, hcz89_2, hfz89_0, hfz89_1, hfz89_2⟩ := bc3f w85 BK498.out; obtain ⟨Ao90, co90, eo90⟩ := Kd.R_slice HO494.out; subst eo90; obtain ⟨hcz91_0, hcz91_1, hcz91_2, hfz91_0, hfz91_1, hfz91_2⟩ := bc3f w85 BK467.out))
     go_ret
     exact ⟨by first | rfl | (simp [errW_none, errW_some] <;> rfl) | (simp [*, errW_none, errW_some] <;> rfl), (by repeat (first | (with_reducible first | exact HB.out | apply below_alloc | apply pw_below_drewN | apply below_drew1 | refine below_set ?_ GE458.out | refine below_set ?_ GE467.out | refine below_set ?_ GE489.out | refine below_set ?_ GE498.out) | exact HB.out))⟩
   rw [if_pos c22] at H
   have c22b0 : decide (x7_1 < (t461.length : Int)) = true := decide_eq_true c22
   clear c22
   by_cases c23 : 0 ≤ x7_1
   rotate_left
   · rw [if_neg c23] at H
     exact absurd H (by simp)
   rw [if_pos c23] at H
   have c23b0 : decide (0 ≤ x7_1) = true := decide_eq_true c23
   clear c23
   replace H := Option.bind_eq_some_iff.mp H
   obtain ⟨⟨t470, t471, t472, t475⟩, A240, H⟩ := H
   (try dsimp only at H)
   have A24 := am A240
   clear A240
   replace H := Option.bind_eq_some_iff.mp H
   obtain ⟨⟨t477, t478⟩, A250, H⟩ := H
   (try dsimp only at H)
   have A25 := am A250
   clear A250
   by_cases c26 : t475 = true
   rotate_left
   · replace c26 := Bool.eq_false_iff.mpr c26
     subst c26
     rw [if_neg (show ¬ (false = true) by decide)] at H
     exact absurd ((Option.some.inj H).trans hr_.out) (by decide)
   subst c26
   rw [if_pos rfl] at H
   by_cases c27 : t477 = 0
   rotate_left
   · rw [if_neg c27] at H
     have c27b0 : (t477 == 0) = false := beq_eq_false_iff_ne.mpr c27
     have c27b1 : (t477 != 0) = true := bne_iff_ne.mpr c27
     exact absurd ((Option.some.inj H).trans hr_.out) (by decide)
   rw [if_pos c27] at H
   have c27b0 : (t477 == 0) = true := beq_iff_eq.mpr c27
   have c27b1 : (t477 != 0) = false := bne_eq_false_iff_eq.mpr c27
   clear c27
   by_cases c28 : (t472.length : Int) = (wrap64 ((t461.length : Int) - 1))
   rotate_left
   · rw [if_neg c28] at H
     have c28b0 : ((t472.length : Int) == (wrap64 ((t461.length : Int) - 1))) = false := beq_eq_false_iff_ne.mpr c28
     have c28b1 : ((t472.length : Int) != (wrap64 ((t461.length : Int) - 1))) = true := bne_iff_ne.mpr c28
     exact absurd ((Option.some.inj H).trans hr_.out) (by decide)
   rw [if_pos c28] at H
   have c28b0 : ((t472.length : Int) == (wrap64 ((t461.length : Int) - 1))) = true := beq_iff_eq.mpr c28
   have c28b1 : ((t472.length : Int) != (wrap64 ((t461.length : Int) - 1))) = false := bne_eq_false_iff_eq.mpr c28
   clear c28
   have H' := am H
   clear H
   have hnb29 := NB467_458.out
   have hnc29 := NB458_467.out
   obtain ⟨hcz30_0, hcz30_1, hcz30_2, hfz30_0, hfz30_1, hfz30_2⟩ := bc3f wr BK467.out
   have p469 : 0 ≤ (x7_1 : Int) := of_decide_eq_true u13_31
   have q469 : x7_1 < (t461.length : Int) := of_decide_eq_true u13_31
   obtain ⟨ad469, e469, hx469_0, hx469_1, hx469_2, hx469_3⟩ := at_T54 (Kd.R_reads' HO_468002.out).2.2 x7_1 p469 q469
   cases e469
   replace p469 := eq_true p469
   replace q469 := eq_true q469
   go_wp2_with (first | ((with_reducible refine gate_callee (f := 24) rfl ?_); refine goesL_ (some 61) rfl rfl Tryd.func24 kr rfl #[.agg #[.int .i64 t459, .int .i64 t460, .slice (some ad469) t461.length co18], .int .i64 ((rd_T54 t461 x7_1).f0)] rfl u13_5 ?_; (with_reducible refine (impl_Forget.calls k1 t459 t460 _ _ t461 ((rd_T54 t461 x7_1).f0) t470 t471 t472 true _ ?side1 ?side2 A24.out).mono ?_); (case side1 => exact u13_33); (case side2 => exact (Kd.R_reads' HO_468002.out).2.1); rintro e w31 ⟨v473, rfl, ho0, hb⟩; refine ⟨_, rfl, ?_⟩; replace HO_4 := am (Kd.R_below u13_8 hb); have HO474 := am (Kd.R_lower (Kd.R_new' (Kd.R_new' ho0 (Kd.R_lt u13_9)) (Kd.R_lt u13_10)) (below_size u13_2)); replace HO_459002 := am (Kd.R_elder' u13_9 (Kd.R_base ho0) hb); replace HO_468002 := am (Kd.R_elder' u13_10 (Kd.R_base ho0) hb); replace BK458 := am (blk_below (g := gb458) (o := .cells #[.int .i64 t450, .int .i64 t451, .slice Ao12 t452.length co12] 30 (0, 0)) u13_0 hb); replace BK467 := am (blk_below (g := gb467) (o := .cells #[.int .i64 t459, .int .i64 t460, .slice (some ad469) t461.length co18] 30 (0, 0)) u13_1 hb); replace HB := am (below_step u13_2 hb); (try clear hb); (try clear hb2); (try clear hk); (try clear hi); (try clear ho0)) | ((with_reducible refine gate_dst (N := 9) rfl ?_); (try (refine gate_guard (by rfl) ?_; dsimp only)); refine box_event ?hg (N := 9) ?hd (cs := #[.int .i64 0, .int .i64 0, .slice none 0 0]) (t := 30) ?hr ?_; (case hd => rfl); (case hg => rfl); (case hr => first | (go_simp; done) | (go_simp; rfl)); intro gb476 hg w32 hbox hb; replace HO_4 := am (Kd.R_below u13_8 hb); replace HO_459002 := am (Kd.R_below u13_9 hb); replace HO_468002 := am (Kd.R_below u13_10 hb); replace HO474 := am (Kd.R_below (by (with_reducible repeat (first | apply Kd.R_alloc | apply Kd.R_drewN | apply Kd.R_drew)); exact HO474.out) hb); have BK476 := am (hbox); have GW476 := am ((by rw [hg]; exact (below_size u13_2) : w.heap.size ≤ gb476)); have GE476 := am ((by rw [hg]; exact (below_size u13_2) : w.heap.size ≤ gb476)); replace HB := am (below_step u13_2 hb); have NB458_476 := am ((by rw [hg]; exact Nat.ne_of_lt (blk_lt (g := gb458) (o := .cells #[.int .i64 t450, .int .i64 t451, .slice Ao12 t452.length co12] 30 (0, 0)) u13_0) : gb458 ≠ gb476)); have NB476_458 := am ((by rw [hg]; exact Nat.ne_of_gt (blk_lt (g := gb458) (o := .cells #[.int .i64 t450, .int .i64 t451, .slice Ao12 t452.length co12] 30 (0, 0)) u13_0) : gb476 ≠ gb458)); replace BK458 := am (blk_below (g := gb458) (o := .cells #[.int .i64 t450, .int .i64 t451, .slice Ao12 t452.length co12] 30 (0, 0)) u13_0 hb); have NB467_476 := am ((by rw [hg]; exact Nat.ne_of_lt (blk_lt (g := gb467) (o := .cells #[.int .i64 t459, .int .i64 t460, .slice (some ad469) t461.length co18] 30 (0, 0)) u13_1) : gb467 ≠ gb476)); have NB476_467 := am ((by rw [hg]; exact Nat.ne_of_gt (blk_lt (g := gb467) (o := .cells #[.int .i64 t459, .int .i64 t460, .slice (some ad469) t461.length co18] 30 (0, 0)) u13_1) : gb476 ≠ gb467)); replace BK467 := am (blk_below (g := gb467) (o := .cells #[.int .i64 t459, .int .i64 t460, .slice (some ad469) t461.length co18] 30 (0, 0)) u13_1 hb); clear hb hbox hg; have hnb33 := NB476_458.out; have hnc33 := NB458_476.out; have hnb34 := NB476_467.out; have hnc34 := NB467_476.out; obtain ⟨hcz35_0, hcz35_1, hcz35_2, hfz35_0, hfz35_1, hfz35_2⟩ := bc3f w32 BK476.out; obtain ⟨Ao36, co36, eo36⟩ := Kd.R_slice HO474.out; subst eo36) | ((with_reducible refine gate_callee (f := 23) rfl ?_); refine goesL_ (some 67) rfl rfl Tryd.func23 kr rfl #[.agg #[.int .i64 t470, .int .i64 t471, .slice Ao36 t472.length co36], .int .i64 ((rd_T54 t461 x7_1).f0), .int .i64 1] rfl u13_5 ?_; (with_reducible refine (impl_Look.calls k1 t470 t471 _ _ t472 ((rd_T54 t461 x7_1).f0) 1 t477 t478 _ ?side1 ?side2 A25.out).mono ?_); (case side1 => exact (by refine (Kd.R_reads' (e := 54) (base := w.heap.size) (ok := fun k_ => ((True ∧ some k_ ≠ (.slice Ao12 t452.length co12 : Value).ownBlock) ∧ some k_ ≠ (.slice (some ad469) t461.length co18 : Value).ownBlock)) (n := t472.length) (c := co36) ?_).2.2; exact u13_27)); (case side2 => exact (Kd.R_reads' HO474.out).2.1); rintro e w37 ⟨rfl, hb⟩; refine ⟨_, rfl, ?_⟩; replace HO_4 := am (Kd.R_below (by (with_reducible repeat (first | apply Kd.R_alloc | apply Kd.R_drewN | apply Kd.R_drew)); exact (Kd.R_mono (Kd.R_far (p := ⟨gb476, 2, none⟩) (Kd.R_far (p := ⟨gb476, 1, none⟩) (Kd.R_far (p := ⟨gb476, 0, none⟩) (Kd.R_types HO_4.out BK476.out (by decide)) (fun _ hk => hk.2) (.int .i64 t470)) (fun _ hk => hk.2) (.int .i64 t471)) (fun _ hk => hk.2) (.slice Ao36 t472.length co36)) (fun _ h_ => h_.1))) hb); replace HO_459002 := am (Kd.R_below (by (with_reducible repeat (first | apply Kd.R_alloc | apply Kd.R_drewN | apply Kd.R_drew)); exact (Kd.R_mono (Kd.R_far (p := ⟨gb476, 2, none⟩) (Kd.R_far (p := ⟨gb476, 1, none⟩) (Kd.R_far (p := ⟨gb476, 0, none⟩) (Kd.R_types HO_459002.out BK476.out (by decide)) (fun _ hk => hk.2) (.int .i64 t470)) (fun _ hk => hk.2) (.int .i64 t471)) (fun _ hk => hk.2) (.slice Ao36 t472.length co36)) (fun _ h_ => h_.1))) hb); replace HO_468002 := am (Kd.R_below (by (with_reducible repeat (first | apply Kd.R_alloc | apply Kd.R_drewN | apply Kd.R_drew)); exact (Kd.R_mono (Kd.R_far (p := ⟨gb476, 2, none⟩) (Kd.R_far (p := ⟨gb476, 1, none⟩) (Kd.R_far (p := ⟨gb476, 0, none⟩) (Kd.R_types HO_468002.out BK476.out (by decide)) (fun _ hk => hk.2) (.int .i64 t470)) (fun _ hk => hk.2) (.int .i64 t471)) (fun _ hk => hk.2) (.slice Ao36 t472.length co36)) (fun _ h_ => h_.1))) hb); replace HO474 := am (Kd.R_below u13_27 hb); replace BK458 := am (blk_below (g := gb458) (o := .cells #[.int .i64 t450, .int .i64 t451, .slice Ao12 t452.length co12] 30 (0, 0)) (by (with_reducible repeat (first | refine blk_drewN ?_ _ | refine blk_drew ?_ | refine blk_alloc ?_ _)); refine blk_far ?_ NB458_476.out _; (with_reducible repeat (first | refine blk_drewN ?_ _ | refine blk_drew ?_ | refine blk_alloc ?_ _)); refine blk_far ?_ NB458_476.out _; (with_reducible repeat (first | refine blk_drewN ?_ _ | refine blk_drew ?_ | refine blk_alloc ?_ _)); refine blk_far ?_ NB458_476.out _; (with_reducible repeat (first | refine blk_drewN ?_ _ | refine blk_drew ?_ | refine blk_alloc ?_ _)); exact BK458.out) hb); replace BK467 := am (blk_below (g := gb467) (o := .cells #[.int .i64 t459, .int .i64 t460, .slice (some ad469) t461.length co18] 30 (0, 0)) (by (with_reducible repeat (first | refine blk_drewN ?_ _ | refine blk_drew ?_ | refine blk_alloc ?_ _)); refine blk_far ?_ NB467_476.out _; (with_reducible repeat (first | refine blk_drewN ?_ _ | refine blk_drew ?_ | refine blk_alloc ?_ _)); refine blk_far ?_ NB467_476.out _; (with_reducible repeat (first | refine blk_drewN ?_ _ | refine blk_drew ?_ | refine blk_alloc ?_ _)); refine blk_far ?_ NB467_476.out _; (with_reducible repeat (first | refine blk_drewN ?_ _ | refine blk_drew ?_ | refine blk_alloc ?_ _)); exact BK467.out) hb); replace BK476 := am (blk_below (g := gb476) (o := .cells #[.int .i64 t470, .int .i64 t471, .slice Ao36 t472.length co36] 30 (0, 0)) (by (with_reducible repeat (first | refine blk_drewN ?_ _ | refine blk_drew ?_ | refine blk_alloc ?_ _)); refine blk_put (cs := #[.int .i64 t470, .int .i64 t471, .slice none 0 0]) ?_ 2 _ rfl; (with_reducible repeat (first | refine blk_drewN ?_ _ | refine blk_drew ?_ | refine blk_alloc ?_ _)); refine blk_put (cs := #[.int .i64 t470, .int .i64 0, .slice none 0 0]) ?_ 1 _ rfl; (with_reducible repeat (first | refine blk_drewN ?_ _ | refine blk_drew ?_ | refine blk_alloc ?_ _)); refine blk_put (cs := #[.int .i64 0, .int .i64 0, .slice none 0 0]) ?_ 0 _ rfl; (with_reducible repeat (first | refine blk_drewN ?_ _ | refine blk_drew ?_ | refine blk_alloc ?_ _)); exact BK476.out) hb); replace HB := am (below_step u13_3 hb); (try clear hb); (try clear hb2); (try clear hk); (try clear hi); obtain ⟨hcz38_0, hcz38_1, hcz38_2, hfz38_0, hfz38_1, hfz38_2⟩ := bc3f w37 BK476.out; obtain ⟨hcz39_0, hcz39_1, hcz39_2, hfz39_0, hfz39_1, hfz39_2⟩ := bc3f w37 BK467.out))
   go_loopg [13] k1 (fun kq v13 w' => ∃ (x13_2 : Int), v13 = .int .i64 x13_2 ∧ Aside0 (laws_FnForgotten.l1 kq t455 x7_1 x13_2 t450 t451 t452 t459 t460 t461 t470 t471 t472 = some r) ∧ Aside0 (kq ≤ k1) ∧ Aside0 (Kd.R k50 50 w' w.heap.size (fun _ => True) (.slice Ao13 t455.length co13) t455) ∧ Aside0 (Kd.R k54 54 w' w.heap.size (fun k_ => some k_ ≠ ((.slice (some ad469) t461.length co18) : Value).ownBlock ∧ some k_ ≠ ((.slice Ao36 t472.length co36) : Value).ownBlock) (.slice Ao12 t452.length co12) t452) ∧ Aside0 (Kd.R k54 54 w' w.heap.size (fun k_ => some k_ ≠ ((.slice Ao12 t452.length co12) : Value).ownBlock ∧ some k_ ≠ ((.slice Ao36 t472.length co36) : Value).ownBlock) (.slice (some ad469) t461.length co18) t461) ∧ Aside0 (Kd.R k54 54 w' w.heap.size (fun k_ => some k_ ≠ ((.slice Ao12 t452.length co12) : Value).ownBlock ∧ some k_ ≠ ((.slice (some ad469) t461.length co18) : Value).ownBlock) (.slice Ao36 t472.length co36) t472) ∧ Aside0 (w'.heap[gb458]? = some (.cells #[.int .i64 t450, .int .i64 t451, (.slice Ao12 t452.length co12)] 30 (0, 0))) ∧ Aside0 (w'.heap[gb467]? = some (.cells #[.int .i64 t459, .int .i64 t460, (.slice (some ad469) t461.length co18)] 30 (0, 0))) ∧ Aside0 (w'.heap[gb476]? = some (.cells #[.int .i64 t470, .int .i64 t471, (.slice Ao36 t472.length co36)] 30 (0, 0))) ∧ Aside0 (Below w.heap.size w w'))
   case atStart => exact ⟨(0), u13_34, H', ⟨Nat.le_refl _⟩, ⟨u13_8⟩, ⟨u13_9⟩, ⟨u13_10⟩, ⟨(by (with_reducible repeat (first | apply Kd.R_alloc | apply Kd.R_drewN | apply Kd.R_drew)); exact Kd.R_mono HO474.out (fun _ hk => ⟨hk.1.2, hk.2⟩))⟩, ⟨u13_0⟩, ⟨u13_1⟩, ⟨u13_11⟩, ⟨u13_3⟩⟩
   clear H'
   try clear c1
   try clear c2
   try clear p2
   try clear c3
   try clear p4
   try clear q4
   try clear hx4
   try clear c5
   try clear p6
   try clear c7
   try clear c8
   try clear c8b0
   try clear c11
   try clear c16
   try clear c20
   try clear c21
   try clear c22
   try clear c22b0
   try clear c23
   try clear c23b0
   try clear c24
   try clear c26
   try clear c27
   try clear c27b0
   try clear c27b1
   try clear c28
   try clear c28b0
   try clear c28b1
   try clear c29
   try clear c33
   try clear c34
   try clear hcz11_0
   try clear hcz11_1
   try clear hcz11_2
   try clear hcz17_0
   try clear hcz17_1
   try clear hcz17_2
   try clear hcz20_0
   try clear hcz20_1
   try clear hcz20_2
   try clear hcz21_0
   try clear hcz21_1
   try clear hcz21_2
   try clear hcz30_0
   try clear hcz30_1
   try clear hcz30_2
   try clear hcz35_0
   try clear hcz35_1
   try clear hcz35_2
   try clear hcz38_0
   try clear hcz38_1
   try clear hcz38_2
   try clear hcz39_0
   try clear hcz39_1
   try clear hcz39_2
   try clear hfz11_0
   try clear hfz11_1
   try clear hfz11_2
   try clear hfz17_0
   try clear hfz17_1
   try clear hfz17_2
   try clear hfz20_0
   try clear hfz20_1
   try clear hfz20_2
   try clear hfz21_0
   try clear hfz21_1
   try clear hfz21_2
   try clear hfz30_0
   try clear hfz30_1
   try clear hfz30_2
   try clear hfz35_0
   try clear hfz35_1
   try clear hfz35_2
   try clear hfz38_0
   try clear hfz38_1
   try clear hfz38_2
   try clear hfz39_0
   try clear hfz39_1
   try clear hfz39_2
   try clear hx469_0
   try clear hx469_1
   try clear hx469_2
   try clear hx469_3
   try clear p2
   try clear p469
   try clear q469
   obtain ⟨x13_2, rfl, HA, HK2, HO_4, HO_459002, HO_468002, HO_477002, BK458, BK467, BK476, HB⟩ := hrel
   cases gk with
   | zero => exact absurd HA.out (by simp [laws_FnForgotten.l1])
   | succ k2 =>
     have H := HA.out
     clear HA
     simp only [laws_FnForgotten.l1] at H
     by_cases c40 : x13_2 < (t461.length : Int)
     rotate_left
     · rw [if_neg c40] at H
       have c40b0 : decide (x13_2 < (t461.length : Int)) = false := decide_eq_false c40
       clear c40
       have H' := am H
       clear H
       have hnb69 := NB467_458.out
       have hnc69 := NB458_467.out
       have hnb70 := NB467_476.out
       have hnc70 := NB476_467.out
       obtain ⟨hcz71_0, hcz71_1, hcz71_2, hfz71_0, hfz71_1, hfz71_2⟩ := bc3f wr BK467.out
       go_wp2
       go_roundg k2
       case measure => have := HK1.out; have := HK2.out; omega
       case rel => exact ⟨(wrap64 (x7_1 + 1)), u13_34, H', ⟨u13_41⟩, ⟨u13_8⟩, ⟨(by (with_reducible repeat (first | apply Kd.R_alloc | apply Kd.R_drewN | apply Kd.R_drew)); exact Kd.R_mono HO_459002.out (fun _ hk => hk.1))⟩, ⟨(by (with_reducible repeat (first | apply Kd.R_alloc | apply Kd.R_drewN | apply Kd.R_drew)); exact Kd.R_mono HO_468002.out (fun _ hk => hk.1))⟩, ⟨u13_0⟩, ⟨u13_1⟩, ⟨u13_3⟩⟩
     rw [if_pos c40] at H
     have c40b0 : decide (x13_2 < (t461.length : Int)) = true := decide_eq_true c40
     clear c40
     by_cases c41 : 0 ≤ x13_2
     rotate_left
     · rw [if_neg c41] at H
       exact absurd H (by simp)
     rw [if_pos c41] at H
     have c41b0 : decide (0 ≤ x13_2) = true := decide_eq_true c41
     clear c41
     replace H := Option.bind_eq_some_iff.mp H
     obtain ⟨⟨t481, t482⟩, A420, H⟩ := H
     (try dsimp only at H)
     have A42 := am A420
     clear A420
     by_cases c43 : x13_2 = x7_1
     · rw [if_pos c43] at H
       have c43b0 : (x13_2 == x7_1) = true := beq_iff_eq.mpr c43
       have c43b1 : (x13_2 != x7_1) = false := bne_eq_false_iff_eq.mpr c43
       clear c43
       have H' := am H
       clear H
       have hnb44 := NB467_458.out
       have hnc44 := NB458_467.out
       have hnb45 := NB467_476.out
       have hnc45 := NB476_467.out
       obtain ⟨hcz46_0, hcz46_1, hcz46_2, hfz46_0, hfz46_1, hfz46_2⟩ := bc3f wr BK467.out
       have p479 : 0 ≤ (x13_2 : Int) := of_decide_eq_true u13_31
       have q479 : x13_2 < (t461.length : Int) := of_decide_eq_true u13_31
       obtain ⟨ad479, e479, hx479_0, hx479_1, hx479_2, hx479_3⟩ := at_T54 (Kd.R_reads' HO_468002.out).2.2 x13_2 p479 q479
       obtain rfl : ad469 = ad479 := (by injection e479)
       replace p479 := eq_true p479
       replace q479 := eq_true q479
       go_wp2_with (first | ((with_reducible refine gate_dst (N := 14) rfl ?_); (try (refine gate_guard (by rfl) ?_; dsimp only)); refine box_event ?hg (N := 14) ?hd (cs := #[.int .i64 0, .int .i64 0, .int .i64 0, .string (⟨#[]⟩ : ByteArray)]) (t := 54) ?hr ?_; (case hd => rfl); (case hg => rfl); (case hr => first | (go_simp; done) | (go_simp; rfl)); intro gb480 hg w47 hbox hb; replace HO_4 := am (Kd.R_below u13_8 hb); replace HO_459002 := am (Kd.R_below (Kd.R_elderB u13_9 gb480 (Nat.le_of_eq hg.symm)) hb); replace HO_468002 := am (Kd.R_below (Kd.R_elderB u13_10 gb480 (Nat.le_of_eq hg.symm)) hb); replace HO_477002 := am (Kd.R_below (Kd.R_elderB u13_38 gb480 (Nat.le_of_eq hg.symm)) hb); have BK480 := am (hbox); have GW480 := am ((by rw [hg]; exact (below_size u13_3) : w.heap.size ≤ gb480)); have GE480 := am ((by rw [hg]; exact (below_size u13_3) : w.heap.size ≤ gb480)); replace HB := am (below_step u13_3 hb); have NB458_480 := am ((by rw [hg]; exact Nat.ne_of_lt (blk_lt (g := gb458) (o := .cells #[.int .i64 t450, .int .i64 t451, .slice Ao12 t452.length co12] 30 (0, 0)) u13_0) : gb458 ≠ gb480)); have NB480_458 := am ((by rw [hg]; exact Nat.ne_of_gt (blk_lt (g := gb458) (o := .cells #[.int .i64 t450, .int .i64 t451, .slice Ao12 t452.length co12] 30 (0, 0)) u13_0) : gb480 ≠ gb458)); replace BK458 := am (blk_below (g := gb458) (o := .cells #[.int .i64 t450, .int .i64 t451, .slice Ao12 t452.length co12] 30 (0, 0)) u13_0 hb); have NB467_480 := am ((by rw [hg]; exact Nat.ne_of_lt (blk_lt (g := gb467) (o := .cells #[.int .i64 t459, .int .i64 t460, .slice (some ad469) t461.length co18] 30 (0, 0)) u13_1) : gb467 ≠ gb480)); have NB480_467 := am ((by rw [hg]; exact Nat.ne_of_gt (blk_lt (g := gb467) (o := .cells #[.int .i64 t459, .int .i64 t460, .slice (some ad469) t461.length co18] 30 (0, 0)) u13_1) : gb480 ≠ gb467)); replace BK467 := am (blk_below (g := gb467) (o := .cells #[.int .i64 t459, .int .i64 t460, .slice (some ad469) t461.length co18] 30 (0, 0)) u13_1 hb); have NB476_480 := am ((by rw [hg]; exact Nat.ne_of_lt (blk_lt (g := gb476) (o := .cells #[.int .i64 t470, .int .i64 t471, .slice Ao36 t472.length co36] 30 (0, 0)) u13_11) : gb476 ≠ gb480)); have NB480_476 := am ((by rw [hg]; exact Nat.ne_of_gt (blk_lt (g := gb476) (o := .cells #[.int .i64 t470, .int .i64 t471, .slice Ao36 t472.length co36] 30 (0, 0)) u13_11) : gb480 ≠ gb476)); replace BK476 := am (blk_below (g := gb476) (o := .cells #[.int .i64 t470, .int .i64 t471, .slice Ao36 t472.length co36] 30 (0, 0)) u13_11 hb); clear hb hbox hg; have hnb48 := NB480_458.out; have hnc48 := NB458_480.out; have hnb49 := NB480_467.out; have hnc49 := NB467_480.out; have hnb50 := NB480_476.out; have hnc50 := NB476_480.out; obtain ⟨hcz51_0, hcz51_1, hcz51_2, hcz51_3, hfz51_0, hfz51_1, hfz51_2, hfz51_3⟩ := bc4f w47 BK480.out; have hnb52 := NB476_458.out; have hnc52 := NB458_476.out; obtain ⟨hcz53_0, hcz53_1, hcz53_2, hfz53_0, hfz53_1, hfz53_2⟩ := bc3f w47 BK476.out) | ((with_reducible refine gate_callee (f := 23) rfl ?_); refine goesL_ (some 104) rfl rfl Tryd.func23 kr rfl #[.agg #[.int .i64 t470, .int .i64 t471, .slice Ao36 t472.length co36], .int .i64 ((rd_T54 t461 x13_2).f0), .int .i64 ((rd_T54 t461 x13_2).f1)] rfl u13_5 ?_; (with_reducible refine (impl_Look.calls k2 t470 t471 _ _ t472 ((rd_T54 t461 x13_2).f0) ((rd_T54 t461 x13_2).f1) t481 t482 _ ?side1 ?side2 A42.out).mono ?_); (case side1 => exact u13_29); (case side2 => exact (Kd.R_reads' HO_477002.out).2.1); rintro e w54 ⟨rfl, hb⟩; refine ⟨_, rfl, ?_⟩; replace HO_4 := am (Kd.R_below u13_22 hb); replace HO_459002 := am (Kd.R_below u13_20 hb); replace HO_468002 := am (Kd.R_below u13_21 hb); replace HO_477002 := am (Kd.R_below u13_4 hb); replace BK458 := am (blk_below (g := gb458) (o := .cells #[.int .i64 t450, .int .i64 t451, .slice Ao12 t452.length co12] 30 (0, 0)) u13_17 hb); replace BK467 := am (blk_below (g := gb467) (o := .cells #[.int .i64 t459, .int .i64 t460, .slice (some ad469) t461.length co18] 30 (0, 0)) u13_18 hb); replace BK476 := am (blk_below (g := gb476) (o := .cells #[.int .i64 t470, .int .i64 t471, .slice Ao36 t472.length co36] 30 (0, 0)) u13_19 hb); replace BK480 := am (blk_below (g := gb480) (o := .cells #[.int .i64 ((rd_T54 t461 x13_2).f0), .int .i64 ((rd_T54 t461 x13_2).f1), .int .i64 ((rd_T54 t461 x13_2).f2), .string ((rd_T54 t461 x13_2).f3)] 54 (0, 0)) u13_7 hb); replace HB := am (below_step u13_16 hb); (try clear hb); (try clear hb2); (try clear hk); (try clear hi)))
       go_roundg k2
       case measure => have := HK1.out; have := HK2.out; omega
       case rel => exact ⟨(wrap64 (x13_2 + 1)), u13_34, H', ⟨u13_41⟩, ⟨u13_8⟩, ⟨u13_35⟩, ⟨u13_36⟩, ⟨u13_37⟩, ⟨u13_0⟩, ⟨u13_1⟩, ⟨u13_11⟩, ⟨u13_16⟩⟩
     rw [if_neg c43] at H
     have c43b0 : (x13_2 == x7_1) = false := beq_eq_false_iff_ne.mpr c43
     have c43b1 : (x13_2 != x7_1) = true := bne_iff_ne.mpr c43
     by_cases c55 : t481 = 1
     rotate_left
     · rw [if_neg c55] at H
       have c55b0 : (t481 == 1) = false := beq_eq_false_iff_ne.mpr c55
       have c55b1 : (t481 != 1) = true := bne_iff_ne.mpr c55
       exact absurd ((Option.some.inj H).trans hr_.out) (by decide)
     rw [if_pos c55] at H
     have c55b0 : (t481 == 1) = true := beq_iff_eq.mpr c55
     have c55b1 : (t481 != 1) = false := bne_eq_false_iff_eq.mpr c55
     clear c55
     by_cases c56 : t482.toList = ((rd_T54 t461 x13_2).f3).toList
     rotate_left
     · rw [if_neg c56] at H
       have c56b0 : (t482.toList == ((rd_T54 t461 x13_2).f3).toList) = false := beq_eq_false_iff_ne.mpr c56
       have c56b1 : (t482.toList != ((rd_T54 t461 x13_2).f3).toList) = true := bne_iff_ne.mpr c56
       exact absurd ((Option.some.inj H).trans hr_.out) (by decide)
     rw [if_pos c56] at H
     have c56b0 : (t482.toList == ((rd_T54 t461 x13_2).f3).toList) = true := beq_iff_eq.mpr c56
     have c56b1 : (t482.toList != ((rd_T54 t461 x13_2).f3).toList) = false := bne_eq_false_iff_eq.mpr c56
     clear c56
     have H' := am H
     clear H
     have hnb57 := NB467_458.out
     have hnc57 := NB458_467.out
     have hnb58 := NB467_476.out
     have hnc58 := NB476_467.out
     obtain ⟨hcz59_0, hcz59_1, hcz59_2, hfz59_0, hfz59_1, hfz59_2⟩ := bc3f wr BK467.out
     have p479 : 0 ≤ (x13_2 : Int) := of_decide_eq_true u13_31
     have q479 : x13_2 < (t461.length : Int) := of_decide_eq_true u13_31
     obtain ⟨ad479, e479, hx479_0, hx479_1, hx479_2, hx479_3⟩ := at_T54 (Kd.R_reads' HO_468002.out).2.2 x13_2 p479 q479
     obtain rfl : ad469 = ad479 := (by injection e479)
     replace p479 := eq_true p479
     replace q479 := eq_true q479
     go_wp2_with (first | ((with_reducible refine gate_dst (N := 14) rfl ?_); (try (refine gate_guard (by rfl) ?_; dsimp only)); refine box_event ?hg (N := 14) ?hd (cs := #[.int .i64 0, .int .i64 0, .int .i64 0, .string (⟨#[]⟩ : ByteArray)]) (t := 54) ?hr ?_; (case hd => rfl); (case hg => rfl); (case hr => first | (go_simp; done) | (go_simp; rfl)); intro gb480 hg w60 hbox hb; replace HO_4 := am (Kd.R_below u13_8 hb); replace HO_459002 := am (Kd.R_below (Kd.R_elderB u13_9 gb480 (Nat.le_of_eq hg.symm)) hb); replace HO_468002 := am (Kd.R_below (Kd.R_elderB u13_10 gb480 (Nat.le_of_eq hg.symm)) hb); replace HO_477002 := am (Kd.R_below (Kd.R_elderB u13_38 gb480 (Nat.le_of_eq hg.symm)) hb); have BK480 := am (hbox); have GW480 := am ((by rw [hg]; exact (below_size u13_3) : w.heap.size ≤ gb480)); have GE480 := am ((by rw [hg]; exact (below_size u13_3) : w.heap.size ≤ gb480)); replace HB := am (below_step u13_3 hb); have NB458_480 := am ((by rw [hg]; exact Nat.ne_of_lt (blk_lt (g := gb458) (o := .cells #[.int .i64 t450, .int .i64 t451, .slice Ao12 t452.length co12] 30 (0, 0)) u13_0) : gb458 ≠ gb480)); have NB480_458 := am ((by rw [hg]; exact Nat.ne_of_gt (blk_lt (g := gb458) (o := .cells #[.int .i64 t450, .int .i64 t451, .slice Ao12 t452.length co12] 30 (0, 0)) u13_0) : gb480 ≠ gb458)); replace BK458 := am (blk_below (g := gb458) (o := .cells #[.int .i64 t450, .int .i64 t451, .slice Ao12 t452.length co12] 30 (0, 0)) u13_0 hb); have NB467_480 := am ((by rw [hg]; exact Nat.ne_of_lt (blk_lt (g := gb467) (o := .cells #[.int .i64 t459, .int .i64 t460, .slice (some ad469) t461.length co18] 30 (0, 0)) u13_1) : gb467 ≠ gb480)); have NB480_467 := am ((by rw [hg]; exact Nat.ne_of_gt (blk_lt (g := gb467) (o := .cells #[.int .i64 t459, .int .i64 t460, .slice (some ad469) t461.length co18] 30 (0, 0)) u13_1) : gb480 ≠ gb467)); replace BK467 := am (blk_below (g := gb467) (o := .cells #[.int .i64 t459, .int .i64 t460, .slice (some ad469) t461.length co18] 30 (0, 0)) u13_1 hb); have NB476_480 := am ((by rw [hg]; exact Nat.ne_of_lt (blk_lt (g := gb476) (o := .cells #[.int .i64 t470, .int .i64 t471, .slice Ao36 t472.length co36] 30 (0, 0)) u13_11) : gb476 ≠ gb480)); have NB480_476 := am ((by rw [hg]; exact Nat.ne_of_gt (blk_lt (g := gb476) (o := .cells #[.int .i64 t470, .int .i64 t471, .slice Ao36 t472.length co36] 30 (0, 0)) u13_11) : gb480 ≠ gb476)); replace BK476 := am (blk_below (g := gb476) (o := .cells #[.int .i64 t470, .int .i64 t471, .slice Ao36 t472.length co36] 30 (0, 0)) u13_11 hb); clear hb hbox hg; have hnb61 := NB480_458.out; have hnc61 := NB458_480.out; have hnb62 := NB480_467.out; have hnc62 := NB467_480.out; have hnb63 := NB480_476.out; have hnc63 := NB476_480.out; obtain ⟨hcz64_0, hcz64_1, hcz64_2, hcz64_3, hfz64_0, hfz64_1, hfz64_2, hfz64_3⟩ := bc4f w60 BK480.out; have hnb65 := NB476_458.out; have hnc65 := NB458_476.out; obtain ⟨hcz66_0, hcz66_1, hcz66_2, hfz66_0, hfz66_1, hfz66_2⟩ := bc3f w60 BK476.out) | ((with_reducible refine gate_callee (f := 23) rfl ?_); refine goesL_ (some 104) rfl rfl Tryd.func23 kr rfl #[.agg #[.int .i64 t470, .int .i64 t471, .slice Ao36 t472.length co36], .int .i64 ((rd_T54 t461 x13_2).f0), .int .i64 ((rd_T54 t461 x13_2).f1)] rfl u13_5 ?_; (with_reducible refine (impl_Look.calls k2 t470 t471 _ _ t472 ((rd_T54 t461 x13_2).f0) ((rd_T54 t461 x13_2).f1) t481 t482 _ ?side1 ?side2 A42.out).mono ?_); (case side1 => exact u13_29); (case side2 => exact (Kd.R_reads' HO_477002.out).2.1); rintro e w67 ⟨rfl, hb⟩; refine ⟨_, rfl, ?_⟩; replace HO_4 := am (Kd.R_below u13_22 hb); replace HO_459002 := am (Kd.R_below u13_20 hb); replace HO_468002 := am (Kd.R_below u13_21 hb); replace HO_477002 := am (Kd.R_below u13_4 hb); replace BK458 := am (blk_below (g := gb458) (o := .cells #[.int .i64 t450, .int .i64 t451, .slice Ao12 t452.length co12] 30 (0, 0)) u13_17 hb); replace BK467 := am (blk_below (g := gb467) (o := .cells #[.int .i64 t459, .int .i64 t460, .slice (some ad469) t461.length co18] 30 (0, 0)) u13_18 hb); replace BK476 := am (blk_below (g := gb476) (o := .cells #[.int .i64 t470, .int .i64 t471, .slice Ao36 t472.length co36] 30 (0, 0)) u13_19 hb); replace BK480 := am (blk_below (g := gb480) (o := .cells #[.int .i64 ((rd_T54 t461 x13_2).f0), .int .i64 ((rd_T54 t461 x13_2).f1), .int .i64 ((rd_T54 t461 x13_2).f2), .string ((rd_T54 t461 x13_2).f3)] 54 (0, 0)) u13_7 hb); replace HB := am (below_step u13_16 hb); (try clear hb); (try clear hb2); (try clear hk); (try clear hi); obtain ⟨hcz68_0, hcz68_1, hcz68_2, hcz68_3, hfz68_0, hfz68_1, hfz68_2, hfz68_3⟩ := bc4f w67 BK480.out))
     go_roundg k2
     case measure => have := HK1.out; have := HK2.out; omega
     case rel => exact ⟨(wrap64 (x13_2 + 1)), u13_34, H', ⟨u13_41⟩, ⟨u13_8⟩, ⟨u13_35⟩, ⟨u13_36⟩, ⟨u13_37⟩, ⟨u13_0⟩, ⟨u13_1⟩, ⟨u13_11⟩, ⟨u13_16⟩⟩

/-- THE ONE PURE STATEMENT of laws_FnForgotten: yours. -/
def laws_FnForgotten.Pure : Prop := ∀ (l0 : List Int), l0.length ≤ maxLen → l0.length * 1 ≤ 140737488351232 → (∀ x ∈ l0, (Lit.int .u8 x).wf = true) → ∃ k, laws_FnForgotten.f k l0 = some true
theorem laws_FnForgotten.walk (P : laws_FnForgotten.Pure) (a0 : Option Addr) (len0 cap0 : Nat) (z0 : List Int) (w : World) (w0 : (a0 = none ∧ len0 = 0 ∧ cap0 = 0 ∧ z0 = []) ∨ ∃ x, a0 = some x ∧ len0 ≤ cap0 ∧ cap0 ≤ maxLen ∧ z0.length = cap0 ∧ (∀ i, i < z0.length → w.cell? (x.add i) = some (.int .u8 (z0.getD i 0))) ∧ ∀ n ∈ z0, (Lit.int .u8 n).wf = true) (y0 : len0 * 1 ≤ 140737488351232) :
   Calls Tryd.prog 5 #[.slice a0 len0 cap0] w fun e w' => e = .returned (.bool true) ∧ Below w.heap.size w w' := by
 obtain ⟨l0, rfl, hr0, hm0, hw0, hc0⟩ := ReadsInt.ofRowC w0
 obtain ⟨k, h⟩ := P l0 hm0 y0 hw0
 refine (laws_FnForgotten.calls k _ _ l0 true w (Kd.C_of_reads (d := (0 : Int)) (h1 := fun _ => rfl) hr0) hc0 h ⟨rfl⟩).mono ?_
 rintro e w' ⟨rfl, hd⟩
 exact ⟨rfl, hd⟩

end Go.Proofs.YtjdpifafijcpbaaDoor.QFnForgotten
