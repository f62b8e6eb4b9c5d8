-- Printed by the session's own program wip/prx.py.
import Derived.Test.YtdbfjakhkclggaaQFnOpenedx0
import Derived.Test.YtdbfjakhkclggaaQFnOpenedx1
import Derived.Test.YtdbfjakhkclggaaQFnOpenedx2
import Derived.Test.YtdbfjakhkclggaaQFnOpenedx3
import Derived.Test.YtdbfjakhkclggaaQFnOpenedx8
import Derived.Test.YtdbfjakhkclggaaQFnOpenedx9
namespace Go.Proofs.Ytdbfjakhkclggaa.QFnOpened
open Go.RowKit Go.Proofs.YtdbfjakhkclggaaW.PrintWords Go.Proofs.YtdbfjakhkclggaaW.PrintLast Go.Proofs.YtdbfjakhkclggaaW.PrintMore
attribute [local go_sem] max2_int min2_int max_two min_two max_three min_three max_four min_four Go.Proofs.Ytdbfjakhkclggaa.Set.isSome_setCell Go.Proofs.Ytdbfjakhkclggaa.Add.add64   -- for this text's walks alone
set_option linter.unusedVariables false
set_option linter.unusedSimpArgs false

attribute [local go_sem high] eqA53
-- squeezed
theorem u10_0 {P : Prop} (h : P := by repeat (first | (with_reducible first | exact HB.out | apply below_alloc | apply pw_below_drewN | apply below_drew1) | exact HB.out)) : P := h
theorem u10_1 {P : Prop} (h : P := by (with_reducible repeat (first | refine blk_drewN ?_ _ | refine blk_drew ?_ | refine blk_alloc ?_ _)); exact BK462.out) : P := h
theorem u10_2 {P : Prop} (h : P := by (try simp only [List.map_toArray, List.map_cons, List.map_nil]); first | done | rfl | (simp only [List.length_drop, List.length_take]; rfl)) : P := h
theorem u10_3 {P : Prop} (h : P := by (with_reducible repeat (first | refine blk_drewN ?_ _ | refine blk_drew ?_ | refine blk_alloc ?_ _)); exact BK467.out) : P := h
theorem u10_4 {P : Prop} (h : P := by (with_reducible repeat (first | apply Kd.R_alloc | apply Kd.R_drewN | apply Kd.R_drew)); exact (Kd.R_mono (Kd.R_far (p := ⟨gb474, 4, none⟩) (Kd.R_far (p := ⟨gb474, 3, none⟩) (Kd.R_far (p := ⟨gb474, 2, none⟩) (Kd.R_far (p := ⟨gb474, 1, none⟩) (Kd.R_far (p := ⟨gb474, 0, none⟩) (Kd.R_mono HO465.out (fun k_ hk => (⟨hk, hk.2⟩ : _ ∧ k_ ≠ gb474))) (fun _ hk => hk.2) (.int .u64 t468)) (fun _ hk => hk.2) (.int .u64 t469)) (fun _ hk => hk.2) (.int .u64 t470)) (fun _ hk => hk.2) (.int .u64 t471)) (fun _ hk => hk.2) (.int .i64 t472)) (fun _ h_ => h_.1))) : P := h
theorem u10_5 {P : Prop} (h : P := by repeat (first | (with_reducible first | exact HB.out | apply below_alloc | apply pw_below_drewN | apply below_drew1 | refine below_set ?_ GE462.out) | exact HB.out)) : P := h
theorem u10_6 {P : Prop} (h : P := by repeat (first | (with_reducible first | exact HB.out | apply below_alloc | apply pw_below_drewN | apply below_drew1 | refine below_set ?_ GE462.out | refine below_set ?_ GE467.out) | exact HB.out)) : P := h
theorem u10_7 {P : Prop} (h : P := by repeat (first | (with_reducible first | exact HB.out | apply below_alloc | apply pw_below_drewN | apply below_drew1 | refine below_set ?_ GE450.out) | exact HB.out)) : P := h
theorem u10_8 {P : Prop} (h : P := by (with_reducible repeat (first | refine blk_drewN ?_ _ | refine blk_drew ?_ | refine blk_alloc ?_ _)); refine blk_put (cs := #[.int .u64 t468, .int .u64 t469, .int .u64 t470, .int .u64 t471, .int .i64 0]) ?_ 4 _ rfl; (with_reducible repeat (first | refine blk_drewN ?_ _ | refine blk_drew ?_ | refine blk_alloc ?_ _)); refine blk_put (cs := #[.int .u64 t468, .int .u64 t469, .int .u64 t470, .int .u64 0, .int .i64 0]) ?_ 3 _ rfl; (with_reducible repeat (first | refine blk_drewN ?_ _ | refine blk_drew ?_ | refine blk_alloc ?_ _)); refine blk_put (cs := #[.int .u64 t468, .int .u64 t469, .int .u64 0, .int .u64 0, .int .i64 0]) ?_ 2 _ rfl; (with_reducible repeat (first | refine blk_drewN ?_ _ | refine blk_drew ?_ | refine blk_alloc ?_ _)); refine blk_put (cs := #[.int .u64 t468, .int .u64 0, .int .u64 0, .int .u64 0, .int .i64 0]) ?_ 1 _ rfl; (with_reducible repeat (first | refine blk_drewN ?_ _ | refine blk_drew ?_ | refine blk_alloc ?_ _)); refine blk_put (cs := #[.int .u64 0, .int .u64 0, .int .u64 0, .int .u64 0, .int .i64 0]) ?_ 0 _ rfl; (with_reducible repeat (first | refine blk_drewN ?_ _ | refine blk_drew ?_ | refine blk_alloc ?_ _)); exact BK474.out) : P := h
theorem u10_9 {P : Prop} (h : P := by (with_reducible repeat (first | refine blk_drewN ?_ _ | refine blk_drew ?_ | refine blk_alloc ?_ _)); refine blk_put (cs := #[.int .u64 t476, .int .u64 t477, .int .u64 t478, .int .u64 t479, .int .i64 0]) ?_ 4 _ rfl; (with_reducible repeat (first | refine blk_drewN ?_ _ | refine blk_drew ?_ | refine blk_alloc ?_ _)); refine blk_put (cs := #[.int .u64 t476, .int .u64 t477, .int .u64 t478, .int .u64 0, .int .i64 0]) ?_ 3 _ rfl; (with_reducible repeat (first | refine blk_drewN ?_ _ | refine blk_drew ?_ | refine blk_alloc ?_ _)); refine blk_put (cs := #[.int .u64 t476, .int .u64 t477, .int .u64 0, .int .u64 0, .int .i64 0]) ?_ 2 _ rfl; (with_reducible repeat (first | refine blk_drewN ?_ _ | refine blk_drew ?_ | refine blk_alloc ?_ _)); refine blk_put (cs := #[.int .u64 t476, .int .u64 0, .int .u64 0, .int .u64 0, .int .i64 0]) ?_ 1 _ rfl; (with_reducible repeat (first | refine blk_drewN ?_ _ | refine blk_drew ?_ | refine blk_alloc ?_ _)); refine blk_put (cs := #[.int .u64 0, .int .u64 0, .int .u64 0, .int .u64 0, .int .i64 0]) ?_ 0 _ rfl; (with_reducible repeat (first | refine blk_drewN ?_ _ | refine blk_drew ?_ | refine blk_alloc ?_ _)); exact BK482.out) : P := h
theorem u10_10 {P : Prop} (h : P := by repeat (first | (with_reducible first | exact HB.out | apply below_alloc | apply pw_below_drewN | apply below_drew1 | refine below_set ?_ GE462.out | refine below_set ?_ GE467.out | refine below_set ?_ GE474.out | refine below_set ?_ GE482.out | refine below_set ?_ GE487.out) | exact HB.out)) : P := h
theorem u10_11 {P : Prop} (h : P := by (with_reducible repeat (first | refine blk_drewN ?_ _ | refine blk_drew ?_ | refine blk_alloc ?_ _)); exact BK450.out) : P := h
theorem u10_12 {P : Prop} (h : P := by repeat (first | (with_reducible first | exact HB.out | apply below_alloc | apply pw_below_drewN | apply below_drew1 | refine below_set ?_ GE462.out | refine below_set ?_ GE467.out | refine below_set ?_ GE474.out) | exact HB.out)) : P := h
theorem u10_13 {P : Prop} (h : P := by (with_reducible repeat (first | apply Kd.R_alloc | apply Kd.R_drewN | apply Kd.R_drew)); exact (Kd.R_mono (Kd.R_far (p := ⟨gb474, 4, none⟩) (Kd.R_far (p := ⟨gb474, 3, none⟩) (Kd.R_far (p := ⟨gb474, 2, none⟩) (Kd.R_far (p := ⟨gb474, 1, none⟩) (Kd.R_far (p := ⟨gb474, 0, none⟩) (Kd.R_mono HO457.out (fun k_ hk => (⟨hk, hk.2⟩ : _ ∧ k_ ≠ gb474))) (fun _ hk => hk.2) (.int .u64 t468)) (fun _ hk => hk.2) (.int .u64 t469)) (fun _ hk => hk.2) (.int .u64 t470)) (fun _ hk => hk.2) (.int .u64 t471)) (fun _ hk => hk.2) (.int .i64 t472)) (fun _ h_ => h_.1))) : P := h
theorem u10_14 {P : Prop} (h : P := by (with_reducible repeat (first | apply Kd.R_alloc | apply Kd.R_drewN | apply Kd.R_drew)); exact (Kd.R_mono (Kd.R_far (p := ⟨gb482, 4, none⟩) (Kd.R_far (p := ⟨gb482, 3, none⟩) (Kd.R_far (p := ⟨gb482, 2, none⟩) (Kd.R_far (p := ⟨gb482, 1, none⟩) (Kd.R_far (p := ⟨gb482, 0, none⟩) (Kd.R_mono HO465.out (fun k_ hk => (⟨hk, hk.2⟩ : _ ∧ k_ ≠ gb482))) (fun _ hk => hk.2) (.int .u64 t476)) (fun _ hk => hk.2) (.int .u64 t477)) (fun _ hk => hk.2) (.int .u64 t478)) (fun _ hk => hk.2) (.int .u64 t479)) (fun _ hk => hk.2) (.int .i64 t480)) (fun _ h_ => h_.1))) : P := h
theorem u10_15 {P : Prop} (h : P := by repeat (first | (with_reducible first | exact HB.out | apply below_alloc | apply pw_below_drewN | apply below_drew1 | refine below_set ?_ GE462.out | refine below_set ?_ GE467.out | refine below_set ?_ GE474.out | refine below_set ?_ GE482.out) | exact HB.out)) : P := h
theorem u10_16 {P : Prop} (h : P := by (with_reducible repeat (first | refine blk_drewN ?_ _ | refine blk_drew ?_ | refine blk_alloc ?_ _)); exact BK423.out) : P := h
theorem u10_17 {P : Prop} (h : P := by (with_reducible repeat (first | refine blk_drewN ?_ _ | refine blk_drew ?_ | refine blk_alloc ?_ _)); exact BK474.out) : P := h
theorem u10_18 {P : Prop} (h : P := by repeat (first | (with_reducible first | exact HB.out | apply below_alloc | apply pw_below_drewN | apply below_drew1 | refine below_set ?_ (IsS83.ge HI427.out) | refine below_set ?_ GE423.out | refine below_set ?_ GE433.out) | exact HB.out)) : P := h
theorem u10_19 {P : Prop} (h : P := by (with_reducible repeat (first | apply Kd.R_alloc | apply Kd.R_drewN | apply Kd.R_drew)); exact HO457.out) : P := h
theorem u10_20 {P : Prop} (h : P := by repeat (first | (with_reducible first | exact HB.out | apply below_alloc | apply pw_below_drewN | apply below_drew1 | refine below_set ?_ (IsS83.ge HI427.out) | refine below_set ?_ GE423.out) | exact HB.out)) : P := h
theorem u10_21 {P : Prop} (h : P := by (with_reducible repeat (first | refine blk_drewN ?_ _ | refine blk_drew ?_ | refine blk_alloc ?_ _)); refine blk_far ?_ NB462_474.out _; (with_reducible repeat (first | refine blk_drewN ?_ _ | refine blk_drew ?_ | refine blk_alloc ?_ _)); refine blk_far ?_ NB462_474.out _; (with_reducible repeat (first | refine blk_drewN ?_ _ | refine blk_drew ?_ | refine blk_alloc ?_ _)); refine blk_far ?_ NB462_474.out _; (with_reducible repeat (first | refine blk_drewN ?_ _ | refine blk_drew ?_ | refine blk_alloc ?_ _)); refine blk_far ?_ NB462_474.out _; (with_reducible repeat (first | refine blk_drewN ?_ _ | refine blk_drew ?_ | refine blk_alloc ?_ _)); refine blk_far ?_ NB462_474.out _; (with_reducible repeat (first | refine blk_drewN ?_ _ | refine blk_drew ?_ | refine blk_alloc ?_ _)); exact BK462.out) : P := h
theorem u10_22 {P : Prop} (h : P := by (with_reducible repeat (first | refine blk_drewN ?_ _ | refine blk_drew ?_ | refine blk_alloc ?_ _)); refine blk_far ?_ NB467_474.out _; (with_reducible repeat (first | refine blk_drewN ?_ _ | refine blk_drew ?_ | refine blk_alloc ?_ _)); refine blk_far ?_ NB467_474.out _; (with_reducible repeat (first | refine blk_drewN ?_ _ | refine blk_drew ?_ | refine blk_alloc ?_ _)); refine blk_far ?_ NB467_474.out _; (with_reducible repeat (first | refine blk_drewN ?_ _ | refine blk_drew ?_ | refine blk_alloc ?_ _)); refine blk_far ?_ NB467_474.out _; (with_reducible repeat (first | refine blk_drewN ?_ _ | refine blk_drew ?_ | refine blk_alloc ?_ _)); refine blk_far ?_ NB467_474.out _; (with_reducible repeat (first | refine blk_drewN ?_ _ | refine blk_drew ?_ | refine blk_alloc ?_ _)); exact BK467.out) : P := h
theorem u10_23 {P : Prop} (h : P := by (with_reducible repeat (first | refine blk_drewN ?_ _ | refine blk_drew ?_ | refine blk_alloc ?_ _)); refine blk_far ?_ NB474_482.out _; (with_reducible repeat (first | refine blk_drewN ?_ _ | refine blk_drew ?_ | refine blk_alloc ?_ _)); refine blk_far ?_ NB474_482.out _; (with_reducible repeat (first | refine blk_drewN ?_ _ | refine blk_drew ?_ | refine blk_alloc ?_ _)); refine blk_far ?_ NB474_482.out _; (with_reducible repeat (first | refine blk_drewN ?_ _ | refine blk_drew ?_ | refine blk_alloc ?_ _)); refine blk_far ?_ NB474_482.out _; (with_reducible repeat (first | refine blk_drewN ?_ _ | refine blk_drew ?_ | refine blk_alloc ?_ _)); refine blk_far ?_ NB474_482.out _; (with_reducible repeat (first | refine blk_drewN ?_ _ | refine blk_drew ?_ | refine blk_alloc ?_ _)); exact BK474.out) : P := h
theorem u10_24 {P : Prop} (h : P := by repeat (first | (with_reducible first | exact HB.out | apply below_alloc | apply pw_below_drewN | apply below_drew1 | refine below_set ?_ GE450.out | refine below_set ?_ GE451.out) | exact HB.out)) : P := h
theorem u10_25 {P : Prop} (h : P := by repeat (first | (with_reducible first | exact HI427.out | apply IsS83.alloc | apply IsS83.drewN | apply IsS83.drew | apply IsS83.set_1 | apply IsS83.set_2 | refine IsS83.far ?_ NB427_423.out _ | refine IsS83.far ?_ NB427_433.out _) | exact HI427.out)) : P := h
theorem u10_26 {P : Prop} (h : P := by (with_reducible repeat (first | apply Kd.R_alloc | apply Kd.R_drewN | apply Kd.R_drew)); exact HO465.out) : P := h
theorem u10_27 {P : Prop} (h : P := by (with_reducible repeat (first | refine blk_drewN ?_ _ | refine blk_drew ?_ | refine blk_alloc ?_ _)); exact BK482.out) : P := h
theorem u10_28 {P : Prop} (h : P := by repeat (first | (with_reducible first | exact HB.out | apply below_alloc | apply pw_below_drewN | apply below_drew1 | refine below_set ?_ GE462.out | refine below_set ?_ GE467.out | refine below_set ?_ GE474.out | refine below_set ?_ GE482.out | refine below_set ?_ GE487.out | refine below_set ?_ GE492.out) | exact HB.out)) : P := h
theorem u10_29 {P : Prop} (h : P := by repeat (first | (with_reducible first | exact HB.out | apply below_alloc | apply pw_below_drewN | apply below_drew1 | refine below_set ?_ GE446.out | refine below_set ?_ GE447.out) | exact HB.out)) : P := h
theorem u10_30 {P : Prop} (h : P := by (with_reducible repeat (first | apply Kd.R_alloc | apply Kd.R_drewN | apply Kd.R_drew)); exact (Kd.R_mono (Kd.R_far (p := ⟨gb482, 4, none⟩) (Kd.R_far (p := ⟨gb482, 3, none⟩) (Kd.R_far (p := ⟨gb482, 2, none⟩) (Kd.R_far (p := ⟨gb482, 1, none⟩) (Kd.R_far (p := ⟨gb482, 0, none⟩) (Kd.R_mono HO457.out (fun k_ hk => (⟨hk, hk.2⟩ : _ ∧ k_ ≠ gb482))) (fun _ hk => hk.2) (.int .u64 t476)) (fun _ hk => hk.2) (.int .u64 t477)) (fun _ hk => hk.2) (.int .u64 t478)) (fun _ hk => hk.2) (.int .u64 t479)) (fun _ hk => hk.2) (.int .i64 t480)) (fun _ h_ => h_.1))) : P := h
theorem u10_31 {P : Prop} (h : P := by (with_reducible repeat (first | apply Kd.R_alloc | apply Kd.R_drewN | apply Kd.R_drew)); exact (Kd.R_mono (Kd.R_far (p := ⟨gb462, 0, none⟩) (Kd.R_types HO457.out BK462.out (by decide)) (fun _ hk => hk.2) (.slice Ao73 t455.length co73)) (fun _ h_ => h_.1))) : P := h
theorem u10_32 {P : Prop} (h : P := by (with_reducible repeat (first | apply Kd.R_alloc | apply Kd.R_drewN | apply Kd.R_drew)); exact (Kd.R_mono (Kd.R_far (p := ⟨gb462, 0, none⟩) (Kd.R_types HO457.out BK462.out (by decide)) (fun _ hk => hk.2) (.slice Ao22 t455.length co22)) (fun _ h_ => h_.1))) : P := h
theorem u10_33 {P : Prop} (h : P := by (with_reducible repeat (first | apply Kd.R_alloc | apply Kd.R_drewN | apply Kd.R_drew)); exact (Kd.R_mono (Kd.R_far (p := ⟨gb487, 0, none⟩) (Kd.R_types HO465.out BK487.out (by decide)) (fun _ hk => hk.2) (.slice Ao45 t483.length co45)) (fun _ h_ => h_.1))) : P := h
theorem u10_34 {P : Prop} (h : P := by (with_reducible repeat (first | refine blk_drewN ?_ _ | refine blk_drew ?_ | refine blk_alloc ?_ _)); exact BK446.out) : P := h
theorem u10_35 {P : Prop} (h : P := by (with_reducible repeat (first | refine blk_drewN ?_ _ | refine blk_drew ?_ | refine blk_alloc ?_ _)); exact BK487.out) : P := h
theorem u10_36 {P : Prop} (h : P := by repeat (first | exact (Kd.C_below HR0.out HB.out) | (with_reducible refine Kd.C_alloc ?_ _) | (with_reducible refine Kd.C_drewN ?_ _) | (with_reducible refine Kd.C_drew ?_))) : P := h
theorem u10_37 {P : Prop} (h : P := by repeat (first | (with_reducible first | exact HB.out | apply below_alloc | apply pw_below_drewN | apply below_drew1 | refine below_set ?_ GE446.out) | exact HB.out)) : P := h
theorem u10_38 {P : Prop} (h : P := by first | (with_reducible assumption) | assumption) : P := h
theorem u10_39 {P : Prop} (h : P := by (with_reducible repeat (first | apply Kd.R_alloc | apply Kd.R_drewN | apply Kd.R_drew)); exact HO430.out) : P := h
theorem u10_40 {P : Prop} (h : P := by (with_reducible repeat (first | refine blk_drewN ?_ _ | refine blk_drew ?_ | refine blk_alloc ?_ _)); refine blk_put (cs := #[.slice none 0 0]) ?_ 0 _ rfl; (with_reducible repeat (first | refine blk_drewN ?_ _ | refine blk_drew ?_ | refine blk_alloc ?_ _)); exact BK462.out) : P := h
theorem u10_41 {P : Prop} (h : P := by (with_reducible repeat (first | refine blk_drewN ?_ _ | refine blk_drew ?_ | refine blk_alloc ?_ _)); refine blk_put (cs := #[.slice none 0 0]) ?_ 0 _ rfl; (with_reducible repeat (first | refine blk_drewN ?_ _ | refine blk_drew ?_ | refine blk_alloc ?_ _)); exact BK467.out) : P := h
theorem u10_42 {P : Prop} (h : P := by (with_reducible repeat (first | apply Kd.R_alloc | apply Kd.R_drewN | apply Kd.R_drew)); exact (Kd.R_mono (Kd.R_far (p := ⟨gb467, 0, none⟩) (Kd.R_types HO457.out BK467.out (by decide)) (fun _ hk => hk.2) (.slice Ao77 t463.length co77)) (fun _ h_ => h_.1))) : P := h
theorem u10_43 {P : Prop} (h : P := by (with_reducible repeat (first | apply Kd.R_alloc | apply Kd.R_drewN | apply Kd.R_drew)); exact (Kd.R_mono (Kd.R_far (p := ⟨gb467, 0, none⟩) (Kd.R_types HO457.out BK467.out (by decide)) (fun _ hk => hk.2) (.slice Ao26 t463.length co26)) (fun _ h_ => h_.1))) : P := h
theorem u10_44 {P : Prop} (h : P := by (with_reducible repeat (first | apply Kd.R_alloc | apply Kd.R_drewN | apply Kd.R_drew)); exact (Kd.R_mono (Kd.R_far (p := ⟨gb487, 0, none⟩) (Kd.R_types HO457.out BK487.out (by decide)) (fun _ hk => hk.2) (.slice Ao45 t483.length co45)) (fun _ h_ => h_.1))) : P := h
theorem u10_45 {P : Prop} (h : P := by (with_reducible repeat (first | apply Kd.R_alloc | apply Kd.R_drewN | apply Kd.R_drew)); exact (Kd.R_mono (Kd.R_far (p := ⟨gb487, 0, none⟩) (Kd.R_types HO485.out BK487.out (by decide)) (fun _ hk => hk.2) (.slice Ao45 t483.length co45)) (fun _ h_ => h_.1))) : P := h
theorem u10_46 {P : Prop} (h : P := by (with_reducible repeat (first | apply Kd.R_alloc | apply Kd.R_drewN | apply Kd.R_drew)); exact (Kd.R_mono (Kd.R_far (p := ⟨gb492, 0, none⟩) (Kd.R_types HO490.out BK492.out (by decide)) (fun _ hk => hk.2) (.slice Ao54 t488.length co54)) (fun _ h_ => h_.1))) : P := h
theorem u10_47 {P : Prop} (h : P := by (with_reducible repeat (first | apply Kd.R_alloc | apply Kd.R_drewN | apply Kd.R_drew)); exact (Kd.R_mono (Kd.R_far (p := ⟨gb492, 0, none⟩) (Kd.R_types HO457.out BK492.out (by decide)) (fun _ hk => hk.2) (.slice Ao54 t488.length co54)) (fun _ h_ => h_.1))) : P := h
theorem u10_48 {P : Prop} (h : P := by (with_reducible repeat (first | refine blk_drewN ?_ _ | refine blk_drew ?_ | refine blk_alloc ?_ _)); refine blk_far ?_ NB462_467.out _; (with_reducible repeat (first | refine blk_drewN ?_ _ | refine blk_drew ?_ | refine blk_alloc ?_ _)); exact BK462.out) : P := h
theorem u10_49 {P : Prop} (h : P := by (with_reducible repeat (first | refine blk_drewN ?_ _ | refine blk_drew ?_ | refine blk_alloc ?_ _)); refine blk_far ?_ NB474_487.out _; (with_reducible repeat (first | refine blk_drewN ?_ _ | refine blk_drew ?_ | refine blk_alloc ?_ _)); exact BK474.out) : P := h
theorem u10_50 {P : Prop} (h : P := by (with_reducible repeat (first | refine blk_drewN ?_ _ | refine blk_drew ?_ | refine blk_alloc ?_ _)); refine blk_far ?_ NB482_487.out _; (with_reducible repeat (first | refine blk_drewN ?_ _ | refine blk_drew ?_ | refine blk_alloc ?_ _)); exact BK482.out) : P := h
theorem u10_51 {P : Prop} (h : P := by (with_reducible repeat (first | refine blk_drewN ?_ _ | refine blk_drew ?_ | refine blk_alloc ?_ _)); exact BK433.out) : P := h
theorem u10_52 {P : Prop} (h : P := by repeat (first | (with_reducible first | exact HI427.out | apply IsS83.alloc | apply IsS83.drewN | apply IsS83.drew | apply IsS83.set_1 | apply IsS83.set_2 | refine IsS83.far ?_ NB427_423.out _) | exact HI427.out)) : P := h
theorem u10_53 {P : Prop} (h : P := by (with_reducible repeat (first | apply Kd.R_alloc | apply Kd.R_drewN | apply Kd.R_drew)); exact HO485.out) : P := h
theorem u10_54 {P : Prop} (h : P := by first | rfl | (simp; done) | (simp [*]; done)) : P := h
theorem u10_55 {P : Prop} (h : P := by (with_reducible repeat (first | refine blk_drewN ?_ _ | refine blk_drew ?_ | refine blk_alloc ?_ _)); exact BK447.out) : P := h
theorem u10_56 {P : Prop} (h : P := by (with_reducible repeat (first | refine blk_drewN ?_ _ | refine blk_drew ?_ | refine blk_alloc ?_ _)); exact BK451.out) : P := h
theorem u10_57 {P : Prop} (h : P := by (with_reducible repeat (first | apply Kd.R_alloc | apply Kd.R_drewN | apply Kd.R_drew)); exact HO490.out) : P := h
/-! ### spec_DrawRightBook: function 45 -/
def spec_DrawRightBook.f (k : Nat) (l0 : List Int) : Option ((List (S53)) × Int × Int × Int × Int) := (spec_l01New.f k l0).bind fun bt424 => ((spec_l10DrawRight.f k bt424.1 bt424.2.1 bt424.2.2 l0).bind fun bt428 => ((spec_l10DrawId.f bt424.1 bt428.2.1 bt428.2.2).bind fun bt434 => ((spec_l10DrawId.f bt424.1 bt434.2.1 bt434.2.2).bind fun bt437 => ((spec_l10DrawAmount.f k bt424.1 bt437.2.1 bt437.2.2).bind fun bt440 => ((spec_l01Below.f bt424.1 bt440.2.1 bt440.2.2 4).bind fun bt443 => (some (bt428.1, bt434.1, bt437.1, bt440.1, wrap64 (1 + bt443.1))))))))
theorem spec_DrawRightBook.mono : ∀ a0 k, LeO (spec_DrawRightBook.f k a0) (spec_DrawRightBook.f (k + 1) a0) := by
  intro a0 k
  unfold spec_DrawRightBook.f
  repeat' first
      | (with_reducible exact spec_l01New.mono _ _)
      | (with_reducible exact spec_l10DrawAmount.mono _ _ _ _)
      | (with_reducible exact spec_l10DrawRight.mono _ _ _ _ _)
      | (with_reducible exact LeO.refl _)
      | (with_reducible exact LeO.none _)
      | (with_reducible refine LeO.ite ?_ ?_)
      | (with_reducible refine LeO.bind ?_ (fun _ => ?_))
      | exact spec_l01New.mono _ _
      | exact spec_l10DrawAmount.mono _ _ _ _
      | exact spec_l10DrawRight.mono _ _ _ _ _
      | exact LeO.none _
      | refine LeO.ite ?_ ?_
      | refine LeO.bind ?_ (fun _ => ?_)
def spec_DrawRightBook.T6 : Bool × List (List Nat × List Nat) := (true, [([], []), ([], []), ([], []), ([], []), ([], []), ([4], [4]), ([5], [5]), ([0, 5, 0], [0]), ([1, 7, 0, 1, 7], [1]), ([2, 8, 0, 1, 2, 7, 8], [2]), ([3, 9, 0, 1, 2, 3, 7, 8, 9], [3]), ([6, 10, 0, 1, 2, 3, 4, 5, 6, 7, 8, 9, 10], [6])])
def spec_DrawRightBook.B6 : List Nat := [0, 0, 0, 0, 0, 16, 48, 49, 179, 439, 959, 2047]
theorem spec_DrawRightBook.tab6 : rtab .any (opsOf Try.f45 6) = spec_DrawRightBook.T6 := by kernel_rfl
theorem spec_DrawRightBook.bits6 : waitsOk spec_DrawRightBook.T6.2 spec_DrawRightBook.B6 = true := by kernel_rfl
set_option maxHeartbeats 8000000 in
set_option maxRecDepth 100000 in
theorem spec_DrawRightBook.calls (k : Nat) (A0 : Option Addr) (c0 : Nat) (l0 : List Int) (r1 : List (S53)) (r2 : Int) (r3 : Int) (r4 : Int) (r5 : Int) (w : World) (hr0 : Kd.C (Kd.int .u8) w A0 l0.length l0) (hc0 : l0.length ≤ c0) (h : spec_DrawRightBook.f k l0 = some (r1, r2, r3, r4, r5)) :
    Calls Try.prog 45 #[.slice A0 l0.length c0] w fun e w' => ∃ v0_ : Value, e = .returned (.tuple #[.agg #[v0_], .int .u64 r2, .int .u64 r3, .int .u64 r4, .int .i64 r5]) ∧ Kd.R k53 53 w' w.heap.size (fun _ => True) v0_ r1 ∧ Below w.heap.size w w' := by
  have hu29 := Try.underlying29
  have HR0 := Aside0.mk hr0
  have HC0 := Aside0.mk hc0
  clear hr0 hc0
  have HB := Aside0.mk (Below.refl w.heap.size w)
  have H : ((spec_l01New.f k l0).bind fun bt424 => ((spec_l10DrawRight.f k bt424.1 bt424.2.1 bt424.2.2 l0).bind fun bt428 => ((spec_l10DrawId.f bt424.1 bt428.2.1 bt428.2.2).bind fun bt434 => ((spec_l10DrawId.f bt424.1 bt434.2.1 bt434.2.2).bind fun bt437 => ((spec_l10DrawAmount.f k bt424.1 bt437.2.1 bt437.2.2).bind fun bt440 => ((spec_l01Below.f bt424.1 bt440.2.1 bt440.2.2 4).bind fun bt443 => (some (bt428.1, bt434.1, bt437.1, bt440.1, wrap64 (1 + bt443.1))))))))) = some (r1, r2, r3, r4, r5) := h
  clear h
  replace H := Option.bind_eq_some_iff.mp H
  obtain ⟨⟨t424, t425, t426⟩, A20, H⟩ := H
  (try dsimp only at H)
  have A2 := Aside0.mk A20
  clear A20
  replace H := Option.bind_eq_some_iff.mp H
  obtain ⟨⟨t428, t431, t432⟩, A30, H⟩ := H
  (try dsimp only at H)
  have A3 := Aside0.mk A30
  clear A30
  replace H := Option.bind_eq_some_iff.mp H
  obtain ⟨⟨t434, t435, t436⟩, A40, H⟩ := H
  (try dsimp only at H)
  have A4 := Aside0.mk A40
  clear A40
  replace H := Option.bind_eq_some_iff.mp H
  obtain ⟨⟨t437, t438, t439⟩, A50, H⟩ := H
  (try dsimp only at H)
  have A5 := Aside0.mk A50
  clear A50
  replace H := Option.bind_eq_some_iff.mp H
  obtain ⟨⟨t440, t441, t442⟩, A60, H⟩ := H
  (try dsimp only at H)
  have A6 := Aside0.mk A60
  clear A60
  replace H := Option.bind_eq_some_iff.mp H
  obtain ⟨⟨t443, t444, t445⟩, A70, H⟩ := H
  replace H : (some (t428, t434, t437, t440, wrap64 (1 + t443))) = some (r1, r2, r3, r4, r5) := H
  have A7 := Aside0.mk A70
  clear A70
  simp only [Option.some.injEq, Prod.mk.injEq] at H
  obtain ⟨rfl, rfl, rfl, rfl, rfl⟩ := H
  go_enter Try.func45, Try.ntmps45
  try go_wp2_with (first | ((with_reducible refine gate_dst (N := 2) rfl ?_); refine box_event ?hg (N := 2) ?hd (cs := #[.slice none 0 0]) (t := 29) ?hr ?_; (case hd => rfl); (case hg => rfl); (case hr => first | (go_simp; done) | (go_simp; rfl)); intro gb423 hg w8 hbox hb; have n0_ := Aside0.mk (below_step u10_0 hb); have n1_ := Aside0.mk (hbox); have n2_ := Aside0.mk ((by rw [hg]; exact (below_size u10_0) : w.heap.size ≤ gb423)); have n3_ := Aside0.mk ((by rw [hg]; exact (below_size u10_0) : w.heap.size ≤ gb423)); clear HB; have HB := n0_; have BK423 := n1_; have GW423 := n2_; have GE423 := n3_; clear n0_ n1_ n2_ n3_; clear hb hbox hg) | ((with_reducible refine gate_callee (f := 70) rfl ?_); refine goesL_ (some 13) rfl rfl Try.func70 (by kernel_rfl) rfl #[.slice A0 l0.length c0] rfl u10_2 ?_; (with_reducible refine (spec_l01New.calls k _ _ l0 t424 t425 t426 w _ ?side1 ?side2 ?side3 A2.out).mono ?_); (case side1 => exact (by repeat (first | (with_reducible first | exact HB.out | apply below_alloc | apply pw_below_drewN | apply below_drew1 | refine below_set ?_ GE423.out) | exact HB.out))); (case side2 => exact HR0.out); (case side3 => exact HC0.out); rintro e w9 ⟨g427, rfl, hi, hb, hb2⟩; refine ⟨_, rfl, ?_⟩; have n0_ := Aside0.mk (blk_below (g := gb423) (o := .cells #[.slice none 0 0] 29 (0, 0)) u10_16 hb2); have n1_ := Aside0.mk (hb); have n2_ := Aside0.mk (hi); have n3_ := Aside0.mk (IsS83.ne_blk hi (blk_below (g := gb423) (o := .cells #[.slice none 0 0] 29 (0, 0)) u10_16 hb2) (by decide)); have n4_ := Aside0.mk (Ne.symm (IsS83.ne_blk hi (blk_below (g := gb423) (o := .cells #[.slice none 0 0] 29 (0, 0)) u10_16 hb2) (by decide))); clear BK423; clear HB; have BK423 := n0_; have HB := n1_; have HI427 := n2_; have NB427_423 := n3_; have NB423_427 := n4_; clear n0_ n1_ n2_ n3_ n4_; (try clear hb); (try clear hb2); (try clear hk); (try clear hi)) | ((with_reducible refine gate_callee (f := 71) rfl ?_); refine goesL_ (some 16) rfl rfl Try.func71 (by kernel_rfl) rfl #[.pointer (some ⟨g427, 0, none⟩), .slice A0 l0.length c0] rfl u10_2 ?_; (with_reducible refine (spec_l10DrawRight.calls k g427 t424 t425 t426 _ _ l0 t428 t431 t432 w _ ?side1 ?side2 ?side3 ?side4 ?side5 A3.out).mono ?_); (case side1 => exact u10_52); (case side2 => exact u10_20); (case side3 => exact u10_36); (case side4 => exact HC0.out); (case side5 => exact Kd.far_C 0 HR0.out (IsS83.ge HI427.out)); rintro e w10 ⟨v429, rfl, ho0, hi, hb, hk⟩; refine ⟨_, rfl, ?_⟩; have n0_ := Aside0.mk (KeepBut.blk hk (g' := gb423) (o := .cells #[.slice none 0 0] 29 (0, 0)) u10_16 NB423_427.out (by simp)); have n1_ := Aside0.mk (Kd.R_lower ho0 (below_size u10_20)); have n2_ := Aside0.mk (hb); have n3_ := Aside0.mk (hi); clear BK423; clear HB; clear HI427; have BK423 := n0_; have HO430 := n1_; have HB := n2_; have HI427 := n3_; clear n0_ n1_ n2_ n3_; (try clear hb); (try clear hb2); (try clear hk); (try clear hi); (try clear ho0)) | ((with_reducible refine gate_dst (N := 8) rfl ?_); refine box_event ?hg (N := 8) ?hd (cs := #[.slice none 0 0]) (t := 29) ?hr ?_; (case hd => rfl); (case hg => rfl); (case hr => first | (go_simp; done) | (go_simp; rfl)); intro gb433 hg w11 hbox hb; have n0_ := Aside0.mk (Kd.R_below u10_39 hb); have n1_ := Aside0.mk (blk_below (g := gb423) (o := .cells #[.slice none 0 0] 29 (0, 0)) u10_16 hb); have n2_ := Aside0.mk (IsS83.below u10_52 hb); have n3_ := Aside0.mk (below_step u10_20 hb); have n4_ := Aside0.mk (hbox); have n5_ := Aside0.mk ((by rw [hg]; exact (below_size u10_20) : w.heap.size ≤ gb433)); have n6_ := Aside0.mk ((by rw [hg]; exact (below_size u10_20) : w.heap.size ≤ gb433)); have n7_ := Aside0.mk ((by rw [hg]; exact Nat.ne_of_lt (blk_lt (g := gb423) (o := .cells #[.slice none 0 0] 29 (0, 0)) u10_16) : gb423 ≠ gb433)); have n8_ := Aside0.mk ((by rw [hg]; exact Nat.ne_of_gt (blk_lt (g := gb423) (o := .cells #[.slice none 0 0] 29 (0, 0)) u10_16) : gb433 ≠ gb423)); have n9_ := Aside0.mk ((by rw [hg]; exact Nat.ne_of_lt (IsS83.lt (show IsS83 w _ g427 t424 t431 t432 from by repeat (first | (with_reducible first | exact HI427.out | apply IsS83.alloc | apply IsS83.drewN | apply IsS83.drew | apply IsS83.set_1 | apply IsS83.set_2 | refine IsS83.far ?_ NB427_423.out _) | exact HI427.out))) : g427 ≠ gb433)); have n10_ := Aside0.mk ((by rw [hg]; exact Nat.ne_of_gt (IsS83.lt (show IsS83 w _ g427 t424 t431 t432 from by repeat (first | (with_reducible first | exact HI427.out | apply IsS83.alloc | apply IsS83.drewN | apply IsS83.drew | apply IsS83.set_1 | apply IsS83.set_2 | refine IsS83.far ?_ NB427_423.out _) | exact HI427.out))) : gb433 ≠ g427)); clear HO430; clear BK423; clear HI427; clear HB; have HO430 := n0_; have BK423 := n1_; have HI427 := n2_; have HB := n3_; have BK433 := n4_; have GW433 := n5_; have GE433 := n6_; have NB423_433 := n7_; have NB433_423 := n8_; have NB427_433 := n9_; have NB433_427 := n10_; clear n0_ n1_ n2_ n3_ n4_ n5_ n6_ n7_ n8_ n9_ n10_; clear hb hbox hg; obtain ⟨Ao12, co12, eo12⟩ := Kd.R_slice HO430.out; subst eo12; have hnb13 := NB433_423.out; have hnc13 := NB423_433.out; have hnb14 := NB433_427.out; have hnc14 := NB427_433.out; have hcz15_0 : w11.cell? ⟨gb433, 0, none⟩ = some (.slice none 0 0) := (blk_cell BK433.out 0).trans rfl; have hfz15_0 := blk_frozen BK433.out 0) | ((with_reducible refine gate_callee (f := 72) rfl ?_); refine goesL_ (some 18) rfl rfl Try.func72 (by kernel_rfl) rfl #[.pointer (some ⟨g427, 0, none⟩)] rfl u10_2 ?_; (with_reducible refine (spec_l10DrawId.calls g427 t424 t431 t432 t434 t435 t436 w _ ?side1 ?side2 A4.out).mono ?_); (case side1 => exact u10_25); (case side2 => exact u10_18); rintro e w16 ⟨rfl, hi, hb, hk⟩; refine ⟨_, rfl, ?_⟩; have n0_ := Aside0.mk (KeepBut.blk hk (g' := gb423) (o := .cells #[.slice none 0 0] 29 (0, 0)) (by (with_reducible repeat (first | refine blk_drewN ?_ _ | refine blk_drew ?_ | refine blk_alloc ?_ _)); refine blk_far ?_ NB423_433.out _; (with_reducible repeat (first | refine blk_drewN ?_ _ | refine blk_drew ?_ | refine blk_alloc ?_ _)); exact BK423.out) NB423_427.out (by simp)); have n1_ := Aside0.mk (Kd.R_mono (Kd.R_keep (IsS83.apart (show IsS83 w _ g427 t424 t431 t432 from by repeat (first | (with_reducible first | exact HI427.out | apply IsS83.alloc | apply IsS83.drewN | apply IsS83.drew | apply IsS83.set_1 | apply IsS83.set_2 | refine IsS83.far ?_ NB427_423.out _ | refine IsS83.far ?_ NB427_433.out _) | exact HI427.out)) (by (with_reducible repeat (first | apply Kd.R_alloc | apply Kd.R_drewN | apply Kd.R_drew)); exact (Kd.R_mono (Kd.R_far (p := ⟨gb433, 0, none⟩) (Kd.R_types HO430.out BK433.out (by decide)) (fun _ hk => hk.2) (.slice Ao12 t428.length co12)) (fun _ h_ => h_.1))) (by decide)) hk (fun _ h => h.2)) (fun _ h => h.1)); have n2_ := Aside0.mk (KeepBut.blk hk (g' := gb433) (o := .cells #[.slice Ao12 t428.length co12] 29 (0, 0)) (by (with_reducible repeat (first | refine blk_drewN ?_ _ | refine blk_drew ?_ | refine blk_alloc ?_ _)); refine blk_put (cs := #[.slice none 0 0]) ?_ 0 _ rfl; (with_reducible repeat (first | refine blk_drewN ?_ _ | refine blk_drew ?_ | refine blk_alloc ?_ _)); exact BK433.out) NB433_427.out (by simp)); have n3_ := Aside0.mk (hb); have n4_ := Aside0.mk (hi); clear BK423; clear HO430; clear BK433; clear HB; clear HI427; have BK423 := n0_; have HO430 := n1_; have BK433 := n2_; have HB := n3_; have HI427 := n4_; clear n0_ n1_ n2_ n3_ n4_; (try clear hb); (try clear hb2); (try clear hk); (try clear hi)) | ((with_reducible refine gate_callee (f := 72) rfl ?_); refine goesL_ (some 20) rfl rfl Try.func72 (by kernel_rfl) rfl #[.pointer (some ⟨g427, 0, none⟩)] rfl u10_2 ?_; (with_reducible refine (spec_l10DrawId.calls g427 t424 t435 t436 t437 t438 t439 w _ ?side1 ?side2 A5.out).mono ?_); (case side1 => exact u10_25); (case side2 => exact u10_18); rintro e w17 ⟨rfl, hi, hb, hk⟩; refine ⟨_, rfl, ?_⟩; have n0_ := Aside0.mk (KeepBut.blk hk (g' := gb423) (o := .cells #[.slice none 0 0] 29 (0, 0)) u10_16 NB423_427.out (by simp)); have n1_ := Aside0.mk (Kd.R_mono (Kd.R_keep (IsS83.apart (show IsS83 w _ g427 t424 t435 t436 from by repeat (first | (with_reducible first | exact HI427.out | apply IsS83.alloc | apply IsS83.drewN | apply IsS83.drew | apply IsS83.set_1 | apply IsS83.set_2 | refine IsS83.far ?_ NB427_423.out _ | refine IsS83.far ?_ NB427_433.out _) | exact HI427.out)) u10_39 (by decide)) hk (fun _ h => h.2)) (fun _ h => h.1)); have n2_ := Aside0.mk (KeepBut.blk hk (g' := gb433) (o := .cells #[.slice Ao12 t428.length co12] 29 (0, 0)) u10_51 NB433_427.out (by simp)); have n3_ := Aside0.mk (hb); have n4_ := Aside0.mk (hi); clear BK423; clear HO430; clear BK433; clear HB; clear HI427; have BK423 := n0_; have HO430 := n1_; have BK433 := n2_; have HB := n3_; have HI427 := n4_; clear n0_ n1_ n2_ n3_ n4_; (try clear hb); (try clear hb2); (try clear hk); (try clear hi)) | ((with_reducible refine gate_callee (f := 73) rfl ?_); refine goesL_ (some 22) rfl rfl Try.func73 (by kernel_rfl) rfl #[.pointer (some ⟨g427, 0, none⟩)] rfl u10_2 ?_; (with_reducible refine (spec_l10DrawAmount.calls k g427 t424 t438 t439 t440 t441 t442 w _ ?side1 ?side2 A6.out).mono ?_); (case side1 => exact u10_25); (case side2 => exact u10_18); rintro e w18 ⟨rfl, hi, hb, hk⟩; refine ⟨_, rfl, ?_⟩; have n0_ := Aside0.mk (KeepBut.blk hk (g' := gb423) (o := .cells #[.slice none 0 0] 29 (0, 0)) u10_16 NB423_427.out (by simp)); have n1_ := Aside0.mk (Kd.R_mono (Kd.R_keep (IsS83.apart (show IsS83 w _ g427 t424 t438 t439 from by repeat (first | (with_reducible first | exact HI427.out | apply IsS83.alloc | apply IsS83.drewN | apply IsS83.drew | apply IsS83.set_1 | apply IsS83.set_2 | refine IsS83.far ?_ NB427_423.out _ | refine IsS83.far ?_ NB427_433.out _) | exact HI427.out)) u10_39 (by decide)) hk (fun _ h => h.2)) (fun _ h => h.1)); have n2_ := Aside0.mk (KeepBut.blk hk (g' := gb433) (o := .cells #[.slice Ao12 t428.length co12] 29 (0, 0)) u10_51 NB433_427.out (by simp)); have n3_ := Aside0.mk (hb); have n4_ := Aside0.mk (hi); clear BK423; clear HO430; clear BK433; clear HB; clear HI427; have BK423 := n0_; have HO430 := n1_; have BK433 := n2_; have HB := n3_; have HI427 := n4_; clear n0_ n1_ n2_ n3_ n4_; (try clear hb); (try clear hb2); (try clear hk); (try clear hi)))
  have n0_ := Aside0.mk (Kd.R_drew HO430.out)
  have n1_ := Aside0.mk (blk_drew BK423.out)
  have n2_ := Aside0.mk (blk_drew BK433.out)
  have n3_ := Aside0.mk (IsS83.drew HI427.out)
  have n4_ := Aside0.mk (below_drew1 HB.out)
  clear HO430
  clear BK423
  clear BK433
  clear HI427
  clear HB
  have HO430 := n0_
  have BK423 := n1_
  have BK433 := n2_
  have HI427 := n3_
  have HB := n4_
  clear n0_ n1_ n2_ n3_ n4_
  refine start_ (n := 12) (S := fun w' => w'.cell? ⟨gb433, 0, none⟩ = some (.slice Ao12 t428.length co12)) (ds := []) #[false, false, false, false, false, false, false, false, false, false, false, false] (by kernel_rfl) rfl rfl ((blk_cell BK433.out 0).trans rfl) (fun hHeld => ?_); refine with_tabW spec_DrawRightBook.tab6 spec_DrawRightBook.bits6 (fun HT_ HW_ => ?_)
  generalize w18.drew = w19 at HO430 BK423 BK433 HI427 HB hHeld ⊢
  refine pure_ (i := 1) (N := some 24) (v := ?_) (a' := ?_) #[false, true, false, false, false, false, false, false, false, false, false, false] rfl rfl (any_of HT_.out (by kernel_rfl)) (fun _ _ _ h => h) (Or.inl ⟨by rfl, ?_⟩) ?_ ?_
  rotate_left
  · intro w'
    go_simp
    with_reducible rfl
  rotate_left
  · simp only [Act.put, List.setIfInBounds_toArray, List.set_cons_zero, List.set_cons_succ, i64_w, i32_w]
    rfl
  refine pure_ (i := 2) (N := some 25) (v := ?_) (a' := ?_) #[false, true, true, false, false, false, false, false, false, false, false, false] rfl rfl (any_of HT_.out (by kernel_rfl)) (fun _ _ _ h => h) (Or.inl ⟨by rfl, ?_⟩) ?_ ?_
  rotate_left
  · intro w'
    go_simp
    with_reducible rfl
  rotate_left
  · simp only [Act.put, List.setIfInBounds_toArray, List.set_cons_zero, List.set_cons_succ, i64_w, i32_w]
    rfl
  refine pure_ (i := 3) (N := some 26) (v := ?_) (a' := ?_) #[false, true, true, true, false, false, false, false, false, false, false, false] rfl rfl (any_of HT_.out (by kernel_rfl)) (fun _ _ _ h => h) (Or.inl ⟨by rfl, ?_⟩) ?_ ?_
  rotate_left
  · intro w'
    go_simp
    with_reducible rfl
  rotate_left
  · simp only [Act.put, List.setIfInBounds_toArray, List.set_cons_zero, List.set_cons_succ, i64_w, i32_w]
    rfl
  refine pure_ (i := 4) (N := some 27) (v := ?_) (a' := ?_) #[false, true, true, true, true, false, false, false, false, false, false, false] rfl rfl (any_of HT_.out (by kernel_rfl)) (fun _ _ _ h => h) (Or.inl ⟨by rfl, ?_⟩) ?_ ?_
  rotate_left
  · intro w'
    go_simp
    with_reducible rfl
  rotate_left
  · simp only [Act.put, List.setIfInBounds_toArray, List.set_cons_zero, List.set_cons_succ, i64_w, i32_w]
    rfl
  refine take_ (i := 0) (N := some 23) (v := ?_) (a' := ?_) #[true, true, true, true, true, false, false, false, false, false, false, false] rfl rfl (take_ofW HT_.out HW_.out (by kernel_rfl)) (fun _ _ _ h => h) (Or.inl ⟨by rfl, ?_⟩) hHeld ?_ ?_
  rotate_left
  · intro w' s0
    go_simp
    with_reducible rfl
  rotate_left
  · simp only [Act.put, List.setIfInBounds_toArray, List.set_cons_zero, List.set_cons_succ, i64_w, i32_w]
    rfl
  refine one_ (i := 5) (N := some 28) #[true, true, true, true, true, true, false, false, false, false, false, false] rfl rfl (one_of HT_.out (by kernel_rfl)) (by decide) (fun K hK => ?_)
  refine goes_ Try.func74 (by kernel_rfl) rfl #[.pointer (some ⟨g427, 0, none⟩), .int .i64 4] (by rfl) rfl rfl u10_2 ?_
  with_reducible refine (spec_l01Below.calls g427 t424 t441 t442 4 t443 t444 t445 w _ ?side1 ?side2 A7.out).mono ?_
  (case side1 => exact u10_25)
  (case side2 => exact u10_18)
  rintro e w20 ⟨rfl, hi, hb, hk⟩
  refine ⟨_, rfl, ?_⟩
  have n0_ := Aside0.mk (KeepBut.blk hk (g' := gb423) (o := .cells #[.slice none 0 0] 29 (0, 0)) u10_16 NB423_427.out (by simp))
  have n1_ := Aside0.mk (Kd.R_mono (Kd.R_keep (IsS83.apart (show IsS83 w _ g427 t424 t441 t442 from by repeat (first | (with_reducible first | exact HI427.out | apply IsS83.alloc | apply IsS83.drewN | apply IsS83.drew | apply IsS83.set_1 | apply IsS83.set_2 | refine IsS83.far ?_ NB427_423.out _ | refine IsS83.far ?_ NB427_433.out _) | exact HI427.out)) u10_39 (by decide)) hk (fun _ h => h.2)) (fun _ h => h.1))
  have n2_ := Aside0.mk (KeepBut.blk hk (g' := gb433) (o := .cells #[.slice Ao12 t428.length co12] 29 (0, 0)) u10_51 NB433_427.out (by simp))
  have n3_ := Aside0.mk (hb)
  have n4_ := Aside0.mk (hi)
  clear BK423
  clear HO430
  clear BK433
  clear HB
  clear HI427
  have BK423 := n0_
  have HO430 := n1_
  have BK433 := n2_
  have HB := n3_
  have HI427 := n4_
  clear n0_ n1_ n2_ n3_ n4_
  (try clear hb)
  (try clear hb2)
  (try clear hk)
  (try clear hi)
  refine hK.out _ _ ((blk_cell BK433.out 0).trans rfl) (fun hHeld => ?_)
  clear hK K
  refine norm_ (a' := ?_) ?_ ?_
  rotate_left
  · show Act.put _ (some 28) _ = _
    simp only [Act.put, List.setIfInBounds_toArray, List.set_cons_zero, List.set_cons_succ, i64_w, i32_w]
    rfl
  refine pure_ (i := 6) (N := some 29) (v := ?_) (a' := ?_) #[true, true, true, true, true, true, true, false, false, false, false, false] rfl rfl (any_of HT_.out (by kernel_rfl)) (fun _ _ _ h => h) (Or.inl ⟨by rfl, ?_⟩) ?_ ?_
  rotate_left
  · intro w'
    go_simp
    with_reducible rfl
  rotate_left
  · simp only [Act.put, List.setIfInBounds_toArray, List.set_cons_zero, List.set_cons_succ, i64_w, i32_w]
    rfl
  refine one_ (i := 7) (N := none) #[true, true, true, true, true, true, true, true, false, false, false, false] rfl rfl (one_of HT_.out (by kernel_rfl)) (by decide) (fun K hK => ?_)
  have hs21 : w20.cell? ⟨gb423, 0, none⟩ = some (.slice none 0 0) := (blk_cell BK423.out 0).trans rfl
  have hfs21 := blk_frozen BK423.out 0
  have hns21_1 := NB433_423.out
  have hms21_1 := NB423_433.out
  refine skip_ (w1 := ?_) (by rfl) rfl ?_ ?_
  rotate_left
  · go_simp
    rfl
  refine hK.out _ _ (((cell_far (p := ⟨gb423, _, none⟩) NB433_423.out _).trans (hHeld))) (fun hHeld => ?_)
  clear hK K
  refine pure_ (i := 8) (N := some 3) (v := ?_) (a' := ?_) #[true, true, true, true, true, true, true, true, true, false, false, false] rfl rfl (any_of HT_.out (by kernel_rfl)) (fun _ _ _ h => h) (Or.inl ⟨by rfl, ?_⟩) ?_ ?_
  rotate_left
  · intro w'
    go_simp
    with_reducible rfl
  rotate_left
  · simp only [Act.put, List.setIfInBounds_toArray, List.set_cons_zero, List.set_cons_succ, i64_w, i32_w]
    rfl
  refine pure_ (i := 9) (N := some 4) (v := ?_) (a' := ?_) #[true, true, true, true, true, true, true, true, true, true, false, false] rfl rfl (any_of HT_.out (by kernel_rfl)) (fun _ _ _ h => h) (Or.inl ⟨by rfl, ?_⟩) ?_ ?_
  rotate_left
  · intro w'
    go_simp
    with_reducible rfl
  rotate_left
  · simp only [Act.put, List.setIfInBounds_toArray, List.set_cons_zero, List.set_cons_succ, i64_w, i32_w]
    rfl
  refine pure_ (i := 10) (N := some 5) (v := ?_) (a' := ?_) #[true, true, true, true, true, true, true, true, true, true, true, false] rfl rfl (any_of HT_.out (by kernel_rfl)) (fun _ _ _ h => h) (Or.inl ⟨by rfl, ?_⟩) ?_ ?_
  rotate_left
  · intro w'
    go_simp
    with_reducible rfl
  rotate_left
  · simp only [Act.put, List.setIfInBounds_toArray, List.set_cons_zero, List.set_cons_succ, i64_w, i32_w]
    rfl
  refine pure_ (i := 11) (N := some 6) (v := ?_) (a' := ?_) #[true, true, true, true, true, true, true, true, true, true, true, true] rfl rfl (any_of HT_.out (by kernel_rfl)) (fun _ _ _ h => h) (Or.inl ⟨by rfl, ?_⟩) ?_ ?_
  rotate_left
  · intro w'
    go_simp
    with_reducible rfl
  rotate_left
  · simp only [Act.put, List.setIfInBounds_toArray, List.set_cons_zero, List.set_cons_succ, i64_w, i32_w]
    rfl
  refine done_ (done_of HT_.out (by kernel_rfl)) ?_
  try go_wp2
  refine bodyPost_ret (results_list (rs := [.cell 2 29, .tmp 3, .tmp 4, .tmp 5, .tmp 6]) rfl (by simp) (.cell gb423 29 #[.slice Ao12 t428.length co12] (0, 0) _ rfl (by (with_reducible repeat (first | refine blk_drewN ?_ _ | refine blk_drew ?_ | refine blk_alloc ?_ _)); refine blk_put (cs := #[.slice none 0 0]) ?_ 0 _ rfl; (with_reducible repeat (first | refine blk_drewN ?_ _ | refine blk_drew ?_ | refine blk_alloc ?_ _)); exact BK423.out) Try.underlying29 rfl (by kernel_rfl) (.tmp (.tmp (.tmp (.tmp .nil)))))) rfl ?_
  exact ⟨_, by first | rfl | (simp [errW_none, errW_some] <;> rfl) | (simp [*, errW_none, errW_some] <;> rfl), (by (with_reducible repeat (first | apply Kd.R_alloc | apply Kd.R_drewN | apply Kd.R_drew)); exact Kd.R_mono (Kd.R_far (p := ⟨gb423, 0, none⟩) (Kd.R_types HO430.out BK423.out (by decide)) (fun _ hk => hk.2) (.slice Ao12 t428.length co12)) (fun _ hk => trivial)), u10_18⟩

/-! ### laws_find: function 46 -/
def laws_find.l0 : Nat → Int → Int → List (S53) → Option (Int × Int × Int × Int × Int × Bool)
  | 0, _, _, _ => none
  | k + 1, x1, x6, x447000 => if x6 < (x447000.length : Int) then (if 0 ≤ x6 then (if ((rd_T53 x447000 x6).f0) = x1 then (some ((rd_T53 x447000 x6).f0, (rd_T53 x447000 x6).f1, (rd_T53 x447000 x6).f2, (rd_T53 x447000 x6).f3, (rd_T53 x447000 x6).f4, true)) else (laws_find.l0 k x1 (wrap64 (x6 + 1)) x447000)) else (none)) else (some (0, 0, 0, 0, 0, false))
def laws_find.f (k : Nat) (l0_0 : List (S53)) (a1 : Int) : Option (Int × Int × Int × Int × Int × Bool) := laws_find.l0 k a1 0 l0_0
theorem laws_find.mono_l : ∀ k, (∀ y0 y1 y2, LeO (laws_find.l0 k y0 y1 y2) (laws_find.l0 (k + 1) y0 y1 y2))
  | 0 => fun _ _ _ r h => by simp [laws_find.l0] at h
  | k + 1 => by
    have ih0 := laws_find.mono_l k
    · intro y0 y1 y2
      unfold laws_find.l0
      repeat' first
      | (with_reducible exact ih0 _ _ _)
      | (with_reducible exact LeO.refl _)
      | (with_reducible exact LeO.none _)
      | (with_reducible refine LeO.ite ?_ ?_)
      | (with_reducible refine LeO.bind ?_ (fun _ => ?_))
      | exact ih0 _ _ _
      | exact LeO.none _
      | refine LeO.ite ?_ ?_
      | refine LeO.bind ?_ (fun _ => ?_)
theorem laws_find.mono : ∀ a0 a1 k, LeO (laws_find.f k a0 a1) (laws_find.f (k + 1) a0 a1) := by
  intro a0 a1 k
  have ih0 := laws_find.mono_l k
  unfold laws_find.f
  repeat' first
      | (with_reducible exact ih0 _ _ _)
      | (with_reducible exact LeO.refl _)
      | (with_reducible exact LeO.none _)
      | (with_reducible refine LeO.ite ?_ ?_)
      | (with_reducible refine LeO.bind ?_ (fun _ => ?_))
      | exact ih0 _ _ _
      | exact LeO.none _
      | refine LeO.ite ?_ ?_
      | refine LeO.bind ?_ (fun _ => ?_)
set_option maxHeartbeats 8000000 in
set_option maxRecDepth 100000 in
theorem laws_find.calls (k : Nat) (A0_0 : Option Addr) (c0_0 : Nat) (l0_0 : List (S53)) (a1 : Int) (r1 : Int) (r2 : Int) (r3 : Int) (r4 : Int) (r5 : Int) (r6 : Bool) (w : World) (hr0_0 : Kd.C k53 w A0_0 l0_0.length l0_0) (hc0_0 : l0_0.length ≤ c0_0) (h : laws_find.f k l0_0 a1 = some (r1, r2, r3, r4, r5, r6)) :
    Calls Try.prog 46 #[.agg #[.slice A0_0 l0_0.length c0_0], .int .u64 a1] w fun e w' => e = .returned (.tuple #[.agg #[.int .u64 r1, .int .u64 r2, .int .u64 r3, .int .u64 r4, .int .i64 r5], .bool r6]) ∧ Below w.heap.size w w' := by
  have hu29 := Try.underlying29
  have hu53 := Try.underlying53
  have HR0_0 := Aside0.mk hr0_0
  have HC0_0 := Aside0.mk hc0_0
  clear hr0_0 hc0_0
  have HB := Aside0.mk (Below.refl w.heap.size w)
  have H : (laws_find.l0 k a1 0 l0_0) = some (r1, r2, r3, r4, r5, r6) := h
  clear h
  have H' := Aside0.mk H
  clear H
  go_enter Try.func46, Try.ntmps46
  go_wp2_with (first | ((with_reducible refine gate_dst (N := 2) rfl ?_); refine box_event ?hg (N := 2) ?hd (cs := #[.slice A0_0 l0_0.length c0_0]) (t := 29) ?hr ?_; (case hd => rfl); (case hg => rfl); (case hr => first | (go_simp; done) | (go_simp; rfl)); intro gb446 hg w3 hbox hb; have n0_ := Aside0.mk (below_step u10_0 hb); have n1_ := Aside0.mk (hbox); have n2_ := Aside0.mk ((by rw [hg]; exact (below_size u10_0) : w.heap.size ≤ gb446)); have n3_ := Aside0.mk ((by rw [hg]; exact (below_size u10_0) : w.heap.size ≤ gb446)); clear HB; have HB := n0_; have BK446 := n1_; have GW446 := n2_; have GE446 := n3_; clear n0_ n1_ n2_ n3_; clear hb hbox hg) | ((with_reducible refine gate_dst (N := 4) rfl ?_); refine box_event ?hg (N := 4) ?hd (cs := #[.int .u64 0, .int .u64 0, .int .u64 0, .int .u64 0, .int .i64 0]) (t := 53) ?hr ?_; (case hd => rfl); (case hg => rfl); (case hr => first | (go_simp; done) | (go_simp; rfl)); intro gb447 hg w4 hbox hb; have n0_ := Aside0.mk (blk_below (g := gb446) (o := .cells #[.slice A0_0 l0_0.length c0_0] 29 (0, 0)) u10_34 hb); have n1_ := Aside0.mk (below_step u10_37 hb); have n2_ := Aside0.mk (hbox); have n3_ := Aside0.mk ((by rw [hg]; exact (below_size u10_37) : w.heap.size ≤ gb447)); have n4_ := Aside0.mk ((by rw [hg]; exact (below_size u10_37) : w.heap.size ≤ gb447)); have n5_ := Aside0.mk ((by rw [hg]; exact Nat.ne_of_lt (blk_lt (g := gb446) (o := .cells #[.slice A0_0 l0_0.length c0_0] 29 (0, 0)) u10_34) : gb446 ≠ gb447)); have n6_ := Aside0.mk ((by rw [hg]; exact Nat.ne_of_gt (blk_lt (g := gb446) (o := .cells #[.slice A0_0 l0_0.length c0_0] 29 (0, 0)) u10_34) : gb447 ≠ gb446)); clear BK446; clear HB; have BK446 := n0_; have HB := n1_; have BK447 := n2_; have GW447 := n3_; have GE447 := n4_; have NB446_447 := n5_; have NB447_446 := n6_; clear n0_ n1_ n2_ n3_ n4_ n5_ n6_; clear hb hbox hg))
  go_loopg [6] k (fun kq v6 w' => ∃ (x6_1 : Int) (x448000_1 : Int) (x448001_1 : Int) (x448002_1 : Int) (x448003_1 : Int) (x448004_1 : Int), v6 = .int .i64 x6_1 ∧ Aside0 (laws_find.l0 kq a1 x6_1 l0_0 = some (r1, r2, r3, r4, r5, r6)) ∧ Aside0 (kq ≤ k) ∧ Aside0 (w'.heap[gb446]? = some (.cells #[(.slice A0_0 l0_0.length c0_0)] 29 (0, 0))) ∧ Aside0 (w'.heap[gb447]? = some (.cells #[.int .u64 x448000_1, .int .u64 x448001_1, .int .u64 x448002_1, .int .u64 x448003_1, .int .i64 x448004_1] 53 (0, 0))) ∧ Aside0 (Below w.heap.size w w'))
  case atStart => exact ⟨(0), (0), (0), (0), (0), (0), u10_54, H', ⟨Nat.le_refl _⟩, ⟨u10_34⟩, ⟨u10_55⟩, ⟨u10_29⟩⟩
  clear H'
  try clear p2
  try clear c4
  obtain ⟨x6_1, x448000_1, x448001_1, x448002_1, x448003_1, x448004_1, rfl, HA, HK1, BK446, BK447, HB⟩ := hrel
  cases gk with
  | zero => exact absurd HA.out (by simp [laws_find.l0])
  | succ k1 =>
    have H := HA.out
    clear HA
    simp only [laws_find.l0] at H
    by_cases c5 : x6_1 < (l0_0.length : Int)
    rotate_left
    · rw [if_neg c5] at H
      have c5b0 : decide (x6_1 < (l0_0.length : Int)) = false := decide_eq_false c5
      clear c5
      simp only [Option.some.injEq, Prod.mk.injEq] at H
      obtain ⟨rfl, rfl, rfl, rfl, rfl, rfl⟩ := H
      have hnb13 := NB446_447.out
      have hnc13 := NB447_446.out
      have hcz14_0 : wr.cell? ⟨gb446, 0, none⟩ = some (.slice A0_0 l0_0.length c0_0) := (blk_cell BK446.out 0).trans rfl
      have hfz14_0 := blk_frozen BK446.out 0
      have hcz15_0 : wr.cell? ⟨gb447, 0, none⟩ = some (.int .u64 x448000_1) := (blk_cell BK447.out 0).trans rfl
      have hcz15_1 : wr.cell? ⟨gb447, 1, none⟩ = some (.int .u64 x448001_1) := (blk_cell BK447.out 1).trans rfl
      have hcz15_2 : wr.cell? ⟨gb447, 2, none⟩ = some (.int .u64 x448002_1) := (blk_cell BK447.out 2).trans rfl
      have hcz15_3 : wr.cell? ⟨gb447, 3, none⟩ = some (.int .u64 x448003_1) := (blk_cell BK447.out 3).trans rfl
      have hcz15_4 : wr.cell? ⟨gb447, 4, none⟩ = some (.int .i64 x448004_1) := (blk_cell BK447.out 4).trans rfl
      have hfz15_0 := blk_frozen BK447.out 0
      have hfz15_1 := blk_frozen BK447.out 1
      have hfz15_2 := blk_frozen BK447.out 2
      have hfz15_3 := blk_frozen BK447.out 3
      have hfz15_4 := blk_frozen BK447.out 4
      go_wp2
      refine bodyPost_ret (results_ct rfl _ _ gb447 53 #[.int .u64 0, .int .u64 0, .int .u64 0, .int .u64 0, .int .i64 0] (0, 0) _ rfl (by (with_reducible repeat (first | refine blk_drewN ?_ _ | refine blk_drew ?_ | refine blk_alloc ?_ _)); refine blk_put (cs := #[.int .u64 0, .int .u64 0, .int .u64 0, .int .u64 0, .int .i64 x448004_1]) ?_ 4 _ rfl; (with_reducible repeat (first | refine blk_drewN ?_ _ | refine blk_drew ?_ | refine blk_alloc ?_ _)); refine blk_put (cs := #[.int .u64 0, .int .u64 0, .int .u64 0, .int .u64 x448003_1, .int .i64 x448004_1]) ?_ 3 _ rfl; (with_reducible repeat (first | refine blk_drewN ?_ _ | refine blk_drew ?_ | refine blk_alloc ?_ _)); refine blk_put (cs := #[.int .u64 0, .int .u64 0, .int .u64 x448002_1, .int .u64 x448003_1, .int .i64 x448004_1]) ?_ 2 _ rfl; (with_reducible repeat (first | refine blk_drewN ?_ _ | refine blk_drew ?_ | refine blk_alloc ?_ _)); refine blk_put (cs := #[.int .u64 0, .int .u64 x448001_1, .int .u64 x448002_1, .int .u64 x448003_1, .int .i64 x448004_1]) ?_ 1 _ rfl; (with_reducible repeat (first | refine blk_drewN ?_ _ | refine blk_drew ?_ | refine blk_alloc ?_ _)); refine blk_put (cs := #[.int .u64 x448000_1, .int .u64 x448001_1, .int .u64 x448002_1, .int .u64 x448003_1, .int .i64 x448004_1]) ?_ 0 _ rfl; (with_reducible repeat (first | refine blk_drewN ?_ _ | refine blk_drew ?_ | refine blk_alloc ?_ _)); exact BK447.out) Try.underlying53 rfl (by kernel_rfl)) rfl ?_
      exact ⟨by first | rfl | (simp [errW_none, errW_some] <;> rfl) | (simp [*, errW_none, errW_some] <;> rfl), u10_29⟩
    rw [if_pos c5] at H
    have c5b0 : decide (x6_1 < (l0_0.length : Int)) = true := decide_eq_true c5
    clear c5
    by_cases c6 : 0 ≤ x6_1
    rotate_left
    · rw [if_neg c6] at H
      exact absurd H (by simp)
    rw [if_pos c6] at H
    have c6b0 : decide (0 ≤ x6_1) = true := decide_eq_true c6
    clear c6
    have H9 := Aside0.mk H
    clear H
    have hnb7 := NB446_447.out
    have hnc7 := NB447_446.out
    have hcz8_0 : wr.cell? ⟨gb446, 0, none⟩ = some (.slice A0_0 l0_0.length c0_0) := (blk_cell BK446.out 0).trans rfl
    have hfz8_0 := blk_frozen BK446.out 0
    have p448 : 0 ≤ (x6_1 : Int) := of_decide_eq_true u10_38
    have q448 : x6_1 < (l0_0.length : Int) := of_decide_eq_true u10_38
    obtain ⟨ad448, e448, hx448_0, hx448_1, hx448_2, hx448_3, hx448_4⟩ := at_T53 HR0_0.out x6_1 p448 q448
    cases e448
    replace hx448_0 := (HB.out.cell (World.block_lt_of_cell? w _ hx448_0)).trans hx448_0
    replace hx448_1 := (HB.out.cell (World.block_lt_of_cell? w _ hx448_1)).trans hx448_1
    replace hx448_2 := (HB.out.cell (World.block_lt_of_cell? w _ hx448_2)).trans hx448_2
    replace hx448_3 := (HB.out.cell (World.block_lt_of_cell? w _ hx448_3)).trans hx448_3
    replace hx448_4 := (HB.out.cell (World.block_lt_of_cell? w _ hx448_4)).trans hx448_4
    replace p448 := eq_true p448
    replace q448 := eq_true q448
    go_upto_if 21 with (fail)
    have H := H9.out
    clear H9
    by_cases c9 : ((rd_T53 l0_0 x6_1).f0) = a1
    rotate_left
    · rw [if_neg c9] at H
      have c9b0 : (((rd_T53 l0_0 x6_1).f0) == a1) = false := beq_eq_false_iff_ne.mpr c9
      have c9b1 : (((rd_T53 l0_0 x6_1).f0) != a1) = true := bne_iff_ne.mpr c9
      (first | rw [c9b0] | (simp only [i64_w, i32_w]; rw [c9b0]) | skip)
      have H' := Aside0.mk H
      clear H
      go_wp2
      go_roundg k1
      case measure => have := HK1.out; omega
      case rel => exact ⟨(wrap64 (x6_1 + 1)), (x448000_1), (x448001_1), (x448002_1), (x448003_1), (x448004_1), u10_54, H', ⟨by have := HK1.out; omega⟩, ⟨u10_34⟩, ⟨u10_55⟩, ⟨u10_29⟩⟩
    rw [if_pos c9] at H
    have c9b0 : (((rd_T53 l0_0 x6_1).f0) == a1) = true := beq_iff_eq.mpr c9
    have c9b1 : (((rd_T53 l0_0 x6_1).f0) != a1) = false := bne_eq_false_iff_eq.mpr c9
    clear c9
    (first | rw [c9b0] | (simp only [i64_w, i32_w]; rw [c9b0]) | skip)
    simp only [Option.some.injEq, Prod.mk.injEq] at H
    obtain ⟨rfl, rfl, rfl, rfl, rfl, rfl⟩ := H
    have hnb10 := NB446_447.out
    have hnc10 := NB447_446.out
    have hcz11_0 : wr.cell? ⟨gb446, 0, none⟩ = some (.slice (some ad448) l0_0.length c0_0) := (blk_cell BK446.out 0).trans rfl
    have hfz11_0 := blk_frozen BK446.out 0
    have p449 : 0 ≤ (x6_1 : Int) := of_decide_eq_true u10_38
    have q449 : x6_1 < (l0_0.length : Int) := of_decide_eq_true u10_38
    obtain ⟨ad449, e449, hx449_0, hx449_1, hx449_2, hx449_3, hx449_4⟩ := at_T53 HR0_0.out x6_1 p449 q449
    obtain rfl : ad448 = ad449 := (by injection e449)
    replace hx449_0 := (HB.out.cell (World.block_lt_of_cell? w _ hx449_0)).trans hx449_0
    replace hx449_1 := (HB.out.cell (World.block_lt_of_cell? w _ hx449_1)).trans hx449_1
    replace hx449_2 := (HB.out.cell (World.block_lt_of_cell? w _ hx449_2)).trans hx449_2
    replace hx449_3 := (HB.out.cell (World.block_lt_of_cell? w _ hx449_3)).trans hx449_3
    replace hx449_4 := (HB.out.cell (World.block_lt_of_cell? w _ hx449_4)).trans hx449_4
    replace p449 := eq_true p449
    replace q449 := eq_true q449
    have hcz12_0 : wr.cell? ⟨gb447, 0, none⟩ = some (.int .u64 x448000_1) := (blk_cell BK447.out 0).trans rfl
    have hcz12_1 : wr.cell? ⟨gb447, 1, none⟩ = some (.int .u64 x448001_1) := (blk_cell BK447.out 1).trans rfl
    have hcz12_2 : wr.cell? ⟨gb447, 2, none⟩ = some (.int .u64 x448002_1) := (blk_cell BK447.out 2).trans rfl
    have hcz12_3 : wr.cell? ⟨gb447, 3, none⟩ = some (.int .u64 x448003_1) := (blk_cell BK447.out 3).trans rfl
    have hcz12_4 : wr.cell? ⟨gb447, 4, none⟩ = some (.int .i64 x448004_1) := (blk_cell BK447.out 4).trans rfl
    have hfz12_0 := blk_frozen BK447.out 0
    have hfz12_1 := blk_frozen BK447.out 1
    have hfz12_2 := blk_frozen BK447.out 2
    have hfz12_3 := blk_frozen BK447.out 3
    have hfz12_4 := blk_frozen BK447.out 4
    go_wp2
    refine bodyPost_ret (results_ct rfl _ _ gb447 53 #[.int .u64 ((rd_T53 l0_0 x6_1).f0), .int .u64 ((rd_T53 l0_0 x6_1).f1), .int .u64 ((rd_T53 l0_0 x6_1).f2), .int .u64 ((rd_T53 l0_0 x6_1).f3), .int .i64 ((rd_T53 l0_0 x6_1).f4)] (0, 0) _ rfl (by (with_reducible repeat (first | refine blk_drewN ?_ _ | refine blk_drew ?_ | refine blk_alloc ?_ _)); refine blk_put (cs := #[.int .u64 ((rd_T53 l0_0 x6_1).f0), .int .u64 ((rd_T53 l0_0 x6_1).f1), .int .u64 ((rd_T53 l0_0 x6_1).f2), .int .u64 ((rd_T53 l0_0 x6_1).f3), .int .i64 x448004_1]) ?_ 4 _ rfl; (with_reducible repeat (first | refine blk_drewN ?_ _ | refine blk_drew ?_ | refine blk_alloc ?_ _)); refine blk_put (cs := #[.int .u64 ((rd_T53 l0_0 x6_1).f0), .int .u64 ((rd_T53 l0_0 x6_1).f1), .int .u64 ((rd_T53 l0_0 x6_1).f2), .int .u64 x448003_1, .int .i64 x448004_1]) ?_ 3 _ rfl; (with_reducible repeat (first | refine blk_drewN ?_ _ | refine blk_drew ?_ | refine blk_alloc ?_ _)); refine blk_put (cs := #[.int .u64 ((rd_T53 l0_0 x6_1).f0), .int .u64 ((rd_T53 l0_0 x6_1).f1), .int .u64 x448002_1, .int .u64 x448003_1, .int .i64 x448004_1]) ?_ 2 _ rfl; (with_reducible repeat (first | refine blk_drewN ?_ _ | refine blk_drew ?_ | refine blk_alloc ?_ _)); refine blk_put (cs := #[.int .u64 ((rd_T53 l0_0 x6_1).f0), .int .u64 x448001_1, .int .u64 x448002_1, .int .u64 x448003_1, .int .i64 x448004_1]) ?_ 1 _ rfl; (with_reducible repeat (first | refine blk_drewN ?_ _ | refine blk_drew ?_ | refine blk_alloc ?_ _)); refine blk_put (cs := #[.int .u64 x448000_1, .int .u64 x448001_1, .int .u64 x448002_1, .int .u64 x448003_1, .int .i64 x448004_1]) ?_ 0 _ rfl; (with_reducible repeat (first | refine blk_drewN ?_ _ | refine blk_drew ?_ | refine blk_alloc ?_ _)); exact BK447.out) Try.underlying53 rfl (by kernel_rfl)) rfl ?_
    exact ⟨by first | rfl | (simp [errW_none, errW_some] <;> rfl) | (simp [*, errW_none, errW_some] <;> rfl), u10_29⟩

/-! ### laws_sameBook: function 47 -/
def laws_sameBook.l0 : Nat → Int → List (S53) → List (S53) → Option (Bool)
  | 0, _, _, _ => none
  | k + 1, x5, x451000, x452000 => if x5 < (x451000.length : Int) then (if 0 ≤ x5 then (if x5 < (x452000.length : Int) then (if (!(((rd_T53 x451000 x5).f0) == ((rd_T53 x452000 x5).f0)) || (!(((rd_T53 x451000 x5).f1) == ((rd_T53 x452000 x5).f1)) || (!(((rd_T53 x451000 x5).f2) == ((rd_T53 x452000 x5).f2)) || (!(((rd_T53 x451000 x5).f3) == ((rd_T53 x452000 x5).f3)) || (!(((rd_T53 x451000 x5).f4) == ((rd_T53 x452000 x5).f4))))))) = true then (some false) else (laws_sameBook.l0 k (wrap64 (x5 + 1)) x451000 x452000)) else (none)) else (none)) else (some true)
def laws_sameBook.f (k : Nat) (l0_0 : List (S53)) (l1_0 : List (S53)) : Option (Bool) := if (l0_0.length : Int) = (l1_0.length : Int) then (laws_sameBook.l0 k 0 l0_0 l1_0) else (some false)
theorem laws_sameBook.mono_l : ∀ k, (∀ y0 y1 y2, LeO (laws_sameBook.l0 k y0 y1 y2) (laws_sameBook.l0 (k + 1) y0 y1 y2))
  | 0 => fun _ _ _ r h => by simp [laws_sameBook.l0] at h
  | k + 1 => by
    have ih0 := laws_sameBook.mono_l k
    · intro y0 y1 y2
      unfold laws_sameBook.l0
      repeat' first
      | (with_reducible exact ih0 _ _ _)
      | (with_reducible exact LeO.refl _)
      | (with_reducible exact LeO.none _)
      | (with_reducible refine LeO.ite ?_ ?_)
      | (with_reducible refine LeO.bind ?_ (fun _ => ?_))
      | exact ih0 _ _ _
      | exact LeO.none _
      | refine LeO.ite ?_ ?_
      | refine LeO.bind ?_ (fun _ => ?_)
theorem laws_sameBook.mono : ∀ a0 a1 k, LeO (laws_sameBook.f k a0 a1) (laws_sameBook.f (k + 1) a0 a1) := by
  intro a0 a1 k
  have ih0 := laws_sameBook.mono_l k
  unfold laws_sameBook.f
  repeat' first
      | (with_reducible exact ih0 _ _ _)
      | (with_reducible exact LeO.refl _)
      | (with_reducible exact LeO.none _)
      | (with_reducible refine LeO.ite ?_ ?_)
      | (with_reducible refine LeO.bind ?_ (fun _ => ?_))
      | exact ih0 _ _ _
      | exact LeO.none _
      | refine LeO.ite ?_ ?_
      | refine LeO.bind ?_ (fun _ => ?_)
set_option maxHeartbeats 8000000 in
set_option maxRecDepth 100000 in
theorem laws_sameBook.calls (k : Nat) (A0_0 : Option Addr) (c0_0 : Nat) (l0_0 : List (S53)) (A1_0 : Option Addr) (c1_0 : Nat) (l1_0 : List (S53)) (r : Bool) (w : World) (hr0_0 : Kd.C k53 w A0_0 l0_0.length l0_0) (hc0_0 : l0_0.length ≤ c0_0) (hr1_0 : Kd.C k53 w A1_0 l1_0.length l1_0) (hc1_0 : l1_0.length ≤ c1_0) (h : laws_sameBook.f k l0_0 l1_0 = some r) :
    Calls Try.prog 47 #[.agg #[.slice A0_0 l0_0.length c0_0], .agg #[.slice A1_0 l1_0.length c1_0]] w fun e w' => e = .returned (.bool r) ∧ Below w.heap.size w w' := by
  have hu29 := Try.underlying29
  have hu53 := Try.underlying53
  have HR0_0 := Aside0.mk hr0_0
  have HC0_0 := Aside0.mk hc0_0
  clear hr0_0 hc0_0
  have HR1_0 := Aside0.mk hr1_0
  have HC1_0 := Aside0.mk hc1_0
  clear hr1_0 hc1_0
  have HB := Aside0.mk (Below.refl w.heap.size w)
  have H : (if (l0_0.length : Int) = (l1_0.length : Int) then (laws_sameBook.l0 k 0 l0_0 l1_0) else (some false)) = some r := h
  clear h
  have H9 := Aside0.mk H
  clear H
  go_enter Try.func47, Try.ntmps47
  go_upto_if 12 with (first | ((with_reducible refine gate_dst (N := 2) rfl ?_); refine box_event ?hg (N := 2) ?hd (cs := #[.slice A0_0 l0_0.length c0_0]) (t := 29) ?hr ?_; (case hd => rfl); (case hg => rfl); (case hr => first | (go_simp; done) | (go_simp; rfl)); intro gb450 hg w3 hbox hb; have n0_ := Aside0.mk (below_step u10_0 hb); have n1_ := Aside0.mk (hbox); have n2_ := Aside0.mk ((by rw [hg]; exact (below_size u10_0) : w.heap.size ≤ gb450)); have n3_ := Aside0.mk ((by rw [hg]; exact (below_size u10_0) : w.heap.size ≤ gb450)); clear HB; have HB := n0_; have BK450 := n1_; have GW450 := n2_; have GE450 := n3_; clear n0_ n1_ n2_ n3_; clear hb hbox hg) | ((with_reducible refine gate_dst (N := 3) rfl ?_); refine box_event ?hg (N := 3) ?hd (cs := #[.slice A1_0 l1_0.length c1_0]) (t := 29) ?hr ?_; (case hd => rfl); (case hg => rfl); (case hr => first | (go_simp; done) | (go_simp; rfl)); intro gb451 hg w4 hbox hb; have n0_ := Aside0.mk (blk_below (g := gb450) (o := .cells #[.slice A0_0 l0_0.length c0_0] 29 (0, 0)) u10_11 hb); have n1_ := Aside0.mk (below_step u10_7 hb); have n2_ := Aside0.mk (hbox); have n3_ := Aside0.mk ((by rw [hg]; exact (below_size u10_7) : w.heap.size ≤ gb451)); have n4_ := Aside0.mk ((by rw [hg]; exact (below_size u10_7) : w.heap.size ≤ gb451)); have n5_ := Aside0.mk ((by rw [hg]; exact Nat.ne_of_lt (blk_lt (g := gb450) (o := .cells #[.slice A0_0 l0_0.length c0_0] 29 (0, 0)) u10_11) : gb450 ≠ gb451)); have n6_ := Aside0.mk ((by rw [hg]; exact Nat.ne_of_gt (blk_lt (g := gb450) (o := .cells #[.slice A0_0 l0_0.length c0_0] 29 (0, 0)) u10_11) : gb451 ≠ gb450)); clear BK450; clear HB; have BK450 := n0_; have HB := n1_; have BK451 := n2_; have GW451 := n3_; have GE451 := n4_; have NB450_451 := n5_; have NB451_450 := n6_; clear n0_ n1_ n2_ n3_ n4_ n5_ n6_; clear hb hbox hg; have hnb5 := NB450_451.out; have hnc5 := NB451_450.out; have hcz6_0 : w4.cell? ⟨gb450, 0, none⟩ = some (.slice A0_0 l0_0.length c0_0) := (blk_cell BK450.out 0).trans rfl; have hfz6_0 := blk_frozen BK450.out 0; have hcz7_0 : w4.cell? ⟨gb451, 0, none⟩ = some (.slice A1_0 l1_0.length c1_0) := (blk_cell BK451.out 0).trans rfl; have hfz7_0 := blk_frozen BK451.out 0))
  repeat (go_quiet (first | ((with_reducible refine gate_dst (N := 2) rfl ?_); refine box_event ?hg (N := 2) ?hd (cs := #[.slice A0_0 l0_0.length c0_0]) (t := 29) ?hr ?_; (case hd => rfl); (case hg => rfl); (case hr => first | (go_simp; done) | (go_simp; rfl)); intro gb450 hg w3 hbox hb; have n0_ := Aside0.mk (below_step u10_0 hb); have n1_ := Aside0.mk (hbox); have n2_ := Aside0.mk ((by rw [hg]; exact (below_size u10_0) : w.heap.size ≤ gb450)); have n3_ := Aside0.mk ((by rw [hg]; exact (below_size u10_0) : w.heap.size ≤ gb450)); clear HB; have HB := n0_; have BK450 := n1_; have GW450 := n2_; have GE450 := n3_; clear n0_ n1_ n2_ n3_; clear hb hbox hg) | ((with_reducible refine gate_dst (N := 3) rfl ?_); refine box_event ?hg (N := 3) ?hd (cs := #[.slice A1_0 l1_0.length c1_0]) (t := 29) ?hr ?_; (case hd => rfl); (case hg => rfl); (case hr => first | (go_simp; done) | (go_simp; rfl)); intro gb451 hg w4 hbox hb; have n0_ := Aside0.mk (blk_below (g := gb450) (o := .cells #[.slice A0_0 l0_0.length c0_0] 29 (0, 0)) u10_11 hb); have n1_ := Aside0.mk (below_step u10_7 hb); have n2_ := Aside0.mk (hbox); have n3_ := Aside0.mk ((by rw [hg]; exact (below_size u10_7) : w.heap.size ≤ gb451)); have n4_ := Aside0.mk ((by rw [hg]; exact (below_size u10_7) : w.heap.size ≤ gb451)); have n5_ := Aside0.mk ((by rw [hg]; exact Nat.ne_of_lt (blk_lt (g := gb450) (o := .cells #[.slice A0_0 l0_0.length c0_0] 29 (0, 0)) u10_11) : gb450 ≠ gb451)); have n6_ := Aside0.mk ((by rw [hg]; exact Nat.ne_of_gt (blk_lt (g := gb450) (o := .cells #[.slice A0_0 l0_0.length c0_0] 29 (0, 0)) u10_11) : gb451 ≠ gb450)); clear BK450; clear HB; have BK450 := n0_; have HB := n1_; have BK451 := n2_; have GW451 := n3_; have GE451 := n4_; have NB450_451 := n5_; have NB451_450 := n6_; clear n0_ n1_ n2_ n3_ n4_ n5_ n6_; clear hb hbox hg; have hnb5 := NB450_451.out; have hnc5 := NB451_450.out; have hcz6_0 : w4.cell? ⟨gb450, 0, none⟩ = some (.slice A0_0 l0_0.length c0_0) := (blk_cell BK450.out 0).trans rfl; have hfz6_0 := blk_frozen BK450.out 0; have hcz7_0 : w4.cell? ⟨gb451, 0, none⟩ = some (.slice A1_0 l1_0.length c1_0) := (blk_cell BK451.out 0).trans rfl; have hfz7_0 := blk_frozen BK451.out 0)); go_upto_if 12 with (first | ((with_reducible refine gate_dst (N := 2) rfl ?_); refine box_event ?hg (N := 2) ?hd (cs := #[.slice A0_0 l0_0.length c0_0]) (t := 29) ?hr ?_; (case hd => rfl); (case hg => rfl); (case hr => first | (go_simp; done) | (go_simp; rfl)); intro gb450 hg w3 hbox hb; have n0_ := Aside0.mk (below_step u10_0 hb); have n1_ := Aside0.mk (hbox); have n2_ := Aside0.mk ((by rw [hg]; exact (below_size u10_0) : w.heap.size ≤ gb450)); have n3_ := Aside0.mk ((by rw [hg]; exact (below_size u10_0) : w.heap.size ≤ gb450)); clear HB; have HB := n0_; have BK450 := n1_; have GW450 := n2_; have GE450 := n3_; clear n0_ n1_ n2_ n3_; clear hb hbox hg) | ((with_reducible refine gate_dst (N := 3) rfl ?_); refine box_event ?hg (N := 3) ?hd (cs := #[.slice A1_0 l1_0.length c1_0]) (t := 29) ?hr ?_; (case hd => rfl); (case hg => rfl); (case hr => first | (go_simp; done) | (go_simp; rfl)); intro gb451 hg w4 hbox hb; have n0_ := Aside0.mk (blk_below (g := gb450) (o := .cells #[.slice A0_0 l0_0.length c0_0] 29 (0, 0)) u10_11 hb); have n1_ := Aside0.mk (below_step u10_7 hb); have n2_ := Aside0.mk (hbox); have n3_ := Aside0.mk ((by rw [hg]; exact (below_size u10_7) : w.heap.size ≤ gb451)); have n4_ := Aside0.mk ((by rw [hg]; exact (below_size u10_7) : w.heap.size ≤ gb451)); have n5_ := Aside0.mk ((by rw [hg]; exact Nat.ne_of_lt (blk_lt (g := gb450) (o := .cells #[.slice A0_0 l0_0.length c0_0] 29 (0, 0)) u10_11) : gb450 ≠ gb451)); have n6_ := Aside0.mk ((by rw [hg]; exact Nat.ne_of_gt (blk_lt (g := gb450) (o := .cells #[.slice A0_0 l0_0.length c0_0] 29 (0, 0)) u10_11) : gb451 ≠ gb450)); clear BK450; clear HB; have BK450 := n0_; have HB := n1_; have BK451 := n2_; have GW451 := n3_; have GE451 := n4_; have NB450_451 := n5_; have NB451_450 := n6_; clear n0_ n1_ n2_ n3_ n4_ n5_ n6_; clear hb hbox hg; have hnb5 := NB450_451.out; have hnc5 := NB451_450.out; have hcz6_0 : w4.cell? ⟨gb450, 0, none⟩ = some (.slice A0_0 l0_0.length c0_0) := (blk_cell BK450.out 0).trans rfl; have hfz6_0 := blk_frozen BK450.out 0; have hcz7_0 : w4.cell? ⟨gb451, 0, none⟩ = some (.slice A1_0 l1_0.length c1_0) := (blk_cell BK451.out 0).trans rfl; have hfz7_0 := blk_frozen BK451.out 0)))
  have H := H9.out
  clear H9
  by_cases c8 : (l0_0.length : Int) = (l1_0.length : Int)
  rotate_left
  · rw [if_neg c8] at H
    have c8b0 : ((l0_0.length : Int) == (l1_0.length : Int)) = false := beq_eq_false_iff_ne.mpr c8
    have c8b1 : ((l0_0.length : Int) != (l1_0.length : Int)) = true := bne_iff_ne.mpr c8
    have c8b2 : (l0_0.length == l1_0.length) = false := by first | simpa using c8 | (simp at c8 ⊢; omega)
    (first | rw [c8b0] | (simp only [i64_w, i32_w]; rw [c8b0]) | skip)
    obtain rfl := Option.some.inj H
    go_wp2
    repeat (go_quiet (fail); try go_wp2)
    go_ret
    exact ⟨by first | rfl | (simp [errW_none, errW_some] <;> rfl) | (simp [*, errW_none, errW_some] <;> rfl), u10_24⟩
  rw [if_pos c8] at H
  have c8b0 : ((l0_0.length : Int) == (l1_0.length : Int)) = true := beq_iff_eq.mpr c8
  have c8b1 : ((l0_0.length : Int) != (l1_0.length : Int)) = false := bne_eq_false_iff_eq.mpr c8
  have c8b2 : (l0_0.length == l1_0.length) = true := by first | simpa using c8 | (simp at c8 ⊢; omega)
  clear c8
  (first | rw [c8b0] | (simp only [i64_w, i32_w]; rw [c8b0]) | skip)
  have H' := Aside0.mk H
  clear H
  go_wp2
  repeat (go_quiet (fail); try go_wp2)
  go_loopg [5] k (fun kq v5 w' => ∃ (x5_1 : Int), v5 = .int .i64 x5_1 ∧ Aside0 (laws_sameBook.l0 kq x5_1 l0_0 l1_0 = some r) ∧ Aside0 (kq ≤ k) ∧ Aside0 (w'.heap[gb450]? = some (.cells #[(.slice A0_0 l0_0.length c0_0)] 29 (0, 0))) ∧ Aside0 (w'.heap[gb451]? = some (.cells #[(.slice A1_0 l1_0.length c1_0)] 29 (0, 0))) ∧ Aside0 (Below w.heap.size w w'))
  case atStart => exact ⟨(0), u10_54, H', ⟨Nat.le_refl _⟩, ⟨u10_11⟩, ⟨u10_56⟩, ⟨u10_24⟩⟩
  clear H'
  try clear c1
  try clear p2
  try clear c4
  try clear c5
  try clear c8
  try clear c8b0
  try clear c8b1
  try clear c8b2
  try clear hcz6_0
  try clear hcz7_0
  try clear hfz6_0
  try clear hfz7_0
  obtain ⟨x5_1, rfl, HA, HK1, BK450, BK451, HB⟩ := hrel
  cases gk with
  | zero => exact absurd HA.out (by simp [laws_sameBook.l0])
  | succ k1 =>
    have H := HA.out
    clear HA
    simp only [laws_sameBook.l0] at H
    by_cases c9 : x5_1 < (l0_0.length : Int)
    rotate_left
    · rw [if_neg c9] at H
      have c9b0 : decide (x5_1 < (l0_0.length : Int)) = false := decide_eq_false c9
      clear c9
      obtain rfl := Option.some.inj H
      have hnb16 := NB450_451.out
      have hnc16 := NB451_450.out
      have hcz17_0 : wr.cell? ⟨gb450, 0, none⟩ = some (.slice A0_0 l0_0.length c0_0) := (blk_cell BK450.out 0).trans rfl
      have hfz17_0 := blk_frozen BK450.out 0
      go_wp2
      repeat (go_quiet (fail); try go_wp2)
      go_ret
      exact ⟨by first | rfl | (simp [errW_none, errW_some] <;> rfl) | (simp [*, errW_none, errW_some] <;> rfl), u10_24⟩
    rw [if_pos c9] at H
    have c9b0 : decide (x5_1 < (l0_0.length : Int)) = true := decide_eq_true c9
    clear c9
    by_cases c10 : 0 ≤ x5_1
    rotate_left
    · rw [if_neg c10] at H
      exact absurd H (by simp)
    rw [if_pos c10] at H
    have c10b0 : decide (0 ≤ x5_1) = true := decide_eq_true c10
    clear c10
    by_cases c11 : x5_1 < (l1_0.length : Int)
    rotate_left
    · rw [if_neg c11] at H
      exact absurd H (by simp)
    rw [if_pos c11] at H
    have c11b0 : decide (x5_1 < (l1_0.length : Int)) = true := decide_eq_true c11
    clear c11
    have H9 := Aside0.mk H
    clear H
    have hnb12 := NB450_451.out
    have hnc12 := NB451_450.out
    have hcz13_0 : wr.cell? ⟨gb450, 0, none⟩ = some (.slice A0_0 l0_0.length c0_0) := (blk_cell BK450.out 0).trans rfl
    have hfz13_0 := blk_frozen BK450.out 0
    have p452 : 0 ≤ (x5_1 : Int) := of_decide_eq_true u10_38
    have q452 : x5_1 < (l0_0.length : Int) := of_decide_eq_true u10_38
    obtain ⟨ad452, e452, hx452_0, hx452_1, hx452_2, hx452_3, hx452_4⟩ := at_T53 HR0_0.out x5_1 p452 q452
    cases e452
    replace hx452_0 := (HB.out.cell (World.block_lt_of_cell? w _ hx452_0)).trans hx452_0
    replace hx452_1 := (HB.out.cell (World.block_lt_of_cell? w _ hx452_1)).trans hx452_1
    replace hx452_2 := (HB.out.cell (World.block_lt_of_cell? w _ hx452_2)).trans hx452_2
    replace hx452_3 := (HB.out.cell (World.block_lt_of_cell? w _ hx452_3)).trans hx452_3
    replace hx452_4 := (HB.out.cell (World.block_lt_of_cell? w _ hx452_4)).trans hx452_4
    replace p452 := eq_true p452
    replace q452 := eq_true q452
    have hcz14_0 : wr.cell? ⟨gb451, 0, none⟩ = some (.slice A1_0 l1_0.length c1_0) := (blk_cell BK451.out 0).trans rfl
    have hfz14_0 := blk_frozen BK451.out 0
    have p453 : 0 ≤ (x5_1 : Int) := of_decide_eq_true u10_38
    have q453 : x5_1 < (l1_0.length : Int) := of_decide_eq_true u10_38
    obtain ⟨ad453, e453, hx453_0, hx453_1, hx453_2, hx453_3, hx453_4⟩ := at_T53 HR1_0.out x5_1 p453 q453
    cases e453
    replace hx453_0 := (HB.out.cell (World.block_lt_of_cell? w _ hx453_0)).trans hx453_0
    replace hx453_1 := (HB.out.cell (World.block_lt_of_cell? w _ hx453_1)).trans hx453_1
    replace hx453_2 := (HB.out.cell (World.block_lt_of_cell? w _ hx453_2)).trans hx453_2
    replace hx453_3 := (HB.out.cell (World.block_lt_of_cell? w _ hx453_3)).trans hx453_3
    replace hx453_4 := (HB.out.cell (World.block_lt_of_cell? w _ hx453_4)).trans hx453_4
    replace p453 := eq_true p453
    replace q453 := eq_true q453
    go_upto_if 30 with (fail)
    repeat (go_quiet (fail); go_upto_if 30 with (fail))
    have H := H9.out
    clear H9
    by_cases c15 : (!(((rd_T53 l0_0 x5_1).f0) == ((rd_T53 l1_0 x5_1).f0)) || (!(((rd_T53 l0_0 x5_1).f1) == ((rd_T53 l1_0 x5_1).f1)) || (!(((rd_T53 l0_0 x5_1).f2) == ((rd_T53 l1_0 x5_1).f2)) || (!(((rd_T53 l0_0 x5_1).f3) == ((rd_T53 l1_0 x5_1).f3)) || (!(((rd_T53 l0_0 x5_1).f4) == ((rd_T53 l1_0 x5_1).f4))))))) = true
    · rw [if_pos c15] at H
      have c15b0 : (!(((rd_T53 l0_0 x5_1).f0) == ((rd_T53 l1_0 x5_1).f0)) || (!(((rd_T53 l0_0 x5_1).f1) == ((rd_T53 l1_0 x5_1).f1)) || (!(((rd_T53 l0_0 x5_1).f2) == ((rd_T53 l1_0 x5_1).f2)) || (!(((rd_T53 l0_0 x5_1).f3) == ((rd_T53 l1_0 x5_1).f3)) || (!(((rd_T53 l0_0 x5_1).f4) == ((rd_T53 l1_0 x5_1).f4))))))) = true := c15
      clear c15
      (first | rw [c15b0] | (simp only [i64_w, i32_w]; rw [c15b0]) | skip)
      obtain rfl := Option.some.inj H
      go_wp2
      repeat (go_quiet (fail); try go_wp2)
      go_ret
      exact ⟨by first | rfl | (simp [errW_none, errW_some] <;> rfl) | (simp [*, errW_none, errW_some] <;> rfl), u10_24⟩
    rw [if_neg c15] at H
    have c15b0 : (!(((rd_T53 l0_0 x5_1).f0) == ((rd_T53 l1_0 x5_1).f0)) || (!(((rd_T53 l0_0 x5_1).f1) == ((rd_T53 l1_0 x5_1).f1)) || (!(((rd_T53 l0_0 x5_1).f2) == ((rd_T53 l1_0 x5_1).f2)) || (!(((rd_T53 l0_0 x5_1).f3) == ((rd_T53 l1_0 x5_1).f3)) || (!(((rd_T53 l0_0 x5_1).f4) == ((rd_T53 l1_0 x5_1).f4))))))) = false := by simpa using c15
    clear c15
    (first | rw [c15b0] | (simp only [i64_w, i32_w]; rw [c15b0]) | skip)
    have H' := Aside0.mk H
    clear H
    go_wp2
    repeat (go_quiet (fail); try go_wp2)
    go_roundg k1
    case measure => have := HK1.out; omega
    case rel => exact ⟨(wrap64 (x5_1 + 1)), u10_54, H', ⟨by have := HK1.out; omega⟩, ⟨u10_11⟩, ⟨u10_56⟩, ⟨u10_24⟩⟩

/-! ### laws_FnOpened: function 16 -/
def laws_FnOpened.f (k : Nat) (l0 : List Int) : Option (Bool) := (laws_big.f l0).bind fun t454 => (if t454 = true then (some true) else ((spec_DrawRightBook.f k l0).bind fun bt455 => ((impl_OpenAccount.f k bt455.1 bt455.2.1).bind fun bt463 => ((laws_find.f k bt455.1 bt455.2.1).bind fun bt468 => (if bt463.2 = 0 then ((laws_find.f k bt463.1 bt455.2.1).bind fun bt476 => ((impl_OpenAccount.f k bt463.1 bt455.2.1).bind fun bt483 => ((impl_CloseAccount.f k bt463.1 bt455.2.1).bind fun bt488 => (if bt468.2.2.2.2.2 = true then (some false) else (if bt476.2.2.2.2.2 = true then (if (bt476.1 == bt455.2.1 && (bt476.2.1 == 0 && (bt476.2.2.1 == 0 && (bt476.2.2.2.1 == 0 && (bt476.2.2.2.2.1 == 0))))) = true then (if bt483.2 = 3 then (if bt488.2 = 0 then ((laws_sameBook.f k bt488.1 bt455.1).bind fun t493 => (if t493 = true then ((impl_BookOk.f k bt463.1).bind fun t494 => (if t494 = true then (some ((bt463.1.length : Int) == (wrap64 ((bt455.1.length : Int) + 1)))) else (some false))) else (some false))) else (some false)) else (some false)) else (some false)) else (some false)))))) else ((laws_sameBook.f k bt463.1 bt455.1).bind fun t475 => (if t475 = true then (if bt468.2.2.2.2.2 = true then (some (bt463.2 == 3)) else (some false)) else (some false))))))))
theorem laws_FnOpened.mono : ∀ a0 k, LeO (laws_FnOpened.f k a0) (laws_FnOpened.f (k + 1) a0) := by
  intro a0 k
  unfold laws_FnOpened.f
  repeat' first
      | (with_reducible exact impl_BookOk.mono _ _)
      | (with_reducible exact impl_CloseAccount.mono _ _ _)
      | (with_reducible exact impl_OpenAccount.mono _ _ _)
      | (with_reducible exact laws_find.mono _ _ _)
      | (with_reducible exact laws_sameBook.mono _ _ _)
      | (with_reducible exact spec_DrawRightBook.mono _ _)
      | (with_reducible exact LeO.refl _)
      | (with_reducible exact LeO.none _)
      | (with_reducible refine LeO.ite ?_ ?_)
      | (with_reducible refine LeO.bind ?_ (fun _ => ?_))
      | exact impl_BookOk.mono _ _
      | exact impl_CloseAccount.mono _ _ _
      | exact impl_OpenAccount.mono _ _ _
      | exact laws_find.mono _ _ _
      | exact laws_sameBook.mono _ _ _
      | exact spec_DrawRightBook.mono _ _
      | exact LeO.none _
      | refine LeO.ite ?_ ?_
      | refine LeO.bind ?_ (fun _ => ?_)
set_option maxHeartbeats 8000000 in
set_option maxRecDepth 100000 in
theorem laws_FnOpened.calls (k : Nat) (A0 : Option Addr) (c0 : Nat) (l0 : List Int) (r : Bool) (w : World) (hr0 : Kd.C (Kd.int .u8) w A0 l0.length l0) (hc0 : l0.length ≤ c0) (h : laws_FnOpened.f k l0 = some r) (hr_ : Aside0 (r = true)) :
    Calls Try.prog 16 #[.slice A0 l0.length c0] w fun e w' => e = .returned (.bool r) ∧ Below w.heap.size w w' := by
  have hu29 := Try.underlying29
  have hu53 := Try.underlying53
  have HR0 := Aside0.mk hr0
  have HC0 := Aside0.mk hc0
  clear hr0 hc0
  have HB := Aside0.mk (Below.refl w.heap.size w)
  have H : ((laws_big.f l0).bind fun t454 => (if t454 = true then (some true) else ((spec_DrawRightBook.f k l0).bind fun bt455 => ((impl_OpenAccount.f k bt455.1 bt455.2.1).bind fun bt463 => ((laws_find.f k bt455.1 bt455.2.1).bind fun bt468 => (if bt463.2 = 0 then ((laws_find.f k bt463.1 bt455.2.1).bind fun bt476 => ((impl_OpenAccount.f k bt463.1 bt455.2.1).bind fun bt483 => ((impl_CloseAccount.f k bt463.1 bt455.2.1).bind fun bt488 => (if bt468.2.2.2.2.2 = true then (some false) else (if bt476.2.2.2.2.2 = true then (if (bt476.1 == bt455.2.1 && (bt476.2.1 == 0 && (bt476.2.2.1 == 0 && (bt476.2.2.2.1 == 0 && (bt476.2.2.2.2.1 == 0))))) = true then (if bt483.2 = 3 then (if bt488.2 = 0 then ((laws_sameBook.f k bt488.1 bt455.1).bind fun t493 => (if t493 = true then ((impl_BookOk.f k bt463.1).bind fun t494 => (if t494 = true then (some ((bt463.1.length : Int) == (wrap64 ((bt455.1.length : Int) + 1)))) else (some false))) else (some false))) else (some false)) else (some false)) else (some false)) else (some false)))))) else ((laws_sameBook.f k bt463.1 bt455.1).bind fun t475 => (if t475 = true then (if bt468.2.2.2.2.2 = true then (some (bt463.2 == 3)) else (some false)) else (some false))))))))) = some r := h
  clear h
  replace H := Option.bind_eq_some_iff.mp H
  obtain ⟨t454, A20, H⟩ := H
  have A2 := Aside0.mk A20
  clear A20
  have H9 := Aside0.mk H
  clear H
  go_enter Try.func16, Try.ntmps16
  go_upto_if 19 with (first | ((with_reducible refine gate_callee (f := 44) rfl ?_); refine goesL_ (some 19) rfl rfl Try.func44 (by kernel_rfl) rfl #[.slice A0 l0.length c0] rfl u10_2 ?_; (with_reducible refine (laws_big.calls _ _ l0 t454 _ ?side1 ?side2 A2.out).mono ?_); (case side1 => exact (by repeat (first | exact HR0.out | (with_reducible refine Kd.C_alloc ?_ _) | (with_reducible refine Kd.C_drewN ?_ _) | (with_reducible refine Kd.C_drew ?_)))); (case side2 => exact HC0.out); rintro e w' ⟨rfl, ⟨nd, rfl⟩⟩; refine ⟨_, rfl, ?_⟩))
  have H := H9.out
  clear H9
  by_cases c3 : t454 = true
  · subst c3
    rw [if_pos rfl] at H
    obtain rfl := Option.some.inj H
    go_wp2
    go_ret
    exact ⟨by first | rfl | (simp [errW_none, errW_some] <;> rfl) | (simp [*, errW_none, errW_some] <;> rfl), u10_0⟩
  replace c3 := Bool.eq_false_iff.mpr c3
  subst c3
  rw [if_neg (show ¬ (false = true) by decide)] at H
  replace H := Option.bind_eq_some_iff.mp H
  obtain ⟨⟨t455, t458, t459, t460, t461⟩, A40, H⟩ := H
  (try dsimp only at H)
  have A4 := Aside0.mk A40
  clear A40
  replace H := Option.bind_eq_some_iff.mp H
  obtain ⟨⟨t463, t466⟩, A50, H⟩ := H
  (try dsimp only at H)
  have A5 := Aside0.mk A50
  clear A50
  replace H := Option.bind_eq_some_iff.mp H
  obtain ⟨⟨t468, t469, t470, t471, t472, t473⟩, A60, H⟩ := H
  (try dsimp only at H)
  have A6 := Aside0.mk A60
  clear A60
  by_cases c7 : t466 = 0
  rotate_left
  · rw [if_neg c7] at H
    have c7b0 : (t466 == 0) = false := beq_eq_false_iff_ne.mpr c7
    have c7b1 : (t466 != 0) = true := bne_iff_ne.mpr c7
    (first | rw [c7b0] | (simp only [i64_w, i32_w]; rw [c7b0]) | skip)
    replace H := Option.bind_eq_some_iff.mp H
    obtain ⟨t475, A680, H⟩ := H
    have A68 := Aside0.mk A680
    clear A680
    by_cases c69 : t475 = true
    rotate_left
    · replace c69 := Bool.eq_false_iff.mpr c69
      subst c69
      rw [if_neg (show ¬ (false = true) by decide)] at H
      exact absurd ((Option.some.inj H).trans hr_.out) (by decide)
    subst c69
    rw [if_pos rfl] at H
    by_cases c70 : t473 = true
    rotate_left
    · replace c70 := Bool.eq_false_iff.mpr c70
      subst c70
      rw [if_neg (show ¬ (false = true) by decide)] at H
      exact absurd ((Option.some.inj H).trans hr_.out) (by decide)
    subst c70
    rw [if_pos rfl] at H
    obtain rfl := Option.some.inj H
    go_wp2_with (first | ((with_reducible refine gate_callee (f := 45) rfl ?_); refine goesL_ (some 22) rfl rfl Try.func45 (by kernel_rfl) rfl #[.slice A0 l0.length c0] rfl u10_2 ?_; (with_reducible refine (spec_DrawRightBook.calls k _ _ l0 t455 t458 t459 t460 t461 _ ?side1 ?side2 A4.out).mono ?_); (case side1 => exact u10_36); (case side2 => exact HC0.out); rintro e w71 ⟨v456, rfl, ho0, hb⟩; refine ⟨_, rfl, ?_⟩; have n0_ := Aside0.mk (Kd.R_lower ho0 (below_size u10_0)); have n1_ := Aside0.mk (below_step u10_0 hb); clear HB; have HO457 := n0_; have HB := n1_; clear n0_ n1_; (try clear hb); (try clear hb2); (try clear hk); (try clear hi); (try clear ho0)) | ((with_reducible refine gate_dst (N := 3) rfl ?_); (try (refine gate_guard (by rfl) ?_; dsimp only)); refine box_event ?hg (N := 3) ?hd (cs := #[.slice none 0 0]) (t := 29) ?hr ?_; (case hd => rfl); (case hg => rfl); (case hr => first | (go_simp; done) | (go_simp; rfl)); intro gb462 hg w72 hbox hb; have n0_ := Aside0.mk (Kd.R_below u10_19 hb); have n1_ := Aside0.mk (below_step u10_0 hb); have n2_ := Aside0.mk (hbox); have n3_ := Aside0.mk ((by rw [hg]; exact (below_size u10_0) : w.heap.size ≤ gb462)); have n4_ := Aside0.mk ((by rw [hg]; exact (below_size u10_0) : w.heap.size ≤ gb462)); clear HO457; clear HB; have HO457 := n0_; have HB := n1_; have BK462 := n2_; have GW462 := n3_; have GE462 := n4_; clear n0_ n1_ n2_ n3_ n4_; clear hb hbox hg; obtain ⟨Ao73, co73, eo73⟩ := Kd.R_slice HO457.out; subst eo73; have hcz74_0 : w72.cell? ⟨gb462, 0, none⟩ = some (.slice none 0 0) := (blk_cell BK462.out 0).trans rfl; have hfz74_0 := blk_frozen BK462.out 0) | ((with_reducible refine gate_callee (f := 43) rfl ?_); refine goesL_ (some 31) rfl rfl Try.func43 (by kernel_rfl) rfl #[.agg #[.slice Ao73 t455.length co73], .int .u64 t458] rfl u10_2 ?_; (with_reducible refine (impl_OpenAccount.calls k _ _ t455 t458 t463 t466 _ ?side1 ?side2 A5.out).mono ?_); (case side1 => exact (by refine (Kd.R_reads' (e := 53) (base := w.heap.size) (ok := fun k_ => True) (n := t455.length) (c := co73) ?_).2.2; exact u10_31)); (case side2 => exact (Kd.R_reads' HO457.out).2.1); rintro e w75 ⟨v464, rfl, ho0, hb⟩; refine ⟨_, rfl, ?_⟩; have n0_ := Aside0.mk (Kd.R_elder' u10_31 (Kd.R_base ho0) hb); have n1_ := Aside0.mk (Kd.R_lower (Kd.R_new' ho0 (Kd.R_lt u10_31)) (below_size u10_5)); have n2_ := Aside0.mk (blk_below (g := gb462) (o := .cells #[.slice Ao73 t455.length co73] 29 (0, 0)) u10_40 hb); have n3_ := Aside0.mk (below_step u10_5 hb); clear HO457; clear BK462; clear HB; have HO457 := n0_; have HO465 := n1_; have BK462 := n2_; have HB := n3_; clear n0_ n1_ n2_ n3_; (try clear hb); (try clear hb2); (try clear hk); (try clear hi); (try clear ho0)) | ((with_reducible refine gate_dst (N := 8) rfl ?_); (try (refine gate_guard (by rfl) ?_; dsimp only)); refine box_event ?hg (N := 8) ?hd (cs := #[.slice none 0 0]) (t := 29) ?hr ?_; (case hd => rfl); (case hg => rfl); (case hr => first | (go_simp; done) | (go_simp; rfl)); intro gb467 hg w76 hbox hb; have n0_ := Aside0.mk (Kd.R_below u10_19 hb); have n1_ := Aside0.mk (Kd.R_below u10_26 hb); have n2_ := Aside0.mk (blk_below (g := gb462) (o := .cells #[.slice Ao73 t455.length co73] 29 (0, 0)) u10_1 hb); have n3_ := Aside0.mk (below_step u10_5 hb); have n4_ := Aside0.mk (hbox); have n5_ := Aside0.mk ((by rw [hg]; exact (below_size u10_5) : w.heap.size ≤ gb467)); have n6_ := Aside0.mk ((by rw [hg]; exact (below_size u10_5) : w.heap.size ≤ gb467)); have n7_ := Aside0.mk ((by rw [hg]; exact Nat.ne_of_lt (blk_lt (g := gb462) (o := .cells #[.slice Ao73 t455.length co73] 29 (0, 0)) u10_1) : gb462 ≠ gb467)); have n8_ := Aside0.mk ((by rw [hg]; exact Nat.ne_of_gt (blk_lt (g := gb462) (o := .cells #[.slice Ao73 t455.length co73] 29 (0, 0)) u10_1) : gb467 ≠ gb462)); clear HO457; clear HO465; clear BK462; clear HB; have HO457 := n0_; have HO465 := n1_; have BK462 := n2_; have HB := n3_; have BK467 := n4_; have GW467 := n5_; have GE467 := n6_; have NB462_467 := n7_; have NB467_462 := n8_; clear n0_ n1_ n2_ n3_ n4_ n5_ n6_ n7_ n8_; clear hb hbox hg; obtain ⟨Ao77, co77, eo77⟩ := Kd.R_slice HO465.out; subst eo77; have hnb78 := NB467_462.out; have hnc78 := NB462_467.out; have hcz79_0 : w76.cell? ⟨gb467, 0, none⟩ = some (.slice none 0 0) := (blk_cell BK467.out 0).trans rfl; have hfz79_0 := blk_frozen BK467.out 0; have hcz80_0 : w76.cell? ⟨gb462, 0, none⟩ = some (.slice Ao73 t455.length co73) := (blk_cell BK462.out 0).trans rfl; have hfz80_0 := blk_frozen BK462.out 0) | ((with_reducible refine gate_callee (f := 46) rfl ?_); refine goesL_ (some 37) rfl rfl Try.func46 (by kernel_rfl) rfl #[.agg #[.slice Ao73 t455.length co73], .int .u64 t458] rfl u10_2 ?_; (with_reducible refine (laws_find.calls k _ _ t455 t458 t468 t469 t470 t471 t472 true _ ?side1 ?side2 A6.out).mono ?_); (case side1 => exact (by refine (Kd.R_reads' (e := 53) (base := w.heap.size) (ok := fun k_ => (True ∧ some k_ ≠ (.slice Ao77 t463.length co77 : Value).ownBlock)) (n := t455.length) (c := co73) ?_).2.2; exact u10_42)); (case side2 => exact (Kd.R_reads' HO457.out).2.1); rintro e w81 ⟨rfl, hb⟩; refine ⟨_, rfl, ?_⟩; have n0_ := Aside0.mk (Kd.R_below u10_42 hb); have n1_ := Aside0.mk (Kd.R_below (by (with_reducible repeat (first | apply Kd.R_alloc | apply Kd.R_drewN | apply Kd.R_drew)); exact (Kd.R_mono (Kd.R_far (p := ⟨gb467, 0, none⟩) (Kd.R_types HO465.out BK467.out (by decide)) (fun _ hk => hk.2) (.slice Ao77 t463.length co77)) (fun _ h_ => h_.1))) hb); have n2_ := Aside0.mk (blk_below (g := gb462) (o := .cells #[.slice Ao73 t455.length co73] 29 (0, 0)) u10_48 hb); have n3_ := Aside0.mk (blk_below (g := gb467) (o := .cells #[.slice Ao77 t463.length co77] 29 (0, 0)) u10_41 hb); have n4_ := Aside0.mk (below_step u10_6 hb); clear HO457; clear HO465; clear BK462; clear BK467; clear HB; have HO457 := n0_; have HO465 := n1_; have BK462 := n2_; have BK467 := n3_; have HB := n4_; clear n0_ n1_ n2_ n3_ n4_; (try clear hb); (try clear hb2); (try clear hk); (try clear hi)) | ((with_reducible refine gate_dst (N := 10) rfl ?_); (try (refine gate_guard (by rfl) ?_; dsimp only)); refine box_event ?hg (N := 10) ?hd (cs := #[.int .u64 0, .int .u64 0, .int .u64 0, .int .u64 0, .int .i64 0]) (t := 53) ?hr ?_; (case hd => rfl); (case hg => rfl); (case hr => first | (go_simp; done) | (go_simp; rfl)); intro gb474 hg w82 hbox hb; have n0_ := Aside0.mk (Kd.R_below (Kd.R_elderB u10_19 gb474 (Nat.le_of_eq hg.symm)) hb); have n1_ := Aside0.mk (Kd.R_below (Kd.R_elderB u10_26 gb474 (Nat.le_of_eq hg.symm)) hb); have n2_ := Aside0.mk (blk_below (g := gb462) (o := .cells #[.slice Ao73 t455.length co73] 29 (0, 0)) u10_1 hb); have n3_ := Aside0.mk (blk_below (g := gb467) (o := .cells #[.slice Ao77 t463.length co77] 29 (0, 0)) u10_3 hb); have n4_ := Aside0.mk (below_step u10_6 hb); have n5_ := Aside0.mk (hbox); have n6_ := Aside0.mk ((by rw [hg]; exact (below_size u10_6) : w.heap.size ≤ gb474)); have n7_ := Aside0.mk ((by rw [hg]; exact (below_size u10_6) : w.heap.size ≤ gb474)); have n8_ := Aside0.mk ((by rw [hg]; exact Nat.ne_of_lt (blk_lt (g := gb462) (o := .cells #[.slice Ao73 t455.length co73] 29 (0, 0)) u10_1) : gb462 ≠ gb474)); have n9_ := Aside0.mk ((by rw [hg]; exact Nat.ne_of_gt (blk_lt (g := gb462) (o := .cells #[.slice Ao73 t455.length co73] 29 (0, 0)) u10_1) : gb474 ≠ gb462)); have n10_ := Aside0.mk ((by rw [hg]; exact Nat.ne_of_lt (blk_lt (g := gb467) (o := .cells #[.slice Ao77 t463.length co77] 29 (0, 0)) u10_3) : gb467 ≠ gb474)); have n11_ := Aside0.mk ((by rw [hg]; exact Nat.ne_of_gt (blk_lt (g := gb467) (o := .cells #[.slice Ao77 t463.length co77] 29 (0, 0)) u10_3) : gb474 ≠ gb467)); clear HO457; clear HO465; clear BK462; clear BK467; clear HB; have HO457 := n0_; have HO465 := n1_; have BK462 := n2_; have BK467 := n3_; have HB := n4_; have BK474 := n5_; have GW474 := n6_; have GE474 := n7_; have NB462_474 := n8_; have NB474_462 := n9_; have NB467_474 := n10_; have NB474_467 := n11_; clear n0_ n1_ n2_ n3_ n4_ n5_ n6_ n7_ n8_ n9_ n10_ n11_; clear hb hbox hg; have hnb83 := NB474_462.out; have hnc83 := NB462_474.out; have hnb84 := NB474_467.out; have hnc84 := NB467_474.out; have hcz85_0 : w82.cell? ⟨gb474, 0, none⟩ = some (.int .u64 0) := (blk_cell BK474.out 0).trans rfl; have hcz85_1 : w82.cell? ⟨gb474, 1, none⟩ = some (.int .u64 0) := (blk_cell BK474.out 1).trans rfl; have hcz85_2 : w82.cell? ⟨gb474, 2, none⟩ = some (.int .u64 0) := (blk_cell BK474.out 2).trans rfl; have hcz85_3 : w82.cell? ⟨gb474, 3, none⟩ = some (.int .u64 0) := (blk_cell BK474.out 3).trans rfl; have hcz85_4 : w82.cell? ⟨gb474, 4, none⟩ = some (.int .i64 0) := (blk_cell BK474.out 4).trans rfl; have hfz85_0 := blk_frozen BK474.out 0; have hfz85_1 := blk_frozen BK474.out 1; have hfz85_2 := blk_frozen BK474.out 2; have hfz85_3 := blk_frozen BK474.out 3; have hfz85_4 := blk_frozen BK474.out 4; have hcz86_0 : w82.cell? ⟨gb467, 0, none⟩ = some (.slice Ao77 t463.length co77) := (blk_cell BK467.out 0).trans rfl; have hfz86_0 := blk_frozen BK467.out 0; have hcz87_0 : w82.cell? ⟨gb462, 0, none⟩ = some (.slice Ao73 t455.length co73) := (blk_cell BK462.out 0).trans rfl; have hfz87_0 := blk_frozen BK462.out 0) | ((with_reducible refine gate_callee (f := 47) rfl ?_); refine goesL_ (some 44) rfl rfl Try.func47 (by kernel_rfl) rfl #[.agg #[.slice Ao77 t463.length co77], .agg #[.slice Ao73 t455.length co73]] rfl u10_2 ?_; (with_reducible refine (laws_sameBook.calls k _ _ t463 _ _ t455 true _ ?side1 ?side2 ?side3 ?side4 A68.out).mono ?_); (case side1 => exact (by refine (Kd.R_reads' (e := 53) (base := w.heap.size) (ok := fun k_ => ((True ∧ some k_ ≠ (.slice Ao73 t455.length co73 : Value).ownBlock) ∧ k_ ≠ gb474)) (n := t463.length) (c := co77) ?_).2.2; exact u10_4)); (case side2 => exact (Kd.R_reads' HO465.out).2.1); (case side3 => exact (by refine (Kd.R_reads' (e := 53) (base := w.heap.size) (ok := fun k_ => ((True ∧ some k_ ≠ (.slice Ao77 t463.length co77 : Value).ownBlock) ∧ k_ ≠ gb474)) (n := t455.length) (c := co73) ?_).2.2; exact u10_13)); (case side4 => exact (Kd.R_reads' HO457.out).2.1); rintro e w88 ⟨rfl, hb⟩; refine ⟨_, rfl, ?_⟩; have n0_ := Aside0.mk (Kd.R_below u10_13 hb); have n1_ := Aside0.mk (Kd.R_below u10_4 hb); have n2_ := Aside0.mk (blk_below (g := gb462) (o := .cells #[.slice Ao73 t455.length co73] 29 (0, 0)) u10_21 hb); have n3_ := Aside0.mk (blk_below (g := gb467) (o := .cells #[.slice Ao77 t463.length co77] 29 (0, 0)) u10_22 hb); have n4_ := Aside0.mk (blk_below (g := gb474) (o := .cells #[.int .u64 t468, .int .u64 t469, .int .u64 t470, .int .u64 t471, .int .i64 t472] 53 (0, 0)) u10_8 hb); have n5_ := Aside0.mk (below_step u10_12 hb); clear HO457; clear HO465; clear BK462; clear BK467; clear BK474; clear HB; have HO457 := n0_; have HO465 := n1_; have BK462 := n2_; have BK467 := n3_; have BK474 := n4_; have HB := n5_; clear n0_ n1_ n2_ n3_ n4_ n5_; (try clear hb); (try clear hb2); (try clear hk); (try clear hi)))
    go_ret
    exact ⟨by first | rfl | (simp [errW_none, errW_some] <;> rfl) | (simp [*, errW_none, errW_some] <;> rfl), u10_12⟩
  rw [if_pos c7] at H
  have c7b0 : (t466 == 0) = true := beq_iff_eq.mpr c7
  have c7b1 : (t466 != 0) = false := bne_eq_false_iff_eq.mpr c7
  clear c7
  (first | rw [c7b0] | (simp only [i64_w, i32_w]; rw [c7b0]) | skip)
  replace H := Option.bind_eq_some_iff.mp H
  obtain ⟨⟨t476, t477, t478, t479, t480, t481⟩, A80, H⟩ := H
  (try dsimp only at H)
  have A8 := Aside0.mk A80
  clear A80
  replace H := Option.bind_eq_some_iff.mp H
  obtain ⟨⟨t483, t486⟩, A90, H⟩ := H
  (try dsimp only at H)
  have A9 := Aside0.mk A90
  clear A90
  replace H := Option.bind_eq_some_iff.mp H
  obtain ⟨⟨t488, t491⟩, A100, H⟩ := H
  (try dsimp only at H)
  have A10 := Aside0.mk A100
  clear A100
  by_cases c11 : t473 = true
  · subst c11
    rw [if_pos rfl] at H
    exact absurd ((Option.some.inj H).trans hr_.out) (by decide)
  replace c11 := Bool.eq_false_iff.mpr c11
  subst c11
  rw [if_neg (show ¬ (false = true) by decide)] at H
  by_cases c12 : t481 = true
  rotate_left
  · replace c12 := Bool.eq_false_iff.mpr c12
    subst c12
    rw [if_neg (show ¬ (false = true) by decide)] at H
    exact absurd ((Option.some.inj H).trans hr_.out) (by decide)
  subst c12
  rw [if_pos rfl] at H
  by_cases c13 : (t476 == t458 && (t477 == 0 && (t478 == 0 && (t479 == 0 && (t480 == 0))))) = true
  rotate_left
  · rw [if_neg c13] at H
    have c13b0 : (t476 == t458 && (t477 == 0 && (t478 == 0 && (t479 == 0 && (t480 == 0))))) = false := by simpa using c13
    (try (have c13b1 : decide (t476 = t458 && (t477 == 0 && (t478 == 0 && (t479 == 0 && (t480 == 0))))) = false := by simpa using c13))
    (try (have c13b2 : (t476 == t458 && (t477 == 0 && (t478 == 0 && (t479 == 0 && (t480 == 0))))) = false := by simpa using c13))
    (try (have c13b3 : ¬ (t476 = t458 && (t477 == 0 && (t478 == 0 && (t479 == 0 && (t480 == 0))))) := by simpa using c13))
    clear c13
    exact absurd ((Option.some.inj H).trans hr_.out) (by decide)
  rw [if_pos c13] at H
  have c13b0 : (t476 == t458 && (t477 == 0 && (t478 == 0 && (t479 == 0 && (t480 == 0))))) = true := c13
  (try (have c13b1 : decide (t476 = t458 && (t477 == 0 && (t478 == 0 && (t479 == 0 && (t480 == 0))))) = true := by simpa using c13))
  (try (have c13b2 : (t476 == t458 && (t477 == 0 && (t478 == 0 && (t479 == 0 && (t480 == 0))))) = true := by simpa using c13))
  clear c13
  by_cases c14 : t486 = 3
  rotate_left
  · rw [if_neg c14] at H
    have c14b0 : (t486 == 3) = false := beq_eq_false_iff_ne.mpr c14
    have c14b1 : (t486 != 3) = true := bne_iff_ne.mpr c14
    exact absurd ((Option.some.inj H).trans hr_.out) (by decide)
  rw [if_pos c14] at H
  have c14b0 : (t486 == 3) = true := beq_iff_eq.mpr c14
  have c14b1 : (t486 != 3) = false := bne_eq_false_iff_eq.mpr c14
  clear c14
  by_cases c15 : t491 = 0
  rotate_left
  · rw [if_neg c15] at H
    have c15b0 : (t491 == 0) = false := beq_eq_false_iff_ne.mpr c15
    have c15b1 : (t491 != 0) = true := bne_iff_ne.mpr c15
    exact absurd ((Option.some.inj H).trans hr_.out) (by decide)
  rw [if_pos c15] at H
  have c15b0 : (t491 == 0) = true := beq_iff_eq.mpr c15
  have c15b1 : (t491 != 0) = false := bne_eq_false_iff_eq.mpr c15
  clear c15
  replace H := Option.bind_eq_some_iff.mp H
  obtain ⟨t493, A160, H⟩ := H
  have A16 := Aside0.mk A160
  clear A160
  by_cases c17 : t493 = true
  rotate_left
  · replace c17 := Bool.eq_false_iff.mpr c17
    subst c17
    rw [if_neg (show ¬ (false = true) by decide)] at H
    exact absurd ((Option.some.inj H).trans hr_.out) (by decide)
  subst c17
  rw [if_pos rfl] at H
  replace H := Option.bind_eq_some_iff.mp H
  obtain ⟨t494, A180, H⟩ := H
  have A18 := Aside0.mk A180
  clear A180
  by_cases c19 : t494 = true
  rotate_left
  · replace c19 := Bool.eq_false_iff.mpr c19
    subst c19
    rw [if_neg (show ¬ (false = true) by decide)] at H
    exact absurd ((Option.some.inj H).trans hr_.out) (by decide)
  subst c19
  rw [if_pos rfl] at H
  obtain rfl := Option.some.inj H
  go_wp2_with (first | ((with_reducible refine gate_callee (f := 45) rfl ?_); refine goesL_ (some 22) rfl rfl Try.func45 (by kernel_rfl) rfl #[.slice A0 l0.length c0] rfl u10_2 ?_; (with_reducible refine (spec_DrawRightBook.calls k _ _ l0 t455 t458 t459 t460 t461 _ ?side1 ?side2 A4.out).mono ?_); (case side1 => exact u10_36); (case side2 => exact HC0.out); rintro e w20 ⟨v456, rfl, ho0, hb⟩; refine ⟨_, rfl, ?_⟩; have n0_ := Aside0.mk (Kd.R_lower ho0 (below_size u10_0)); have n1_ := Aside0.mk (below_step u10_0 hb); clear HB; have HO457 := n0_; have HB := n1_; clear n0_ n1_; (try clear hb); (try clear hb2); (try clear hk); (try clear hi); (try clear ho0)) | ((with_reducible refine gate_dst (N := 3) rfl ?_); (try (refine gate_guard (by rfl) ?_; dsimp only)); refine box_event ?hg (N := 3) ?hd (cs := #[.slice none 0 0]) (t := 29) ?hr ?_; (case hd => rfl); (case hg => rfl); (case hr => first | (go_simp; done) | (go_simp; rfl)); intro gb462 hg w21 hbox hb; have n0_ := Aside0.mk (Kd.R_below u10_19 hb); have n1_ := Aside0.mk (below_step u10_0 hb); have n2_ := Aside0.mk (hbox); have n3_ := Aside0.mk ((by rw [hg]; exact (below_size u10_0) : w.heap.size ≤ gb462)); have n4_ := Aside0.mk ((by rw [hg]; exact (below_size u10_0) : w.heap.size ≤ gb462)); clear HO457; clear HB; have HO457 := n0_; have HB := n1_; have BK462 := n2_; have GW462 := n3_; have GE462 := n4_; clear n0_ n1_ n2_ n3_ n4_; clear hb hbox hg; obtain ⟨Ao22, co22, eo22⟩ := Kd.R_slice HO457.out; subst eo22; have hcz23_0 : w21.cell? ⟨gb462, 0, none⟩ = some (.slice none 0 0) := (blk_cell BK462.out 0).trans rfl; have hfz23_0 := blk_frozen BK462.out 0) | ((with_reducible refine gate_callee (f := 43) rfl ?_); refine goesL_ (some 31) rfl rfl Try.func43 (by kernel_rfl) rfl #[.agg #[.slice Ao22 t455.length co22], .int .u64 t458] rfl u10_2 ?_; (with_reducible refine (impl_OpenAccount.calls k _ _ t455 t458 t463 t466 _ ?side1 ?side2 A5.out).mono ?_); (case side1 => exact (by refine (Kd.R_reads' (e := 53) (base := w.heap.size) (ok := fun k_ => True) (n := t455.length) (c := co22) ?_).2.2; exact u10_32)); (case side2 => exact (Kd.R_reads' HO457.out).2.1); rintro e w24 ⟨v464, rfl, ho0, hb⟩; refine ⟨_, rfl, ?_⟩; have n0_ := Aside0.mk (Kd.R_elder' u10_32 (Kd.R_base ho0) hb); have n1_ := Aside0.mk (Kd.R_lower (Kd.R_new' ho0 (Kd.R_lt u10_32)) (below_size u10_5)); have n2_ := Aside0.mk (blk_below (g := gb462) (o := .cells #[.slice Ao22 t455.length co22] 29 (0, 0)) u10_40 hb); have n3_ := Aside0.mk (below_step u10_5 hb); clear HO457; clear BK462; clear HB; have HO457 := n0_; have HO465 := n1_; have BK462 := n2_; have HB := n3_; clear n0_ n1_ n2_ n3_; (try clear hb); (try clear hb2); (try clear hk); (try clear hi); (try clear ho0)) | ((with_reducible refine gate_dst (N := 8) rfl ?_); (try (refine gate_guard (by rfl) ?_; dsimp only)); refine box_event ?hg (N := 8) ?hd (cs := #[.slice none 0 0]) (t := 29) ?hr ?_; (case hd => rfl); (case hg => rfl); (case hr => first | (go_simp; done) | (go_simp; rfl)); intro gb467 hg w25 hbox hb; have n0_ := Aside0.mk (Kd.R_below u10_19 hb); have n1_ := Aside0.mk (Kd.R_below u10_26 hb); have n2_ := Aside0.mk (blk_below (g := gb462) (o := .cells #[.slice Ao22 t455.length co22] 29 (0, 0)) u10_1 hb); have n3_ := Aside0.mk (below_step u10_5 hb); have n4_ := Aside0.mk (hbox); have n5_ := Aside0.mk ((by rw [hg]; exact (below_size u10_5) : w.heap.size ≤ gb467)); have n6_ := Aside0.mk ((by rw [hg]; exact (below_size u10_5) : w.heap.size ≤ gb467)); have n7_ := Aside0.mk ((by rw [hg]; exact Nat.ne_of_lt (blk_lt (g := gb462) (o := .cells #[.slice Ao22 t455.length co22] 29 (0, 0)) u10_1) : gb462 ≠ gb467)); have n8_ := Aside0.mk ((by rw [hg]; exact Nat.ne_of_gt (blk_lt (g := gb462) (o := .cells #[.slice Ao22 t455.length co22] 29 (0, 0)) u10_1) : gb467 ≠ gb462)); clear HO457; clear HO465; clear BK462; clear HB; have HO457 := n0_; have HO465 := n1_; have BK462 := n2_; have HB := n3_; have BK467 := n4_; have GW467 := n5_; have GE467 := n6_; have NB462_467 := n7_; have NB467_462 := n8_; clear n0_ n1_ n2_ n3_ n4_ n5_ n6_ n7_ n8_; clear hb hbox hg; obtain ⟨Ao26, co26, eo26⟩ := Kd.R_slice HO465.out; subst eo26; have hnb27 := NB467_462.out; have hnc27 := NB462_467.out; have hcz28_0 : w25.cell? ⟨gb467, 0, none⟩ = some (.slice none 0 0) := (blk_cell BK467.out 0).trans rfl; have hfz28_0 := blk_frozen BK467.out 0; have hcz29_0 : w25.cell? ⟨gb462, 0, none⟩ = some (.slice Ao22 t455.length co22) := (blk_cell BK462.out 0).trans rfl; have hfz29_0 := blk_frozen BK462.out 0) | ((with_reducible refine gate_callee (f := 46) rfl ?_); refine goesL_ (some 37) rfl rfl Try.func46 (by kernel_rfl) rfl #[.agg #[.slice Ao22 t455.length co22], .int .u64 t458] rfl u10_2 ?_; (with_reducible refine (laws_find.calls k _ _ t455 t458 t468 t469 t470 t471 t472 false _ ?side1 ?side2 A6.out).mono ?_); (case side1 => exact (by refine (Kd.R_reads' (e := 53) (base := w.heap.size) (ok := fun k_ => (True ∧ some k_ ≠ (.slice Ao26 t463.length co26 : Value).ownBlock)) (n := t455.length) (c := co22) ?_).2.2; exact u10_43)); (case side2 => exact (Kd.R_reads' HO457.out).2.1); rintro e w30 ⟨rfl, hb⟩; refine ⟨_, rfl, ?_⟩; have n0_ := Aside0.mk (Kd.R_below u10_43 hb); have n1_ := Aside0.mk (Kd.R_below (by (with_reducible repeat (first | apply Kd.R_alloc | apply Kd.R_drewN | apply Kd.R_drew)); exact (Kd.R_mono (Kd.R_far (p := ⟨gb467, 0, none⟩) (Kd.R_types HO465.out BK467.out (by decide)) (fun _ hk => hk.2) (.slice Ao26 t463.length co26)) (fun _ h_ => h_.1))) hb); have n2_ := Aside0.mk (blk_below (g := gb462) (o := .cells #[.slice Ao22 t455.length co22] 29 (0, 0)) u10_48 hb); have n3_ := Aside0.mk (blk_below (g := gb467) (o := .cells #[.slice Ao26 t463.length co26] 29 (0, 0)) u10_41 hb); have n4_ := Aside0.mk (below_step u10_6 hb); clear HO457; clear HO465; clear BK462; clear BK467; clear HB; have HO457 := n0_; have HO465 := n1_; have BK462 := n2_; have BK467 := n3_; have HB := n4_; clear n0_ n1_ n2_ n3_ n4_; (try clear hb); (try clear hb2); (try clear hk); (try clear hi)) | ((with_reducible refine gate_dst (N := 10) rfl ?_); (try (refine gate_guard (by rfl) ?_; dsimp only)); refine box_event ?hg (N := 10) ?hd (cs := #[.int .u64 0, .int .u64 0, .int .u64 0, .int .u64 0, .int .i64 0]) (t := 53) ?hr ?_; (case hd => rfl); (case hg => rfl); (case hr => first | (go_simp; done) | (go_simp; rfl)); intro gb474 hg w31 hbox hb; have n0_ := Aside0.mk (Kd.R_below (Kd.R_elderB u10_19 gb474 (Nat.le_of_eq hg.symm)) hb); have n1_ := Aside0.mk (Kd.R_below (Kd.R_elderB u10_26 gb474 (Nat.le_of_eq hg.symm)) hb); have n2_ := Aside0.mk (blk_below (g := gb462) (o := .cells #[.slice Ao22 t455.length co22] 29 (0, 0)) u10_1 hb); have n3_ := Aside0.mk (blk_below (g := gb467) (o := .cells #[.slice Ao26 t463.length co26] 29 (0, 0)) u10_3 hb); have n4_ := Aside0.mk (below_step u10_6 hb); have n5_ := Aside0.mk (hbox); have n6_ := Aside0.mk ((by rw [hg]; exact (below_size u10_6) : w.heap.size ≤ gb474)); have n7_ := Aside0.mk ((by rw [hg]; exact (below_size u10_6) : w.heap.size ≤ gb474)); have n8_ := Aside0.mk ((by rw [hg]; exact Nat.ne_of_lt (blk_lt (g := gb462) (o := .cells #[.slice Ao22 t455.length co22] 29 (0, 0)) u10_1) : gb462 ≠ gb474)); have n9_ := Aside0.mk ((by rw [hg]; exact Nat.ne_of_gt (blk_lt (g := gb462) (o := .cells #[.slice Ao22 t455.length co22] 29 (0, 0)) u10_1) : gb474 ≠ gb462)); have n10_ := Aside0.mk ((by rw [hg]; exact Nat.ne_of_lt (blk_lt (g := gb467) (o := .cells #[.slice Ao26 t463.length co26] 29 (0, 0)) u10_3) : gb467 ≠ gb474)); have n11_ := Aside0.mk ((by rw [hg]; exact Nat.ne_of_gt (blk_lt (g := gb467) (o := .cells #[.slice Ao26 t463.length co26] 29 (0, 0)) u10_3) : gb474 ≠ gb467)); clear HO457; clear HO465; clear BK462; clear BK467; clear HB; have HO457 := n0_; have HO465 := n1_; have BK462 := n2_; have BK467 := n3_; have HB := n4_; have BK474 := n5_; have GW474 := n6_; have GE474 := n7_; have NB462_474 := n8_; have NB474_462 := n9_; have NB467_474 := n10_; have NB474_467 := n11_; clear n0_ n1_ n2_ n3_ n4_ n5_ n6_ n7_ n8_ n9_ n10_ n11_; clear hb hbox hg; have hnb32 := NB474_462.out; have hnc32 := NB462_474.out; have hnb33 := NB474_467.out; have hnc33 := NB467_474.out; have hcz34_0 : w31.cell? ⟨gb474, 0, none⟩ = some (.int .u64 0) := (blk_cell BK474.out 0).trans rfl; have hcz34_1 : w31.cell? ⟨gb474, 1, none⟩ = some (.int .u64 0) := (blk_cell BK474.out 1).trans rfl; have hcz34_2 : w31.cell? ⟨gb474, 2, none⟩ = some (.int .u64 0) := (blk_cell BK474.out 2).trans rfl; have hcz34_3 : w31.cell? ⟨gb474, 3, none⟩ = some (.int .u64 0) := (blk_cell BK474.out 3).trans rfl; have hcz34_4 : w31.cell? ⟨gb474, 4, none⟩ = some (.int .i64 0) := (blk_cell BK474.out 4).trans rfl; have hfz34_0 := blk_frozen BK474.out 0; have hfz34_1 := blk_frozen BK474.out 1; have hfz34_2 := blk_frozen BK474.out 2; have hfz34_3 := blk_frozen BK474.out 3; have hfz34_4 := blk_frozen BK474.out 4; have hcz35_0 : w31.cell? ⟨gb467, 0, none⟩ = some (.slice Ao26 t463.length co26) := (blk_cell BK467.out 0).trans rfl; have hfz35_0 := blk_frozen BK467.out 0) | ((with_reducible refine gate_callee (f := 46) rfl ?_); refine goesL_ (some 55) rfl rfl Try.func46 (by kernel_rfl) rfl #[.agg #[.slice Ao26 t463.length co26], .int .u64 t458] rfl u10_2 ?_; (with_reducible refine (laws_find.calls k _ _ t463 t458 t476 t477 t478 t479 t480 true _ ?side1 ?side2 A8.out).mono ?_); (case side1 => exact (by refine (Kd.R_reads' (e := 53) (base := w.heap.size) (ok := fun k_ => ((True ∧ some k_ ≠ (.slice Ao22 t455.length co22 : Value).ownBlock) ∧ k_ ≠ gb474)) (n := t463.length) (c := co26) ?_).2.2; exact u10_4)); (case side2 => exact (Kd.R_reads' HO465.out).2.1); rintro e w36 ⟨rfl, hb⟩; refine ⟨_, rfl, ?_⟩; have n0_ := Aside0.mk (Kd.R_below u10_13 hb); have n1_ := Aside0.mk (Kd.R_below u10_4 hb); have n2_ := Aside0.mk (blk_below (g := gb462) (o := .cells #[.slice Ao22 t455.length co22] 29 (0, 0)) u10_21 hb); have n3_ := Aside0.mk (blk_below (g := gb467) (o := .cells #[.slice Ao26 t463.length co26] 29 (0, 0)) u10_22 hb); have n4_ := Aside0.mk (blk_below (g := gb474) (o := .cells #[.int .u64 t468, .int .u64 t469, .int .u64 t470, .int .u64 t471, .int .i64 t472] 53 (0, 0)) u10_8 hb); have n5_ := Aside0.mk (below_step u10_12 hb); clear HO457; clear HO465; clear BK462; clear BK467; clear BK474; clear HB; have HO457 := n0_; have HO465 := n1_; have BK462 := n2_; have BK467 := n3_; have BK474 := n4_; have HB := n5_; clear n0_ n1_ n2_ n3_ n4_ n5_; (try clear hb); (try clear hb2); (try clear hk); (try clear hi)) | ((with_reducible refine gate_dst (N := 12) rfl ?_); (try (refine gate_guard (by rfl) ?_; dsimp only)); refine box_event ?hg (N := 12) ?hd (cs := #[.int .u64 0, .int .u64 0, .int .u64 0, .int .u64 0, .int .i64 0]) (t := 53) ?hr ?_; (case hd => rfl); (case hg => rfl); (case hr => first | (go_simp; done) | (go_simp; rfl)); intro gb482 hg w37 hbox hb; have n0_ := Aside0.mk (Kd.R_below (Kd.R_elderB u10_19 gb482 (Nat.le_of_eq hg.symm)) hb); have n1_ := Aside0.mk (Kd.R_below (Kd.R_elderB u10_26 gb482 (Nat.le_of_eq hg.symm)) hb); have n2_ := Aside0.mk (blk_below (g := gb462) (o := .cells #[.slice Ao22 t455.length co22] 29 (0, 0)) u10_1 hb); have n3_ := Aside0.mk (blk_below (g := gb467) (o := .cells #[.slice Ao26 t463.length co26] 29 (0, 0)) u10_3 hb); have n4_ := Aside0.mk (blk_below (g := gb474) (o := .cells #[.int .u64 t468, .int .u64 t469, .int .u64 t470, .int .u64 t471, .int .i64 t472] 53 (0, 0)) u10_17 hb); have n5_ := Aside0.mk (below_step u10_12 hb); have n6_ := Aside0.mk (hbox); have n7_ := Aside0.mk ((by rw [hg]; exact (below_size u10_12) : w.heap.size ≤ gb482)); have n8_ := Aside0.mk ((by rw [hg]; exact (below_size u10_12) : w.heap.size ≤ gb482)); have n9_ := Aside0.mk ((by rw [hg]; exact Nat.ne_of_lt (blk_lt (g := gb462) (o := .cells #[.slice Ao22 t455.length co22] 29 (0, 0)) u10_1) : gb462 ≠ gb482)); have n10_ := Aside0.mk ((by rw [hg]; exact Nat.ne_of_gt (blk_lt (g := gb462) (o := .cells #[.slice Ao22 t455.length co22] 29 (0, 0)) u10_1) : gb482 ≠ gb462)); have n11_ := Aside0.mk ((by rw [hg]; exact Nat.ne_of_lt (blk_lt (g := gb467) (o := .cells #[.slice Ao26 t463.length co26] 29 (0, 0)) u10_3) : gb467 ≠ gb482)); have n12_ := Aside0.mk ((by rw [hg]; exact Nat.ne_of_gt (blk_lt (g := gb467) (o := .cells #[.slice Ao26 t463.length co26] 29 (0, 0)) u10_3) : gb482 ≠ gb467)); have n13_ := Aside0.mk ((by rw [hg]; exact Nat.ne_of_lt (blk_lt (g := gb474) (o := .cells #[.int .u64 t468, .int .u64 t469, .int .u64 t470, .int .u64 t471, .int .i64 t472] 53 (0, 0)) u10_17) : gb474 ≠ gb482)); have n14_ := Aside0.mk ((by rw [hg]; exact Nat.ne_of_gt (blk_lt (g := gb474) (o := .cells #[.int .u64 t468, .int .u64 t469, .int .u64 t470, .int .u64 t471, .int .i64 t472] 53 (0, 0)) u10_17) : gb482 ≠ gb474)); clear HO457; clear HO465; clear BK462; clear BK467; clear BK474; clear HB; have HO457 := n0_; have HO465 := n1_; have BK462 := n2_; have BK467 := n3_; have BK474 := n4_; have HB := n5_; have BK482 := n6_; have GW482 := n7_; have GE482 := n8_; have NB462_482 := n9_; have NB482_462 := n10_; have NB467_482 := n11_; have NB482_467 := n12_; have NB474_482 := n13_; have NB482_474 := n14_; clear n0_ n1_ n2_ n3_ n4_ n5_ n6_ n7_ n8_ n9_ n10_ n11_ n12_ n13_ n14_; clear hb hbox hg; have hnb38 := NB482_462.out; have hnc38 := NB462_482.out; have hnb39 := NB482_467.out; have hnc39 := NB467_482.out; have hnb40 := NB482_474.out; have hnc40 := NB474_482.out; have hcz41_0 : w37.cell? ⟨gb482, 0, none⟩ = some (.int .u64 0) := (blk_cell BK482.out 0).trans rfl; have hcz41_1 : w37.cell? ⟨gb482, 1, none⟩ = some (.int .u64 0) := (blk_cell BK482.out 1).trans rfl; have hcz41_2 : w37.cell? ⟨gb482, 2, none⟩ = some (.int .u64 0) := (blk_cell BK482.out 2).trans rfl; have hcz41_3 : w37.cell? ⟨gb482, 3, none⟩ = some (.int .u64 0) := (blk_cell BK482.out 3).trans rfl; have hcz41_4 : w37.cell? ⟨gb482, 4, none⟩ = some (.int .i64 0) := (blk_cell BK482.out 4).trans rfl; have hfz41_0 := blk_frozen BK482.out 0; have hfz41_1 := blk_frozen BK482.out 1; have hfz41_2 := blk_frozen BK482.out 2; have hfz41_3 := blk_frozen BK482.out 3; have hfz41_4 := blk_frozen BK482.out 4; have hcz42_0 : w37.cell? ⟨gb467, 0, none⟩ = some (.slice Ao26 t463.length co26) := (blk_cell BK467.out 0).trans rfl; have hfz42_0 := blk_frozen BK467.out 0) | ((with_reducible refine gate_callee (f := 43) rfl ?_); refine goesL_ (some 61) rfl rfl Try.func43 (by kernel_rfl) rfl #[.agg #[.slice Ao26 t463.length co26], .int .u64 t458] rfl u10_2 ?_; (with_reducible refine (impl_OpenAccount.calls k _ _ t463 t458 t483 t486 _ ?side1 ?side2 A9.out).mono ?_); (case side1 => exact (by refine (Kd.R_reads' (e := 53) (base := w.heap.size) (ok := fun k_ => (((True ∧ some k_ ≠ (.slice Ao22 t455.length co22 : Value).ownBlock) ∧ k_ ≠ gb474) ∧ k_ ≠ gb482)) (n := t463.length) (c := co26) ?_).2.2; exact u10_14)); (case side2 => exact (Kd.R_reads' HO465.out).2.1); rintro e w43 ⟨v484, rfl, ho0, hb⟩; refine ⟨_, rfl, ?_⟩; have n0_ := Aside0.mk (Kd.R_elder' u10_30 (Kd.R_base ho0) hb); have n1_ := Aside0.mk (Kd.R_elder' u10_14 (Kd.R_base ho0) hb); have n2_ := Aside0.mk (Kd.R_lower (Kd.R_newB (Kd.R_newB (Kd.R_new' (Kd.R_new' ho0 (Kd.R_lt u10_30)) (Kd.R_lt u10_14)) (g := gb474) (o := .cells #[.int .u64 t468, .int .u64 t469, .int .u64 t470, .int .u64 t471, .int .i64 t472] 53 (0, 0)) u10_23) (g := gb482) (o := .cells #[.int .u64 t476, .int .u64 t477, .int .u64 t478, .int .u64 t479, .int .i64 t480] 53 (0, 0)) u10_9) (below_size u10_15)); have n3_ := Aside0.mk (blk_below (g := gb462) (o := .cells #[.slice Ao22 t455.length co22] 29 (0, 0)) (by (with_reducible repeat (first | refine blk_drewN ?_ _ | refine blk_drew ?_ | refine blk_alloc ?_ _)); refine blk_far ?_ NB462_482.out _; (with_reducible repeat (first | refine blk_drewN ?_ _ | refine blk_drew ?_ | refine blk_alloc ?_ _)); refine blk_far ?_ NB462_482.out _; (with_reducible repeat (first | refine blk_drewN ?_ _ | refine blk_drew ?_ | refine blk_alloc ?_ _)); refine blk_far ?_ NB462_482.out _; (with_reducible repeat (first | refine blk_drewN ?_ _ | refine blk_drew ?_ | refine blk_alloc ?_ _)); refine blk_far ?_ NB462_482.out _; (with_reducible repeat (first | refine blk_drewN ?_ _ | refine blk_drew ?_ | refine blk_alloc ?_ _)); refine blk_far ?_ NB462_482.out _; (with_reducible repeat (first | refine blk_drewN ?_ _ | refine blk_drew ?_ | refine blk_alloc ?_ _)); exact BK462.out) hb); have n4_ := Aside0.mk (blk_below (g := gb467) (o := .cells #[.slice Ao26 t463.length co26] 29 (0, 0)) (by (with_reducible repeat (first | refine blk_drewN ?_ _ | refine blk_drew ?_ | refine blk_alloc ?_ _)); refine blk_far ?_ NB467_482.out _; (with_reducible repeat (first | refine blk_drewN ?_ _ | refine blk_drew ?_ | refine blk_alloc ?_ _)); refine blk_far ?_ NB467_482.out _; (with_reducible repeat (first | refine blk_drewN ?_ _ | refine blk_drew ?_ | refine blk_alloc ?_ _)); refine blk_far ?_ NB467_482.out _; (with_reducible repeat (first | refine blk_drewN ?_ _ | refine blk_drew ?_ | refine blk_alloc ?_ _)); refine blk_far ?_ NB467_482.out _; (with_reducible repeat (first | refine blk_drewN ?_ _ | refine blk_drew ?_ | refine blk_alloc ?_ _)); refine blk_far ?_ NB467_482.out _; (with_reducible repeat (first | refine blk_drewN ?_ _ | refine blk_drew ?_ | refine blk_alloc ?_ _)); exact BK467.out) hb); have n5_ := Aside0.mk (blk_below (g := gb474) (o := .cells #[.int .u64 t468, .int .u64 t469, .int .u64 t470, .int .u64 t471, .int .i64 t472] 53 (0, 0)) u10_23 hb); have n6_ := Aside0.mk (blk_below (g := gb482) (o := .cells #[.int .u64 t476, .int .u64 t477, .int .u64 t478, .int .u64 t479, .int .i64 t480] 53 (0, 0)) u10_9 hb); have n7_ := Aside0.mk (below_step u10_15 hb); clear HO457; clear HO465; clear BK462; clear BK467; clear BK474; clear BK482; clear HB; have HO457 := n0_; have HO465 := n1_; have HO485 := n2_; have BK462 := n3_; have BK467 := n4_; have BK474 := n5_; have BK482 := n6_; have HB := n7_; clear n0_ n1_ n2_ n3_ n4_ n5_ n6_ n7_; (try clear hb); (try clear hb2); (try clear hk); (try clear hi); (try clear ho0)) | ((with_reducible refine gate_dst (N := 14) rfl ?_); (try (refine gate_guard (by rfl) ?_; dsimp only)); refine box_event ?hg (N := 14) ?hd (cs := #[.slice none 0 0]) (t := 29) ?hr ?_; (case hd => rfl); (case hg => rfl); (case hr => first | (go_simp; done) | (go_simp; rfl)); intro gb487 hg w44 hbox hb; have n0_ := Aside0.mk (Kd.R_below u10_19 hb); have n1_ := Aside0.mk (Kd.R_below u10_26 hb); have n2_ := Aside0.mk (Kd.R_below u10_53 hb); have n3_ := Aside0.mk (blk_below (g := gb462) (o := .cells #[.slice Ao22 t455.length co22] 29 (0, 0)) u10_1 hb); have n4_ := Aside0.mk (blk_below (g := gb467) (o := .cells #[.slice Ao26 t463.length co26] 29 (0, 0)) u10_3 hb); have n5_ := Aside0.mk (blk_below (g := gb474) (o := .cells #[.int .u64 t468, .int .u64 t469, .int .u64 t470, .int .u64 t471, .int .i64 t472] 53 (0, 0)) u10_17 hb); have n6_ := Aside0.mk (blk_below (g := gb482) (o := .cells #[.int .u64 t476, .int .u64 t477, .int .u64 t478, .int .u64 t479, .int .i64 t480] 53 (0, 0)) u10_27 hb); have n7_ := Aside0.mk (below_step u10_15 hb); have n8_ := Aside0.mk (hbox); have n9_ := Aside0.mk ((by rw [hg]; exact (below_size u10_15) : w.heap.size ≤ gb487)); have n10_ := Aside0.mk ((by rw [hg]; exact (below_size u10_15) : w.heap.size ≤ gb487)); have n11_ := Aside0.mk ((by rw [hg]; exact Nat.ne_of_lt (blk_lt (g := gb462) (o := .cells #[.slice Ao22 t455.length co22] 29 (0, 0)) u10_1) : gb462 ≠ gb487)); have n12_ := Aside0.mk ((by rw [hg]; exact Nat.ne_of_gt (blk_lt (g := gb462) (o := .cells #[.slice Ao22 t455.length co22] 29 (0, 0)) u10_1) : gb487 ≠ gb462)); have n13_ := Aside0.mk ((by rw [hg]; exact Nat.ne_of_lt (blk_lt (g := gb467) (o := .cells #[.slice Ao26 t463.length co26] 29 (0, 0)) u10_3) : gb467 ≠ gb487)); have n14_ := Aside0.mk ((by rw [hg]; exact Nat.ne_of_gt (blk_lt (g := gb467) (o := .cells #[.slice Ao26 t463.length co26] 29 (0, 0)) u10_3) : gb487 ≠ gb467)); have n15_ := Aside0.mk ((by rw [hg]; exact Nat.ne_of_lt (blk_lt (g := gb474) (o := .cells #[.int .u64 t468, .int .u64 t469, .int .u64 t470, .int .u64 t471, .int .i64 t472] 53 (0, 0)) u10_17) : gb474 ≠ gb487)); have n16_ := Aside0.mk ((by rw [hg]; exact Nat.ne_of_gt (blk_lt (g := gb474) (o := .cells #[.int .u64 t468, .int .u64 t469, .int .u64 t470, .int .u64 t471, .int .i64 t472] 53 (0, 0)) u10_17) : gb487 ≠ gb474)); have n17_ := Aside0.mk ((by rw [hg]; exact Nat.ne_of_lt (blk_lt (g := gb482) (o := .cells #[.int .u64 t476, .int .u64 t477, .int .u64 t478, .int .u64 t479, .int .i64 t480] 53 (0, 0)) u10_27) : gb482 ≠ gb487)); have n18_ := Aside0.mk ((by rw [hg]; exact Nat.ne_of_gt (blk_lt (g := gb482) (o := .cells #[.int .u64 t476, .int .u64 t477, .int .u64 t478, .int .u64 t479, .int .i64 t480] 53 (0, 0)) u10_27) : gb487 ≠ gb482)); clear HO457; clear HO465; clear HO485; clear BK462; clear BK467; clear BK474; clear BK482; clear HB; have HO457 := n0_; have HO465 := n1_; have HO485 := n2_; have BK462 := n3_; have BK467 := n4_; have BK474 := n5_; have BK482 := n6_; have HB := n7_; have BK487 := n8_; have GW487 := n9_; have GE487 := n10_; have NB462_487 := n11_; have NB487_462 := n12_; have NB467_487 := n13_; have NB487_467 := n14_; have NB474_487 := n15_; have NB487_474 := n16_; have NB482_487 := n17_; have NB487_482 := n18_; clear n0_ n1_ n2_ n3_ n4_ n5_ n6_ n7_ n8_ n9_ n10_ n11_ n12_ n13_ n14_ n15_ n16_ n17_ n18_; clear hb hbox hg; obtain ⟨Ao45, co45, eo45⟩ := Kd.R_slice HO485.out; subst eo45; have hnb46 := NB487_462.out; have hnc46 := NB462_487.out; have hnb47 := NB487_467.out; have hnc47 := NB467_487.out; have hnb48 := NB487_474.out; have hnc48 := NB474_487.out; have hnb49 := NB487_482.out; have hnc49 := NB482_487.out; have hcz50_0 : w44.cell? ⟨gb487, 0, none⟩ = some (.slice none 0 0) := (blk_cell BK487.out 0).trans rfl; have hfz50_0 := blk_frozen BK487.out 0; have hcz51_0 : w44.cell? ⟨gb467, 0, none⟩ = some (.slice Ao26 t463.length co26) := (blk_cell BK467.out 0).trans rfl; have hfz51_0 := blk_frozen BK467.out 0) | ((with_reducible refine gate_callee (f := 29) rfl ?_); refine goesL_ (some 67) rfl rfl Try.func29 (by kernel_rfl) rfl #[.agg #[.slice Ao26 t463.length co26], .int .u64 t458] rfl u10_2 ?_; (with_reducible refine (impl_CloseAccount.calls k _ _ t463 t458 t488 t491 _ ?side1 ?side2 A10.out).mono ?_); (case side1 => exact (by refine (Kd.R_reads' (e := 53) (base := w.heap.size) (ok := fun k_ => ((((True ∧ some k_ ≠ (.slice Ao22 t455.length co22 : Value).ownBlock) ∧ k_ ≠ gb474) ∧ k_ ≠ gb482) ∧ some k_ ≠ (.slice Ao45 t483.length co45 : Value).ownBlock)) (n := t463.length) (c := co26) ?_).2.2; exact u10_33)); (case side2 => exact (Kd.R_reads' HO465.out).2.1); rintro e w52 ⟨v489, rfl, ho0, hb⟩; refine ⟨_, rfl, ?_⟩; have n0_ := Aside0.mk (Kd.R_elder' u10_44 (Kd.R_base ho0) hb); have n1_ := Aside0.mk (Kd.R_elder' u10_33 (Kd.R_base ho0) hb); have n2_ := Aside0.mk (Kd.R_elder' u10_45 (Kd.R_base ho0) hb); have n3_ := Aside0.mk (Kd.R_lower (Kd.R_newB (Kd.R_newB (Kd.R_new' (Kd.R_new' (Kd.R_new' ho0 (Kd.R_lt u10_44)) (Kd.R_lt u10_33)) (Kd.R_lt u10_45)) (g := gb474) (o := .cells #[.int .u64 t468, .int .u64 t469, .int .u64 t470, .int .u64 t471, .int .i64 t472] 53 (0, 0)) u10_49) (g := gb482) (o := .cells #[.int .u64 t476, .int .u64 t477, .int .u64 t478, .int .u64 t479, .int .i64 t480] 53 (0, 0)) u10_50) (below_size u10_10)); have n4_ := Aside0.mk (blk_below (g := gb462) (o := .cells #[.slice Ao22 t455.length co22] 29 (0, 0)) (by (with_reducible repeat (first | refine blk_drewN ?_ _ | refine blk_drew ?_ | refine blk_alloc ?_ _)); refine blk_far ?_ NB462_487.out _; (with_reducible repeat (first | refine blk_drewN ?_ _ | refine blk_drew ?_ | refine blk_alloc ?_ _)); exact BK462.out) hb); have n5_ := Aside0.mk (blk_below (g := gb467) (o := .cells #[.slice Ao26 t463.length co26] 29 (0, 0)) (by (with_reducible repeat (first | refine blk_drewN ?_ _ | refine blk_drew ?_ | refine blk_alloc ?_ _)); refine blk_far ?_ NB467_487.out _; (with_reducible repeat (first | refine blk_drewN ?_ _ | refine blk_drew ?_ | refine blk_alloc ?_ _)); exact BK467.out) hb); have n6_ := Aside0.mk (blk_below (g := gb474) (o := .cells #[.int .u64 t468, .int .u64 t469, .int .u64 t470, .int .u64 t471, .int .i64 t472] 53 (0, 0)) u10_49 hb); have n7_ := Aside0.mk (blk_below (g := gb482) (o := .cells #[.int .u64 t476, .int .u64 t477, .int .u64 t478, .int .u64 t479, .int .i64 t480] 53 (0, 0)) u10_50 hb); have n8_ := Aside0.mk (blk_below (g := gb487) (o := .cells #[.slice Ao45 t483.length co45] 29 (0, 0)) (by (with_reducible repeat (first | refine blk_drewN ?_ _ | refine blk_drew ?_ | refine blk_alloc ?_ _)); refine blk_put (cs := #[.slice none 0 0]) ?_ 0 _ rfl; (with_reducible repeat (first | refine blk_drewN ?_ _ | refine blk_drew ?_ | refine blk_alloc ?_ _)); exact BK487.out) hb); have n9_ := Aside0.mk (below_step u10_10 hb); clear HO457; clear HO465; clear HO485; clear BK462; clear BK467; clear BK474; clear BK482; clear BK487; clear HB; have HO457 := n0_; have HO465 := n1_; have HO485 := n2_; have HO490 := n3_; have BK462 := n4_; have BK467 := n5_; have BK474 := n6_; have BK482 := n7_; have BK487 := n8_; have HB := n9_; clear n0_ n1_ n2_ n3_ n4_ n5_ n6_ n7_ n8_ n9_; (try clear hb); (try clear hb2); (try clear hk); (try clear hi); (try clear ho0)) | ((with_reducible refine gate_dst (N := 16) rfl ?_); (try (refine gate_guard (by rfl) ?_; dsimp only)); refine box_event ?hg (N := 16) ?hd (cs := #[.slice none 0 0]) (t := 29) ?hr ?_; (case hd => rfl); (case hg => rfl); (case hr => first | (go_simp; done) | (go_simp; rfl)); intro gb492 hg w53 hbox hb; have n0_ := Aside0.mk (Kd.R_below u10_19 hb); have n1_ := Aside0.mk (Kd.R_below u10_26 hb); have n2_ := Aside0.mk (Kd.R_below u10_53 hb); have n3_ := Aside0.mk (Kd.R_below u10_57 hb); have n4_ := Aside0.mk (blk_below (g := gb462) (o := .cells #[.slice Ao22 t455.length co22] 29 (0, 0)) u10_1 hb); have n5_ := Aside0.mk (blk_below (g := gb467) (o := .cells #[.slice Ao26 t463.length co26] 29 (0, 0)) u10_3 hb); have n6_ := Aside0.mk (blk_below (g := gb474) (o := .cells #[.int .u64 t468, .int .u64 t469, .int .u64 t470, .int .u64 t471, .int .i64 t472] 53 (0, 0)) u10_17 hb); have n7_ := Aside0.mk (blk_below (g := gb482) (o := .cells #[.int .u64 t476, .int .u64 t477, .int .u64 t478, .int .u64 t479, .int .i64 t480] 53 (0, 0)) u10_27 hb); have n8_ := Aside0.mk (blk_below (g := gb487) (o := .cells #[.slice Ao45 t483.length co45] 29 (0, 0)) u10_35 hb); have n9_ := Aside0.mk (below_step u10_10 hb); have n10_ := Aside0.mk (hbox); have n11_ := Aside0.mk ((by rw [hg]; exact (below_size u10_10) : w.heap.size ≤ gb492)); have n12_ := Aside0.mk ((by rw [hg]; exact (below_size u10_10) : w.heap.size ≤ gb492)); have n13_ := Aside0.mk ((by rw [hg]; exact Nat.ne_of_lt (blk_lt (g := gb462) (o := .cells #[.slice Ao22 t455.length co22] 29 (0, 0)) u10_1) : gb462 ≠ gb492)); have n14_ := Aside0.mk ((by rw [hg]; exact Nat.ne_of_gt (blk_lt (g := gb462) (o := .cells #[.slice Ao22 t455.length co22] 29 (0, 0)) u10_1) : gb492 ≠ gb462)); have n15_ := Aside0.mk ((by rw [hg]; exact Nat.ne_of_lt (blk_lt (g := gb467) (o := .cells #[.slice Ao26 t463.length co26] 29 (0, 0)) u10_3) : gb467 ≠ gb492)); have n16_ := Aside0.mk ((by rw [hg]; exact Nat.ne_of_gt (blk_lt (g := gb467) (o := .cells #[.slice Ao26 t463.length co26] 29 (0, 0)) u10_3) : gb492 ≠ gb467)); have n17_ := Aside0.mk ((by rw [hg]; exact Nat.ne_of_lt (blk_lt (g := gb474) (o := .cells #[.int .u64 t468, .int .u64 t469, .int .u64 t470, .int .u64 t471, .int .i64 t472] 53 (0, 0)) u10_17) : gb474 ≠ gb492)); have n18_ := Aside0.mk ((by rw [hg]; exact Nat.ne_of_gt (blk_lt (g := gb474) (o := .cells #[.int .u64 t468, .int .u64 t469, .int .u64 t470, .int .u64 t471, .int .i64 t472] 53 (0, 0)) u10_17) : gb492 ≠ gb474)); have n19_ := Aside0.mk ((by rw [hg]; exact Nat.ne_of_lt (blk_lt (g := gb482) (o := .cells #[.int .u64 t476, .int .u64 t477, .int .u64 t478, .int .u64 t479, .int .i64 t480] 53 (0, 0)) u10_27) : gb482 ≠ gb492)); have n20_ := Aside0.mk ((by rw [hg]; exact Nat.ne_of_gt (blk_lt (g := gb482) (o := .cells #[.int .u64 t476, .int .u64 t477, .int .u64 t478, .int .u64 t479, .int .i64 t480] 53 (0, 0)) u10_27) : gb492 ≠ gb482)); have n21_ := Aside0.mk ((by rw [hg]; exact Nat.ne_of_lt (blk_lt (g := gb487) (o := .cells #[.slice Ao45 t483.length co45] 29 (0, 0)) u10_35) : gb487 ≠ gb492)); have n22_ := Aside0.mk ((by rw [hg]; exact Nat.ne_of_gt (blk_lt (g := gb487) (o := .cells #[.slice Ao45 t483.length co45] 29 (0, 0)) u10_35) : gb492 ≠ gb487)); clear HO457; clear HO465; clear HO485; clear HO490; clear BK462; clear BK467; clear BK474; clear BK482; clear BK487; clear HB; have HO457 := n0_; have HO465 := n1_; have HO485 := n2_; have HO490 := n3_; have BK462 := n4_; have BK467 := n5_; have BK474 := n6_; have BK482 := n7_; have BK487 := n8_; have HB := n9_; have BK492 := n10_; have GW492 := n11_; have GE492 := n12_; have NB462_492 := n13_; have NB492_462 := n14_; have NB467_492 := n15_; have NB492_467 := n16_; have NB474_492 := n17_; have NB492_474 := n18_; have NB482_492 := n19_; have NB492_482 := n20_; have NB487_492 := n21_; have NB492_487 := n22_; clear n0_ n1_ n2_ n3_ n4_ n5_ n6_ n7_ n8_ n9_ n10_ n11_ n12_ n13_ n14_ n15_ n16_ n17_ n18_ n19_ n20_ n21_ n22_; clear hb hbox hg; obtain ⟨Ao54, co54, eo54⟩ := Kd.R_slice HO490.out; subst eo54; have hnb55 := NB492_462.out; have hnc55 := NB462_492.out; have hnb56 := NB492_467.out; have hnc56 := NB467_492.out; have hnb57 := NB492_474.out; have hnc57 := NB474_492.out; have hnb58 := NB492_482.out; have hnc58 := NB482_492.out; have hnb59 := NB492_487.out; have hnc59 := NB487_492.out; have hcz60_0 : w53.cell? ⟨gb492, 0, none⟩ = some (.slice none 0 0) := (blk_cell BK492.out 0).trans rfl; have hfz60_0 := blk_frozen BK492.out 0; have hcz61_0 : w53.cell? ⟨gb482, 0, none⟩ = some (.int .u64 t476) := (blk_cell BK482.out 0).trans rfl; have hcz61_1 : w53.cell? ⟨gb482, 1, none⟩ = some (.int .u64 t477) := (blk_cell BK482.out 1).trans rfl; have hcz61_2 : w53.cell? ⟨gb482, 2, none⟩ = some (.int .u64 t478) := (blk_cell BK482.out 2).trans rfl; have hcz61_3 : w53.cell? ⟨gb482, 3, none⟩ = some (.int .u64 t479) := (blk_cell BK482.out 3).trans rfl; have hcz61_4 : w53.cell? ⟨gb482, 4, none⟩ = some (.int .i64 t480) := (blk_cell BK482.out 4).trans rfl; have hfz61_0 := blk_frozen BK482.out 0; have hfz61_1 := blk_frozen BK482.out 1; have hfz61_2 := blk_frozen BK482.out 2; have hfz61_3 := blk_frozen BK482.out 3; have hfz61_4 := blk_frozen BK482.out 4; have hcz62_0 : w53.cell? ⟨gb462, 0, none⟩ = some (.slice Ao22 t455.length co22) := (blk_cell BK462.out 0).trans rfl; have hfz62_0 := blk_frozen BK462.out 0) | (go_at_call 47; (with_reducible refine (laws_sameBook.calls k _ _ t488 _ _ t455 true _ ?side1 ?side2 ?side3 ?side4 A16.out).mono ?_); (case side1 => exact (by refine (Kd.R_reads' (e := 53) (base := w.heap.size) (ok := fun k_ => (((((True ∧ some k_ ≠ (.slice Ao22 t455.length co22 : Value).ownBlock) ∧ some k_ ≠ (.slice Ao26 t463.length co26 : Value).ownBlock) ∧ some k_ ≠ (.slice Ao45 t483.length co45 : Value).ownBlock) ∧ k_ ≠ gb474) ∧ k_ ≠ gb482)) (n := t488.length) (c := co54) ?_).2.2; exact u10_46)); (case side2 => exact (Kd.R_reads' HO490.out).2.1); (case side3 => exact (by refine (Kd.R_reads' (e := 53) (base := w.heap.size) (ok := fun k_ => (((((True ∧ some k_ ≠ (.slice Ao26 t463.length co26 : Value).ownBlock) ∧ k_ ≠ gb474) ∧ k_ ≠ gb482) ∧ some k_ ≠ (.slice Ao45 t483.length co45 : Value).ownBlock) ∧ some k_ ≠ (.slice Ao54 t488.length co54 : Value).ownBlock)) (n := t455.length) (c := co22) ?_).2.2; exact u10_47)); (case side4 => exact (Kd.R_reads' HO457.out).2.1); rintro e w63 ⟨rfl, hb⟩; have n0_ := Aside0.mk (Kd.R_below u10_47 hb); have n1_ := Aside0.mk (Kd.R_below (by (with_reducible repeat (first | apply Kd.R_alloc | apply Kd.R_drewN | apply Kd.R_drew)); exact (Kd.R_mono (Kd.R_far (p := ⟨gb492, 0, none⟩) (Kd.R_types HO465.out BK492.out (by decide)) (fun _ hk => hk.2) (.slice Ao54 t488.length co54)) (fun _ h_ => h_.1))) hb); have n2_ := Aside0.mk (Kd.R_below (by (with_reducible repeat (first | apply Kd.R_alloc | apply Kd.R_drewN | apply Kd.R_drew)); exact (Kd.R_mono (Kd.R_far (p := ⟨gb492, 0, none⟩) (Kd.R_types HO485.out BK492.out (by decide)) (fun _ hk => hk.2) (.slice Ao54 t488.length co54)) (fun _ h_ => h_.1))) hb); have n3_ := Aside0.mk (Kd.R_below u10_46 hb); have n4_ := Aside0.mk (blk_below (g := gb462) (o := .cells #[.slice Ao22 t455.length co22] 29 (0, 0)) (by (with_reducible repeat (first | refine blk_drewN ?_ _ | refine blk_drew ?_ | refine blk_alloc ?_ _)); refine blk_far ?_ NB462_492.out _; (with_reducible repeat (first | refine blk_drewN ?_ _ | refine blk_drew ?_ | refine blk_alloc ?_ _)); exact BK462.out) hb); have n5_ := Aside0.mk (blk_below (g := gb467) (o := .cells #[.slice Ao26 t463.length co26] 29 (0, 0)) (by (with_reducible repeat (first | refine blk_drewN ?_ _ | refine blk_drew ?_ | refine blk_alloc ?_ _)); refine blk_far ?_ NB467_492.out _; (with_reducible repeat (first | refine blk_drewN ?_ _ | refine blk_drew ?_ | refine blk_alloc ?_ _)); exact BK467.out) hb); have n6_ := Aside0.mk (blk_below (g := gb474) (o := .cells #[.int .u64 t468, .int .u64 t469, .int .u64 t470, .int .u64 t471, .int .i64 t472] 53 (0, 0)) (by (with_reducible repeat (first | refine blk_drewN ?_ _ | refine blk_drew ?_ | refine blk_alloc ?_ _)); refine blk_far ?_ NB474_492.out _; (with_reducible repeat (first | refine blk_drewN ?_ _ | refine blk_drew ?_ | refine blk_alloc ?_ _)); exact BK474.out) hb); have n7_ := Aside0.mk (blk_below (g := gb482) (o := .cells #[.int .u64 t476, .int .u64 t477, .int .u64 t478, .int .u64 t479, .int .i64 t480] 53 (0, 0)) (by (with_reducible repeat (first | refine blk_drewN ?_ _ | refine blk_drew ?_ | refine blk_alloc ?_ _)); refine blk_far ?_ NB482_492.out _; (with_reducible repeat (first | refine blk_drewN ?_ _ | refine blk_drew ?_ | refine blk_alloc ?_ _)); exact BK482.out) hb); have n8_ := Aside0.mk (blk_below (g := gb487) (o := .cells #[.slice Ao45 t483.length co45] 29 (0, 0)) (by (with_reducible repeat (first | refine blk_drewN ?_ _ | refine blk_drew ?_ | refine blk_alloc ?_ _)); refine blk_far ?_ NB487_492.out _; (with_reducible repeat (first | refine blk_drewN ?_ _ | refine blk_drew ?_ | refine blk_alloc ?_ _)); exact BK487.out) hb); have n9_ := Aside0.mk (blk_below (g := gb492) (o := .cells #[.slice Ao54 t488.length co54] 29 (0, 0)) (by (with_reducible repeat (first | refine blk_drewN ?_ _ | refine blk_drew ?_ | refine blk_alloc ?_ _)); refine blk_put (cs := #[.slice none 0 0]) ?_ 0 _ rfl; (with_reducible repeat (first | refine blk_drewN ?_ _ | refine blk_drew ?_ | refine blk_alloc ?_ _)); exact BK492.out) hb); have n10_ := Aside0.mk (below_step u10_28 hb); clear HO457; clear HO465; clear HO485; clear HO490; clear BK462; clear BK467; clear BK474; clear BK482; clear BK487; clear BK492; clear HB; have HO457 := n0_; have HO465 := n1_; have HO485 := n2_; have HO490 := n3_; have BK462 := n4_; have BK467 := n5_; have BK474 := n6_; have BK482 := n7_; have BK487 := n8_; have BK492 := n9_; have HB := n10_; clear n0_ n1_ n2_ n3_ n4_ n5_ n6_ n7_ n8_ n9_ n10_; (try clear hb); (try clear hb2); (try clear hk); (try clear hi); have hcz64_0 : w63.cell? ⟨gb467, 0, none⟩ = some (.slice Ao26 t463.length co26) := (blk_cell BK467.out 0).trans rfl; have hfz64_0 := blk_frozen BK467.out 0) | (go_at_call 20; (with_reducible refine (impl_BookOk.calls k _ _ t463 true _ ?side1 ?side2 A18.out).mono ?_); (case side1 => exact (by repeat (first | exact (Kd.R_reads' HO465.out).2.2 | (with_reducible refine Kd.C_alloc ?_ _) | (with_reducible refine Kd.C_drewN ?_ _) | (with_reducible refine Kd.C_drew ?_)))); (case side2 => exact (Kd.R_reads' HO465.out).2.1); rintro e w65 ⟨rfl, hb⟩; have n0_ := Aside0.mk (Kd.R_below u10_19 hb); have n1_ := Aside0.mk (Kd.R_below u10_26 hb); have n2_ := Aside0.mk (Kd.R_below u10_53 hb); have n3_ := Aside0.mk (Kd.R_below u10_57 hb); have n4_ := Aside0.mk (blk_below (g := gb462) (o := .cells #[.slice Ao22 t455.length co22] 29 (0, 0)) u10_1 hb); have n5_ := Aside0.mk (blk_below (g := gb467) (o := .cells #[.slice Ao26 t463.length co26] 29 (0, 0)) u10_3 hb); have n6_ := Aside0.mk (blk_below (g := gb474) (o := .cells #[.int .u64 t468, .int .u64 t469, .int .u64 t470, .int .u64 t471, .int .i64 t472] 53 (0, 0)) u10_17 hb); have n7_ := Aside0.mk (blk_below (g := gb482) (o := .cells #[.int .u64 t476, .int .u64 t477, .int .u64 t478, .int .u64 t479, .int .i64 t480] 53 (0, 0)) u10_27 hb); have n8_ := Aside0.mk (blk_below (g := gb487) (o := .cells #[.slice Ao45 t483.length co45] 29 (0, 0)) u10_35 hb); have n9_ := Aside0.mk (blk_below (g := gb492) (o := .cells #[.slice Ao54 t488.length co54] 29 (0, 0)) (by (with_reducible repeat (first | refine blk_drewN ?_ _ | refine blk_drew ?_ | refine blk_alloc ?_ _)); exact BK492.out) hb); have n10_ := Aside0.mk (below_step u10_28 hb); clear HO457; clear HO465; clear HO485; clear HO490; clear BK462; clear BK467; clear BK474; clear BK482; clear BK487; clear BK492; clear HB; have HO457 := n0_; have HO465 := n1_; have HO485 := n2_; have HO490 := n3_; have BK462 := n4_; have BK467 := n5_; have BK474 := n6_; have BK482 := n7_; have BK487 := n8_; have BK492 := n9_; have HB := n10_; clear n0_ n1_ n2_ n3_ n4_ n5_ n6_ n7_ n8_ n9_ n10_; (try clear hb); (try clear hb2); (try clear hk); (try clear hi); have hcz66_0 : w65.cell? ⟨gb467, 0, none⟩ = some (.slice Ao26 t463.length co26) := (blk_cell BK467.out 0).trans rfl; have hfz66_0 := blk_frozen BK467.out 0; have hcz67_0 : w65.cell? ⟨gb462, 0, none⟩ = some (.slice Ao22 t455.length co22) := (blk_cell BK462.out 0).trans rfl; have hfz67_0 := blk_frozen BK462.out 0))
  go_ret
  exact ⟨by first | rfl | (simp [errW_none, errW_some] <;> rfl) | (simp [*, errW_none, errW_some] <;> rfl), u10_28⟩

/-- THE ONE PURE STATEMENT of laws_FnOpened: yours. -/
def laws_FnOpened.Pure : Prop := ∀ (l0 : List Int), l0.length ≤ maxLen → l0.length * 1 ≤ 140737488351232 → (∀ x ∈ l0, (Lit.int .u8 x).wf = true) → ∃ k, laws_FnOpened.f k l0 = some true
theorem laws_FnOpened.walk (P : laws_FnOpened.Pure) (a0 : Option Addr) (len0 cap0 : Nat) (z0 : List Int) (w : World) (w0 : (a0 = none ∧ len0 = 0 ∧ cap0 = 0 ∧ z0 = []) ∨ ∃ x, a0 = some x ∧ len0 ≤ cap0 ∧ cap0 ≤ maxLen ∧ z0.length = cap0 ∧ (∀ i, i < z0.length → w.cell? (x.add i) = some (.int .u8 (z0.getD i 0))) ∧ ∀ n ∈ z0, (Lit.int .u8 n).wf = true) (y0 : len0 * 1 ≤ 140737488351232) :
    Calls Try.prog 16 #[.slice a0 len0 cap0] w fun e w' => e = .returned (.bool true) ∧ Below w.heap.size w w' := by
  obtain ⟨l0, rfl, hr0, hm0, hw0, hc0⟩ := ReadsInt.ofRowC w0
  obtain ⟨k, h⟩ := P l0 hm0 y0 hw0
  refine (laws_FnOpened.calls k _ _ l0 true w (Kd.C_of_reads (d := (0 : Int)) (h1 := fun _ => rfl) hr0) hc0 h ⟨rfl⟩).mono ?_
  rintro e w' ⟨rfl, hd⟩
  exact ⟨rfl, hd⟩

end Go.Proofs.Ytdbfjakhkclggaa.QFnOpened
