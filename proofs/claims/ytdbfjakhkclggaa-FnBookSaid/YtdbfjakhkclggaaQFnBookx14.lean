-- Printed by the session's own program wip/prx.py.
import Derived.Test.YtdbfjakhkclggaaQFnBookx0
import Derived.Test.YtdbfjakhkclggaaQFnBookx2
import Derived.Test.YtdbfjakhkclggaaQFnBookx5
import Derived.Test.YtdbfjakhkclggaaQFnBookx7
import Derived.Test.YtdbfjakhkclggaaQFnBookx8
import Derived.Test.YtdbfjakhkclggaaQFnBookx13
namespace Go.Proofs.Ytdbfjakhkclggaa.QFnBook
open Go.RowKit Go.Proofs.YtdbfjakhkclggaaW.PrintWords Go.Proofs.YtdbfjakhkclggaaW.PrintLast Go.Proofs.YtdbfjakhkclggaaW.PrintMore
attribute [local go_sem] max2_int min2_int max_two min_two max_three min_three max_four min_four Go.Proofs.Ytdbfjakhkclggaa.Set.isSome_setCell Go.Proofs.Ytdbfjakhkclggaa.Add.add64   -- for this text's walks alone
set_option linter.unusedVariables false
set_option linter.unusedSimpArgs false

-- squeezed
theorem u14_0 {P : Prop} (h : P := by (with_reducible repeat (first | apply Kd.R_alloc | apply Kd.R_drewN | apply Kd.R_drew)); exact (Kd.R_mono (Kd.R_far (p := ⟨gb525, 4, none⟩) (Kd.R_far (p := ⟨gb525, 3, none⟩) (Kd.R_far (p := ⟨gb525, 2, none⟩) (Kd.R_far (p := ⟨gb525, 1, none⟩) (Kd.R_far (p := ⟨gb525, 0, none⟩) (Kd.R_mono HO516.out (fun k_ hk => (⟨hk, hk.2⟩ : _ ∧ k_ ≠ gb525))) (fun _ hk => hk.2) (.int .u64 t519)) (fun _ hk => hk.2) (.int .u64 t520)) (fun _ hk => hk.2) (.int .u64 t521)) (fun _ hk => hk.2) (.int .u64 t522)) (fun _ hk => hk.2) (.int .i64 t523)) (fun _ h_ => h_.1))) : P := h
theorem u14_1 {P : Prop} (h : P := by repeat (first | (with_reducible first | exact HB.out | apply below_alloc | apply pw_below_drewN | apply below_drew1 | refine below_set ?_ GE510.out | refine below_set ?_ GE518.out | refine below_set ?_ GE525.out) | exact HB.out)) : P := h
theorem u14_2 {P : Prop} (h : P := by (with_reducible repeat (first | refine blk_drewN ?_ _ | refine blk_drew ?_ | refine blk_alloc ?_ _)); refine blk_put (cs := #[.int .u64 t519, .int .u64 t520, .int .u64 t521, .int .u64 t522, .int .i64 0]) ?_ 4 _ rfl; (with_reducible repeat (first | refine blk_drewN ?_ _ | refine blk_drew ?_ | refine blk_alloc ?_ _)); refine blk_put (cs := #[.int .u64 t519, .int .u64 t520, .int .u64 t521, .int .u64 0, .int .i64 0]) ?_ 3 _ rfl; (with_reducible repeat (first | refine blk_drewN ?_ _ | refine blk_drew ?_ | refine blk_alloc ?_ _)); refine blk_put (cs := #[.int .u64 t519, .int .u64 t520, .int .u64 0, .int .u64 0, .int .i64 0]) ?_ 2 _ rfl; (with_reducible repeat (first | refine blk_drewN ?_ _ | refine blk_drew ?_ | refine blk_alloc ?_ _)); refine blk_put (cs := #[.int .u64 t519, .int .u64 0, .int .u64 0, .int .u64 0, .int .i64 0]) ?_ 1 _ rfl; (with_reducible repeat (first | refine blk_drewN ?_ _ | refine blk_drew ?_ | refine blk_alloc ?_ _)); refine blk_put (cs := #[.int .u64 0, .int .u64 0, .int .u64 0, .int .u64 0, .int .i64 0]) ?_ 0 _ rfl; (with_reducible repeat (first | refine blk_drewN ?_ _ | refine blk_drew ?_ | refine blk_alloc ?_ _)); exact BK525.out) : P := h
theorem u14_3 {P : Prop} (h : P := by (with_reducible repeat (first | apply Kd.R_alloc | apply Kd.R_drewN | apply Kd.R_drew)); exact (Kd.R_mono (Kd.R_far (p := ⟨gb525, 4, none⟩) (Kd.R_far (p := ⟨gb525, 3, none⟩) (Kd.R_far (p := ⟨gb525, 2, none⟩) (Kd.R_far (p := ⟨gb525, 1, none⟩) (Kd.R_far (p := ⟨gb525, 0, none⟩) (Kd.R_mono HO505.out (fun k_ hk => (⟨hk, hk.2⟩ : _ ∧ k_ ≠ gb525))) (fun _ hk => hk.2) (.int .u64 t519)) (fun _ hk => hk.2) (.int .u64 t520)) (fun _ hk => hk.2) (.int .u64 t521)) (fun _ hk => hk.2) (.int .u64 t522)) (fun _ hk => hk.2) (.int .i64 t523)) (fun _ h_ => h_.1))) : P := h
theorem u14_4 {P : Prop} (h : P := by (with_reducible repeat (first | refine blk_drewN ?_ _ | refine blk_drew ?_ | refine blk_alloc ?_ _)); exact BK510.out) : P := h
theorem u14_5 {P : Prop} (h : P := by (with_reducible repeat (first | refine blk_drewN ?_ _ | refine blk_drew ?_ | refine blk_alloc ?_ _)); exact BK518.out) : P := h
theorem u14_6 {P : Prop} (h : P := by (with_reducible repeat (first | refine blk_drewN ?_ _ | refine blk_drew ?_ | refine blk_alloc ?_ _)); exact BK525.out) : P := h
theorem u14_7 {P : Prop} (h : P := by (with_reducible repeat (first | refine blk_drewN ?_ _ | refine blk_drew ?_ | refine blk_alloc ?_ _)); refine blk_far ?_ NB510_525.out _; (with_reducible repeat (first | refine blk_drewN ?_ _ | refine blk_drew ?_ | refine blk_alloc ?_ _)); refine blk_far ?_ NB510_525.out _; (with_reducible repeat (first | refine blk_drewN ?_ _ | refine blk_drew ?_ | refine blk_alloc ?_ _)); refine blk_far ?_ NB510_525.out _; (with_reducible repeat (first | refine blk_drewN ?_ _ | refine blk_drew ?_ | refine blk_alloc ?_ _)); refine blk_far ?_ NB510_525.out _; (with_reducible repeat (first | refine blk_drewN ?_ _ | refine blk_drew ?_ | refine blk_alloc ?_ _)); refine blk_far ?_ NB510_525.out _; (with_reducible repeat (first | refine blk_drewN ?_ _ | refine blk_drew ?_ | refine blk_alloc ?_ _)); exact BK510.out) : P := h
theorem u14_8 {P : Prop} (h : P := by (with_reducible repeat (first | refine blk_drewN ?_ _ | refine blk_drew ?_ | refine blk_alloc ?_ _)); refine blk_far ?_ NB518_525.out _; (with_reducible repeat (first | refine blk_drewN ?_ _ | refine blk_drew ?_ | refine blk_alloc ?_ _)); refine blk_far ?_ NB518_525.out _; (with_reducible repeat (first | refine blk_drewN ?_ _ | refine blk_drew ?_ | refine blk_alloc ?_ _)); refine blk_far ?_ NB518_525.out _; (with_reducible repeat (first | refine blk_drewN ?_ _ | refine blk_drew ?_ | refine blk_alloc ?_ _)); refine blk_far ?_ NB518_525.out _; (with_reducible repeat (first | refine blk_drewN ?_ _ | refine blk_drew ?_ | refine blk_alloc ?_ _)); refine blk_far ?_ NB518_525.out _; (with_reducible repeat (first | refine blk_drewN ?_ _ | refine blk_drew ?_ | refine blk_alloc ?_ _)); exact BK518.out) : P := h
theorem u14_9 {P : Prop} (h : P := by repeat (first | (with_reducible first | exact HB.out | apply below_alloc | apply pw_below_drewN | apply below_drew1 | refine below_set ?_ GE510.out | refine below_set ?_ GE518.out | refine below_set ?_ GE525.out | refine below_set ?_ GE545.out) | exact HB.out)) : P := h
theorem u14_10 {P : Prop} (h : P := by (try simp only [List.map_toArray, List.map_cons, List.map_nil]); first | done | rfl | (simp only [List.length_drop, List.length_take]; rfl)) : P := h
theorem u14_11 {P : Prop} (h : P := by (with_reducible repeat (first | refine blk_drewN ?_ _ | refine blk_drew ?_ | refine blk_alloc ?_ _)); refine blk_put (cs := #[.int .u64 t526, .int .u64 t527, .int .u64 t528, .int .u64 t529, .int .i64 0]) ?_ 4 _ rfl; (with_reducible repeat (first | refine blk_drewN ?_ _ | refine blk_drew ?_ | refine blk_alloc ?_ _)); refine blk_put (cs := #[.int .u64 t526, .int .u64 t527, .int .u64 t528, .int .u64 0, .int .i64 0]) ?_ 3 _ rfl; (with_reducible repeat (first | refine blk_drewN ?_ _ | refine blk_drew ?_ | refine blk_alloc ?_ _)); refine blk_put (cs := #[.int .u64 t526, .int .u64 t527, .int .u64 0, .int .u64 0, .int .i64 0]) ?_ 2 _ rfl; (with_reducible repeat (first | refine blk_drewN ?_ _ | refine blk_drew ?_ | refine blk_alloc ?_ _)); refine blk_put (cs := #[.int .u64 t526, .int .u64 0, .int .u64 0, .int .u64 0, .int .i64 0]) ?_ 1 _ rfl; (with_reducible repeat (first | refine blk_drewN ?_ _ | refine blk_drew ?_ | refine blk_alloc ?_ _)); refine blk_put (cs := #[.int .u64 0, .int .u64 0, .int .u64 0, .int .u64 0, .int .i64 0]) ?_ 0 _ rfl; (with_reducible repeat (first | refine blk_drewN ?_ _ | refine blk_drew ?_ | refine blk_alloc ?_ _)); exact BK532.out) : P := h
theorem u14_12 {P : Prop} (h : P := by (with_reducible repeat (first | apply Kd.R_alloc | apply Kd.R_drewN | apply Kd.R_drew)); exact (Kd.R_mono (Kd.R_far (p := ⟨gb532, 4, none⟩) (Kd.R_far (p := ⟨gb532, 3, none⟩) (Kd.R_far (p := ⟨gb532, 2, none⟩) (Kd.R_far (p := ⟨gb532, 1, none⟩) (Kd.R_far (p := ⟨gb532, 0, none⟩) (Kd.R_mono HO516.out (fun k_ hk => (⟨hk, hk.2⟩ : _ ∧ k_ ≠ gb532))) (fun _ hk => hk.2) (.int .u64 t526)) (fun _ hk => hk.2) (.int .u64 t527)) (fun _ hk => hk.2) (.int .u64 t528)) (fun _ hk => hk.2) (.int .u64 t529)) (fun _ hk => hk.2) (.int .i64 t530)) (fun _ h_ => h_.1))) : P := h
theorem u14_13 {P : Prop} (h : P := by (with_reducible repeat (first | apply Kd.R_alloc | apply Kd.R_drewN | apply Kd.R_drew)); exact HO_511000.out) : P := h
theorem u14_14 {P : Prop} (h : P := by (with_reducible repeat (first | apply Kd.R_alloc | apply Kd.R_drewN | apply Kd.R_drew)); exact HO_519000.out) : P := h
theorem u14_15 {P : Prop} (h : P := by repeat (first | (with_reducible first | exact HB.out | apply below_alloc | apply pw_below_drewN | apply below_drew1 | refine below_set ?_ GE510.out | refine below_set ?_ GE518.out | refine below_set ?_ GE525.out | refine below_set ?_ GE532.out) | exact HB.out)) : P := h
theorem u14_16 {P : Prop} (h : P := by repeat (first | (with_reducible first | exact HB.out | apply below_alloc | apply pw_below_drewN | apply below_drew1 | refine below_set ?_ GE510.out) | exact HB.out)) : P := h
theorem u14_17 {P : Prop} (h : P := by (with_reducible repeat (first | apply Kd.R_alloc | apply Kd.R_drewN | apply Kd.R_drew)); exact HO505.out) : P := h
theorem u14_18 {P : Prop} (h : P := by refine (Kd.R_reads' (e := 53) (base := w.heap.size) (ok := fun k_ => ((True ∧ some k_ ≠ (.slice Ao13 t503.length co13 : Value).ownBlock) ∧ k_ ≠ gb525)) (n := t514.length) (c := co21) ?_).2.2; exact u14_0) : P := h
theorem u14_19 {P : Prop} (h : P := by (with_reducible repeat (first | refine blk_drewN ?_ _ | refine blk_drew ?_ | refine blk_alloc ?_ _)); refine blk_far ?_ NB525_532.out _; (with_reducible repeat (first | refine blk_drewN ?_ _ | refine blk_drew ?_ | refine blk_alloc ?_ _)); refine blk_far ?_ NB525_532.out _; (with_reducible repeat (first | refine blk_drewN ?_ _ | refine blk_drew ?_ | refine blk_alloc ?_ _)); refine blk_far ?_ NB525_532.out _; (with_reducible repeat (first | refine blk_drewN ?_ _ | refine blk_drew ?_ | refine blk_alloc ?_ _)); refine blk_far ?_ NB525_532.out _; (with_reducible repeat (first | refine blk_drewN ?_ _ | refine blk_drew ?_ | refine blk_alloc ?_ _)); refine blk_far ?_ NB525_532.out _; (with_reducible repeat (first | refine blk_drewN ?_ _ | refine blk_drew ?_ | refine blk_alloc ?_ _)); exact BK525.out) : P := h
theorem u14_20 {P : Prop} (h : P := by (with_reducible repeat (first | refine blk_drewN ?_ _ | refine blk_drew ?_ | refine blk_alloc ?_ _)); exact BK545.out) : P := h
theorem u14_21 {P : Prop} (h : P := by repeat (first | (with_reducible first | exact HB.out | apply below_alloc | apply pw_below_drewN | apply below_drew1) | exact HB.out)) : P := h
theorem u14_22 {P : Prop} (h : P := by (with_reducible repeat (first | apply Kd.R_alloc | apply Kd.R_drewN | apply Kd.R_drew)); exact HO543.out) : P := h
theorem u14_23 {P : Prop} (h : P := by refine (Kd.R_reads' (e := 53) (base := w.heap.size) (ok := fun k_ => ((True ∧ some k_ ≠ (.slice Ao21 t514.length co21 : Value).ownBlock) ∧ k_ ≠ gb525)) (n := t503.length) (c := co13) ?_).2.2; exact u14_3) : P := h
theorem u14_24 {P : Prop} (h : P := by repeat (first | (with_reducible first | exact HB.out | apply below_alloc | apply pw_below_drewN | apply below_drew1 | refine below_set ?_ GE510.out | refine below_set ?_ GE518.out) | exact HB.out)) : P := h
theorem u14_25 {P : Prop} (h : P := by repeat (first | (with_reducible first | exact HB.out | apply below_alloc | apply pw_below_drewN | apply below_drew1 | refine below_set ?_ GE510.out | refine below_set ?_ GE518.out | refine below_set ?_ GE525.out | refine below_set ?_ GE532.out | refine below_set ?_ GE537.out) | exact HB.out)) : P := h
theorem u14_26 {P : Prop} (h : P := by repeat (first | (with_reducible first | exact HB.out | apply below_alloc | apply pw_below_drewN | apply below_drew1 | refine below_set ?_ GE510.out | refine below_set ?_ GE518.out | refine below_set ?_ GE525.out | refine below_set ?_ GE545.out | refine below_set ?_ GE558.out) | exact HB.out)) : P := h
theorem u14_27 {P : Prop} (h : P := by (with_reducible repeat (first | apply Kd.R_alloc | apply Kd.R_drewN | apply Kd.R_drew)); exact (Kd.R_mono (Kd.R_far (p := ⟨gb532, 4, none⟩) (Kd.R_far (p := ⟨gb532, 3, none⟩) (Kd.R_far (p := ⟨gb532, 2, none⟩) (Kd.R_far (p := ⟨gb532, 1, none⟩) (Kd.R_far (p := ⟨gb532, 0, none⟩) (Kd.R_mono HO505.out (fun k_ hk => (⟨hk, hk.2⟩ : _ ∧ k_ ≠ gb532))) (fun _ hk => hk.2) (.int .u64 t526)) (fun _ hk => hk.2) (.int .u64 t527)) (fun _ hk => hk.2) (.int .u64 t528)) (fun _ hk => hk.2) (.int .u64 t529)) (fun _ hk => hk.2) (.int .i64 t530)) (fun _ h_ => h_.1))) : P := h
theorem u14_28 {P : Prop} (h : P := by (with_reducible repeat (first | apply Kd.R_alloc | apply Kd.R_drewN | apply Kd.R_drew)); exact (Kd.R_mono (Kd.R_far (p := ⟨gb545, 0, none⟩) (Kd.R_types HO_511000.out BK545.out (by decide)) (fun _ hk => hk.2) (.slice Ao142 t541.length co142)) (fun _ h_ => h_.1))) : P := h
theorem u14_29 {P : Prop} (h : P := by (with_reducible repeat (first | refine blk_drewN ?_ _ | refine blk_drew ?_ | refine blk_alloc ?_ _)); refine blk_far ?_ NB525_545.out _; (with_reducible repeat (first | refine blk_drewN ?_ _ | refine blk_drew ?_ | refine blk_alloc ?_ _)); exact BK525.out) : P := h
theorem u14_30 {P : Prop} (h : P := by (with_reducible repeat (first | apply Kd.R_alloc | apply Kd.R_drewN | apply Kd.R_drew)); exact Kd.R_mono HO505.out (fun _ hk => ⟨hk.1.2, hk.2⟩)) : P := h
theorem u14_31 {P : Prop} (h : P := by (with_reducible repeat (first | apply Kd.R_alloc | apply Kd.R_drewN | apply Kd.R_drew)); exact Kd.R_mono HO516.out (fun _ hk => ⟨hk.1.2, hk.2⟩)) : P := h
theorem u14_32 {P : Prop} (h : P := by (with_reducible repeat (first | apply Kd.R_alloc | apply Kd.R_drewN | apply Kd.R_drew)); exact HO516.out) : P := h
theorem u14_33 {P : Prop} (h : P := by (with_reducible repeat (first | refine blk_drewN ?_ _ | refine blk_drew ?_ | refine blk_alloc ?_ _)); exact BK532.out) : P := h
theorem u14_34 {P : Prop} (h : P := by repeat (first | (with_reducible first | exact HB.out | apply below_alloc | apply pw_below_drewN | apply below_drew1 | refine below_set ?_ GE510.out | refine below_set ?_ GE518.out | refine below_set ?_ GE525.out | refine below_set ?_ GE545.out | refine below_set ?_ GE550.out) | exact HB.out)) : P := h
theorem u14_35 {P : Prop} (h : P := by (with_reducible repeat (first | refine blk_drewN ?_ _ | refine blk_drew ?_ | refine blk_alloc ?_ _)); refine blk_put (cs := #[.slice none 0 0]) ?_ 0 _ rfl; (with_reducible repeat (first | refine blk_drewN ?_ _ | refine blk_drew ?_ | refine blk_alloc ?_ _)); exact BK545.out) : P := h
theorem u14_36 {P : Prop} (h : P := by (with_reducible repeat (first | apply Kd.R_alloc | apply Kd.R_drewN | apply Kd.R_drew)); exact (Kd.R_mono (Kd.R_far (p := ⟨gb545, 0, none⟩) (Kd.R_types HO_519000.out BK545.out (by decide)) (fun _ hk => hk.2) (.slice Ao142 t541.length co142)) (fun _ h_ => h_.1))) : P := h
theorem u14_37 {P : Prop} (h : P := by (with_reducible repeat (first | apply Kd.R_alloc | apply Kd.R_drewN | apply Kd.R_drew)); exact (Kd.R_mono (Kd.R_far (p := ⟨gb550, 0, none⟩) (Kd.R_types HO_511000.out BK550.out (by decide)) (fun _ hk => hk.2) (.slice Ao150 t546.length co150)) (fun _ h_ => h_.1))) : P := h
theorem u14_38 {P : Prop} (h : P := by (with_reducible repeat (first | apply Kd.R_alloc | apply Kd.R_drewN | apply Kd.R_drew)); exact (Kd.R_mono (Kd.R_far (p := ⟨gb558, 0, none⟩) (Kd.R_types HO_511000.out BK558.out (by decide)) (fun _ hk => hk.2) (.slice Ao124 t554.length co124)) (fun _ h_ => h_.1))) : P := h
theorem u14_39 {P : Prop} (h : P := by (with_reducible repeat (first | apply Kd.R_alloc | apply Kd.R_drewN | apply Kd.R_drew)); exact (Kd.R_mono (Kd.R_far (p := ⟨gb545, 0, none⟩) (Kd.R_types HO543.out BK545.out (by decide)) (fun _ hk => hk.2) (.slice Ao142 t541.length co142)) (fun _ h_ => h_.1))) : P := h
theorem u14_40 {P : Prop} (h : P := by (with_reducible repeat (first | apply Kd.R_alloc | apply Kd.R_drewN | apply Kd.R_drew)); exact (Kd.R_mono (Kd.R_far (p := ⟨gb550, 0, none⟩) (Kd.R_types HO543.out BK550.out (by decide)) (fun _ hk => hk.2) (.slice Ao150 t546.length co150)) (fun _ h_ => h_.1))) : P := h
theorem u14_41 {P : Prop} (h : P := by (with_reducible repeat (first | apply Kd.R_alloc | apply Kd.R_drewN | apply Kd.R_drew)); exact (Kd.R_mono (Kd.R_far (p := ⟨gb545, 0, none⟩) (Kd.R_types HO543.out BK545.out (by decide)) (fun _ hk => hk.2) (.slice Ao115 t541.length co115)) (fun _ h_ => h_.1))) : P := h
theorem u14_42 {P : Prop} (h : P := by (with_reducible repeat (first | apply Kd.R_alloc | apply Kd.R_drewN | apply Kd.R_drew)); exact (Kd.R_mono (Kd.R_far (p := ⟨gb558, 0, none⟩) (Kd.R_types HO556.out BK558.out (by decide)) (fun _ hk => hk.2) (.slice Ao124 t554.length co124)) (fun _ h_ => h_.1))) : P := h
theorem u14_43 {P : Prop} (h : P := by (with_reducible repeat (first | apply Kd.R_alloc | apply Kd.R_drewN | apply Kd.R_drew)); exact (Kd.R_mono (Kd.R_far (p := ⟨gb510, 0, none⟩) (Kd.R_types HO505.out BK510.out (by decide)) (fun _ hk => hk.2) (.slice Ao13 t503.length co13)) (fun _ h_ => h_.1))) : P := h
theorem u14_44 {P : Prop} (h : P := by (with_reducible repeat (first | apply Kd.R_alloc | apply Kd.R_drewN | apply Kd.R_drew)); exact (Kd.R_mono (Kd.R_far (p := ⟨gb518, 0, none⟩) (Kd.R_types HO505.out BK518.out (by decide)) (fun _ hk => hk.2) (.slice Ao21 t514.length co21)) (fun _ h_ => h_.1))) : P := h
theorem u14_45 {P : Prop} (h : P := by (with_reducible repeat (first | apply Kd.R_alloc | apply Kd.R_drewN | apply Kd.R_drew)); exact (Kd.R_mono (Kd.R_far (p := ⟨gb537, 0, none⟩) (Kd.R_types HO535.out BK537.out (by decide)) (fun _ hk => hk.2) (.slice Ao53 t533.length co53)) (fun _ h_ => h_.1))) : P := h
theorem u14_46 {P : Prop} (h : P := by (with_reducible repeat (first | apply Kd.R_alloc | apply Kd.R_drewN | apply Kd.R_drew)); exact (Kd.R_mono (Kd.R_far (p := ⟨gb537, 0, none⟩) (Kd.R_types HO505.out BK537.out (by decide)) (fun _ hk => hk.2) (.slice Ao53 t533.length co53)) (fun _ h_ => h_.1))) : P := h
theorem u14_47 {P : Prop} (h : P := by (with_reducible repeat (first | refine blk_drewN ?_ _ | refine blk_drew ?_ | refine blk_alloc ?_ _)); refine blk_far ?_ NB510_545.out _; (with_reducible repeat (first | refine blk_drewN ?_ _ | refine blk_drew ?_ | refine blk_alloc ?_ _)); exact BK510.out) : P := h
theorem u14_48 {P : Prop} (h : P := by (with_reducible repeat (first | refine blk_drewN ?_ _ | refine blk_drew ?_ | refine blk_alloc ?_ _)); refine blk_far ?_ NB518_545.out _; (with_reducible repeat (first | refine blk_drewN ?_ _ | refine blk_drew ?_ | refine blk_alloc ?_ _)); exact BK518.out) : P := h
theorem u14_49 {P : Prop} (h : P := by repeat (first | exact (Kd.R_reads' HO_511000.out).2.2 | (with_reducible refine Kd.C_alloc ?_ _) | (with_reducible refine Kd.C_drewN ?_ _) | (with_reducible refine Kd.C_drew ?_))) : P := h
theorem u14_50 {P : Prop} (h : P := by repeat (first | exact (Kd.R_reads' HO505.out).2.2 | (with_reducible refine Kd.C_alloc ?_ _) | (with_reducible refine Kd.C_drewN ?_ _) | (with_reducible refine Kd.C_drew ?_))) : P := h
theorem u14_51 {P : Prop} (h : P := by repeat (first | exact (Kd.R_reads' HO543.out).2.2 | (with_reducible refine Kd.C_alloc ?_ _) | (with_reducible refine Kd.C_drewN ?_ _) | (with_reducible refine Kd.C_drew ?_))) : P := h
theorem u14_52 {P : Prop} (h : P := by (with_reducible repeat (first | apply Kd.R_alloc | apply Kd.R_drewN | apply Kd.R_drew)); exact HO535.out) : P := h
theorem u14_53 {P : Prop} (h : P := by (with_reducible repeat (first | apply Kd.R_alloc | apply Kd.R_drewN | apply Kd.R_drew)); exact HO556.out) : P := h
/-! ### laws_FnBook: function 14 -/
def laws_FnBook.j0 : Nat → Int → Int → Int → Int → Int → List (S53) → Option (Bool)
  | 0, _, _, _, _, _, _ => none
  | k + 1, x4, x5, x6, x8, x9, x511000 => (impl_MoveMoney.f k x511000 x4 x5 x6).bind fun bt541 => (if bt541.2 = 0 then ((impl_TotalOf.f k bt541.1).bind fun bt552 => ((impl_MoveMoney.f k bt541.1 x5 x4 x6).bind fun bt554 => (if bt552.1 = x8 then (if bt552.2 = x9 then (if bt554.2 = 0 then ((laws_sameBook.f k bt554.1 x511000).bind fun t559 => (if t559 = true then ((impl_BookOk.f k bt541.1).bind fun t560 => (some t560)) else (some false))) else (some false)) else (some false)) else (some false)))) else ((spec_MoveMoney.f k x511000 x4 x5 x6).bind fun bt546 => ((laws_sameBook.f k bt541.1 x511000).bind fun t551 => (if t551 = true then (some (bt541.2 == bt546.2)) else (some false)))))
def laws_FnBook.f (k : Nat) (l0 : List Int) : Option (Bool) := (laws_big.f l0).bind fun t502 => (if t502 = true then (some true) else ((spec_DrawRightBook.f k l0).bind fun bt503 => ((impl_TotalOf.f k bt503.1).bind fun bt511 => ((impl_BookOk.f k bt503.1).bind fun t513 => (if t513 = true then ((impl_Deposit.f k bt503.1 bt503.2.1 bt503.2.2.2.1).bind fun bt514 => ((laws_find.f k bt503.1 bt503.2.1).bind fun bt519 => (if bt514.2 = 0 then ((laws_find.f k bt514.1 bt503.2.1).bind fun bt526 => ((impl_Withdraw.f k bt514.1 bt503.2.1 bt503.2.2.2.1).bind fun bt533 => (if bt519.2.2.2.2.2 = true then (if bt526.2.1 < bt519.2.1 then (some false) else (if (IntKind.u64.wrap (bt526.2.1 - bt519.2.1)) = bt503.2.2.2.1 then (if bt533.2 = 0 then ((laws_sameBook.f k bt533.1 bt503.1).bind fun t538 => (if t538 = true then ((impl_BookOk.f k bt514.1).bind fun t539 => (if t539 = true then (laws_FnBook.j0 k bt503.2.1 bt503.2.2.1 bt503.2.2.2.1 bt511.1 bt511.2 bt503.1) else (some false))) else (some false))) else (some false)) else (some false))) else (some false)))) else ((laws_sameBook.f k bt514.1 bt503.1).bind fun t540 => (if t540 = true then (if bt514.2 = 2 then (if bt519.2.2.2.2.2 = true then (some false) else (if bt514.2 = 5 then (if bt503.2.2.2.1 ≤ (IntKind.u64.wrap (18446744073709551615 - bt519.2.1)) then (some false) else (laws_FnBook.j0 k bt503.2.1 bt503.2.2.1 bt503.2.2.2.1 bt511.1 bt511.2 bt503.1)) else (laws_FnBook.j0 k bt503.2.1 bt503.2.2.1 bt503.2.2.2.1 bt511.1 bt511.2 bt503.1))) else (if bt514.2 = 5 then (if bt503.2.2.2.1 ≤ (IntKind.u64.wrap (18446744073709551615 - bt519.2.1)) then (some false) else (laws_FnBook.j0 k bt503.2.1 bt503.2.2.1 bt503.2.2.2.1 bt511.1 bt511.2 bt503.1)) else (laws_FnBook.j0 k bt503.2.1 bt503.2.2.1 bt503.2.2.2.1 bt511.1 bt511.2 bt503.1))) else (some false)))))) else (some false))))))
theorem laws_FnBook.mono_l : ∀ k, (∀ y0 y1 y2 y3 y4 y5, LeO (laws_FnBook.j0 k y0 y1 y2 y3 y4 y5) (laws_FnBook.j0 (k + 1) y0 y1 y2 y3 y4 y5))
  | 0 => fun _ _ _ _ _ _ r h => by simp [laws_FnBook.j0] at h
  | k + 1 => by
    have ih0 := laws_FnBook.mono_l k
    · intro y0 y1 y2 y3 y4 y5
      unfold laws_FnBook.j0
      repeat' first
      | (with_reducible exact ih0 _ _ _ _ _ _)
      | (with_reducible exact impl_BookOk.mono _ _)
      | (with_reducible exact impl_Deposit.mono _ _ _ _)
      | (with_reducible exact impl_MoveMoney.mono _ _ _ _ _)
      | (with_reducible exact impl_TotalOf.mono _ _)
      | (with_reducible exact impl_Withdraw.mono _ _ _ _)
      | (with_reducible exact laws_find.mono _ _ _)
      | (with_reducible exact laws_sameBook.mono _ _ _)
      | (with_reducible exact spec_DrawRightBook.mono _ _)
      | (with_reducible exact spec_MoveMoney.mono _ _ _ _ _)
      | (with_reducible exact LeO.refl _)
      | (with_reducible exact LeO.none _)
      | (with_reducible refine LeO.ite ?_ ?_)
      | (with_reducible refine LeO.bind ?_ (fun _ => ?_))
      | exact ih0 _ _ _ _ _ _
      | exact impl_BookOk.mono _ _
      | exact impl_Deposit.mono _ _ _ _
      | exact impl_MoveMoney.mono _ _ _ _ _
      | exact impl_TotalOf.mono _ _
      | exact impl_Withdraw.mono _ _ _ _
      | exact laws_find.mono _ _ _
      | exact laws_sameBook.mono _ _ _
      | exact spec_DrawRightBook.mono _ _
      | exact spec_MoveMoney.mono _ _ _ _ _
      | exact LeO.none _
      | refine LeO.ite ?_ ?_
      | refine LeO.bind ?_ (fun _ => ?_)
theorem laws_FnBook.mono : ∀ a0 k, LeO (laws_FnBook.f k a0) (laws_FnBook.f (k + 1) a0) := by
  intro a0 k
  have ih0 := laws_FnBook.mono_l k
  unfold laws_FnBook.f
  repeat' first
      | (with_reducible exact ih0 _ _ _ _ _ _)
      | (with_reducible exact impl_BookOk.mono _ _)
      | (with_reducible exact impl_Deposit.mono _ _ _ _)
      | (with_reducible exact impl_MoveMoney.mono _ _ _ _ _)
      | (with_reducible exact impl_TotalOf.mono _ _)
      | (with_reducible exact impl_Withdraw.mono _ _ _ _)
      | (with_reducible exact laws_find.mono _ _ _)
      | (with_reducible exact laws_sameBook.mono _ _ _)
      | (with_reducible exact spec_DrawRightBook.mono _ _)
      | (with_reducible exact spec_MoveMoney.mono _ _ _ _ _)
      | (with_reducible exact LeO.refl _)
      | (with_reducible exact LeO.none _)
      | (with_reducible refine LeO.ite ?_ ?_)
      | (with_reducible refine LeO.bind ?_ (fun _ => ?_))
      | exact ih0 _ _ _ _ _ _
      | exact impl_BookOk.mono _ _
      | exact impl_Deposit.mono _ _ _ _
      | exact impl_MoveMoney.mono _ _ _ _ _
      | exact impl_TotalOf.mono _ _
      | exact impl_Withdraw.mono _ _ _ _
      | exact laws_find.mono _ _ _
      | exact laws_sameBook.mono _ _ _
      | exact spec_DrawRightBook.mono _ _
      | exact spec_MoveMoney.mono _ _ _ _ _
      | exact LeO.none _
      | refine LeO.ite ?_ ?_
      | refine LeO.bind ?_ (fun _ => ?_)
set_option maxHeartbeats 8000000 in
set_option maxRecDepth 100000 in
theorem laws_FnBook.calls (k : Nat) (A0 : Option Addr) (c0 : Nat) (l0 : List Int) (r : Bool) (w : World) (hr0 : Kd.C (Kd.int .u8) w A0 l0.length l0) (hc0 : l0.length ≤ c0) (h : laws_FnBook.f k l0 = some r) (hr_ : Aside0 (r = true)) :
    Calls Try.prog 14 #[.slice A0 l0.length c0] w fun e w' => e = .returned (.bool r) ∧ Below w.heap.size w w' := by
  have hu29 := Try.underlying29
  have hu53 := Try.underlying53
  have HR0 := Aside0.mk hr0
  have HC0 := Aside0.mk hc0
  clear hr0 hc0
  have HB := Aside0.mk (Below.refl w.heap.size w)
  have H : ((laws_big.f l0).bind fun t502 => (if t502 = true then (some true) else ((spec_DrawRightBook.f k l0).bind fun bt503 => ((impl_TotalOf.f k bt503.1).bind fun bt511 => ((impl_BookOk.f k bt503.1).bind fun t513 => (if t513 = true then ((impl_Deposit.f k bt503.1 bt503.2.1 bt503.2.2.2.1).bind fun bt514 => ((laws_find.f k bt503.1 bt503.2.1).bind fun bt519 => (if bt514.2 = 0 then ((laws_find.f k bt514.1 bt503.2.1).bind fun bt526 => ((impl_Withdraw.f k bt514.1 bt503.2.1 bt503.2.2.2.1).bind fun bt533 => (if bt519.2.2.2.2.2 = true then (if bt526.2.1 < bt519.2.1 then (some false) else (if (IntKind.u64.wrap (bt526.2.1 - bt519.2.1)) = bt503.2.2.2.1 then (if bt533.2 = 0 then ((laws_sameBook.f k bt533.1 bt503.1).bind fun t538 => (if t538 = true then ((impl_BookOk.f k bt514.1).bind fun t539 => (if t539 = true then (laws_FnBook.j0 k bt503.2.1 bt503.2.2.1 bt503.2.2.2.1 bt511.1 bt511.2 bt503.1) else (some false))) else (some false))) else (some false)) else (some false))) else (some false)))) else ((laws_sameBook.f k bt514.1 bt503.1).bind fun t540 => (if t540 = true then (if bt514.2 = 2 then (if bt519.2.2.2.2.2 = true then (some false) else (if bt514.2 = 5 then (if bt503.2.2.2.1 ≤ (IntKind.u64.wrap (18446744073709551615 - bt519.2.1)) then (some false) else (laws_FnBook.j0 k bt503.2.1 bt503.2.2.1 bt503.2.2.2.1 bt511.1 bt511.2 bt503.1)) else (laws_FnBook.j0 k bt503.2.1 bt503.2.2.1 bt503.2.2.2.1 bt511.1 bt511.2 bt503.1))) else (if bt514.2 = 5 then (if bt503.2.2.2.1 ≤ (IntKind.u64.wrap (18446744073709551615 - bt519.2.1)) then (some false) else (laws_FnBook.j0 k bt503.2.1 bt503.2.2.1 bt503.2.2.2.1 bt511.1 bt511.2 bt503.1)) else (laws_FnBook.j0 k bt503.2.1 bt503.2.2.1 bt503.2.2.2.1 bt511.1 bt511.2 bt503.1))) else (some false)))))) else (some false))))))) = some r := h
  clear h
  replace H := Option.bind_eq_some_iff.mp H
  obtain ⟨t502, A20, H⟩ := H
  have A2 := Aside0.mk A20
  clear A20
  have H9 := Aside0.mk H
  clear H
  go_enter Try.func14, Try.ntmps14
  go_upto_if 27 with (first | ((with_reducible refine gate_callee (f := 44) rfl ?_); refine goesL_ (some 27) rfl rfl Try.func44 (by kernel_rfl) rfl #[.slice A0 l0.length c0] rfl u14_10 ?_; (with_reducible refine (laws_big.calls _ _ l0 t502 _ ?side1 ?side2 A2.out).mono ?_); (case side1 => exact (by repeat (first | exact HR0.out | (with_reducible refine Kd.C_alloc ?_ _) | (with_reducible refine Kd.C_drewN ?_ _) | (with_reducible refine Kd.C_drew ?_)))); (case side2 => exact HC0.out); rintro e w' ⟨rfl, ⟨nd, rfl⟩⟩; refine ⟨_, rfl, ?_⟩))
  have H := H9.out
  clear H9
  by_cases c3 : t502 = true
  · subst c3
    rw [if_pos rfl] at H
    obtain rfl := Option.some.inj H
    go_wp2
    go_ret
    exact ⟨by first | rfl | (simp [errW_none, errW_some] <;> rfl) | (simp [*, errW_none, errW_some] <;> rfl), u14_21⟩
  replace c3 := Bool.eq_false_iff.mpr c3
  subst c3
  rw [if_neg (show ¬ (false = true) by decide)] at H
  replace H := Option.bind_eq_some_iff.mp H
  obtain ⟨⟨t503, t506, t507, t508, t509⟩, A40, H⟩ := H
  (try dsimp only at H)
  have A4 := Aside0.mk A40
  clear A40
  replace H := Option.bind_eq_some_iff.mp H
  obtain ⟨⟨t511, t512⟩, A50, H⟩ := H
  (try dsimp only at H)
  have A5 := Aside0.mk A50
  clear A50
  replace H := Option.bind_eq_some_iff.mp H
  obtain ⟨t513, A60, H⟩ := H
  have A6 := Aside0.mk A60
  clear A60
  by_cases c7 : t513 = true
  rotate_left
  · replace c7 := Bool.eq_false_iff.mpr c7
    subst c7
    rw [if_neg (show ¬ (false = true) by decide)] at H
    exact absurd ((Option.some.inj H).trans hr_.out) (by decide)
  subst c7
  rw [if_pos rfl] at H
  replace H := Option.bind_eq_some_iff.mp H
  obtain ⟨⟨t514, t517⟩, A80, H⟩ := H
  (try dsimp only at H)
  have A8 := Aside0.mk A80
  clear A80
  replace H := Option.bind_eq_some_iff.mp H
  obtain ⟨⟨t519, t520, t521, t522, t523, t524⟩, A90, H⟩ := H
  (try dsimp only at H)
  have A9 := Aside0.mk A90
  clear A90
  have HC10 := Aside0.mk H
  clear H
  go_upto_if 58 with (first | ((with_reducible refine gate_callee (f := 45) rfl ?_); refine goesL_ (some 30) rfl rfl Try.func45 (by kernel_rfl) rfl #[.slice A0 l0.length c0] rfl u14_10 ?_; (with_reducible refine (spec_DrawRightBook.calls k _ _ l0 t503 t506 t507 t508 t509 _ ?side1 ?side2 A4.out).mono ?_); (case side1 => exact (by repeat (first | exact (Kd.C_below HR0.out HB.out) | (with_reducible refine Kd.C_alloc ?_ _) | (with_reducible refine Kd.C_drewN ?_ _) | (with_reducible refine Kd.C_drew ?_)))); (case side2 => exact HC0.out); rintro e w11 ⟨v504, rfl, ho0, hb⟩; refine ⟨_, rfl, ?_⟩; have n0_ := Aside0.mk (Kd.R_lower ho0 (below_size u14_21)); have n1_ := Aside0.mk (below_step u14_21 hb); clear HB; have HO505 := n0_; have HB := n1_; clear n0_ n1_; (try clear hb); (try clear hb2); (try clear hk); (try clear hi); (try clear ho0)) | ((with_reducible refine gate_dst (N := 3) rfl ?_); refine box_event ?hg (N := 3) ?hd (cs := #[.slice none 0 0]) (t := 29) ?hr ?_; (case hd => rfl); (case hg => rfl); (case hr => first | (go_simp; done) | (go_simp; rfl)); intro gb510 hg w12 hbox hb; have n0_ := Aside0.mk (Kd.R_below u14_17 hb); have n1_ := Aside0.mk (below_step u14_21 hb); have n2_ := Aside0.mk (hbox); have n3_ := Aside0.mk ((by rw [hg]; exact (below_size u14_21) : w.heap.size ≤ gb510)); have n4_ := Aside0.mk ((by rw [hg]; exact (below_size u14_21) : w.heap.size ≤ gb510)); clear HO505; clear HB; have HO505 := n0_; have HB := n1_; have BK510 := n2_; have GW510 := n3_; have GE510 := n4_; clear n0_ n1_ n2_ n3_ n4_; clear hb hbox hg; obtain ⟨Ao13, co13, eo13⟩ := Kd.R_slice HO505.out; subst eo13; have hcz14_0 : w12.cell? ⟨gb510, 0, none⟩ = some (.slice none 0 0) := (blk_cell BK510.out 0).trans rfl; have hfz14_0 := blk_frozen BK510.out 0) | ((with_reducible refine gate_callee (f := 23) rfl ?_); refine goesL_ (some 38) rfl rfl Try.func23 (by kernel_rfl) rfl #[.agg #[.slice Ao13 t503.length co13]] rfl u14_10 ?_; (with_reducible refine (impl_TotalOf.calls k _ _ t503 t511 t512 _ ?side1 ?side2 A5.out).mono ?_); (case side1 => exact (by refine (Kd.R_reads' (e := 53) (base := w.heap.size) (ok := fun k_ => True) (n := t503.length) (c := co13) ?_).2.2; exact u14_43)); (case side2 => exact (Kd.R_reads' HO505.out).2.1); rintro e w15 ⟨rfl, hb⟩; refine ⟨_, rfl, ?_⟩; have n0_ := Aside0.mk (Kd.R_below u14_43 hb); have n1_ := Aside0.mk (blk_below (g := gb510) (o := .cells #[.slice Ao13 t503.length co13] 29 (0, 0)) (by (with_reducible repeat (first | refine blk_drewN ?_ _ | refine blk_drew ?_ | refine blk_alloc ?_ _)); refine blk_put (cs := #[.slice none 0 0]) ?_ 0 _ rfl; (with_reducible repeat (first | refine blk_drewN ?_ _ | refine blk_drew ?_ | refine blk_alloc ?_ _)); exact BK510.out) hb); have n2_ := Aside0.mk (below_step u14_16 hb); clear HO505; clear BK510; clear HB; have HO505 := n0_; have BK510 := n1_; have HB := n2_; clear n0_ n1_ n2_; (try clear hb); (try clear hb2); (try clear hk); (try clear hi); have hcz16_0 : w15.cell? ⟨gb510, 0, none⟩ = some (.slice Ao13 t503.length co13) := (blk_cell BK510.out 0).trans rfl; have hfz16_0 := blk_frozen BK510.out 0) | ((with_reducible refine gate_callee (f := 20) rfl ?_); refine goesL_ (some 42) rfl rfl Try.func20 (by kernel_rfl) rfl #[.agg #[.slice Ao13 t503.length co13]] rfl u14_10 ?_; (with_reducible refine (impl_BookOk.calls k _ _ t503 true _ ?side1 ?side2 A6.out).mono ?_); (case side1 => exact u14_50); (case side2 => exact (Kd.R_reads' HO505.out).2.1); rintro e w17 ⟨rfl, hb⟩; refine ⟨_, rfl, ?_⟩; have n0_ := Aside0.mk (Kd.R_below u14_17 hb); have n1_ := Aside0.mk (blk_below (g := gb510) (o := .cells #[.slice Ao13 t503.length co13] 29 (0, 0)) u14_4 hb); have n2_ := Aside0.mk (below_step u14_16 hb); clear HO505; clear BK510; clear HB; have HO505 := n0_; have BK510 := n1_; have HB := n2_; clear n0_ n1_ n2_; (try clear hb); (try clear hb2); (try clear hk); (try clear hi); have hcz18_0 : w17.cell? ⟨gb510, 0, none⟩ = some (.slice Ao13 t503.length co13) := (blk_cell BK510.out 0).trans rfl; have hfz18_0 := blk_frozen BK510.out 0) | ((with_reducible refine gate_callee (f := 35) rfl ?_); refine goesL_ (some 48) rfl rfl Try.func35 (by kernel_rfl) rfl #[.agg #[.slice Ao13 t503.length co13], .int .u64 t506, .int .u64 t508] rfl u14_10 ?_; (with_reducible refine (impl_Deposit.calls k _ _ t503 t506 t508 t514 t517 _ ?side1 ?side2 A8.out).mono ?_); (case side1 => exact u14_50); (case side2 => exact (Kd.R_reads' HO505.out).2.1); rintro e w19 ⟨v515, rfl, ho0, hb⟩; refine ⟨_, rfl, ?_⟩; have n0_ := Aside0.mk (Kd.R_elder' u14_17 (Kd.R_base ho0) hb); have n1_ := Aside0.mk (Kd.R_lower (Kd.R_new' ho0 (Kd.R_lt u14_17)) (below_size u14_16)); have n2_ := Aside0.mk (blk_below (g := gb510) (o := .cells #[.slice Ao13 t503.length co13] 29 (0, 0)) u14_4 hb); have n3_ := Aside0.mk (below_step u14_16 hb); clear HO505; clear BK510; clear HB; have HO505 := n0_; have HO516 := n1_; have BK510 := n2_; have HB := n3_; clear n0_ n1_ n2_ n3_; (try clear hb); (try clear hb2); (try clear hk); (try clear hi); (try clear ho0)) | ((with_reducible refine gate_dst (N := 10) rfl ?_); refine box_event ?hg (N := 10) ?hd (cs := #[.slice none 0 0]) (t := 29) ?hr ?_; (case hd => rfl); (case hg => rfl); (case hr => first | (go_simp; done) | (go_simp; rfl)); intro gb518 hg w20 hbox hb; have n0_ := Aside0.mk (Kd.R_below u14_17 hb); have n1_ := Aside0.mk (Kd.R_below u14_32 hb); have n2_ := Aside0.mk (blk_below (g := gb510) (o := .cells #[.slice Ao13 t503.length co13] 29 (0, 0)) u14_4 hb); have n3_ := Aside0.mk (below_step u14_16 hb); have n4_ := Aside0.mk (hbox); have n5_ := Aside0.mk ((by rw [hg]; exact (below_size u14_16) : w.heap.size ≤ gb518)); have n6_ := Aside0.mk ((by rw [hg]; exact (below_size u14_16) : w.heap.size ≤ gb518)); have n7_ := Aside0.mk ((by rw [hg]; exact Nat.ne_of_lt (blk_lt (g := gb510) (o := .cells #[.slice Ao13 t503.length co13] 29 (0, 0)) u14_4) : gb510 ≠ gb518)); have n8_ := Aside0.mk ((by rw [hg]; exact Nat.ne_of_gt (blk_lt (g := gb510) (o := .cells #[.slice Ao13 t503.length co13] 29 (0, 0)) u14_4) : gb518 ≠ gb510)); clear HO505; clear HO516; clear BK510; clear HB; have HO505 := n0_; have HO516 := n1_; have BK510 := n2_; have HB := n3_; have BK518 := n4_; have GW518 := n5_; have GE518 := n6_; have NB510_518 := n7_; have NB518_510 := n8_; clear n0_ n1_ n2_ n3_ n4_ n5_ n6_ n7_ n8_; clear hb hbox hg; obtain ⟨Ao21, co21, eo21⟩ := Kd.R_slice HO516.out; subst eo21; have hnb22 := NB518_510.out; have hnc22 := NB510_518.out; have hcz23_0 : w20.cell? ⟨gb518, 0, none⟩ = some (.slice none 0 0) := (blk_cell BK518.out 0).trans rfl; have hfz23_0 := blk_frozen BK518.out 0; have hcz24_0 : w20.cell? ⟨gb510, 0, none⟩ = some (.slice Ao13 t503.length co13) := (blk_cell BK510.out 0).trans rfl; have hfz24_0 := blk_frozen BK510.out 0) | ((with_reducible refine gate_callee (f := 46) rfl ?_); refine goesL_ (some 54) rfl rfl Try.func46 (by kernel_rfl) rfl #[.agg #[.slice Ao13 t503.length co13], .int .u64 t506] rfl u14_10 ?_; (with_reducible refine (laws_find.calls k _ _ t503 t506 t519 t520 t521 t522 t523 t524 _ ?side1 ?side2 A9.out).mono ?_); (case side1 => exact (by refine (Kd.R_reads' (e := 53) (base := w.heap.size) (ok := fun k_ => (True ∧ some k_ ≠ (.slice Ao21 t514.length co21 : Value).ownBlock)) (n := t503.length) (c := co13) ?_).2.2; exact u14_44)); (case side2 => exact (Kd.R_reads' HO505.out).2.1); rintro e w25 ⟨rfl, hb⟩; refine ⟨_, rfl, ?_⟩; have n0_ := Aside0.mk (Kd.R_below u14_44 hb); have n1_ := Aside0.mk (Kd.R_below (by (with_reducible repeat (first | apply Kd.R_alloc | apply Kd.R_drewN | apply Kd.R_drew)); exact (Kd.R_mono (Kd.R_far (p := ⟨gb518, 0, none⟩) (Kd.R_types HO516.out BK518.out (by decide)) (fun _ hk => hk.2) (.slice Ao21 t514.length co21)) (fun _ h_ => h_.1))) hb); have n2_ := Aside0.mk (blk_below (g := gb510) (o := .cells #[.slice Ao13 t503.length co13] 29 (0, 0)) (by (with_reducible repeat (first | refine blk_drewN ?_ _ | refine blk_drew ?_ | refine blk_alloc ?_ _)); refine blk_far ?_ NB510_518.out _; (with_reducible repeat (first | refine blk_drewN ?_ _ | refine blk_drew ?_ | refine blk_alloc ?_ _)); exact BK510.out) hb); have n3_ := Aside0.mk (blk_below (g := gb518) (o := .cells #[.slice Ao21 t514.length co21] 29 (0, 0)) (by (with_reducible repeat (first | refine blk_drewN ?_ _ | refine blk_drew ?_ | refine blk_alloc ?_ _)); refine blk_put (cs := #[.slice none 0 0]) ?_ 0 _ rfl; (with_reducible repeat (first | refine blk_drewN ?_ _ | refine blk_drew ?_ | refine blk_alloc ?_ _)); exact BK518.out) hb); have n4_ := Aside0.mk (below_step u14_24 hb); clear HO505; clear HO516; clear BK510; clear BK518; clear HB; have HO505 := n0_; have HO516 := n1_; have BK510 := n2_; have BK518 := n3_; have HB := n4_; clear n0_ n1_ n2_ n3_ n4_; (try clear hb); (try clear hb2); (try clear hk); (try clear hi)) | ((with_reducible refine gate_dst (N := 12) rfl ?_); refine box_event ?hg (N := 12) ?hd (cs := #[.int .u64 0, .int .u64 0, .int .u64 0, .int .u64 0, .int .i64 0]) (t := 53) ?hr ?_; (case hd => rfl); (case hg => rfl); (case hr => first | (go_simp; done) | (go_simp; rfl)); intro gb525 hg w26 hbox hb; have n0_ := Aside0.mk (Kd.R_below (Kd.R_elderB u14_17 gb525 (Nat.le_of_eq hg.symm)) hb); have n1_ := Aside0.mk (Kd.R_below (Kd.R_elderB u14_32 gb525 (Nat.le_of_eq hg.symm)) hb); have n2_ := Aside0.mk (blk_below (g := gb510) (o := .cells #[.slice Ao13 t503.length co13] 29 (0, 0)) u14_4 hb); have n3_ := Aside0.mk (blk_below (g := gb518) (o := .cells #[.slice Ao21 t514.length co21] 29 (0, 0)) u14_5 hb); have n4_ := Aside0.mk (below_step u14_24 hb); have n5_ := Aside0.mk (hbox); have n6_ := Aside0.mk ((by rw [hg]; exact (below_size u14_24) : w.heap.size ≤ gb525)); have n7_ := Aside0.mk ((by rw [hg]; exact (below_size u14_24) : w.heap.size ≤ gb525)); have n8_ := Aside0.mk ((by rw [hg]; exact Nat.ne_of_lt (blk_lt (g := gb510) (o := .cells #[.slice Ao13 t503.length co13] 29 (0, 0)) u14_4) : gb510 ≠ gb525)); have n9_ := Aside0.mk ((by rw [hg]; exact Nat.ne_of_gt (blk_lt (g := gb510) (o := .cells #[.slice Ao13 t503.length co13] 29 (0, 0)) u14_4) : gb525 ≠ gb510)); have n10_ := Aside0.mk ((by rw [hg]; exact Nat.ne_of_lt (blk_lt (g := gb518) (o := .cells #[.slice Ao21 t514.length co21] 29 (0, 0)) u14_5) : gb518 ≠ gb525)); have n11_ := Aside0.mk ((by rw [hg]; exact Nat.ne_of_gt (blk_lt (g := gb518) (o := .cells #[.slice Ao21 t514.length co21] 29 (0, 0)) u14_5) : gb525 ≠ gb518)); clear HO505; clear HO516; clear BK510; clear BK518; clear HB; have HO505 := n0_; have HO516 := n1_; have BK510 := n2_; have BK518 := n3_; have HB := n4_; have BK525 := n5_; have GW525 := n6_; have GE525 := n7_; have NB510_525 := n8_; have NB525_510 := n9_; have NB518_525 := n10_; have NB525_518 := n11_; clear n0_ n1_ n2_ n3_ n4_ n5_ n6_ n7_ n8_ n9_ n10_ n11_; clear hb hbox hg; have hnb27 := NB525_510.out; have hnc27 := NB510_525.out; have hnb28 := NB525_518.out; have hnc28 := NB518_525.out; have hcz29_0 : w26.cell? ⟨gb525, 0, none⟩ = some (.int .u64 0) := (blk_cell BK525.out 0).trans rfl; have hcz29_1 : w26.cell? ⟨gb525, 1, none⟩ = some (.int .u64 0) := (blk_cell BK525.out 1).trans rfl; have hcz29_2 : w26.cell? ⟨gb525, 2, none⟩ = some (.int .u64 0) := (blk_cell BK525.out 2).trans rfl; have hcz29_3 : w26.cell? ⟨gb525, 3, none⟩ = some (.int .u64 0) := (blk_cell BK525.out 3).trans rfl; have hcz29_4 : w26.cell? ⟨gb525, 4, none⟩ = some (.int .i64 0) := (blk_cell BK525.out 4).trans rfl; have hfz29_0 := blk_frozen BK525.out 0; have hfz29_1 := blk_frozen BK525.out 1; have hfz29_2 := blk_frozen BK525.out 2; have hfz29_3 := blk_frozen BK525.out 3; have hfz29_4 := blk_frozen BK525.out 4))
  (try simp only [Act.put, List.setIfInBounds_toArray, List.set_cons_zero, List.set_cons_succ])
  go_cut [] (fun wc => ∃ (kq : Nat), Aside0 (laws_FnBook.j0 kq t506 t507 t508 t511 t512 t503 = some r) ∧ Aside0 (kq ≤ k) ∧ Aside0 (Kd.R k53 53 wc w.heap.size (fun k_ => some k_ ≠ ((.slice Ao21 t514.length co21) : Value).ownBlock ∧ k_ ≠ gb525) (.slice Ao13 t503.length co13) t503) ∧ Aside0 (Kd.R k53 53 wc w.heap.size (fun k_ => some k_ ≠ ((.slice Ao13 t503.length co13) : Value).ownBlock ∧ k_ ≠ gb525) (.slice Ao21 t514.length co21) t514) ∧ Aside0 (wc.heap[gb510]? = some (.cells #[(.slice Ao13 t503.length co13)] 29 (0, 0))) ∧ Aside0 (wc.heap[gb518]? = some (.cells #[(.slice Ao21 t514.length co21)] 29 (0, 0))) ∧ Aside0 (wc.heap[gb525]? = some (.cells #[.int .u64 t519, .int .u64 t520, .int .u64 t521, .int .u64 t522, .int .i64 t523] 53 (0, 0))) ∧ Aside0 (Below w.heap.size w wc))
  case first =>
    have H := HC10.out
    clear HC10
    by_cases c30 : t517 = 0
    rotate_left
    · rw [if_neg c30] at H
      have c30b0 : (t517 == 0) = false := beq_eq_false_iff_ne.mpr c30
      have c30b1 : (t517 != 0) = true := bne_iff_ne.mpr c30
      (first | rw [c30b0] | (simp only [i64_w, i32_w]; rw [c30b0]) | skip)
      replace H := Option.bind_eq_some_iff.mp H
      obtain ⟨t540, A660, H⟩ := H
      have A66 := Aside0.mk A660
      clear A660
      by_cases c67 : t540 = true
      rotate_left
      · replace c67 := Bool.eq_false_iff.mpr c67
        subst c67
        rw [if_neg (show ¬ (false = true) by decide)] at H
        exact absurd ((Option.some.inj H).trans hr_.out) (by decide)
      subst c67
      rw [if_pos rfl] at H
      by_cases c68 : t517 = 2
      rotate_left
      · rw [if_neg c68] at H
        have c68b0 : (t517 == 2) = false := beq_eq_false_iff_ne.mpr c68
        have c68b1 : (t517 != 2) = true := bne_iff_ne.mpr c68
        by_cases c85 : t517 = 5
        rotate_left
        · rw [if_neg c85] at H
          have c85b0 : (t517 == 5) = false := beq_eq_false_iff_ne.mpr c85
          have c85b1 : (t517 != 5) = true := bne_iff_ne.mpr c85
          have H' := Aside0.mk H
          clear H
          have hnb94 := NB518_510.out
          have hnc94 := NB510_518.out
          have hnb95 := NB518_525.out
          have hnc95 := NB525_518.out
          have hcz96_0 : w26.cell? ⟨gb518, 0, none⟩ = some (.slice Ao21 t514.length co21) := (blk_cell BK518.out 0).trans rfl
          have hfz96_0 := blk_frozen BK518.out 0
          have hnb97 := NB510_525.out
          have hnc97 := NB525_510.out
          have hcz98_0 : w26.cell? ⟨gb510, 0, none⟩ = some (.slice Ao13 t503.length co13) := (blk_cell BK510.out 0).trans rfl
          have hfz98_0 := blk_frozen BK510.out 0
          go_wp2_with (first | ((with_reducible refine gate_callee (f := 47) rfl ?_); refine goesL_ (some 107) rfl rfl Try.func47 (by kernel_rfl) rfl #[.agg #[.slice Ao21 t514.length co21], .agg #[.slice Ao13 t503.length co13]] rfl u14_10 ?_; (with_reducible refine (laws_sameBook.calls k _ _ t514 _ _ t503 true _ ?side1 ?side2 ?side3 ?side4 A66.out).mono ?_); (case side1 => exact u14_18); (case side2 => exact (Kd.R_reads' HO516.out).2.1); (case side3 => exact u14_23); (case side4 => exact (Kd.R_reads' HO505.out).2.1); rintro e w99 ⟨rfl, hb⟩; refine ⟨_, rfl, ?_⟩; have n0_ := Aside0.mk (Kd.R_below u14_3 hb); have n1_ := Aside0.mk (Kd.R_below u14_0 hb); have n2_ := Aside0.mk (blk_below (g := gb510) (o := .cells #[.slice Ao13 t503.length co13] 29 (0, 0)) u14_7 hb); have n3_ := Aside0.mk (blk_below (g := gb518) (o := .cells #[.slice Ao21 t514.length co21] 29 (0, 0)) u14_8 hb); have n4_ := Aside0.mk (blk_below (g := gb525) (o := .cells #[.int .u64 t519, .int .u64 t520, .int .u64 t521, .int .u64 t522, .int .i64 t523] 53 (0, 0)) u14_2 hb); have n5_ := Aside0.mk (below_step u14_1 hb); clear HO505; clear HO516; clear BK510; clear BK518; clear BK525; clear HB; have HO505 := n0_; have HO516 := n1_; have BK510 := n2_; have BK518 := n3_; have BK525 := n4_; have HB := n5_; clear n0_ n1_ n2_ n3_ n4_ n5_; (try clear hb); (try clear hb2); (try clear hk); (try clear hi)))
          go_meet
          case rel => exact ⟨_, H', ⟨by first | omega | exact Nat.le_refl _⟩, ⟨u14_30⟩, ⟨u14_31⟩, ⟨u14_4⟩, ⟨u14_5⟩, ⟨u14_6⟩, ⟨u14_1⟩⟩
        rw [if_pos c85] at H
        have c85b0 : (t517 == 5) = true := beq_iff_eq.mpr c85
        have c85b1 : (t517 != 5) = false := bne_eq_false_iff_eq.mpr c85
        clear c85
        by_cases c86 : t508 ≤ (IntKind.u64.wrap (18446744073709551615 - t520))
        · rw [if_pos c86] at H
          have c86b0 : decide (t508 ≤ (IntKind.u64.wrap (18446744073709551615 - t520))) = true := decide_eq_true c86
          clear c86
          exact absurd ((Option.some.inj H).trans hr_.out) (by decide)
        rw [if_neg c86] at H
        have c86b0 : decide (t508 ≤ (IntKind.u64.wrap (18446744073709551615 - t520))) = false := decide_eq_false c86
        clear c86
        have H' := Aside0.mk H
        clear H
        have hnb87 := NB518_510.out
        have hnc87 := NB510_518.out
        have hnb88 := NB518_525.out
        have hnc88 := NB525_518.out
        have hcz89_0 : w26.cell? ⟨gb518, 0, none⟩ = some (.slice Ao21 t514.length co21) := (blk_cell BK518.out 0).trans rfl
        have hfz89_0 := blk_frozen BK518.out 0
        have hnb90 := NB510_525.out
        have hnc90 := NB525_510.out
        have hcz91_0 : w26.cell? ⟨gb510, 0, none⟩ = some (.slice Ao13 t503.length co13) := (blk_cell BK510.out 0).trans rfl
        have hfz91_0 := blk_frozen BK510.out 0
        go_wp2_with (first | ((with_reducible refine gate_callee (f := 47) rfl ?_); refine goesL_ (some 107) rfl rfl Try.func47 (by kernel_rfl) rfl #[.agg #[.slice Ao21 t514.length co21], .agg #[.slice Ao13 t503.length co13]] rfl u14_10 ?_; (with_reducible refine (laws_sameBook.calls k _ _ t514 _ _ t503 true _ ?side1 ?side2 ?side3 ?side4 A66.out).mono ?_); (case side1 => exact u14_18); (case side2 => exact (Kd.R_reads' HO516.out).2.1); (case side3 => exact u14_23); (case side4 => exact (Kd.R_reads' HO505.out).2.1); rintro e w92 ⟨rfl, hb⟩; refine ⟨_, rfl, ?_⟩; have n0_ := Aside0.mk (Kd.R_below u14_3 hb); have n1_ := Aside0.mk (Kd.R_below u14_0 hb); have n2_ := Aside0.mk (blk_below (g := gb510) (o := .cells #[.slice Ao13 t503.length co13] 29 (0, 0)) u14_7 hb); have n3_ := Aside0.mk (blk_below (g := gb518) (o := .cells #[.slice Ao21 t514.length co21] 29 (0, 0)) u14_8 hb); have n4_ := Aside0.mk (blk_below (g := gb525) (o := .cells #[.int .u64 t519, .int .u64 t520, .int .u64 t521, .int .u64 t522, .int .i64 t523] 53 (0, 0)) u14_2 hb); have n5_ := Aside0.mk (below_step u14_1 hb); clear HO505; clear HO516; clear BK510; clear BK518; clear BK525; clear HB; have HO505 := n0_; have HO516 := n1_; have BK510 := n2_; have BK518 := n3_; have BK525 := n4_; have HB := n5_; clear n0_ n1_ n2_ n3_ n4_ n5_; (try clear hb); (try clear hb2); (try clear hk); (try clear hi); have hcz93_0 : w92.cell? ⟨gb525, 0, none⟩ = some (.int .u64 t519) := (blk_cell BK525.out 0).trans rfl; have hcz93_1 : w92.cell? ⟨gb525, 1, none⟩ = some (.int .u64 t520) := (blk_cell BK525.out 1).trans rfl; have hcz93_2 : w92.cell? ⟨gb525, 2, none⟩ = some (.int .u64 t521) := (blk_cell BK525.out 2).trans rfl; have hcz93_3 : w92.cell? ⟨gb525, 3, none⟩ = some (.int .u64 t522) := (blk_cell BK525.out 3).trans rfl; have hcz93_4 : w92.cell? ⟨gb525, 4, none⟩ = some (.int .i64 t523) := (blk_cell BK525.out 4).trans rfl; have hfz93_0 := blk_frozen BK525.out 0; have hfz93_1 := blk_frozen BK525.out 1; have hfz93_2 := blk_frozen BK525.out 2; have hfz93_3 := blk_frozen BK525.out 3; have hfz93_4 := blk_frozen BK525.out 4))
        go_meet
        case rel => exact ⟨_, H', ⟨by first | omega | exact Nat.le_refl _⟩, ⟨u14_30⟩, ⟨u14_31⟩, ⟨u14_4⟩, ⟨u14_5⟩, ⟨u14_6⟩, ⟨u14_1⟩⟩
      rw [if_pos c68] at H
      have c68b0 : (t517 == 2) = true := beq_iff_eq.mpr c68
      have c68b1 : (t517 != 2) = false := bne_eq_false_iff_eq.mpr c68
      clear c68
      by_cases c69 : t524 = true
      · subst c69
        rw [if_pos rfl] at H
        exact absurd ((Option.some.inj H).trans hr_.out) (by decide)
      replace c69 := Bool.eq_false_iff.mpr c69
      subst c69
      rw [if_neg (show ¬ (false = true) by decide)] at H
      by_cases c70 : t517 = 5
      rotate_left
      · rw [if_neg c70] at H
        have c70b0 : (t517 == 5) = false := beq_eq_false_iff_ne.mpr c70
        have c70b1 : (t517 != 5) = true := bne_iff_ne.mpr c70
        have H' := Aside0.mk H
        clear H
        have hnb79 := NB518_510.out
        have hnc79 := NB510_518.out
        have hnb80 := NB518_525.out
        have hnc80 := NB525_518.out
        have hcz81_0 : w26.cell? ⟨gb518, 0, none⟩ = some (.slice Ao21 t514.length co21) := (blk_cell BK518.out 0).trans rfl
        have hfz81_0 := blk_frozen BK518.out 0
        have hnb82 := NB510_525.out
        have hnc82 := NB525_510.out
        have hcz83_0 : w26.cell? ⟨gb510, 0, none⟩ = some (.slice Ao13 t503.length co13) := (blk_cell BK510.out 0).trans rfl
        have hfz83_0 := blk_frozen BK510.out 0
        go_wp2_with (first | ((with_reducible refine gate_callee (f := 47) rfl ?_); refine goesL_ (some 107) rfl rfl Try.func47 (by kernel_rfl) rfl #[.agg #[.slice Ao21 t514.length co21], .agg #[.slice Ao13 t503.length co13]] rfl u14_10 ?_; (with_reducible refine (laws_sameBook.calls k _ _ t514 _ _ t503 true _ ?side1 ?side2 ?side3 ?side4 A66.out).mono ?_); (case side1 => exact u14_18); (case side2 => exact (Kd.R_reads' HO516.out).2.1); (case side3 => exact u14_23); (case side4 => exact (Kd.R_reads' HO505.out).2.1); rintro e w84 ⟨rfl, hb⟩; refine ⟨_, rfl, ?_⟩; have n0_ := Aside0.mk (Kd.R_below u14_3 hb); have n1_ := Aside0.mk (Kd.R_below u14_0 hb); have n2_ := Aside0.mk (blk_below (g := gb510) (o := .cells #[.slice Ao13 t503.length co13] 29 (0, 0)) u14_7 hb); have n3_ := Aside0.mk (blk_below (g := gb518) (o := .cells #[.slice Ao21 t514.length co21] 29 (0, 0)) u14_8 hb); have n4_ := Aside0.mk (blk_below (g := gb525) (o := .cells #[.int .u64 t519, .int .u64 t520, .int .u64 t521, .int .u64 t522, .int .i64 t523] 53 (0, 0)) u14_2 hb); have n5_ := Aside0.mk (below_step u14_1 hb); clear HO505; clear HO516; clear BK510; clear BK518; clear BK525; clear HB; have HO505 := n0_; have HO516 := n1_; have BK510 := n2_; have BK518 := n3_; have BK525 := n4_; have HB := n5_; clear n0_ n1_ n2_ n3_ n4_ n5_; (try clear hb); (try clear hb2); (try clear hk); (try clear hi)))
        go_meet
        case rel => exact ⟨_, H', ⟨by first | omega | exact Nat.le_refl _⟩, ⟨u14_30⟩, ⟨u14_31⟩, ⟨u14_4⟩, ⟨u14_5⟩, ⟨u14_6⟩, ⟨u14_1⟩⟩
      rw [if_pos c70] at H
      have c70b0 : (t517 == 5) = true := beq_iff_eq.mpr c70
      have c70b1 : (t517 != 5) = false := bne_eq_false_iff_eq.mpr c70
      clear c70
      by_cases c71 : t508 ≤ (IntKind.u64.wrap (18446744073709551615 - t520))
      · rw [if_pos c71] at H
        have c71b0 : decide (t508 ≤ (IntKind.u64.wrap (18446744073709551615 - t520))) = true := decide_eq_true c71
        clear c71
        exact absurd ((Option.some.inj H).trans hr_.out) (by decide)
      rw [if_neg c71] at H
      have c71b0 : decide (t508 ≤ (IntKind.u64.wrap (18446744073709551615 - t520))) = false := decide_eq_false c71
      clear c71
      have H' := Aside0.mk H
      clear H
      have hnb72 := NB518_510.out
      have hnc72 := NB510_518.out
      have hnb73 := NB518_525.out
      have hnc73 := NB525_518.out
      have hcz74_0 : w26.cell? ⟨gb518, 0, none⟩ = some (.slice Ao21 t514.length co21) := (blk_cell BK518.out 0).trans rfl
      have hfz74_0 := blk_frozen BK518.out 0
      have hnb75 := NB510_525.out
      have hnc75 := NB525_510.out
      have hcz76_0 : w26.cell? ⟨gb510, 0, none⟩ = some (.slice Ao13 t503.length co13) := (blk_cell BK510.out 0).trans rfl
      have hfz76_0 := blk_frozen BK510.out 0
      go_wp2_with (first | ((with_reducible refine gate_callee (f := 47) rfl ?_); refine goesL_ (some 107) rfl rfl Try.func47 (by kernel_rfl) rfl #[.agg #[.slice Ao21 t514.length co21], .agg #[.slice Ao13 t503.length co13]] rfl u14_10 ?_; (with_reducible refine (laws_sameBook.calls k _ _ t514 _ _ t503 true _ ?side1 ?side2 ?side3 ?side4 A66.out).mono ?_); (case side1 => exact u14_18); (case side2 => exact (Kd.R_reads' HO516.out).2.1); (case side3 => exact u14_23); (case side4 => exact (Kd.R_reads' HO505.out).2.1); rintro e w77 ⟨rfl, hb⟩; refine ⟨_, rfl, ?_⟩; have n0_ := Aside0.mk (Kd.R_below u14_3 hb); have n1_ := Aside0.mk (Kd.R_below u14_0 hb); have n2_ := Aside0.mk (blk_below (g := gb510) (o := .cells #[.slice Ao13 t503.length co13] 29 (0, 0)) u14_7 hb); have n3_ := Aside0.mk (blk_below (g := gb518) (o := .cells #[.slice Ao21 t514.length co21] 29 (0, 0)) u14_8 hb); have n4_ := Aside0.mk (blk_below (g := gb525) (o := .cells #[.int .u64 t519, .int .u64 t520, .int .u64 t521, .int .u64 t522, .int .i64 t523] 53 (0, 0)) u14_2 hb); have n5_ := Aside0.mk (below_step u14_1 hb); clear HO505; clear HO516; clear BK510; clear BK518; clear BK525; clear HB; have HO505 := n0_; have HO516 := n1_; have BK510 := n2_; have BK518 := n3_; have BK525 := n4_; have HB := n5_; clear n0_ n1_ n2_ n3_ n4_ n5_; (try clear hb); (try clear hb2); (try clear hk); (try clear hi); have hcz78_0 : w77.cell? ⟨gb525, 0, none⟩ = some (.int .u64 t519) := (blk_cell BK525.out 0).trans rfl; have hcz78_1 : w77.cell? ⟨gb525, 1, none⟩ = some (.int .u64 t520) := (blk_cell BK525.out 1).trans rfl; have hcz78_2 : w77.cell? ⟨gb525, 2, none⟩ = some (.int .u64 t521) := (blk_cell BK525.out 2).trans rfl; have hcz78_3 : w77.cell? ⟨gb525, 3, none⟩ = some (.int .u64 t522) := (blk_cell BK525.out 3).trans rfl; have hcz78_4 : w77.cell? ⟨gb525, 4, none⟩ = some (.int .i64 t523) := (blk_cell BK525.out 4).trans rfl; have hfz78_0 := blk_frozen BK525.out 0; have hfz78_1 := blk_frozen BK525.out 1; have hfz78_2 := blk_frozen BK525.out 2; have hfz78_3 := blk_frozen BK525.out 3; have hfz78_4 := blk_frozen BK525.out 4))
      go_meet
      case rel => exact ⟨_, H', ⟨by first | omega | exact Nat.le_refl _⟩, ⟨u14_30⟩, ⟨u14_31⟩, ⟨u14_4⟩, ⟨u14_5⟩, ⟨u14_6⟩, ⟨u14_1⟩⟩
    rw [if_pos c30] at H
    have c30b0 : (t517 == 0) = true := beq_iff_eq.mpr c30
    have c30b1 : (t517 != 0) = false := bne_eq_false_iff_eq.mpr c30
    clear c30
    (first | rw [c30b0] | (simp only [i64_w, i32_w]; rw [c30b0]) | skip)
    replace H := Option.bind_eq_some_iff.mp H
    obtain ⟨⟨t526, t527, t528, t529, t530, t531⟩, A310, H⟩ := H
    (try dsimp only at H)
    have A31 := Aside0.mk A310
    clear A310
    replace H := Option.bind_eq_some_iff.mp H
    obtain ⟨⟨t533, t536⟩, A320, H⟩ := H
    (try dsimp only at H)
    have A32 := Aside0.mk A320
    clear A320
    by_cases c33 : t524 = true
    rotate_left
    · replace c33 := Bool.eq_false_iff.mpr c33
      subst c33
      rw [if_neg (show ¬ (false = true) by decide)] at H
      exact absurd ((Option.some.inj H).trans hr_.out) (by decide)
    subst c33
    rw [if_pos rfl] at H
    by_cases c34 : t527 < t520
    · rw [if_pos c34] at H
      have c34b0 : decide (t527 < t520) = true := decide_eq_true c34
      clear c34
      exact absurd ((Option.some.inj H).trans hr_.out) (by decide)
    rw [if_neg c34] at H
    have c34b0 : decide (t527 < t520) = false := decide_eq_false c34
    clear c34
    by_cases c35 : (IntKind.u64.wrap (t527 - t520)) = t508
    rotate_left
    · rw [if_neg c35] at H
      have c35b0 : ((IntKind.u64.wrap (t527 - t520)) == t508) = false := beq_eq_false_iff_ne.mpr c35
      have c35b1 : ((IntKind.u64.wrap (t527 - t520)) != t508) = true := bne_iff_ne.mpr c35
      exact absurd ((Option.some.inj H).trans hr_.out) (by decide)
    rw [if_pos c35] at H
    have c35b0 : ((IntKind.u64.wrap (t527 - t520)) == t508) = true := beq_iff_eq.mpr c35
    have c35b1 : ((IntKind.u64.wrap (t527 - t520)) != t508) = false := bne_eq_false_iff_eq.mpr c35
    clear c35
    by_cases c36 : t536 = 0
    rotate_left
    · rw [if_neg c36] at H
      have c36b0 : (t536 == 0) = false := beq_eq_false_iff_ne.mpr c36
      have c36b1 : (t536 != 0) = true := bne_iff_ne.mpr c36
      exact absurd ((Option.some.inj H).trans hr_.out) (by decide)
    rw [if_pos c36] at H
    have c36b0 : (t536 == 0) = true := beq_iff_eq.mpr c36
    have c36b1 : (t536 != 0) = false := bne_eq_false_iff_eq.mpr c36
    clear c36
    replace H := Option.bind_eq_some_iff.mp H
    obtain ⟨t538, A370, H⟩ := H
    have A37 := Aside0.mk A370
    clear A370
    by_cases c38 : t538 = true
    rotate_left
    · replace c38 := Bool.eq_false_iff.mpr c38
      subst c38
      rw [if_neg (show ¬ (false = true) by decide)] at H
      exact absurd ((Option.some.inj H).trans hr_.out) (by decide)
    subst c38
    rw [if_pos rfl] at H
    replace H := Option.bind_eq_some_iff.mp H
    obtain ⟨t539, A390, H⟩ := H
    replace H : (if t539 = true then (laws_FnBook.j0 k t506 t507 t508 t511 t512 t503) else (some false)) = some r := H
    have A39 := Aside0.mk A390
    clear A390
    by_cases c40 : t539 = true
    rotate_left
    · replace c40 := Bool.eq_false_iff.mpr c40
      subst c40
      rw [if_neg (show ¬ (false = true) by decide)] at H
      exact absurd ((Option.some.inj H).trans hr_.out) (by decide)
    subst c40
    rw [if_pos rfl] at H
    have H' := Aside0.mk H
    clear H
    have hnb41 := NB518_510.out
    have hnc41 := NB510_518.out
    have hnb42 := NB518_525.out
    have hnc42 := NB525_518.out
    have hcz43_0 : w26.cell? ⟨gb518, 0, none⟩ = some (.slice Ao21 t514.length co21) := (blk_cell BK518.out 0).trans rfl
    have hfz43_0 := blk_frozen BK518.out 0
    go_wp2_with (first | ((with_reducible refine gate_callee (f := 46) rfl ?_); refine goesL_ (some 62) rfl rfl Try.func46 (by kernel_rfl) rfl #[.agg #[.slice Ao21 t514.length co21], .int .u64 t506] rfl u14_10 ?_; (with_reducible refine (laws_find.calls k _ _ t514 t506 t526 t527 t528 t529 t530 t531 _ ?side1 ?side2 A31.out).mono ?_); (case side1 => exact u14_18); (case side2 => exact (Kd.R_reads' HO516.out).2.1); rintro e w44 ⟨rfl, hb⟩; refine ⟨_, rfl, ?_⟩; have n0_ := Aside0.mk (Kd.R_below u14_3 hb); have n1_ := Aside0.mk (Kd.R_below u14_0 hb); have n2_ := Aside0.mk (blk_below (g := gb510) (o := .cells #[.slice Ao13 t503.length co13] 29 (0, 0)) u14_7 hb); have n3_ := Aside0.mk (blk_below (g := gb518) (o := .cells #[.slice Ao21 t514.length co21] 29 (0, 0)) u14_8 hb); have n4_ := Aside0.mk (blk_below (g := gb525) (o := .cells #[.int .u64 t519, .int .u64 t520, .int .u64 t521, .int .u64 t522, .int .i64 t523] 53 (0, 0)) u14_2 hb); have n5_ := Aside0.mk (below_step u14_1 hb); clear HO505; clear HO516; clear BK510; clear BK518; clear BK525; clear HB; have HO505 := n0_; have HO516 := n1_; have BK510 := n2_; have BK518 := n3_; have BK525 := n4_; have HB := n5_; clear n0_ n1_ n2_ n3_ n4_ n5_; (try clear hb); (try clear hb2); (try clear hk); (try clear hi)) | ((with_reducible refine gate_dst (N := 14) rfl ?_); refine box_event ?hg (N := 14) ?hd (cs := #[.int .u64 0, .int .u64 0, .int .u64 0, .int .u64 0, .int .i64 0]) (t := 53) ?hr ?_; (case hd => rfl); (case hg => rfl); (case hr => first | (go_simp; done) | (go_simp; rfl)); intro gb532 hg w45 hbox hb; have n0_ := Aside0.mk (Kd.R_below (Kd.R_elderB u14_17 gb532 (Nat.le_of_eq hg.symm)) hb); have n1_ := Aside0.mk (Kd.R_below (Kd.R_elderB u14_32 gb532 (Nat.le_of_eq hg.symm)) hb); have n2_ := Aside0.mk (blk_below (g := gb510) (o := .cells #[.slice Ao13 t503.length co13] 29 (0, 0)) u14_4 hb); have n3_ := Aside0.mk (blk_below (g := gb518) (o := .cells #[.slice Ao21 t514.length co21] 29 (0, 0)) u14_5 hb); have n4_ := Aside0.mk (blk_below (g := gb525) (o := .cells #[.int .u64 t519, .int .u64 t520, .int .u64 t521, .int .u64 t522, .int .i64 t523] 53 (0, 0)) u14_6 hb); have n5_ := Aside0.mk (below_step u14_1 hb); have n6_ := Aside0.mk (hbox); have n7_ := Aside0.mk ((by rw [hg]; exact (below_size u14_1) : w.heap.size ≤ gb532)); have n8_ := Aside0.mk ((by rw [hg]; exact (below_size u14_1) : w.heap.size ≤ gb532)); have n9_ := Aside0.mk ((by rw [hg]; exact Nat.ne_of_lt (blk_lt (g := gb510) (o := .cells #[.slice Ao13 t503.length co13] 29 (0, 0)) u14_4) : gb510 ≠ gb532)); have n10_ := Aside0.mk ((by rw [hg]; exact Nat.ne_of_gt (blk_lt (g := gb510) (o := .cells #[.slice Ao13 t503.length co13] 29 (0, 0)) u14_4) : gb532 ≠ gb510)); have n11_ := Aside0.mk ((by rw [hg]; exact Nat.ne_of_lt (blk_lt (g := gb518) (o := .cells #[.slice Ao21 t514.length co21] 29 (0, 0)) u14_5) : gb518 ≠ gb532)); have n12_ := Aside0.mk ((by rw [hg]; exact Nat.ne_of_gt (blk_lt (g := gb518) (o := .cells #[.slice Ao21 t514.length co21] 29 (0, 0)) u14_5) : gb532 ≠ gb518)); have n13_ := Aside0.mk ((by rw [hg]; exact Nat.ne_of_lt (blk_lt (g := gb525) (o := .cells #[.int .u64 t519, .int .u64 t520, .int .u64 t521, .int .u64 t522, .int .i64 t523] 53 (0, 0)) u14_6) : gb525 ≠ gb532)); have n14_ := Aside0.mk ((by rw [hg]; exact Nat.ne_of_gt (blk_lt (g := gb525) (o := .cells #[.int .u64 t519, .int .u64 t520, .int .u64 t521, .int .u64 t522, .int .i64 t523] 53 (0, 0)) u14_6) : gb532 ≠ gb525)); clear HO505; clear HO516; clear BK510; clear BK518; clear BK525; clear HB; have HO505 := n0_; have HO516 := n1_; have BK510 := n2_; have BK518 := n3_; have BK525 := n4_; have HB := n5_; have BK532 := n6_; have GW532 := n7_; have GE532 := n8_; have NB510_532 := n9_; have NB532_510 := n10_; have NB518_532 := n11_; have NB532_518 := n12_; have NB525_532 := n13_; have NB532_525 := n14_; clear n0_ n1_ n2_ n3_ n4_ n5_ n6_ n7_ n8_ n9_ n10_ n11_ n12_ n13_ n14_; clear hb hbox hg; have hnb46 := NB532_510.out; have hnc46 := NB510_532.out; have hnb47 := NB532_518.out; have hnc47 := NB518_532.out; have hnb48 := NB532_525.out; have hnc48 := NB525_532.out; have hcz49_0 : w45.cell? ⟨gb532, 0, none⟩ = some (.int .u64 0) := (blk_cell BK532.out 0).trans rfl; have hcz49_1 : w45.cell? ⟨gb532, 1, none⟩ = some (.int .u64 0) := (blk_cell BK532.out 1).trans rfl; have hcz49_2 : w45.cell? ⟨gb532, 2, none⟩ = some (.int .u64 0) := (blk_cell BK532.out 2).trans rfl; have hcz49_3 : w45.cell? ⟨gb532, 3, none⟩ = some (.int .u64 0) := (blk_cell BK532.out 3).trans rfl; have hcz49_4 : w45.cell? ⟨gb532, 4, none⟩ = some (.int .i64 0) := (blk_cell BK532.out 4).trans rfl; have hfz49_0 := blk_frozen BK532.out 0; have hfz49_1 := blk_frozen BK532.out 1; have hfz49_2 := blk_frozen BK532.out 2; have hfz49_3 := blk_frozen BK532.out 3; have hfz49_4 := blk_frozen BK532.out 4; have hcz50_0 : w45.cell? ⟨gb518, 0, none⟩ = some (.slice Ao21 t514.length co21) := (blk_cell BK518.out 0).trans rfl; have hfz50_0 := blk_frozen BK518.out 0) | ((with_reducible refine gate_callee (f := 37) rfl ?_); refine goesL_ (some 69) rfl rfl Try.func37 (by kernel_rfl) rfl #[.agg #[.slice Ao21 t514.length co21], .int .u64 t506, .int .u64 t508] rfl u14_10 ?_; (with_reducible refine (impl_Withdraw.calls k _ _ t514 t506 t508 t533 t536 _ ?side1 ?side2 A32.out).mono ?_); (case side1 => exact (by refine (Kd.R_reads' (e := 53) (base := w.heap.size) (ok := fun k_ => (((True ∧ some k_ ≠ (.slice Ao13 t503.length co13 : Value).ownBlock) ∧ k_ ≠ gb525) ∧ k_ ≠ gb532)) (n := t514.length) (c := co21) ?_).2.2; exact u14_12)); (case side2 => exact (Kd.R_reads' HO516.out).2.1); rintro e w51 ⟨v534, rfl, ho0, hb⟩; refine ⟨_, rfl, ?_⟩; have n0_ := Aside0.mk (Kd.R_elder' u14_27 (Kd.R_base ho0) hb); have n1_ := Aside0.mk (Kd.R_elder' u14_12 (Kd.R_base ho0) hb); have n2_ := Aside0.mk (Kd.R_lower (Kd.R_newB (Kd.R_newB (Kd.R_new' (Kd.R_new' ho0 (Kd.R_lt u14_27)) (Kd.R_lt u14_12)) (g := gb525) (o := .cells #[.int .u64 t519, .int .u64 t520, .int .u64 t521, .int .u64 t522, .int .i64 t523] 53 (0, 0)) u14_19) (g := gb532) (o := .cells #[.int .u64 t526, .int .u64 t527, .int .u64 t528, .int .u64 t529, .int .i64 t530] 53 (0, 0)) u14_11) (below_size u14_15)); have n3_ := Aside0.mk (blk_below (g := gb510) (o := .cells #[.slice Ao13 t503.length co13] 29 (0, 0)) (by (with_reducible repeat (first | refine blk_drewN ?_ _ | refine blk_drew ?_ | refine blk_alloc ?_ _)); refine blk_far ?_ NB510_532.out _; (with_reducible repeat (first | refine blk_drewN ?_ _ | refine blk_drew ?_ | refine blk_alloc ?_ _)); refine blk_far ?_ NB510_532.out _; (with_reducible repeat (first | refine blk_drewN ?_ _ | refine blk_drew ?_ | refine blk_alloc ?_ _)); refine blk_far ?_ NB510_532.out _; (with_reducible repeat (first | refine blk_drewN ?_ _ | refine blk_drew ?_ | refine blk_alloc ?_ _)); refine blk_far ?_ NB510_532.out _; (with_reducible repeat (first | refine blk_drewN ?_ _ | refine blk_drew ?_ | refine blk_alloc ?_ _)); refine blk_far ?_ NB510_532.out _; (with_reducible repeat (first | refine blk_drewN ?_ _ | refine blk_drew ?_ | refine blk_alloc ?_ _)); exact BK510.out) hb); have n4_ := Aside0.mk (blk_below (g := gb518) (o := .cells #[.slice Ao21 t514.length co21] 29 (0, 0)) (by (with_reducible repeat (first | refine blk_drewN ?_ _ | refine blk_drew ?_ | refine blk_alloc ?_ _)); refine blk_far ?_ NB518_532.out _; (with_reducible repeat (first | refine blk_drewN ?_ _ | refine blk_drew ?_ | refine blk_alloc ?_ _)); refine blk_far ?_ NB518_532.out _; (with_reducible repeat (first | refine blk_drewN ?_ _ | refine blk_drew ?_ | refine blk_alloc ?_ _)); refine blk_far ?_ NB518_532.out _; (with_reducible repeat (first | refine blk_drewN ?_ _ | refine blk_drew ?_ | refine blk_alloc ?_ _)); refine blk_far ?_ NB518_532.out _; (with_reducible repeat (first | refine blk_drewN ?_ _ | refine blk_drew ?_ | refine blk_alloc ?_ _)); refine blk_far ?_ NB518_532.out _; (with_reducible repeat (first | refine blk_drewN ?_ _ | refine blk_drew ?_ | refine blk_alloc ?_ _)); exact BK518.out) hb); have n5_ := Aside0.mk (blk_below (g := gb525) (o := .cells #[.int .u64 t519, .int .u64 t520, .int .u64 t521, .int .u64 t522, .int .i64 t523] 53 (0, 0)) u14_19 hb); have n6_ := Aside0.mk (blk_below (g := gb532) (o := .cells #[.int .u64 t526, .int .u64 t527, .int .u64 t528, .int .u64 t529, .int .i64 t530] 53 (0, 0)) u14_11 hb); have n7_ := Aside0.mk (below_step u14_15 hb); clear HO505; clear HO516; clear BK510; clear BK518; clear BK525; clear BK532; clear HB; have HO505 := n0_; have HO516 := n1_; have HO535 := n2_; have BK510 := n3_; have BK518 := n4_; have BK525 := n5_; have BK532 := n6_; have HB := n7_; clear n0_ n1_ n2_ n3_ n4_ n5_ n6_ n7_; (try clear hb); (try clear hb2); (try clear hk); (try clear hi); (try clear ho0)) | ((with_reducible refine gate_dst (N := 16) rfl ?_); refine box_event ?hg (N := 16) ?hd (cs := #[.slice none 0 0]) (t := 29) ?hr ?_; (case hd => rfl); (case hg => rfl); (case hr => first | (go_simp; done) | (go_simp; rfl)); intro gb537 hg w52 hbox hb; have n0_ := Aside0.mk (Kd.R_below u14_17 hb); have n1_ := Aside0.mk (Kd.R_below u14_32 hb); have n2_ := Aside0.mk (Kd.R_below u14_52 hb); have n3_ := Aside0.mk (blk_below (g := gb510) (o := .cells #[.slice Ao13 t503.length co13] 29 (0, 0)) u14_4 hb); have n4_ := Aside0.mk (blk_below (g := gb518) (o := .cells #[.slice Ao21 t514.length co21] 29 (0, 0)) u14_5 hb); have n5_ := Aside0.mk (blk_below (g := gb525) (o := .cells #[.int .u64 t519, .int .u64 t520, .int .u64 t521, .int .u64 t522, .int .i64 t523] 53 (0, 0)) u14_6 hb); have n6_ := Aside0.mk (blk_below (g := gb532) (o := .cells #[.int .u64 t526, .int .u64 t527, .int .u64 t528, .int .u64 t529, .int .i64 t530] 53 (0, 0)) u14_33 hb); have n7_ := Aside0.mk (below_step u14_15 hb); have n8_ := Aside0.mk (hbox); have n9_ := Aside0.mk ((by rw [hg]; exact (below_size u14_15) : w.heap.size ≤ gb537)); have n10_ := Aside0.mk ((by rw [hg]; exact (below_size u14_15) : w.heap.size ≤ gb537)); have n11_ := Aside0.mk ((by rw [hg]; exact Nat.ne_of_lt (blk_lt (g := gb510) (o := .cells #[.slice Ao13 t503.length co13] 29 (0, 0)) u14_4) : gb510 ≠ gb537)); have n12_ := Aside0.mk ((by rw [hg]; exact Nat.ne_of_gt (blk_lt (g := gb510) (o := .cells #[.slice Ao13 t503.length co13] 29 (0, 0)) u14_4) : gb537 ≠ gb510)); have n13_ := Aside0.mk ((by rw [hg]; exact Nat.ne_of_lt (blk_lt (g := gb518) (o := .cells #[.slice Ao21 t514.length co21] 29 (0, 0)) u14_5) : gb518 ≠ gb537)); have n14_ := Aside0.mk ((by rw [hg]; exact Nat.ne_of_gt (blk_lt (g := gb518) (o := .cells #[.slice Ao21 t514.length co21] 29 (0, 0)) u14_5) : gb537 ≠ gb518)); have n15_ := Aside0.mk ((by rw [hg]; exact Nat.ne_of_lt (blk_lt (g := gb525) (o := .cells #[.int .u64 t519, .int .u64 t520, .int .u64 t521, .int .u64 t522, .int .i64 t523] 53 (0, 0)) u14_6) : gb525 ≠ gb537)); have n16_ := Aside0.mk ((by rw [hg]; exact Nat.ne_of_gt (blk_lt (g := gb525) (o := .cells #[.int .u64 t519, .int .u64 t520, .int .u64 t521, .int .u64 t522, .int .i64 t523] 53 (0, 0)) u14_6) : gb537 ≠ gb525)); have n17_ := Aside0.mk ((by rw [hg]; exact Nat.ne_of_lt (blk_lt (g := gb532) (o := .cells #[.int .u64 t526, .int .u64 t527, .int .u64 t528, .int .u64 t529, .int .i64 t530] 53 (0, 0)) u14_33) : gb532 ≠ gb537)); have n18_ := Aside0.mk ((by rw [hg]; exact Nat.ne_of_gt (blk_lt (g := gb532) (o := .cells #[.int .u64 t526, .int .u64 t527, .int .u64 t528, .int .u64 t529, .int .i64 t530] 53 (0, 0)) u14_33) : gb537 ≠ gb532)); clear HO505; clear HO516; clear HO535; clear BK510; clear BK518; clear BK525; clear BK532; clear HB; have HO505 := n0_; have HO516 := n1_; have HO535 := n2_; have BK510 := n3_; have BK518 := n4_; have BK525 := n5_; have BK532 := n6_; have HB := n7_; have BK537 := n8_; have GW537 := n9_; have GE537 := n10_; have NB510_537 := n11_; have NB537_510 := n12_; have NB518_537 := n13_; have NB537_518 := n14_; have NB525_537 := n15_; have NB537_525 := n16_; have NB532_537 := n17_; have NB537_532 := n18_; clear n0_ n1_ n2_ n3_ n4_ n5_ n6_ n7_ n8_ n9_ n10_ n11_ n12_ n13_ n14_ n15_ n16_ n17_ n18_; clear hb hbox hg; obtain ⟨Ao53, co53, eo53⟩ := Kd.R_slice HO535.out; subst eo53; have hnb54 := NB537_510.out; have hnc54 := NB510_537.out; have hnb55 := NB537_518.out; have hnc55 := NB518_537.out; have hnb56 := NB537_525.out; have hnc56 := NB525_537.out; have hnb57 := NB537_532.out; have hnc57 := NB532_537.out; have hcz58_0 : w52.cell? ⟨gb537, 0, none⟩ = some (.slice none 0 0) := (blk_cell BK537.out 0).trans rfl; have hfz58_0 := blk_frozen BK537.out 0; have hcz59_0 : w52.cell? ⟨gb532, 0, none⟩ = some (.int .u64 t526) := (blk_cell BK532.out 0).trans rfl; have hcz59_1 : w52.cell? ⟨gb532, 1, none⟩ = some (.int .u64 t527) := (blk_cell BK532.out 1).trans rfl; have hcz59_2 : w52.cell? ⟨gb532, 2, none⟩ = some (.int .u64 t528) := (blk_cell BK532.out 2).trans rfl; have hcz59_3 : w52.cell? ⟨gb532, 3, none⟩ = some (.int .u64 t529) := (blk_cell BK532.out 3).trans rfl; have hcz59_4 : w52.cell? ⟨gb532, 4, none⟩ = some (.int .i64 t530) := (blk_cell BK532.out 4).trans rfl; have hfz59_0 := blk_frozen BK532.out 0; have hfz59_1 := blk_frozen BK532.out 1; have hfz59_2 := blk_frozen BK532.out 2; have hfz59_3 := blk_frozen BK532.out 3; have hfz59_4 := blk_frozen BK532.out 4; have hnb60 := NB525_510.out; have hnc60 := NB510_525.out; have hcz61_0 : w52.cell? ⟨gb525, 0, none⟩ = some (.int .u64 t519) := (blk_cell BK525.out 0).trans rfl; have hcz61_1 : w52.cell? ⟨gb525, 1, none⟩ = some (.int .u64 t520) := (blk_cell BK525.out 1).trans rfl; have hcz61_2 : w52.cell? ⟨gb525, 2, none⟩ = some (.int .u64 t521) := (blk_cell BK525.out 2).trans rfl; have hcz61_3 : w52.cell? ⟨gb525, 3, none⟩ = some (.int .u64 t522) := (blk_cell BK525.out 3).trans rfl; have hcz61_4 : w52.cell? ⟨gb525, 4, none⟩ = some (.int .i64 t523) := (blk_cell BK525.out 4).trans rfl; have hfz61_0 := blk_frozen BK525.out 0; have hfz61_1 := blk_frozen BK525.out 1; have hfz61_2 := blk_frozen BK525.out 2; have hfz61_3 := blk_frozen BK525.out 3; have hfz61_4 := blk_frozen BK525.out 4; have hcz62_0 : w52.cell? ⟨gb510, 0, none⟩ = some (.slice Ao13 t503.length co13) := (blk_cell BK510.out 0).trans rfl; have hfz62_0 := blk_frozen BK510.out 0) | (go_at_call 47; (with_reducible refine (laws_sameBook.calls k _ _ t533 _ _ t503 true _ ?side1 ?side2 ?side3 ?side4 A37.out).mono ?_); (case side1 => exact (by refine (Kd.R_reads' (e := 53) (base := w.heap.size) (ok := fun k_ => ((((True ∧ some k_ ≠ (.slice Ao13 t503.length co13 : Value).ownBlock) ∧ some k_ ≠ (.slice Ao21 t514.length co21 : Value).ownBlock) ∧ k_ ≠ gb525) ∧ k_ ≠ gb532)) (n := t533.length) (c := co53) ?_).2.2; exact u14_45)); (case side2 => exact (Kd.R_reads' HO535.out).2.1); (case side3 => exact (by refine (Kd.R_reads' (e := 53) (base := w.heap.size) (ok := fun k_ => ((((True ∧ some k_ ≠ (.slice Ao21 t514.length co21 : Value).ownBlock) ∧ k_ ≠ gb525) ∧ k_ ≠ gb532) ∧ some k_ ≠ (.slice Ao53 t533.length co53 : Value).ownBlock)) (n := t503.length) (c := co13) ?_).2.2; exact u14_46)); (case side4 => exact (Kd.R_reads' HO505.out).2.1); rintro e w63 ⟨rfl, hb⟩; have n0_ := Aside0.mk (Kd.R_below u14_46 hb); have n1_ := Aside0.mk (Kd.R_below (by (with_reducible repeat (first | apply Kd.R_alloc | apply Kd.R_drewN | apply Kd.R_drew)); exact (Kd.R_mono (Kd.R_far (p := ⟨gb537, 0, none⟩) (Kd.R_types HO516.out BK537.out (by decide)) (fun _ hk => hk.2) (.slice Ao53 t533.length co53)) (fun _ h_ => h_.1))) hb); have n2_ := Aside0.mk (Kd.R_below u14_45 hb); have n3_ := Aside0.mk (blk_below (g := gb510) (o := .cells #[.slice Ao13 t503.length co13] 29 (0, 0)) (by (with_reducible repeat (first | refine blk_drewN ?_ _ | refine blk_drew ?_ | refine blk_alloc ?_ _)); refine blk_far ?_ NB510_537.out _; (with_reducible repeat (first | refine blk_drewN ?_ _ | refine blk_drew ?_ | refine blk_alloc ?_ _)); exact BK510.out) hb); have n4_ := Aside0.mk (blk_below (g := gb518) (o := .cells #[.slice Ao21 t514.length co21] 29 (0, 0)) (by (with_reducible repeat (first | refine blk_drewN ?_ _ | refine blk_drew ?_ | refine blk_alloc ?_ _)); refine blk_far ?_ NB518_537.out _; (with_reducible repeat (first | refine blk_drewN ?_ _ | refine blk_drew ?_ | refine blk_alloc ?_ _)); exact BK518.out) hb); have n5_ := Aside0.mk (blk_below (g := gb525) (o := .cells #[.int .u64 t519, .int .u64 t520, .int .u64 t521, .int .u64 t522, .int .i64 t523] 53 (0, 0)) (by (with_reducible repeat (first | refine blk_drewN ?_ _ | refine blk_drew ?_ | refine blk_alloc ?_ _)); refine blk_far ?_ NB525_537.out _; (with_reducible repeat (first | refine blk_drewN ?_ _ | refine blk_drew ?_ | refine blk_alloc ?_ _)); exact BK525.out) hb); have n6_ := Aside0.mk (blk_below (g := gb532) (o := .cells #[.int .u64 t526, .int .u64 t527, .int .u64 t528, .int .u64 t529, .int .i64 t530] 53 (0, 0)) (by (with_reducible repeat (first | refine blk_drewN ?_ _ | refine blk_drew ?_ | refine blk_alloc ?_ _)); refine blk_far ?_ NB532_537.out _; (with_reducible repeat (first | refine blk_drewN ?_ _ | refine blk_drew ?_ | refine blk_alloc ?_ _)); exact BK532.out) hb); have n7_ := Aside0.mk (blk_below (g := gb537) (o := .cells #[.slice Ao53 t533.length co53] 29 (0, 0)) (by (with_reducible repeat (first | refine blk_drewN ?_ _ | refine blk_drew ?_ | refine blk_alloc ?_ _)); refine blk_put (cs := #[.slice none 0 0]) ?_ 0 _ rfl; (with_reducible repeat (first | refine blk_drewN ?_ _ | refine blk_drew ?_ | refine blk_alloc ?_ _)); exact BK537.out) hb); have n8_ := Aside0.mk (below_step u14_25 hb); clear HO505; clear HO516; clear HO535; clear BK510; clear BK518; clear BK525; clear BK532; clear BK537; clear HB; have HO505 := n0_; have HO516 := n1_; have HO535 := n2_; have BK510 := n3_; have BK518 := n4_; have BK525 := n5_; have BK532 := n6_; have BK537 := n7_; have HB := n8_; clear n0_ n1_ n2_ n3_ n4_ n5_ n6_ n7_ n8_; (try clear hb); (try clear hb2); (try clear hk); (try clear hi); have hcz64_0 : w63.cell? ⟨gb518, 0, none⟩ = some (.slice Ao21 t514.length co21) := (blk_cell BK518.out 0).trans rfl; have hfz64_0 := blk_frozen BK518.out 0) | (go_at_call 20; (with_reducible refine (impl_BookOk.calls k _ _ t514 true _ ?side1 ?side2 A39.out).mono ?_); (case side1 => exact (by repeat (first | exact (Kd.R_reads' HO516.out).2.2 | (with_reducible refine Kd.C_alloc ?_ _) | (with_reducible refine Kd.C_drewN ?_ _) | (with_reducible refine Kd.C_drew ?_)))); (case side2 => exact (Kd.R_reads' HO516.out).2.1); rintro e w65 ⟨rfl, hb⟩; have n0_ := Aside0.mk (Kd.R_below u14_17 hb); have n1_ := Aside0.mk (Kd.R_below u14_32 hb); have n2_ := Aside0.mk (Kd.R_below u14_52 hb); have n3_ := Aside0.mk (blk_below (g := gb510) (o := .cells #[.slice Ao13 t503.length co13] 29 (0, 0)) u14_4 hb); have n4_ := Aside0.mk (blk_below (g := gb518) (o := .cells #[.slice Ao21 t514.length co21] 29 (0, 0)) u14_5 hb); have n5_ := Aside0.mk (blk_below (g := gb525) (o := .cells #[.int .u64 t519, .int .u64 t520, .int .u64 t521, .int .u64 t522, .int .i64 t523] 53 (0, 0)) u14_6 hb); have n6_ := Aside0.mk (blk_below (g := gb532) (o := .cells #[.int .u64 t526, .int .u64 t527, .int .u64 t528, .int .u64 t529, .int .i64 t530] 53 (0, 0)) u14_33 hb); have n7_ := Aside0.mk (blk_below (g := gb537) (o := .cells #[.slice Ao53 t533.length co53] 29 (0, 0)) (by (with_reducible repeat (first | refine blk_drewN ?_ _ | refine blk_drew ?_ | refine blk_alloc ?_ _)); exact BK537.out) hb); have n8_ := Aside0.mk (below_step u14_25 hb); clear HO505; clear HO516; clear HO535; clear BK510; clear BK518; clear BK525; clear BK532; clear BK537; clear HB; have HO505 := n0_; have HO516 := n1_; have HO535 := n2_; have BK510 := n3_; have BK518 := n4_; have BK525 := n5_; have BK532 := n6_; have BK537 := n7_; have HB := n8_; clear n0_ n1_ n2_ n3_ n4_ n5_ n6_ n7_ n8_; (try clear hb); (try clear hb2); (try clear hk); (try clear hi)))
    go_meet
    case rel => exact ⟨_, H', ⟨by first | omega | exact Nat.le_refl _⟩, ⟨(by (with_reducible repeat (first | apply Kd.R_alloc | apply Kd.R_drewN | apply Kd.R_drew)); exact Kd.R_mono HO505.out (fun _ hk => ⟨hk.1.1.1.2, hk.1.1.2⟩))⟩, ⟨(by (with_reducible repeat (first | apply Kd.R_alloc | apply Kd.R_drewN | apply Kd.R_drew)); exact Kd.R_mono HO516.out (fun _ hk => ⟨hk.1.1.1.2, hk.1.1.2⟩))⟩, ⟨u14_4⟩, ⟨u14_5⟩, ⟨u14_6⟩, ⟨u14_25⟩⟩
  clear HC10
  try clear c1
  try clear c2
  try clear p2
  try clear c3
  try clear c4
  try clear c5
  try clear c6
  try clear c7
  try clear c8
  try clear c9
  try clear c14
  try clear c20
  try clear c22
  try clear c23
  try clear c27
  try clear c28
  try clear c30
  try clear c30b0
  try clear c30b1
  try clear c33
  try clear c34
  try clear c34b0
  try clear c35
  try clear c35b0
  try clear c35b1
  try clear c36
  try clear c36b0
  try clear c36b1
  try clear c37
  try clear c38
  try clear c40
  try clear c41
  try clear c42
  try clear c44
  try clear c45
  try clear c46
  try clear c47
  try clear c48
  try clear c54
  try clear c55
  try clear c56
  try clear c57
  try clear c60
  try clear c67
  try clear c68
  try clear c68b0
  try clear c68b1
  try clear c69
  try clear c70
  try clear c70b0
  try clear c70b1
  try clear c71
  try clear c71b0
  try clear c72
  try clear c73
  try clear c75
  try clear c79
  try clear c80
  try clear c82
  try clear c85
  try clear c85b0
  try clear c85b1
  try clear c86
  try clear c86b0
  try clear c87
  try clear c88
  try clear c90
  try clear c94
  try clear c95
  try clear c97
  try clear hcz14_0
  try clear hcz16_0
  try clear hcz18_0
  try clear hcz23_0
  try clear hcz24_0
  try clear hcz29_0
  try clear hcz29_1
  try clear hcz29_2
  try clear hcz29_3
  try clear hcz29_4
  try clear hcz43_0
  try clear hcz49_0
  try clear hcz49_1
  try clear hcz49_2
  try clear hcz49_3
  try clear hcz49_4
  try clear hcz50_0
  try clear hcz58_0
  try clear hcz59_0
  try clear hcz59_1
  try clear hcz59_2
  try clear hcz59_3
  try clear hcz59_4
  try clear hcz61_0
  try clear hcz61_1
  try clear hcz61_2
  try clear hcz61_3
  try clear hcz61_4
  try clear hcz62_0
  try clear hcz64_0
  try clear hcz74_0
  try clear hcz76_0
  try clear hcz78_0
  try clear hcz78_1
  try clear hcz78_2
  try clear hcz78_3
  try clear hcz78_4
  try clear hcz81_0
  try clear hcz83_0
  try clear hcz89_0
  try clear hcz91_0
  try clear hcz93_0
  try clear hcz93_1
  try clear hcz93_2
  try clear hcz93_3
  try clear hcz93_4
  try clear hcz96_0
  try clear hcz98_0
  try clear hfz14_0
  try clear hfz16_0
  try clear hfz18_0
  try clear hfz23_0
  try clear hfz24_0
  try clear hfz29_0
  try clear hfz29_1
  try clear hfz29_2
  try clear hfz29_3
  try clear hfz29_4
  try clear hfz43_0
  try clear hfz49_0
  try clear hfz49_1
  try clear hfz49_2
  try clear hfz49_3
  try clear hfz49_4
  try clear hfz50_0
  try clear hfz58_0
  try clear hfz59_0
  try clear hfz59_1
  try clear hfz59_2
  try clear hfz59_3
  try clear hfz59_4
  try clear hfz61_0
  try clear hfz61_1
  try clear hfz61_2
  try clear hfz61_3
  try clear hfz61_4
  try clear hfz62_0
  try clear hfz64_0
  try clear hfz74_0
  try clear hfz76_0
  try clear hfz78_0
  try clear hfz78_1
  try clear hfz78_2
  try clear hfz78_3
  try clear hfz78_4
  try clear hfz81_0
  try clear hfz83_0
  try clear hfz89_0
  try clear hfz91_0
  try clear hfz93_0
  try clear hfz93_1
  try clear hfz93_2
  try clear hfz93_3
  try clear hfz93_4
  try clear hfz96_0
  try clear hfz98_0
  obtain ⟨kq, HA, HJ9, HO_511000, HO_519000, BK510, BK518, BK525, HB⟩ := hcut
  cases kq with
  | zero => exact absurd HA.out (by simp [laws_FnBook.j0])
  | succ kj9 =>
    have H := HA.out
    clear HA
    simp only [laws_FnBook.j0] at H
    replace H := Option.bind_eq_some_iff.mp H
    obtain ⟨⟨t541, t544⟩, A1000, H⟩ := H
    (try dsimp only at H)
    have A100 := Aside0.mk A1000
    clear A1000
    by_cases c101 : t544 = 0
    rotate_left
    · rw [if_neg c101] at H
      have c101b0 : (t544 == 0) = false := beq_eq_false_iff_ne.mpr c101
      have c101b1 : (t544 != 0) = true := bne_iff_ne.mpr c101
      replace H := Option.bind_eq_some_iff.mp H
      obtain ⟨⟨t546, t549⟩, A1340, H⟩ := H
      (try dsimp only at H)
      have A134 := Aside0.mk A1340
      clear A1340
      replace H := Option.bind_eq_some_iff.mp H
      obtain ⟨t551, A1350, H⟩ := H
      replace H : (if t551 = true then (some (t544 == t549)) else (some false)) = some r := H
      have A135 := Aside0.mk A1350
      clear A1350
      by_cases c136 : t551 = true
      rotate_left
      · replace c136 := Bool.eq_false_iff.mpr c136
        subst c136
        rw [if_neg (show ¬ (false = true) by decide)] at H
        exact absurd ((Option.some.inj H).trans hr_.out) (by decide)
      subst c136
      rw [if_pos rfl] at H
      obtain rfl := Option.some.inj H
      have hnb137 := NB510_518.out
      have hnc137 := NB518_510.out
      have hnb138 := NB510_525.out
      have hnc138 := NB525_510.out
      have hcz139_0 : wc.cell? ⟨gb510, 0, none⟩ = some (.slice Ao13 t503.length co13) := (blk_cell BK510.out 0).trans rfl
      have hfz139_0 := blk_frozen BK510.out 0
      go_wp2_with (first | ((with_reducible refine gate_callee (f := 25) rfl ?_); refine goesL_ (some 132) rfl rfl Try.func25 (by kernel_rfl) rfl #[.agg #[.slice Ao13 t503.length co13], .int .u64 t506, .int .u64 t507, .int .u64 t508] rfl u14_10 ?_; (with_reducible refine (impl_MoveMoney.calls kj9 _ _ t503 t506 t507 t508 t541 t544 _ ?side1 ?side2 A100.out).mono ?_); (case side1 => exact u14_49); (case side2 => exact (Kd.R_reads' HO_511000.out).2.1); rintro e w140 ⟨v542, rfl, ho0, hb⟩; refine ⟨_, rfl, ?_⟩; have n0_ := Aside0.mk (Kd.R_elder' u14_13 (Kd.R_base ho0) hb); have n1_ := Aside0.mk (Kd.R_elder' u14_14 (Kd.R_base ho0) hb); have n2_ := Aside0.mk (Kd.R_lower (Kd.R_newB (Kd.R_new' (Kd.R_new' ho0 (Kd.R_lt u14_13)) (Kd.R_lt u14_14)) (g := gb525) (o := .cells #[.int .u64 t519, .int .u64 t520, .int .u64 t521, .int .u64 t522, .int .i64 t523] 53 (0, 0)) u14_6) (below_size u14_1)); have n3_ := Aside0.mk (blk_below (g := gb510) (o := .cells #[.slice Ao13 t503.length co13] 29 (0, 0)) u14_4 hb); have n4_ := Aside0.mk (blk_below (g := gb518) (o := .cells #[.slice Ao21 t514.length co21] 29 (0, 0)) u14_5 hb); have n5_ := Aside0.mk (blk_below (g := gb525) (o := .cells #[.int .u64 t519, .int .u64 t520, .int .u64 t521, .int .u64 t522, .int .i64 t523] 53 (0, 0)) u14_6 hb); have n6_ := Aside0.mk (below_step u14_1 hb); clear HO_511000; clear HO_519000; clear BK510; clear BK518; clear BK525; clear HB; have HO_511000 := n0_; have HO_519000 := n1_; have HO543 := n2_; have BK510 := n3_; have BK518 := n4_; have BK525 := n5_; have HB := n6_; clear n0_ n1_ n2_ n3_ n4_ n5_ n6_; (try clear hb); (try clear hb2); (try clear hk); (try clear hi); (try clear ho0)) | ((with_reducible refine gate_dst (N := 18) rfl ?_); refine box_event ?hg (N := 18) ?hd (cs := #[.slice none 0 0]) (t := 29) ?hr ?_; (case hd => rfl); (case hg => rfl); (case hr => first | (go_simp; done) | (go_simp; rfl)); intro gb545 hg w141 hbox hb; have n0_ := Aside0.mk (Kd.R_below u14_13 hb); have n1_ := Aside0.mk (Kd.R_below u14_14 hb); have n2_ := Aside0.mk (Kd.R_below u14_22 hb); have n3_ := Aside0.mk (blk_below (g := gb510) (o := .cells #[.slice Ao13 t503.length co13] 29 (0, 0)) u14_4 hb); have n4_ := Aside0.mk (blk_below (g := gb518) (o := .cells #[.slice Ao21 t514.length co21] 29 (0, 0)) u14_5 hb); have n5_ := Aside0.mk (blk_below (g := gb525) (o := .cells #[.int .u64 t519, .int .u64 t520, .int .u64 t521, .int .u64 t522, .int .i64 t523] 53 (0, 0)) u14_6 hb); have n6_ := Aside0.mk (below_step u14_1 hb); have n7_ := Aside0.mk (hbox); have n8_ := Aside0.mk ((by rw [hg]; exact (below_size u14_1) : w.heap.size ≤ gb545)); have n9_ := Aside0.mk ((by rw [hg]; exact (below_size u14_1) : w.heap.size ≤ gb545)); have n10_ := Aside0.mk ((by rw [hg]; exact Nat.ne_of_lt (blk_lt (g := gb510) (o := .cells #[.slice Ao13 t503.length co13] 29 (0, 0)) u14_4) : gb510 ≠ gb545)); have n11_ := Aside0.mk ((by rw [hg]; exact Nat.ne_of_gt (blk_lt (g := gb510) (o := .cells #[.slice Ao13 t503.length co13] 29 (0, 0)) u14_4) : gb545 ≠ gb510)); have n12_ := Aside0.mk ((by rw [hg]; exact Nat.ne_of_lt (blk_lt (g := gb518) (o := .cells #[.slice Ao21 t514.length co21] 29 (0, 0)) u14_5) : gb518 ≠ gb545)); have n13_ := Aside0.mk ((by rw [hg]; exact Nat.ne_of_gt (blk_lt (g := gb518) (o := .cells #[.slice Ao21 t514.length co21] 29 (0, 0)) u14_5) : gb545 ≠ gb518)); have n14_ := Aside0.mk ((by rw [hg]; exact Nat.ne_of_lt (blk_lt (g := gb525) (o := .cells #[.int .u64 t519, .int .u64 t520, .int .u64 t521, .int .u64 t522, .int .i64 t523] 53 (0, 0)) u14_6) : gb525 ≠ gb545)); have n15_ := Aside0.mk ((by rw [hg]; exact Nat.ne_of_gt (blk_lt (g := gb525) (o := .cells #[.int .u64 t519, .int .u64 t520, .int .u64 t521, .int .u64 t522, .int .i64 t523] 53 (0, 0)) u14_6) : gb545 ≠ gb525)); clear HO_511000; clear HO_519000; clear HO543; clear BK510; clear BK518; clear BK525; clear HB; have HO_511000 := n0_; have HO_519000 := n1_; have HO543 := n2_; have BK510 := n3_; have BK518 := n4_; have BK525 := n5_; have HB := n6_; have BK545 := n7_; have GW545 := n8_; have GE545 := n9_; have NB510_545 := n10_; have NB545_510 := n11_; have NB518_545 := n12_; have NB545_518 := n13_; have NB525_545 := n14_; have NB545_525 := n15_; clear n0_ n1_ n2_ n3_ n4_ n5_ n6_ n7_ n8_ n9_ n10_ n11_ n12_ n13_ n14_ n15_; clear hb hbox hg; obtain ⟨Ao142, co142, eo142⟩ := Kd.R_slice HO543.out; subst eo142; have hnb143 := NB545_510.out; have hnc143 := NB510_545.out; have hnb144 := NB545_518.out; have hnc144 := NB518_545.out; have hnb145 := NB545_525.out; have hnc145 := NB525_545.out; have hcz146_0 : w141.cell? ⟨gb545, 0, none⟩ = some (.slice none 0 0) := (blk_cell BK545.out 0).trans rfl; have hfz146_0 := blk_frozen BK545.out 0; have hcz147_0 : w141.cell? ⟨gb510, 0, none⟩ = some (.slice Ao13 t503.length co13) := (blk_cell BK510.out 0).trans rfl; have hfz147_0 := blk_frozen BK510.out 0) | ((with_reducible refine gate_callee (f := 24) rfl ?_); refine goesL_ (some 142) rfl rfl Try.func24 (by kernel_rfl) rfl #[.agg #[.slice Ao13 t503.length co13], .int .u64 t506, .int .u64 t507, .int .u64 t508] rfl u14_10 ?_; (with_reducible refine (spec_MoveMoney.calls kj9 _ _ t503 t506 t507 t508 t546 t549 _ ?side1 ?side2 A134.out).mono ?_); (case side1 => exact (by refine (Kd.R_reads' (e := 53) (base := w.heap.size) (ok := fun k_ => ((some k_ ≠ (.slice Ao21 t514.length co21 : Value).ownBlock ∧ k_ ≠ gb525) ∧ some k_ ≠ (.slice Ao142 t541.length co142 : Value).ownBlock)) (n := t503.length) (c := co13) ?_).2.2; exact u14_28)); (case side2 => exact (Kd.R_reads' HO_511000.out).2.1); rintro e w148 ⟨v547, rfl, ho0, hb⟩; refine ⟨_, rfl, ?_⟩; have n0_ := Aside0.mk (Kd.R_elder' u14_28 (Kd.R_base ho0) hb); have n1_ := Aside0.mk (Kd.R_elder' u14_36 (Kd.R_base ho0) hb); have n2_ := Aside0.mk (Kd.R_elder' u14_39 (Kd.R_base ho0) hb); have n3_ := Aside0.mk (Kd.R_lower (Kd.R_newB (Kd.R_new' (Kd.R_new' (Kd.R_new' ho0 (Kd.R_lt u14_28)) (Kd.R_lt u14_36)) (Kd.R_lt u14_39)) (g := gb525) (o := .cells #[.int .u64 t519, .int .u64 t520, .int .u64 t521, .int .u64 t522, .int .i64 t523] 53 (0, 0)) u14_29) (below_size u14_9)); have n4_ := Aside0.mk (blk_below (g := gb510) (o := .cells #[.slice Ao13 t503.length co13] 29 (0, 0)) u14_47 hb); have n5_ := Aside0.mk (blk_below (g := gb518) (o := .cells #[.slice Ao21 t514.length co21] 29 (0, 0)) u14_48 hb); have n6_ := Aside0.mk (blk_below (g := gb525) (o := .cells #[.int .u64 t519, .int .u64 t520, .int .u64 t521, .int .u64 t522, .int .i64 t523] 53 (0, 0)) u14_29 hb); have n7_ := Aside0.mk (blk_below (g := gb545) (o := .cells #[.slice Ao142 t541.length co142] 29 (0, 0)) u14_35 hb); have n8_ := Aside0.mk (below_step u14_9 hb); clear HO_511000; clear HO_519000; clear HO543; clear BK510; clear BK518; clear BK525; clear BK545; clear HB; have HO_511000 := n0_; have HO_519000 := n1_; have HO543 := n2_; have HO548 := n3_; have BK510 := n4_; have BK518 := n5_; have BK525 := n6_; have BK545 := n7_; have HB := n8_; clear n0_ n1_ n2_ n3_ n4_ n5_ n6_ n7_ n8_; (try clear hb); (try clear hb2); (try clear hk); (try clear hi); (try clear ho0)) | ((with_reducible refine gate_dst (N := 20) rfl ?_); refine box_event ?hg (N := 20) ?hd (cs := #[.slice none 0 0]) (t := 29) ?hr ?_; (case hd => rfl); (case hg => rfl); (case hr => first | (go_simp; done) | (go_simp; rfl)); intro gb550 hg w149 hbox hb; have n0_ := Aside0.mk (Kd.R_below u14_13 hb); have n1_ := Aside0.mk (Kd.R_below u14_14 hb); have n2_ := Aside0.mk (Kd.R_below u14_22 hb); have n3_ := Aside0.mk (Kd.R_below (by (with_reducible repeat (first | apply Kd.R_alloc | apply Kd.R_drewN | apply Kd.R_drew)); exact HO548.out) hb); have n4_ := Aside0.mk (blk_below (g := gb510) (o := .cells #[.slice Ao13 t503.length co13] 29 (0, 0)) u14_4 hb); have n5_ := Aside0.mk (blk_below (g := gb518) (o := .cells #[.slice Ao21 t514.length co21] 29 (0, 0)) u14_5 hb); have n6_ := Aside0.mk (blk_below (g := gb525) (o := .cells #[.int .u64 t519, .int .u64 t520, .int .u64 t521, .int .u64 t522, .int .i64 t523] 53 (0, 0)) u14_6 hb); have n7_ := Aside0.mk (blk_below (g := gb545) (o := .cells #[.slice Ao142 t541.length co142] 29 (0, 0)) u14_20 hb); have n8_ := Aside0.mk (below_step u14_9 hb); have n9_ := Aside0.mk (hbox); have n10_ := Aside0.mk ((by rw [hg]; exact (below_size u14_9) : w.heap.size ≤ gb550)); have n11_ := Aside0.mk ((by rw [hg]; exact (below_size u14_9) : w.heap.size ≤ gb550)); have n12_ := Aside0.mk ((by rw [hg]; exact Nat.ne_of_lt (blk_lt (g := gb510) (o := .cells #[.slice Ao13 t503.length co13] 29 (0, 0)) u14_4) : gb510 ≠ gb550)); have n13_ := Aside0.mk ((by rw [hg]; exact Nat.ne_of_gt (blk_lt (g := gb510) (o := .cells #[.slice Ao13 t503.length co13] 29 (0, 0)) u14_4) : gb550 ≠ gb510)); have n14_ := Aside0.mk ((by rw [hg]; exact Nat.ne_of_lt (blk_lt (g := gb518) (o := .cells #[.slice Ao21 t514.length co21] 29 (0, 0)) u14_5) : gb518 ≠ gb550)); have n15_ := Aside0.mk ((by rw [hg]; exact Nat.ne_of_gt (blk_lt (g := gb518) (o := .cells #[.slice Ao21 t514.length co21] 29 (0, 0)) u14_5) : gb550 ≠ gb518)); have n16_ := Aside0.mk ((by rw [hg]; exact Nat.ne_of_lt (blk_lt (g := gb525) (o := .cells #[.int .u64 t519, .int .u64 t520, .int .u64 t521, .int .u64 t522, .int .i64 t523] 53 (0, 0)) u14_6) : gb525 ≠ gb550)); have n17_ := Aside0.mk ((by rw [hg]; exact Nat.ne_of_gt (blk_lt (g := gb525) (o := .cells #[.int .u64 t519, .int .u64 t520, .int .u64 t521, .int .u64 t522, .int .i64 t523] 53 (0, 0)) u14_6) : gb550 ≠ gb525)); have n18_ := Aside0.mk ((by rw [hg]; exact Nat.ne_of_lt (blk_lt (g := gb545) (o := .cells #[.slice Ao142 t541.length co142] 29 (0, 0)) u14_20) : gb545 ≠ gb550)); have n19_ := Aside0.mk ((by rw [hg]; exact Nat.ne_of_gt (blk_lt (g := gb545) (o := .cells #[.slice Ao142 t541.length co142] 29 (0, 0)) u14_20) : gb550 ≠ gb545)); clear HO_511000; clear HO_519000; clear HO543; clear HO548; clear BK510; clear BK518; clear BK525; clear BK545; clear HB; have HO_511000 := n0_; have HO_519000 := n1_; have HO543 := n2_; have HO548 := n3_; have BK510 := n4_; have BK518 := n5_; have BK525 := n6_; have BK545 := n7_; have HB := n8_; have BK550 := n9_; have GW550 := n10_; have GE550 := n11_; have NB510_550 := n12_; have NB550_510 := n13_; have NB518_550 := n14_; have NB550_518 := n15_; have NB525_550 := n16_; have NB550_525 := n17_; have NB545_550 := n18_; have NB550_545 := n19_; clear n0_ n1_ n2_ n3_ n4_ n5_ n6_ n7_ n8_ n9_ n10_ n11_ n12_ n13_ n14_ n15_ n16_ n17_ n18_ n19_; clear hb hbox hg; obtain ⟨Ao150, co150, eo150⟩ := Kd.R_slice HO548.out; subst eo150; have hnb151 := NB550_510.out; have hnc151 := NB510_550.out; have hnb152 := NB550_518.out; have hnc152 := NB518_550.out; have hnb153 := NB550_525.out; have hnc153 := NB525_550.out; have hnb154 := NB550_545.out; have hnc154 := NB545_550.out; have hcz155_0 : w149.cell? ⟨gb550, 0, none⟩ = some (.slice none 0 0) := (blk_cell BK550.out 0).trans rfl; have hfz155_0 := blk_frozen BK550.out 0; have hcz156_0 : w149.cell? ⟨gb545, 0, none⟩ = some (.slice Ao142 t541.length co142) := (blk_cell BK545.out 0).trans rfl; have hfz156_0 := blk_frozen BK545.out 0; have hcz157_0 : w149.cell? ⟨gb510, 0, none⟩ = some (.slice Ao13 t503.length co13) := (blk_cell BK510.out 0).trans rfl; have hfz157_0 := blk_frozen BK510.out 0) | ((with_reducible refine gate_callee (f := 47) rfl ?_); refine goesL_ (some 147) rfl rfl Try.func47 (by kernel_rfl) rfl #[.agg #[.slice Ao142 t541.length co142], .agg #[.slice Ao13 t503.length co13]] rfl u14_10 ?_; (with_reducible refine (laws_sameBook.calls kj9 _ _ t541 _ _ t503 true _ ?side1 ?side2 ?side3 ?side4 A135.out).mono ?_); (case side1 => exact (by refine (Kd.R_reads' (e := 53) (base := w.heap.size) (ok := fun k_ => ((((True ∧ some k_ ≠ (.slice Ao13 t503.length co13 : Value).ownBlock) ∧ some k_ ≠ (.slice Ao21 t514.length co21 : Value).ownBlock) ∧ k_ ≠ gb525) ∧ some k_ ≠ (.slice Ao150 t546.length co150 : Value).ownBlock)) (n := t541.length) (c := co142) ?_).2.2; exact u14_40)); (case side2 => exact (Kd.R_reads' HO543.out).2.1); (case side3 => exact (by refine (Kd.R_reads' (e := 53) (base := w.heap.size) (ok := fun k_ => (((some k_ ≠ (.slice Ao21 t514.length co21 : Value).ownBlock ∧ k_ ≠ gb525) ∧ some k_ ≠ (.slice Ao142 t541.length co142 : Value).ownBlock) ∧ some k_ ≠ (.slice Ao150 t546.length co150 : Value).ownBlock)) (n := t503.length) (c := co13) ?_).2.2; exact u14_37)); (case side4 => exact (Kd.R_reads' HO_511000.out).2.1); rintro e w158 ⟨rfl, hb⟩; refine ⟨_, rfl, ?_⟩; have n0_ := Aside0.mk (Kd.R_below u14_37 hb); have n1_ := Aside0.mk (Kd.R_below (by (with_reducible repeat (first | apply Kd.R_alloc | apply Kd.R_drewN | apply Kd.R_drew)); exact (Kd.R_mono (Kd.R_far (p := ⟨gb550, 0, none⟩) (Kd.R_types HO_519000.out BK550.out (by decide)) (fun _ hk => hk.2) (.slice Ao150 t546.length co150)) (fun _ h_ => h_.1))) hb); have n2_ := Aside0.mk (Kd.R_below u14_40 hb); have n3_ := Aside0.mk (Kd.R_below (by (with_reducible repeat (first | apply Kd.R_alloc | apply Kd.R_drewN | apply Kd.R_drew)); exact (Kd.R_mono (Kd.R_far (p := ⟨gb550, 0, none⟩) (Kd.R_types HO548.out BK550.out (by decide)) (fun _ hk => hk.2) (.slice Ao150 t546.length co150)) (fun _ h_ => h_.1))) hb); have n4_ := Aside0.mk (blk_below (g := gb510) (o := .cells #[.slice Ao13 t503.length co13] 29 (0, 0)) (by (with_reducible repeat (first | refine blk_drewN ?_ _ | refine blk_drew ?_ | refine blk_alloc ?_ _)); refine blk_far ?_ NB510_550.out _; (with_reducible repeat (first | refine blk_drewN ?_ _ | refine blk_drew ?_ | refine blk_alloc ?_ _)); exact BK510.out) hb); have n5_ := Aside0.mk (blk_below (g := gb518) (o := .cells #[.slice Ao21 t514.length co21] 29 (0, 0)) (by (with_reducible repeat (first | refine blk_drewN ?_ _ | refine blk_drew ?_ | refine blk_alloc ?_ _)); refine blk_far ?_ NB518_550.out _; (with_reducible repeat (first | refine blk_drewN ?_ _ | refine blk_drew ?_ | refine blk_alloc ?_ _)); exact BK518.out) hb); have n6_ := Aside0.mk (blk_below (g := gb525) (o := .cells #[.int .u64 t519, .int .u64 t520, .int .u64 t521, .int .u64 t522, .int .i64 t523] 53 (0, 0)) (by (with_reducible repeat (first | refine blk_drewN ?_ _ | refine blk_drew ?_ | refine blk_alloc ?_ _)); refine blk_far ?_ NB525_550.out _; (with_reducible repeat (first | refine blk_drewN ?_ _ | refine blk_drew ?_ | refine blk_alloc ?_ _)); exact BK525.out) hb); have n7_ := Aside0.mk (blk_below (g := gb545) (o := .cells #[.slice Ao142 t541.length co142] 29 (0, 0)) (by (with_reducible repeat (first | refine blk_drewN ?_ _ | refine blk_drew ?_ | refine blk_alloc ?_ _)); refine blk_far ?_ NB545_550.out _; (with_reducible repeat (first | refine blk_drewN ?_ _ | refine blk_drew ?_ | refine blk_alloc ?_ _)); exact BK545.out) hb); have n8_ := Aside0.mk (blk_below (g := gb550) (o := .cells #[.slice Ao150 t546.length co150] 29 (0, 0)) (by (with_reducible repeat (first | refine blk_drewN ?_ _ | refine blk_drew ?_ | refine blk_alloc ?_ _)); refine blk_put (cs := #[.slice none 0 0]) ?_ 0 _ rfl; (with_reducible repeat (first | refine blk_drewN ?_ _ | refine blk_drew ?_ | refine blk_alloc ?_ _)); exact BK550.out) hb); have n9_ := Aside0.mk (below_step u14_34 hb); clear HO_511000; clear HO_519000; clear HO543; clear HO548; clear BK510; clear BK518; clear BK525; clear BK545; clear BK550; clear HB; have HO_511000 := n0_; have HO_519000 := n1_; have HO543 := n2_; have HO548 := n3_; have BK510 := n4_; have BK518 := n5_; have BK525 := n6_; have BK545 := n7_; have BK550 := n8_; have HB := n9_; clear n0_ n1_ n2_ n3_ n4_ n5_ n6_ n7_ n8_ n9_; (try clear hb); (try clear hb2); (try clear hk); (try clear hi)))
      go_ret
      exact ⟨by first | rfl | (simp [errW_none, errW_some] <;> rfl) | (simp [*, errW_none, errW_some] <;> rfl), u14_34⟩
    rw [if_pos c101] at H
    have c101b0 : (t544 == 0) = true := beq_iff_eq.mpr c101
    have c101b1 : (t544 != 0) = false := bne_eq_false_iff_eq.mpr c101
    clear c101
    replace H := Option.bind_eq_some_iff.mp H
    obtain ⟨⟨t552, t553⟩, A1020, H⟩ := H
    (try dsimp only at H)
    have A102 := Aside0.mk A1020
    clear A1020
    replace H := Option.bind_eq_some_iff.mp H
    obtain ⟨⟨t554, t557⟩, A1030, H⟩ := H
    (try dsimp only at H)
    have A103 := Aside0.mk A1030
    clear A1030
    by_cases c104 : t552 = t511
    rotate_left
    · rw [if_neg c104] at H
      have c104b0 : (t552 == t511) = false := beq_eq_false_iff_ne.mpr c104
      have c104b1 : (t552 != t511) = true := bne_iff_ne.mpr c104
      exact absurd ((Option.some.inj H).trans hr_.out) (by decide)
    rw [if_pos c104] at H
    have c104b0 : (t552 == t511) = true := beq_iff_eq.mpr c104
    have c104b1 : (t552 != t511) = false := bne_eq_false_iff_eq.mpr c104
    clear c104
    by_cases c105 : t553 = t512
    rotate_left
    · rw [if_neg c105] at H
      have c105b0 : (t553 == t512) = false := beq_eq_false_iff_ne.mpr c105
      have c105b1 : (t553 != t512) = true := bne_iff_ne.mpr c105
      exact absurd ((Option.some.inj H).trans hr_.out) (by decide)
    rw [if_pos c105] at H
    have c105b0 : (t553 == t512) = true := beq_iff_eq.mpr c105
    have c105b1 : (t553 != t512) = false := bne_eq_false_iff_eq.mpr c105
    clear c105
    by_cases c106 : t557 = 0
    rotate_left
    · rw [if_neg c106] at H
      have c106b0 : (t557 == 0) = false := beq_eq_false_iff_ne.mpr c106
      have c106b1 : (t557 != 0) = true := bne_iff_ne.mpr c106
      exact absurd ((Option.some.inj H).trans hr_.out) (by decide)
    rw [if_pos c106] at H
    have c106b0 : (t557 == 0) = true := beq_iff_eq.mpr c106
    have c106b1 : (t557 != 0) = false := bne_eq_false_iff_eq.mpr c106
    clear c106
    replace H := Option.bind_eq_some_iff.mp H
    obtain ⟨t559, A1070, H⟩ := H
    have A107 := Aside0.mk A1070
    clear A1070
    by_cases c108 : t559 = true
    rotate_left
    · replace c108 := Bool.eq_false_iff.mpr c108
      subst c108
      rw [if_neg (show ¬ (false = true) by decide)] at H
      exact absurd ((Option.some.inj H).trans hr_.out) (by decide)
    subst c108
    rw [if_pos rfl] at H
    replace H := Option.bind_eq_some_iff.mp H
    obtain ⟨t560, A1090, H⟩ := H
    replace H : (some t560) = some r := H
    have A109 := Aside0.mk A1090
    clear A1090
    obtain rfl := Option.some.inj H
    have hnb110 := NB510_518.out
    have hnc110 := NB518_510.out
    have hnb111 := NB510_525.out
    have hnc111 := NB525_510.out
    have hcz112_0 : wc.cell? ⟨gb510, 0, none⟩ = some (.slice Ao13 t503.length co13) := (blk_cell BK510.out 0).trans rfl
    have hfz112_0 := blk_frozen BK510.out 0
    go_wp2_with (first | ((with_reducible refine gate_callee (f := 25) rfl ?_); refine goesL_ (some 132) rfl rfl Try.func25 (by kernel_rfl) rfl #[.agg #[.slice Ao13 t503.length co13], .int .u64 t506, .int .u64 t507, .int .u64 t508] rfl u14_10 ?_; (with_reducible refine (impl_MoveMoney.calls kj9 _ _ t503 t506 t507 t508 t541 t544 _ ?side1 ?side2 A100.out).mono ?_); (case side1 => exact u14_49); (case side2 => exact (Kd.R_reads' HO_511000.out).2.1); rintro e w113 ⟨v542, rfl, ho0, hb⟩; refine ⟨_, rfl, ?_⟩; have n0_ := Aside0.mk (Kd.R_elder' u14_13 (Kd.R_base ho0) hb); have n1_ := Aside0.mk (Kd.R_elder' u14_14 (Kd.R_base ho0) hb); have n2_ := Aside0.mk (Kd.R_lower (Kd.R_newB (Kd.R_new' (Kd.R_new' ho0 (Kd.R_lt u14_13)) (Kd.R_lt u14_14)) (g := gb525) (o := .cells #[.int .u64 t519, .int .u64 t520, .int .u64 t521, .int .u64 t522, .int .i64 t523] 53 (0, 0)) u14_6) (below_size u14_1)); have n3_ := Aside0.mk (blk_below (g := gb510) (o := .cells #[.slice Ao13 t503.length co13] 29 (0, 0)) u14_4 hb); have n4_ := Aside0.mk (blk_below (g := gb518) (o := .cells #[.slice Ao21 t514.length co21] 29 (0, 0)) u14_5 hb); have n5_ := Aside0.mk (blk_below (g := gb525) (o := .cells #[.int .u64 t519, .int .u64 t520, .int .u64 t521, .int .u64 t522, .int .i64 t523] 53 (0, 0)) u14_6 hb); have n6_ := Aside0.mk (below_step u14_1 hb); clear HO_511000; clear HO_519000; clear BK510; clear BK518; clear BK525; clear HB; have HO_511000 := n0_; have HO_519000 := n1_; have HO543 := n2_; have BK510 := n3_; have BK518 := n4_; have BK525 := n5_; have HB := n6_; clear n0_ n1_ n2_ n3_ n4_ n5_ n6_; (try clear hb); (try clear hb2); (try clear hk); (try clear hi); (try clear ho0)) | ((with_reducible refine gate_dst (N := 18) rfl ?_); refine box_event ?hg (N := 18) ?hd (cs := #[.slice none 0 0]) (t := 29) ?hr ?_; (case hd => rfl); (case hg => rfl); (case hr => first | (go_simp; done) | (go_simp; rfl)); intro gb545 hg w114 hbox hb; have n0_ := Aside0.mk (Kd.R_below u14_13 hb); have n1_ := Aside0.mk (Kd.R_below u14_14 hb); have n2_ := Aside0.mk (Kd.R_below u14_22 hb); have n3_ := Aside0.mk (blk_below (g := gb510) (o := .cells #[.slice Ao13 t503.length co13] 29 (0, 0)) u14_4 hb); have n4_ := Aside0.mk (blk_below (g := gb518) (o := .cells #[.slice Ao21 t514.length co21] 29 (0, 0)) u14_5 hb); have n5_ := Aside0.mk (blk_below (g := gb525) (o := .cells #[.int .u64 t519, .int .u64 t520, .int .u64 t521, .int .u64 t522, .int .i64 t523] 53 (0, 0)) u14_6 hb); have n6_ := Aside0.mk (below_step u14_1 hb); have n7_ := Aside0.mk (hbox); have n8_ := Aside0.mk ((by rw [hg]; exact (below_size u14_1) : w.heap.size ≤ gb545)); have n9_ := Aside0.mk ((by rw [hg]; exact (below_size u14_1) : w.heap.size ≤ gb545)); have n10_ := Aside0.mk ((by rw [hg]; exact Nat.ne_of_lt (blk_lt (g := gb510) (o := .cells #[.slice Ao13 t503.length co13] 29 (0, 0)) u14_4) : gb510 ≠ gb545)); have n11_ := Aside0.mk ((by rw [hg]; exact Nat.ne_of_gt (blk_lt (g := gb510) (o := .cells #[.slice Ao13 t503.length co13] 29 (0, 0)) u14_4) : gb545 ≠ gb510)); have n12_ := Aside0.mk ((by rw [hg]; exact Nat.ne_of_lt (blk_lt (g := gb518) (o := .cells #[.slice Ao21 t514.length co21] 29 (0, 0)) u14_5) : gb518 ≠ gb545)); have n13_ := Aside0.mk ((by rw [hg]; exact Nat.ne_of_gt (blk_lt (g := gb518) (o := .cells #[.slice Ao21 t514.length co21] 29 (0, 0)) u14_5) : gb545 ≠ gb518)); have n14_ := Aside0.mk ((by rw [hg]; exact Nat.ne_of_lt (blk_lt (g := gb525) (o := .cells #[.int .u64 t519, .int .u64 t520, .int .u64 t521, .int .u64 t522, .int .i64 t523] 53 (0, 0)) u14_6) : gb525 ≠ gb545)); have n15_ := Aside0.mk ((by rw [hg]; exact Nat.ne_of_gt (blk_lt (g := gb525) (o := .cells #[.int .u64 t519, .int .u64 t520, .int .u64 t521, .int .u64 t522, .int .i64 t523] 53 (0, 0)) u14_6) : gb545 ≠ gb525)); clear HO_511000; clear HO_519000; clear HO543; clear BK510; clear BK518; clear BK525; clear HB; have HO_511000 := n0_; have HO_519000 := n1_; have HO543 := n2_; have BK510 := n3_; have BK518 := n4_; have BK525 := n5_; have HB := n6_; have BK545 := n7_; have GW545 := n8_; have GE545 := n9_; have NB510_545 := n10_; have NB545_510 := n11_; have NB518_545 := n12_; have NB545_518 := n13_; have NB525_545 := n14_; have NB545_525 := n15_; clear n0_ n1_ n2_ n3_ n4_ n5_ n6_ n7_ n8_ n9_ n10_ n11_ n12_ n13_ n14_ n15_; clear hb hbox hg; obtain ⟨Ao115, co115, eo115⟩ := Kd.R_slice HO543.out; subst eo115; have hnb116 := NB545_510.out; have hnc116 := NB510_545.out; have hnb117 := NB545_518.out; have hnc117 := NB518_545.out; have hnb118 := NB545_525.out; have hnc118 := NB525_545.out; have hcz119_0 : w114.cell? ⟨gb545, 0, none⟩ = some (.slice none 0 0) := (blk_cell BK545.out 0).trans rfl; have hfz119_0 := blk_frozen BK545.out 0) | ((with_reducible refine gate_callee (f := 23) rfl ?_); refine goesL_ (some 155) rfl rfl Try.func23 (by kernel_rfl) rfl #[.agg #[.slice Ao115 t541.length co115]] rfl u14_10 ?_; (with_reducible refine (impl_TotalOf.calls kj9 _ _ t541 t552 t553 _ ?side1 ?side2 A102.out).mono ?_); (case side1 => exact (by refine (Kd.R_reads' (e := 53) (base := w.heap.size) (ok := fun k_ => (((True ∧ some k_ ≠ (.slice Ao13 t503.length co13 : Value).ownBlock) ∧ some k_ ≠ (.slice Ao21 t514.length co21 : Value).ownBlock) ∧ k_ ≠ gb525)) (n := t541.length) (c := co115) ?_).2.2; exact u14_41)); (case side2 => exact (Kd.R_reads' HO543.out).2.1); rintro e w120 ⟨rfl, hb⟩; refine ⟨_, rfl, ?_⟩; have n0_ := Aside0.mk (Kd.R_below (by (with_reducible repeat (first | apply Kd.R_alloc | apply Kd.R_drewN | apply Kd.R_drew)); exact (Kd.R_mono (Kd.R_far (p := ⟨gb545, 0, none⟩) (Kd.R_types HO_511000.out BK545.out (by decide)) (fun _ hk => hk.2) (.slice Ao115 t541.length co115)) (fun _ h_ => h_.1))) hb); have n1_ := Aside0.mk (Kd.R_below (by (with_reducible repeat (first | apply Kd.R_alloc | apply Kd.R_drewN | apply Kd.R_drew)); exact (Kd.R_mono (Kd.R_far (p := ⟨gb545, 0, none⟩) (Kd.R_types HO_519000.out BK545.out (by decide)) (fun _ hk => hk.2) (.slice Ao115 t541.length co115)) (fun _ h_ => h_.1))) hb); have n2_ := Aside0.mk (Kd.R_below u14_41 hb); have n3_ := Aside0.mk (blk_below (g := gb510) (o := .cells #[.slice Ao13 t503.length co13] 29 (0, 0)) u14_47 hb); have n4_ := Aside0.mk (blk_below (g := gb518) (o := .cells #[.slice Ao21 t514.length co21] 29 (0, 0)) u14_48 hb); have n5_ := Aside0.mk (blk_below (g := gb525) (o := .cells #[.int .u64 t519, .int .u64 t520, .int .u64 t521, .int .u64 t522, .int .i64 t523] 53 (0, 0)) u14_29 hb); have n6_ := Aside0.mk (blk_below (g := gb545) (o := .cells #[.slice Ao115 t541.length co115] 29 (0, 0)) u14_35 hb); have n7_ := Aside0.mk (below_step u14_9 hb); clear HO_511000; clear HO_519000; clear HO543; clear BK510; clear BK518; clear BK525; clear BK545; clear HB; have HO_511000 := n0_; have HO_519000 := n1_; have HO543 := n2_; have BK510 := n3_; have BK518 := n4_; have BK525 := n5_; have BK545 := n6_; have HB := n7_; clear n0_ n1_ n2_ n3_ n4_ n5_ n6_ n7_; (try clear hb); (try clear hb2); (try clear hk); (try clear hi); have hcz121_0 : w120.cell? ⟨gb545, 0, none⟩ = some (.slice Ao115 t541.length co115) := (blk_cell BK545.out 0).trans rfl; have hfz121_0 := blk_frozen BK545.out 0) | ((with_reducible refine gate_callee (f := 25) rfl ?_); refine goesL_ (some 163) rfl rfl Try.func25 (by kernel_rfl) rfl #[.agg #[.slice Ao115 t541.length co115], .int .u64 t507, .int .u64 t506, .int .u64 t508] rfl u14_10 ?_; (with_reducible refine (impl_MoveMoney.calls kj9 _ _ t541 t507 t506 t508 t554 t557 _ ?side1 ?side2 A103.out).mono ?_); (case side1 => exact u14_51); (case side2 => exact (Kd.R_reads' HO543.out).2.1); rintro e w122 ⟨v555, rfl, ho0, hb⟩; refine ⟨_, rfl, ?_⟩; have n0_ := Aside0.mk (Kd.R_elder' u14_13 (Kd.R_base ho0) hb); have n1_ := Aside0.mk (Kd.R_elder' u14_14 (Kd.R_base ho0) hb); have n2_ := Aside0.mk (Kd.R_elder' u14_22 (Kd.R_base ho0) hb); have n3_ := Aside0.mk (Kd.R_lower (Kd.R_newB (Kd.R_new' (Kd.R_new' (Kd.R_new' ho0 (Kd.R_lt u14_13)) (Kd.R_lt u14_14)) (Kd.R_lt u14_22)) (g := gb525) (o := .cells #[.int .u64 t519, .int .u64 t520, .int .u64 t521, .int .u64 t522, .int .i64 t523] 53 (0, 0)) u14_6) (below_size u14_9)); have n4_ := Aside0.mk (blk_below (g := gb510) (o := .cells #[.slice Ao13 t503.length co13] 29 (0, 0)) u14_4 hb); have n5_ := Aside0.mk (blk_below (g := gb518) (o := .cells #[.slice Ao21 t514.length co21] 29 (0, 0)) u14_5 hb); have n6_ := Aside0.mk (blk_below (g := gb525) (o := .cells #[.int .u64 t519, .int .u64 t520, .int .u64 t521, .int .u64 t522, .int .i64 t523] 53 (0, 0)) u14_6 hb); have n7_ := Aside0.mk (blk_below (g := gb545) (o := .cells #[.slice Ao115 t541.length co115] 29 (0, 0)) u14_20 hb); have n8_ := Aside0.mk (below_step u14_9 hb); clear HO_511000; clear HO_519000; clear HO543; clear BK510; clear BK518; clear BK525; clear BK545; clear HB; have HO_511000 := n0_; have HO_519000 := n1_; have HO543 := n2_; have HO556 := n3_; have BK510 := n4_; have BK518 := n5_; have BK525 := n6_; have BK545 := n7_; have HB := n8_; clear n0_ n1_ n2_ n3_ n4_ n5_ n6_ n7_ n8_; (try clear hb); (try clear hb2); (try clear hk); (try clear hi); (try clear ho0)) | ((with_reducible refine gate_dst (N := 24) rfl ?_); refine box_event ?hg (N := 24) ?hd (cs := #[.slice none 0 0]) (t := 29) ?hr ?_; (case hd => rfl); (case hg => rfl); (case hr => first | (go_simp; done) | (go_simp; rfl)); intro gb558 hg w123 hbox hb; have n0_ := Aside0.mk (Kd.R_below u14_13 hb); have n1_ := Aside0.mk (Kd.R_below u14_14 hb); have n2_ := Aside0.mk (Kd.R_below u14_22 hb); have n3_ := Aside0.mk (Kd.R_below u14_53 hb); have n4_ := Aside0.mk (blk_below (g := gb510) (o := .cells #[.slice Ao13 t503.length co13] 29 (0, 0)) u14_4 hb); have n5_ := Aside0.mk (blk_below (g := gb518) (o := .cells #[.slice Ao21 t514.length co21] 29 (0, 0)) u14_5 hb); have n6_ := Aside0.mk (blk_below (g := gb525) (o := .cells #[.int .u64 t519, .int .u64 t520, .int .u64 t521, .int .u64 t522, .int .i64 t523] 53 (0, 0)) u14_6 hb); have n7_ := Aside0.mk (blk_below (g := gb545) (o := .cells #[.slice Ao115 t541.length co115] 29 (0, 0)) u14_20 hb); have n8_ := Aside0.mk (below_step u14_9 hb); have n9_ := Aside0.mk (hbox); have n10_ := Aside0.mk ((by rw [hg]; exact (below_size u14_9) : w.heap.size ≤ gb558)); have n11_ := Aside0.mk ((by rw [hg]; exact (below_size u14_9) : w.heap.size ≤ gb558)); have n12_ := Aside0.mk ((by rw [hg]; exact Nat.ne_of_lt (blk_lt (g := gb510) (o := .cells #[.slice Ao13 t503.length co13] 29 (0, 0)) u14_4) : gb510 ≠ gb558)); have n13_ := Aside0.mk ((by rw [hg]; exact Nat.ne_of_gt (blk_lt (g := gb510) (o := .cells #[.slice Ao13 t503.length co13] 29 (0, 0)) u14_4) : gb558 ≠ gb510)); have n14_ := Aside0.mk ((by rw [hg]; exact Nat.ne_of_lt (blk_lt (g := gb518) (o := .cells #[.slice Ao21 t514.length co21] 29 (0, 0)) u14_5) : gb518 ≠ gb558)); have n15_ := Aside0.mk ((by rw [hg]; exact Nat.ne_of_gt (blk_lt (g := gb518) (o := .cells #[.slice Ao21 t514.length co21] 29 (0, 0)) u14_5) : gb558 ≠ gb518)); have n16_ := Aside0.mk ((by rw [hg]; exact Nat.ne_of_lt (blk_lt (g := gb525) (o := .cells #[.int .u64 t519, .int .u64 t520, .int .u64 t521, .int .u64 t522, .int .i64 t523] 53 (0, 0)) u14_6) : gb525 ≠ gb558)); have n17_ := Aside0.mk ((by rw [hg]; exact Nat.ne_of_gt (blk_lt (g := gb525) (o := .cells #[.int .u64 t519, .int .u64 t520, .int .u64 t521, .int .u64 t522, .int .i64 t523] 53 (0, 0)) u14_6) : gb558 ≠ gb525)); have n18_ := Aside0.mk ((by rw [hg]; exact Nat.ne_of_lt (blk_lt (g := gb545) (o := .cells #[.slice Ao115 t541.length co115] 29 (0, 0)) u14_20) : gb545 ≠ gb558)); have n19_ := Aside0.mk ((by rw [hg]; exact Nat.ne_of_gt (blk_lt (g := gb545) (o := .cells #[.slice Ao115 t541.length co115] 29 (0, 0)) u14_20) : gb558 ≠ gb545)); clear HO_511000; clear HO_519000; clear HO543; clear HO556; clear BK510; clear BK518; clear BK525; clear BK545; clear HB; have HO_511000 := n0_; have HO_519000 := n1_; have HO543 := n2_; have HO556 := n3_; have BK510 := n4_; have BK518 := n5_; have BK525 := n6_; have BK545 := n7_; have HB := n8_; have BK558 := n9_; have GW558 := n10_; have GE558 := n11_; have NB510_558 := n12_; have NB558_510 := n13_; have NB518_558 := n14_; have NB558_518 := n15_; have NB525_558 := n16_; have NB558_525 := n17_; have NB545_558 := n18_; have NB558_545 := n19_; clear n0_ n1_ n2_ n3_ n4_ n5_ n6_ n7_ n8_ n9_ n10_ n11_ n12_ n13_ n14_ n15_ n16_ n17_ n18_ n19_; clear hb hbox hg; obtain ⟨Ao124, co124, eo124⟩ := Kd.R_slice HO556.out; subst eo124; have hnb125 := NB558_510.out; have hnc125 := NB510_558.out; have hnb126 := NB558_518.out; have hnc126 := NB518_558.out; have hnb127 := NB558_525.out; have hnc127 := NB525_558.out; have hnb128 := NB558_545.out; have hnc128 := NB545_558.out; have hcz129_0 : w123.cell? ⟨gb558, 0, none⟩ = some (.slice none 0 0) := (blk_cell BK558.out 0).trans rfl; have hfz129_0 := blk_frozen BK558.out 0; have hcz130_0 : w123.cell? ⟨gb510, 0, none⟩ = some (.slice Ao13 t503.length co13) := (blk_cell BK510.out 0).trans rfl; have hfz130_0 := blk_frozen BK510.out 0) | (go_at_call 47; (with_reducible refine (laws_sameBook.calls kj9 _ _ t554 _ _ t503 true _ ?side1 ?side2 ?side3 ?side4 A107.out).mono ?_); (case side1 => exact (by refine (Kd.R_reads' (e := 53) (base := w.heap.size) (ok := fun k_ => ((((True ∧ some k_ ≠ (.slice Ao13 t503.length co13 : Value).ownBlock) ∧ some k_ ≠ (.slice Ao21 t514.length co21 : Value).ownBlock) ∧ some k_ ≠ (.slice Ao115 t541.length co115 : Value).ownBlock) ∧ k_ ≠ gb525)) (n := t554.length) (c := co124) ?_).2.2; exact u14_42)); (case side2 => exact (Kd.R_reads' HO556.out).2.1); (case side3 => exact (by refine (Kd.R_reads' (e := 53) (base := w.heap.size) (ok := fun k_ => (((some k_ ≠ (.slice Ao21 t514.length co21 : Value).ownBlock ∧ k_ ≠ gb525) ∧ some k_ ≠ (.slice Ao115 t541.length co115 : Value).ownBlock) ∧ some k_ ≠ (.slice Ao124 t554.length co124 : Value).ownBlock)) (n := t503.length) (c := co13) ?_).2.2; exact u14_38)); (case side4 => exact (Kd.R_reads' HO_511000.out).2.1); rintro e w131 ⟨rfl, hb⟩; have n0_ := Aside0.mk (Kd.R_below u14_38 hb); have n1_ := Aside0.mk (Kd.R_below (by (with_reducible repeat (first | apply Kd.R_alloc | apply Kd.R_drewN | apply Kd.R_drew)); exact (Kd.R_mono (Kd.R_far (p := ⟨gb558, 0, none⟩) (Kd.R_types HO_519000.out BK558.out (by decide)) (fun _ hk => hk.2) (.slice Ao124 t554.length co124)) (fun _ h_ => h_.1))) hb); have n2_ := Aside0.mk (Kd.R_below (by (with_reducible repeat (first | apply Kd.R_alloc | apply Kd.R_drewN | apply Kd.R_drew)); exact (Kd.R_mono (Kd.R_far (p := ⟨gb558, 0, none⟩) (Kd.R_types HO543.out BK558.out (by decide)) (fun _ hk => hk.2) (.slice Ao124 t554.length co124)) (fun _ h_ => h_.1))) hb); have n3_ := Aside0.mk (Kd.R_below u14_42 hb); have n4_ := Aside0.mk (blk_below (g := gb510) (o := .cells #[.slice Ao13 t503.length co13] 29 (0, 0)) (by (with_reducible repeat (first | refine blk_drewN ?_ _ | refine blk_drew ?_ | refine blk_alloc ?_ _)); refine blk_far ?_ NB510_558.out _; (with_reducible repeat (first | refine blk_drewN ?_ _ | refine blk_drew ?_ | refine blk_alloc ?_ _)); exact BK510.out) hb); have n5_ := Aside0.mk (blk_below (g := gb518) (o := .cells #[.slice Ao21 t514.length co21] 29 (0, 0)) (by (with_reducible repeat (first | refine blk_drewN ?_ _ | refine blk_drew ?_ | refine blk_alloc ?_ _)); refine blk_far ?_ NB518_558.out _; (with_reducible repeat (first | refine blk_drewN ?_ _ | refine blk_drew ?_ | refine blk_alloc ?_ _)); exact BK518.out) hb); have n6_ := Aside0.mk (blk_below (g := gb525) (o := .cells #[.int .u64 t519, .int .u64 t520, .int .u64 t521, .int .u64 t522, .int .i64 t523] 53 (0, 0)) (by (with_reducible repeat (first | refine blk_drewN ?_ _ | refine blk_drew ?_ | refine blk_alloc ?_ _)); refine blk_far ?_ NB525_558.out _; (with_reducible repeat (first | refine blk_drewN ?_ _ | refine blk_drew ?_ | refine blk_alloc ?_ _)); exact BK525.out) hb); have n7_ := Aside0.mk (blk_below (g := gb545) (o := .cells #[.slice Ao115 t541.length co115] 29 (0, 0)) (by (with_reducible repeat (first | refine blk_drewN ?_ _ | refine blk_drew ?_ | refine blk_alloc ?_ _)); refine blk_far ?_ NB545_558.out _; (with_reducible repeat (first | refine blk_drewN ?_ _ | refine blk_drew ?_ | refine blk_alloc ?_ _)); exact BK545.out) hb); have n8_ := Aside0.mk (blk_below (g := gb558) (o := .cells #[.slice Ao124 t554.length co124] 29 (0, 0)) (by (with_reducible repeat (first | refine blk_drewN ?_ _ | refine blk_drew ?_ | refine blk_alloc ?_ _)); refine blk_put (cs := #[.slice none 0 0]) ?_ 0 _ rfl; (with_reducible repeat (first | refine blk_drewN ?_ _ | refine blk_drew ?_ | refine blk_alloc ?_ _)); exact BK558.out) hb); have n9_ := Aside0.mk (below_step u14_26 hb); clear HO_511000; clear HO_519000; clear HO543; clear HO556; clear BK510; clear BK518; clear BK525; clear BK545; clear BK558; clear HB; have HO_511000 := n0_; have HO_519000 := n1_; have HO543 := n2_; have HO556 := n3_; have BK510 := n4_; have BK518 := n5_; have BK525 := n6_; have BK545 := n7_; have BK558 := n8_; have HB := n9_; clear n0_ n1_ n2_ n3_ n4_ n5_ n6_ n7_ n8_ n9_; (try clear hb); (try clear hb2); (try clear hk); (try clear hi); have hcz132_0 : w131.cell? ⟨gb545, 0, none⟩ = some (.slice Ao115 t541.length co115) := (blk_cell BK545.out 0).trans rfl; have hfz132_0 := blk_frozen BK545.out 0) | (go_at_call 20; (with_reducible refine (impl_BookOk.calls kj9 _ _ t541 t560 _ ?side1 ?side2 A109.out).mono ?_); (case side1 => exact u14_51); (case side2 => exact (Kd.R_reads' HO543.out).2.1); rintro e w133 ⟨rfl, hb⟩; have n0_ := Aside0.mk (Kd.R_below u14_13 hb); have n1_ := Aside0.mk (Kd.R_below u14_14 hb); have n2_ := Aside0.mk (Kd.R_below u14_22 hb); have n3_ := Aside0.mk (Kd.R_below u14_53 hb); have n4_ := Aside0.mk (blk_below (g := gb510) (o := .cells #[.slice Ao13 t503.length co13] 29 (0, 0)) u14_4 hb); have n5_ := Aside0.mk (blk_below (g := gb518) (o := .cells #[.slice Ao21 t514.length co21] 29 (0, 0)) u14_5 hb); have n6_ := Aside0.mk (blk_below (g := gb525) (o := .cells #[.int .u64 t519, .int .u64 t520, .int .u64 t521, .int .u64 t522, .int .i64 t523] 53 (0, 0)) u14_6 hb); have n7_ := Aside0.mk (blk_below (g := gb545) (o := .cells #[.slice Ao115 t541.length co115] 29 (0, 0)) u14_20 hb); have n8_ := Aside0.mk (blk_below (g := gb558) (o := .cells #[.slice Ao124 t554.length co124] 29 (0, 0)) (by (with_reducible repeat (first | refine blk_drewN ?_ _ | refine blk_drew ?_ | refine blk_alloc ?_ _)); exact BK558.out) hb); have n9_ := Aside0.mk (below_step u14_26 hb); clear HO_511000; clear HO_519000; clear HO543; clear HO556; clear BK510; clear BK518; clear BK525; clear BK545; clear BK558; clear HB; have HO_511000 := n0_; have HO_519000 := n1_; have HO543 := n2_; have HO556 := n3_; have BK510 := n4_; have BK518 := n5_; have BK525 := n6_; have BK545 := n7_; have BK558 := n8_; have HB := n9_; clear n0_ n1_ n2_ n3_ n4_ n5_ n6_ n7_ n8_ n9_; (try clear hb); (try clear hb2); (try clear hk); (try clear hi)))
    go_ret
    exact ⟨by first | rfl | (simp [errW_none, errW_some] <;> rfl) | (simp [*, errW_none, errW_some] <;> rfl), u14_26⟩

/-- THE ONE PURE STATEMENT of laws_FnBook: yours. -/
def laws_FnBook.Pure : Prop := ∀ (l0 : List Int), l0.length ≤ maxLen → l0.length * 1 ≤ 140737488351232 → (∀ x ∈ l0, (Lit.int .u8 x).wf = true) → ∃ k, laws_FnBook.f k l0 = some true
theorem laws_FnBook.walk (P : laws_FnBook.Pure) (a0 : Option Addr) (len0 cap0 : Nat) (z0 : List Int) (w : World) (w0 : (a0 = none ∧ len0 = 0 ∧ cap0 = 0 ∧ z0 = []) ∨ ∃ x, a0 = some x ∧ len0 ≤ cap0 ∧ cap0 ≤ maxLen ∧ z0.length = cap0 ∧ (∀ i, i < z0.length → w.cell? (x.add i) = some (.int .u8 (z0.getD i 0))) ∧ ∀ n ∈ z0, (Lit.int .u8 n).wf = true) (y0 : len0 * 1 ≤ 140737488351232) :
    Calls Try.prog 14 #[.slice a0 len0 cap0] w fun e w' => e = .returned (.bool true) ∧ Below w.heap.size w w' := by
  obtain ⟨l0, rfl, hr0, hm0, hw0, hc0⟩ := ReadsInt.ofRowC w0
  obtain ⟨k, h⟩ := P l0 hm0 y0 hw0
  refine (laws_FnBook.calls k _ _ l0 true w (Kd.C_of_reads (d := (0 : Int)) (h1 := fun _ => rfl) hr0) hc0 h ⟨rfl⟩).mono ?_
  rintro e w' ⟨rfl, hd⟩
  exact ⟨rfl, hd⟩

end Go.Proofs.Ytdbfjakhkclggaa.QFnBook
