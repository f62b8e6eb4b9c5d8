-- Printed by the session's own program wip/prx.py.
import Derived.Test.YtdbfjakhkclggaaQFnHoldsx0
import Derived.Test.YtdbfjakhkclggaaQFnHoldsx4
namespace Go.Proofs.Ytdbfjakhkclggaa.QFnHolds
open Go.RowKit Go.Proofs.YtdbfjakhkclggaaW.PrintWords Go.Proofs.YtdbfjakhkclggaaW.PrintLast Go.Proofs.YtdbfjakhkclggaaW.PrintMore
attribute [local go_sem] max2_int min2_int max_two min_two max_three min_three max_four min_four Go.Proofs.Ytdbfjakhkclggaa.Set.isSome_setCell Go.Proofs.Ytdbfjakhkclggaa.Add.add64   -- for this text's walks alone
set_option linter.unusedVariables false
set_option linter.unusedSimpArgs false

-- squeezed
theorem u8_0 {P : Prop} (h : P := by (with_reducible repeat (first | refine blk_drewN ?_ _ | refine blk_drew ?_ | refine blk_alloc ?_ _)); refine blk_put (cs := #[.int .u64 t245, .int .u64 t246, .int .u64 t247, .int .u64 t248, .int .i64 0]) ?_ 4 _ rfl; (with_reducible repeat (first | refine blk_drewN ?_ _ | refine blk_drew ?_ | refine blk_alloc ?_ _)); refine blk_put (cs := #[.int .u64 t245, .int .u64 t246, .int .u64 t247, .int .u64 0, .int .i64 0]) ?_ 3 _ rfl; (with_reducible repeat (first | refine blk_drewN ?_ _ | refine blk_drew ?_ | refine blk_alloc ?_ _)); refine blk_put (cs := #[.int .u64 t245, .int .u64 t246, .int .u64 0, .int .u64 0, .int .i64 0]) ?_ 2 _ rfl; (with_reducible repeat (first | refine blk_drewN ?_ _ | refine blk_drew ?_ | refine blk_alloc ?_ _)); refine blk_put (cs := #[.int .u64 t245, .int .u64 0, .int .u64 0, .int .u64 0, .int .i64 0]) ?_ 1 _ rfl; (with_reducible repeat (first | refine blk_drewN ?_ _ | refine blk_drew ?_ | refine blk_alloc ?_ _)); refine blk_put (cs := #[.int .u64 0, .int .u64 0, .int .u64 0, .int .u64 0, .int .i64 0]) ?_ 0 _ rfl; (with_reducible repeat (first | refine blk_drewN ?_ _ | refine blk_drew ?_ | refine blk_alloc ?_ _)); exact BK251.out) : P := h
theorem u8_1 {P : Prop} (h : P := by (with_reducible repeat (first | refine blk_drewN ?_ _ | refine blk_drew ?_ | refine blk_alloc ?_ _)); refine blk_put (cs := #[.int .u64 t266, .int .u64 t267, .int .u64 t268, .int .u64 t269, .int .i64 0]) ?_ 4 _ rfl; (with_reducible repeat (first | refine blk_drewN ?_ _ | refine blk_drew ?_ | refine blk_alloc ?_ _)); refine blk_put (cs := #[.int .u64 t266, .int .u64 t267, .int .u64 t268, .int .u64 0, .int .i64 0]) ?_ 3 _ rfl; (with_reducible repeat (first | refine blk_drewN ?_ _ | refine blk_drew ?_ | refine blk_alloc ?_ _)); refine blk_put (cs := #[.int .u64 t266, .int .u64 t267, .int .u64 0, .int .u64 0, .int .i64 0]) ?_ 2 _ rfl; (with_reducible repeat (first | refine blk_drewN ?_ _ | refine blk_drew ?_ | refine blk_alloc ?_ _)); refine blk_put (cs := #[.int .u64 t266, .int .u64 0, .int .u64 0, .int .u64 0, .int .i64 0]) ?_ 1 _ rfl; (with_reducible repeat (first | refine blk_drewN ?_ _ | refine blk_drew ?_ | refine blk_alloc ?_ _)); refine blk_put (cs := #[.int .u64 0, .int .u64 0, .int .u64 0, .int .u64 0, .int .i64 0]) ?_ 0 _ rfl; (with_reducible repeat (first | refine blk_drewN ?_ _ | refine blk_drew ?_ | refine blk_alloc ?_ _)); exact BK272.out) : P := h
theorem u8_2 {P : Prop} (h : P := by (with_reducible repeat (first | refine blk_drewN ?_ _ | refine blk_drew ?_ | refine blk_alloc ?_ _)); refine blk_put (cs := #[.int .u64 t287, .int .u64 t288, .int .u64 t289, .int .u64 t290, .int .i64 0]) ?_ 4 _ rfl; (with_reducible repeat (first | refine blk_drewN ?_ _ | refine blk_drew ?_ | refine blk_alloc ?_ _)); refine blk_put (cs := #[.int .u64 t287, .int .u64 t288, .int .u64 t289, .int .u64 0, .int .i64 0]) ?_ 3 _ rfl; (with_reducible repeat (first | refine blk_drewN ?_ _ | refine blk_drew ?_ | refine blk_alloc ?_ _)); refine blk_put (cs := #[.int .u64 t287, .int .u64 t288, .int .u64 0, .int .u64 0, .int .i64 0]) ?_ 2 _ rfl; (with_reducible repeat (first | refine blk_drewN ?_ _ | refine blk_drew ?_ | refine blk_alloc ?_ _)); refine blk_put (cs := #[.int .u64 t287, .int .u64 0, .int .u64 0, .int .u64 0, .int .i64 0]) ?_ 1 _ rfl; (with_reducible repeat (first | refine blk_drewN ?_ _ | refine blk_drew ?_ | refine blk_alloc ?_ _)); refine blk_put (cs := #[.int .u64 0, .int .u64 0, .int .u64 0, .int .u64 0, .int .i64 0]) ?_ 0 _ rfl; (with_reducible repeat (first | refine blk_drewN ?_ _ | refine blk_drew ?_ | refine blk_alloc ?_ _)); exact BK293.out) : P := h
theorem u8_3 {P : Prop} (h : P := by repeat (first | (with_reducible first | exact HB.out | apply below_alloc | apply pw_below_drewN | apply below_drew1 | refine below_set ?_ GE243.out | refine below_set ?_ GE244.out | refine below_set ?_ GE251.out) | exact HB.out)) : P := h
theorem u8_4 {P : Prop} (h : P := by repeat (first | (with_reducible first | exact HB.out | apply below_alloc | apply pw_below_drewN | apply below_drew1 | refine below_set ?_ GE264.out | refine below_set ?_ GE265.out | refine below_set ?_ GE272.out) | exact HB.out)) : P := h
theorem u8_5 {P : Prop} (h : P := by repeat (first | (with_reducible first | exact HB.out | apply below_alloc | apply pw_below_drewN | apply below_drew1 | refine below_set ?_ GE285.out | refine below_set ?_ GE286.out | refine below_set ?_ GE293.out) | exact HB.out)) : P := h
theorem u8_6 {P : Prop} (h : P := by (try simp only [List.map_toArray, List.map_cons, List.map_nil]); first | done | rfl | (simp only [List.length_drop, List.length_take]; rfl)) : P := h
theorem u8_7 {P : Prop} (h : P := by (with_reducible repeat (first | refine blk_drewN ?_ _ | refine blk_drew ?_ | refine blk_alloc ?_ _)); refine blk_put (cs := #[.int .u64 t287, .int .u64 t288, .int .u64 t289, .int .u64 a2, .int .i64 t291]) ?_ 4 _ rfl; (with_reducible repeat (first | refine blk_drewN ?_ _ | refine blk_drew ?_ | refine blk_alloc ?_ _)); refine blk_put (cs := #[.int .u64 t287, .int .u64 t288, .int .u64 t289, .int .u64 t290, .int .i64 t291]) ?_ 3 _ rfl; (with_reducible repeat (first | refine blk_drewN ?_ _ | refine blk_drew ?_ | refine blk_alloc ?_ _)); refine blk_put (cs := #[.int .u64 t287, .int .u64 t288, .int .u64 t289, .int .u64 t290, .int .i64 0]) ?_ 4 _ rfl; (with_reducible repeat (first | refine blk_drewN ?_ _ | refine blk_drew ?_ | refine blk_alloc ?_ _)); refine blk_put (cs := #[.int .u64 t287, .int .u64 t288, .int .u64 t289, .int .u64 0, .int .i64 0]) ?_ 3 _ rfl; (with_reducible repeat (first | refine blk_drewN ?_ _ | refine blk_drew ?_ | refine blk_alloc ?_ _)); refine blk_put (cs := #[.int .u64 t287, .int .u64 t288, .int .u64 0, .int .u64 0, .int .i64 0]) ?_ 2 _ rfl; (with_reducible repeat (first | refine blk_drewN ?_ _ | refine blk_drew ?_ | refine blk_alloc ?_ _)); refine blk_put (cs := #[.int .u64 t287, .int .u64 0, .int .u64 0, .int .u64 0, .int .i64 0]) ?_ 1 _ rfl; (with_reducible repeat (first | refine blk_drewN ?_ _ | refine blk_drew ?_ | refine blk_alloc ?_ _)); refine blk_put (cs := #[.int .u64 0, .int .u64 0, .int .u64 0, .int .u64 0, .int .i64 0]) ?_ 0 _ rfl; (with_reducible repeat (first | refine blk_drewN ?_ _ | refine blk_drew ?_ | refine blk_alloc ?_ _)); exact BK293.out) : P := h
theorem u8_8 {P : Prop} (h : P := by (with_reducible repeat (first | refine blk_drewN ?_ _ | refine blk_drew ?_ | refine blk_alloc ?_ _)); refine blk_far ?_ NB243_251.out _; (with_reducible repeat (first | refine blk_drewN ?_ _ | refine blk_drew ?_ | refine blk_alloc ?_ _)); refine blk_far ?_ NB243_251.out _; (with_reducible repeat (first | refine blk_drewN ?_ _ | refine blk_drew ?_ | refine blk_alloc ?_ _)); refine blk_far ?_ NB243_251.out _; (with_reducible repeat (first | refine blk_drewN ?_ _ | refine blk_drew ?_ | refine blk_alloc ?_ _)); refine blk_far ?_ NB243_251.out _; (with_reducible repeat (first | refine blk_drewN ?_ _ | refine blk_drew ?_ | refine blk_alloc ?_ _)); refine blk_far ?_ NB243_251.out _; (with_reducible repeat (first | refine blk_drewN ?_ _ | refine blk_drew ?_ | refine blk_alloc ?_ _)); exact BK243.out) : P := h
theorem u8_9 {P : Prop} (h : P := by (with_reducible repeat (first | refine blk_drewN ?_ _ | refine blk_drew ?_ | refine blk_alloc ?_ _)); refine blk_far ?_ NB244_251.out _; (with_reducible repeat (first | refine blk_drewN ?_ _ | refine blk_drew ?_ | refine blk_alloc ?_ _)); refine blk_far ?_ NB244_251.out _; (with_reducible repeat (first | refine blk_drewN ?_ _ | refine blk_drew ?_ | refine blk_alloc ?_ _)); refine blk_far ?_ NB244_251.out _; (with_reducible repeat (first | refine blk_drewN ?_ _ | refine blk_drew ?_ | refine blk_alloc ?_ _)); refine blk_far ?_ NB244_251.out _; (with_reducible repeat (first | refine blk_drewN ?_ _ | refine blk_drew ?_ | refine blk_alloc ?_ _)); refine blk_far ?_ NB244_251.out _; (with_reducible repeat (first | refine blk_drewN ?_ _ | refine blk_drew ?_ | refine blk_alloc ?_ _)); exact BK244.out) : P := h
theorem u8_10 {P : Prop} (h : P := by (with_reducible repeat (first | refine blk_drewN ?_ _ | refine blk_drew ?_ | refine blk_alloc ?_ _)); refine blk_far ?_ NB264_272.out _; (with_reducible repeat (first | refine blk_drewN ?_ _ | refine blk_drew ?_ | refine blk_alloc ?_ _)); refine blk_far ?_ NB264_272.out _; (with_reducible repeat (first | refine blk_drewN ?_ _ | refine blk_drew ?_ | refine blk_alloc ?_ _)); refine blk_far ?_ NB264_272.out _; (with_reducible repeat (first | refine blk_drewN ?_ _ | refine blk_drew ?_ | refine blk_alloc ?_ _)); refine blk_far ?_ NB264_272.out _; (with_reducible repeat (first | refine blk_drewN ?_ _ | refine blk_drew ?_ | refine blk_alloc ?_ _)); refine blk_far ?_ NB264_272.out _; (with_reducible repeat (first | refine blk_drewN ?_ _ | refine blk_drew ?_ | refine blk_alloc ?_ _)); exact BK264.out) : P := h
theorem u8_11 {P : Prop} (h : P := by (with_reducible repeat (first | refine blk_drewN ?_ _ | refine blk_drew ?_ | refine blk_alloc ?_ _)); refine blk_far ?_ NB265_272.out _; (with_reducible repeat (first | refine blk_drewN ?_ _ | refine blk_drew ?_ | refine blk_alloc ?_ _)); refine blk_far ?_ NB265_272.out _; (with_reducible repeat (first | refine blk_drewN ?_ _ | refine blk_drew ?_ | refine blk_alloc ?_ _)); refine blk_far ?_ NB265_272.out _; (with_reducible repeat (first | refine blk_drewN ?_ _ | refine blk_drew ?_ | refine blk_alloc ?_ _)); refine blk_far ?_ NB265_272.out _; (with_reducible repeat (first | refine blk_drewN ?_ _ | refine blk_drew ?_ | refine blk_alloc ?_ _)); refine blk_far ?_ NB265_272.out _; (with_reducible repeat (first | refine blk_drewN ?_ _ | refine blk_drew ?_ | refine blk_alloc ?_ _)); exact BK265.out) : P := h
theorem u8_12 {P : Prop} (h : P := by (with_reducible repeat (first | refine blk_drewN ?_ _ | refine blk_drew ?_ | refine blk_alloc ?_ _)); refine blk_far ?_ NB285_293.out _; (with_reducible repeat (first | refine blk_drewN ?_ _ | refine blk_drew ?_ | refine blk_alloc ?_ _)); refine blk_far ?_ NB285_293.out _; (with_reducible repeat (first | refine blk_drewN ?_ _ | refine blk_drew ?_ | refine blk_alloc ?_ _)); refine blk_far ?_ NB285_293.out _; (with_reducible repeat (first | refine blk_drewN ?_ _ | refine blk_drew ?_ | refine blk_alloc ?_ _)); refine blk_far ?_ NB285_293.out _; (with_reducible repeat (first | refine blk_drewN ?_ _ | refine blk_drew ?_ | refine blk_alloc ?_ _)); refine blk_far ?_ NB285_293.out _; (with_reducible repeat (first | refine blk_drewN ?_ _ | refine blk_drew ?_ | refine blk_alloc ?_ _)); exact BK285.out) : P := h
theorem u8_13 {P : Prop} (h : P := by (with_reducible repeat (first | refine blk_drewN ?_ _ | refine blk_drew ?_ | refine blk_alloc ?_ _)); refine blk_far ?_ NB286_293.out _; (with_reducible repeat (first | refine blk_drewN ?_ _ | refine blk_drew ?_ | refine blk_alloc ?_ _)); refine blk_far ?_ NB286_293.out _; (with_reducible repeat (first | refine blk_drewN ?_ _ | refine blk_drew ?_ | refine blk_alloc ?_ _)); refine blk_far ?_ NB286_293.out _; (with_reducible repeat (first | refine blk_drewN ?_ _ | refine blk_drew ?_ | refine blk_alloc ?_ _)); refine blk_far ?_ NB286_293.out _; (with_reducible repeat (first | refine blk_drewN ?_ _ | refine blk_drew ?_ | refine blk_alloc ?_ _)); refine blk_far ?_ NB286_293.out _; (with_reducible repeat (first | refine blk_drewN ?_ _ | refine blk_drew ?_ | refine blk_alloc ?_ _)); exact BK286.out) : P := h
theorem u8_14 {P : Prop} (h : P := by (with_reducible repeat (first | refine blk_drewN ?_ _ | refine blk_drew ?_ | refine blk_alloc ?_ _)); refine blk_put (cs := #[.int .u64 t245, .int .u64 t246, .int .u64 t247, .int .u64 t248, .int .i64 t249]) ?_ 1 _ rfl; (with_reducible repeat (first | refine blk_drewN ?_ _ | refine blk_drew ?_ | refine blk_alloc ?_ _)); refine blk_put (cs := #[.int .u64 t245, .int .u64 t246, .int .u64 t247, .int .u64 t248, .int .i64 0]) ?_ 4 _ rfl; (with_reducible repeat (first | refine blk_drewN ?_ _ | refine blk_drew ?_ | refine blk_alloc ?_ _)); refine blk_put (cs := #[.int .u64 t245, .int .u64 t246, .int .u64 t247, .int .u64 0, .int .i64 0]) ?_ 3 _ rfl; (with_reducible repeat (first | refine blk_drewN ?_ _ | refine blk_drew ?_ | refine blk_alloc ?_ _)); refine blk_put (cs := #[.int .u64 t245, .int .u64 t246, .int .u64 0, .int .u64 0, .int .i64 0]) ?_ 2 _ rfl; (with_reducible repeat (first | refine blk_drewN ?_ _ | refine blk_drew ?_ | refine blk_alloc ?_ _)); refine blk_put (cs := #[.int .u64 t245, .int .u64 0, .int .u64 0, .int .u64 0, .int .i64 0]) ?_ 1 _ rfl; (with_reducible repeat (first | refine blk_drewN ?_ _ | refine blk_drew ?_ | refine blk_alloc ?_ _)); refine blk_put (cs := #[.int .u64 0, .int .u64 0, .int .u64 0, .int .u64 0, .int .i64 0]) ?_ 0 _ rfl; (with_reducible repeat (first | refine blk_drewN ?_ _ | refine blk_drew ?_ | refine blk_alloc ?_ _)); exact BK251.out) : P := h
theorem u8_15 {P : Prop} (h : P := by (with_reducible repeat (first | refine blk_drewN ?_ _ | refine blk_drew ?_ | refine blk_alloc ?_ _)); refine blk_put (cs := #[.int .u64 t266, .int .u64 t267, .int .u64 t268, .int .u64 t269, .int .i64 t270]) ?_ 1 _ rfl; (with_reducible repeat (first | refine blk_drewN ?_ _ | refine blk_drew ?_ | refine blk_alloc ?_ _)); refine blk_put (cs := #[.int .u64 t266, .int .u64 t267, .int .u64 t268, .int .u64 t269, .int .i64 0]) ?_ 4 _ rfl; (with_reducible repeat (first | refine blk_drewN ?_ _ | refine blk_drew ?_ | refine blk_alloc ?_ _)); refine blk_put (cs := #[.int .u64 t266, .int .u64 t267, .int .u64 t268, .int .u64 0, .int .i64 0]) ?_ 3 _ rfl; (with_reducible repeat (first | refine blk_drewN ?_ _ | refine blk_drew ?_ | refine blk_alloc ?_ _)); refine blk_put (cs := #[.int .u64 t266, .int .u64 t267, .int .u64 0, .int .u64 0, .int .i64 0]) ?_ 2 _ rfl; (with_reducible repeat (first | refine blk_drewN ?_ _ | refine blk_drew ?_ | refine blk_alloc ?_ _)); refine blk_put (cs := #[.int .u64 t266, .int .u64 0, .int .u64 0, .int .u64 0, .int .i64 0]) ?_ 1 _ rfl; (with_reducible repeat (first | refine blk_drewN ?_ _ | refine blk_drew ?_ | refine blk_alloc ?_ _)); refine blk_put (cs := #[.int .u64 0, .int .u64 0, .int .u64 0, .int .u64 0, .int .i64 0]) ?_ 0 _ rfl; (with_reducible repeat (first | refine blk_drewN ?_ _ | refine blk_drew ?_ | refine blk_alloc ?_ _)); exact BK272.out) : P := h
theorem u8_16 {P : Prop} (h : P := by repeat (first | (with_reducible first | exact HB.out | apply below_alloc | apply pw_below_drewN | apply below_drew1) | exact HB.out)) : P := h
theorem u8_17 {P : Prop} (h : P := by (with_reducible repeat (first | refine blk_drewN ?_ _ | refine blk_drew ?_ | refine blk_alloc ?_ _)); refine blk_put (cs := #[.slice none 0 0]) ?_ 0 _ rfl; (with_reducible repeat (first | refine blk_drewN ?_ _ | refine blk_drew ?_ | refine blk_alloc ?_ _)); exact BK244.out) : P := h
theorem u8_18 {P : Prop} (h : P := by (with_reducible repeat (first | refine blk_drewN ?_ _ | refine blk_drew ?_ | refine blk_alloc ?_ _)); refine blk_put (cs := #[.slice none 0 0]) ?_ 0 _ rfl; (with_reducible repeat (first | refine blk_drewN ?_ _ | refine blk_drew ?_ | refine blk_alloc ?_ _)); exact BK265.out) : P := h
theorem u8_19 {P : Prop} (h : P := by (with_reducible repeat (first | refine blk_drewN ?_ _ | refine blk_drew ?_ | refine blk_alloc ?_ _)); refine blk_put (cs := #[.slice none 0 0]) ?_ 0 _ rfl; (with_reducible repeat (first | refine blk_drewN ?_ _ | refine blk_drew ?_ | refine blk_alloc ?_ _)); exact BK286.out) : P := h
theorem u8_20 {P : Prop} (h : P := by (with_reducible repeat (first | refine blk_drewN ?_ _ | refine blk_drew ?_ | refine blk_alloc ?_ _)); exact BK243.out) : P := h
theorem u8_21 {P : Prop} (h : P := by (with_reducible repeat (first | refine blk_drewN ?_ _ | refine blk_drew ?_ | refine blk_alloc ?_ _)); exact BK264.out) : P := h
theorem u8_22 {P : Prop} (h : P := by (with_reducible repeat (first | refine blk_drewN ?_ _ | refine blk_drew ?_ | refine blk_alloc ?_ _)); exact BK285.out) : P := h
theorem u8_23 {P : Prop} (h : P := by repeat (first | (with_reducible first | exact HB.out | apply below_alloc | apply pw_below_drewN | apply below_drew1 | refine below_set ?_ GE243.out | refine below_set ?_ GE244.out) | exact HB.out)) : P := h
theorem u8_24 {P : Prop} (h : P := by repeat (first | (with_reducible first | exact HB.out | apply below_alloc | apply pw_below_drewN | apply below_drew1 | refine below_set ?_ GE264.out | refine below_set ?_ GE265.out) | exact HB.out)) : P := h
theorem u8_25 {P : Prop} (h : P := by repeat (first | (with_reducible first | exact HB.out | apply below_alloc | apply pw_below_drewN | apply below_drew1 | refine below_set ?_ GE285.out | refine below_set ?_ GE286.out) | exact HB.out)) : P := h
theorem u8_26 {P : Prop} (h : P := by repeat (first | exact (Kd.C_below HR0_0.out HB.out) | (with_reducible refine Kd.C_alloc ?_ _) | (with_reducible refine Kd.C_drewN ?_ _) | (with_reducible refine Kd.C_drew ?_))) : P := h
theorem u8_27 {P : Prop} (h : P := by (with_reducible repeat (first | refine blk_drewN ?_ _ | refine blk_drew ?_ | refine blk_alloc ?_ _)); exact BK244.out) : P := h
theorem u8_28 {P : Prop} (h : P := by (with_reducible repeat (first | refine blk_drewN ?_ _ | refine blk_drew ?_ | refine blk_alloc ?_ _)); exact BK265.out) : P := h
theorem u8_29 {P : Prop} (h : P := by (with_reducible repeat (first | refine blk_drewN ?_ _ | refine blk_drew ?_ | refine blk_alloc ?_ _)); exact BK286.out) : P := h
theorem u8_30 {P : Prop} (h : P := by repeat (first | (with_reducible first | exact HB.out | apply below_alloc | apply pw_below_drewN | apply below_drew1 | refine below_set ?_ GE243.out) | exact HB.out)) : P := h
theorem u8_31 {P : Prop} (h : P := by repeat (first | (with_reducible first | exact HB.out | apply below_alloc | apply pw_below_drewN | apply below_drew1 | refine below_set ?_ GE264.out) | exact HB.out)) : P := h
theorem u8_32 {P : Prop} (h : P := by repeat (first | (with_reducible first | exact HB.out | apply below_alloc | apply pw_below_drewN | apply below_drew1 | refine below_set ?_ GE285.out) | exact HB.out)) : P := h
theorem u8_33 {P : Prop} (h : P := by exact Kd.C_below HR0_0.out u8_3) : P := h
theorem u8_34 {P : Prop} (h : P := by exact Kd.C_below HR0_0.out u8_4) : P := h
theorem u8_35 {P : Prop} (h : P := by exact Kd.C_below HR0_0.out u8_5) : P := h
/-! ### spec_Deposit: function 34 -/
def spec_Deposit.f (k : Nat) (l0_0 : List (S53)) (a1 : Int) (a2 : Int) : Option ((List (S53)) × Int) := (spec_l10Of.f k l0_0 a1 1).bind fun bt245 => (if bt245.2.2.2.2.2 = 0 then (if bt245.2.2.2.2.1 = 0 then (if a2 > (IntKind.u64.wrap (18446744073709551615 - bt245.2.1)) then ((spec_l10Copy.f k l0_0).bind fun t252 => (some (t252, 5))) else ((spec_l10With.f k l0_0 bt245.1 (IntKind.u64.wrap (bt245.2.1 + a2)) bt245.2.2.1 bt245.2.2.2.1 bt245.2.2.2.2.1).bind fun t255 => (some (t255, 0)))) else ((spec_l10Copy.f k l0_0).bind fun t258 => (some (t258, 6)))) else ((spec_l10Copy.f k l0_0).bind fun t261 => (some (t261, bt245.2.2.2.2.2))))
theorem spec_Deposit.mono : ∀ a0 a1 a2 k, LeO (spec_Deposit.f k a0 a1 a2) (spec_Deposit.f (k + 1) a0 a1 a2) := by
  intro a0 a1 a2 k
  unfold spec_Deposit.f
  repeat' first
      | (with_reducible exact spec_l10Copy.mono _ _)
      | (with_reducible exact spec_l10Of.mono _ _ _ _)
      | (with_reducible exact spec_l10With.mono _ _ _ _ _ _ _)
      | (with_reducible exact LeO.refl _)
      | (with_reducible exact LeO.none _)
      | (with_reducible refine LeO.ite ?_ ?_)
      | (with_reducible refine LeO.bind ?_ (fun _ => ?_))
      | exact spec_l10Copy.mono _ _
      | exact spec_l10Of.mono _ _ _ _
      | exact spec_l10With.mono _ _ _ _ _ _ _
      | exact LeO.none _
      | refine LeO.ite ?_ ?_
      | refine LeO.bind ?_ (fun _ => ?_)
set_option maxHeartbeats 8000000 in
set_option maxRecDepth 100000 in
theorem spec_Deposit.calls (k : Nat) (A0_0 : Option Addr) (c0_0 : Nat) (l0_0 : List (S53)) (a1 : Int) (a2 : Int) (r1 : List (S53)) (r2 : Int) (w : World) (hr0_0 : Kd.C k53 w A0_0 l0_0.length l0_0) (hc0_0 : l0_0.length ≤ c0_0) (h : spec_Deposit.f k l0_0 a1 a2 = some (r1, r2)) :
    Calls Try.prog 34 #[.agg #[.slice A0_0 l0_0.length c0_0], .int .u64 a1, .int .u64 a2] w fun e w' => ∃ v0_ : Value, e = .returned (.tuple #[.agg #[v0_], .int .i64 r2]) ∧ Kd.R k53 53 w' w.heap.size (fun _ => True) v0_ r1 ∧ Below w.heap.size w w' := by
  have hu29 := Try.underlying29
  have hu53 := Try.underlying53
  have HR0_0 := Aside0.mk hr0_0
  have HC0_0 := Aside0.mk hc0_0
  clear hr0_0 hc0_0
  have HB := Aside0.mk (Below.refl w.heap.size w)
  have H : ((spec_l10Of.f k l0_0 a1 1).bind fun bt245 => (if bt245.2.2.2.2.2 = 0 then (if bt245.2.2.2.2.1 = 0 then (if a2 > (IntKind.u64.wrap (18446744073709551615 - bt245.2.1)) then ((spec_l10Copy.f k l0_0).bind fun t252 => (some (t252, 5))) else ((spec_l10With.f k l0_0 bt245.1 (IntKind.u64.wrap (bt245.2.1 + a2)) bt245.2.2.1 bt245.2.2.2.1 bt245.2.2.2.2.1).bind fun t255 => (some (t255, 0)))) else ((spec_l10Copy.f k l0_0).bind fun t258 => (some (t258, 6)))) else ((spec_l10Copy.f k l0_0).bind fun t261 => (some (t261, bt245.2.2.2.2.2))))) = some (r1, r2) := h
  clear h
  replace H := Option.bind_eq_some_iff.mp H
  obtain ⟨⟨t245, t246, t247, t248, t249, t250⟩, A40, H⟩ := H
  (try dsimp only at H)
  have A4 := Aside0.mk A40
  clear A40
  have H9 := Aside0.mk H
  clear H
  go_enter Try.func34, Try.ntmps34
  go_upto_if 16 with (first | ((with_reducible refine gate_dst (N := 3) rfl ?_); refine box_event ?hg (N := 3) ?hd (cs := #[.slice A0_0 l0_0.length c0_0]) (t := 29) ?hr ?_; (case hd => rfl); (case hg => rfl); (case hr => first | (go_simp; done) | (go_simp; rfl)); intro gb243 hg w5 hbox hb; have n0_ := Aside0.mk (below_step u8_16 hb); have n1_ := Aside0.mk (hbox); have n2_ := Aside0.mk ((by rw [hg]; exact (below_size u8_16) : w.heap.size ≤ gb243)); have n3_ := Aside0.mk ((by rw [hg]; exact (below_size u8_16) : w.heap.size ≤ gb243)); clear HB; have HB := n0_; have BK243 := n1_; have GW243 := n2_; have GE243 := n3_; clear n0_ n1_ n2_ n3_; clear hb hbox hg) | ((with_reducible refine gate_dst (N := 6) rfl ?_); refine box_event ?hg (N := 6) ?hd (cs := #[.slice none 0 0]) (t := 29) ?hr ?_; (case hd => rfl); (case hg => rfl); (case hr => first | (go_simp; done) | (go_simp; rfl)); intro gb244 hg w6 hbox hb; have n0_ := Aside0.mk (blk_below (g := gb243) (o := .cells #[.slice A0_0 l0_0.length c0_0] 29 (0, 0)) u8_20 hb); have n1_ := Aside0.mk (below_step u8_30 hb); have n2_ := Aside0.mk (hbox); have n3_ := Aside0.mk ((by rw [hg]; exact (below_size u8_30) : w.heap.size ≤ gb244)); have n4_ := Aside0.mk ((by rw [hg]; exact (below_size u8_30) : w.heap.size ≤ gb244)); have n5_ := Aside0.mk ((by rw [hg]; exact Nat.ne_of_lt (blk_lt (g := gb243) (o := .cells #[.slice A0_0 l0_0.length c0_0] 29 (0, 0)) u8_20) : gb243 ≠ gb244)); have n6_ := Aside0.mk ((by rw [hg]; exact Nat.ne_of_gt (blk_lt (g := gb243) (o := .cells #[.slice A0_0 l0_0.length c0_0] 29 (0, 0)) u8_20) : gb244 ≠ gb243)); clear BK243; clear HB; have BK243 := n0_; have HB := n1_; have BK244 := n2_; have GW244 := n3_; have GE244 := n4_; have NB243_244 := n5_; have NB244_243 := n6_; clear n0_ n1_ n2_ n3_ n4_ n5_ n6_; clear hb hbox hg; have hnb7 := NB243_244.out; have hnc7 := NB244_243.out; have hcz8_0 : w6.cell? ⟨gb243, 0, none⟩ = some (.slice A0_0 l0_0.length c0_0) := (blk_cell BK243.out 0).trans rfl; have hfz8_0 := blk_frozen BK243.out 0) | ((with_reducible refine gate_callee (f := 53) rfl ?_); refine goesL_ (some 13) rfl rfl Try.func53 (by kernel_rfl) rfl #[.agg #[.slice A0_0 l0_0.length c0_0], .int .u64 a1, .int .i64 1] rfl u8_6 ?_; (with_reducible refine (spec_l10Of.calls k _ _ l0_0 a1 1 t245 t246 t247 t248 t249 t250 _ ?side1 ?side2 A4.out).mono ?_); (case side1 => exact u8_26); (case side2 => exact HC0_0.out); rintro e w9 ⟨rfl, hb⟩; refine ⟨_, rfl, ?_⟩; have n0_ := Aside0.mk (blk_below (g := gb243) (o := .cells #[.slice A0_0 l0_0.length c0_0] 29 (0, 0)) u8_20 hb); have n1_ := Aside0.mk (blk_below (g := gb244) (o := .cells #[.slice none 0 0] 29 (0, 0)) u8_27 hb); have n2_ := Aside0.mk (below_step u8_23 hb); clear BK243; clear BK244; clear HB; have BK243 := n0_; have BK244 := n1_; have HB := n2_; clear n0_ n1_ n2_; (try clear hb); (try clear hb2); (try clear hk); (try clear hi)) | ((with_reducible refine gate_dst (N := 8) rfl ?_); refine box_event ?hg (N := 8) ?hd (cs := #[.int .u64 0, .int .u64 0, .int .u64 0, .int .u64 0, .int .i64 0]) (t := 53) ?hr ?_; (case hd => rfl); (case hg => rfl); (case hr => first | (go_simp; done) | (go_simp; rfl)); intro gb251 hg w10 hbox hb; have n0_ := Aside0.mk (blk_below (g := gb243) (o := .cells #[.slice A0_0 l0_0.length c0_0] 29 (0, 0)) u8_20 hb); have n1_ := Aside0.mk (blk_below (g := gb244) (o := .cells #[.slice none 0 0] 29 (0, 0)) u8_27 hb); have n2_ := Aside0.mk (below_step u8_23 hb); have n3_ := Aside0.mk (hbox); have n4_ := Aside0.mk ((by rw [hg]; exact (below_size u8_23) : w.heap.size ≤ gb251)); have n5_ := Aside0.mk ((by rw [hg]; exact (below_size u8_23) : w.heap.size ≤ gb251)); have n6_ := Aside0.mk ((by rw [hg]; exact Nat.ne_of_lt (blk_lt (g := gb243) (o := .cells #[.slice A0_0 l0_0.length c0_0] 29 (0, 0)) u8_20) : gb243 ≠ gb251)); have n7_ := Aside0.mk ((by rw [hg]; exact Nat.ne_of_gt (blk_lt (g := gb243) (o := .cells #[.slice A0_0 l0_0.length c0_0] 29 (0, 0)) u8_20) : gb251 ≠ gb243)); have n8_ := Aside0.mk ((by rw [hg]; exact Nat.ne_of_lt (blk_lt (g := gb244) (o := .cells #[.slice none 0 0] 29 (0, 0)) u8_27) : gb244 ≠ gb251)); have n9_ := Aside0.mk ((by rw [hg]; exact Nat.ne_of_gt (blk_lt (g := gb244) (o := .cells #[.slice none 0 0] 29 (0, 0)) u8_27) : gb251 ≠ gb244)); clear BK243; clear BK244; clear HB; have BK243 := n0_; have BK244 := n1_; have HB := n2_; have BK251 := n3_; have GW251 := n4_; have GE251 := n5_; have NB243_251 := n6_; have NB251_243 := n7_; have NB244_251 := n8_; have NB251_244 := n9_; clear n0_ n1_ n2_ n3_ n4_ n5_ n6_ n7_ n8_ n9_; clear hb hbox hg; have hnb11 := NB251_243.out; have hnc11 := NB243_251.out; have hnb12 := NB251_244.out; have hnc12 := NB244_251.out; have hcz13_0 : w10.cell? ⟨gb251, 0, none⟩ = some (.int .u64 0) := (blk_cell BK251.out 0).trans rfl; have hcz13_1 : w10.cell? ⟨gb251, 1, none⟩ = some (.int .u64 0) := (blk_cell BK251.out 1).trans rfl; have hcz13_2 : w10.cell? ⟨gb251, 2, none⟩ = some (.int .u64 0) := (blk_cell BK251.out 2).trans rfl; have hcz13_3 : w10.cell? ⟨gb251, 3, none⟩ = some (.int .u64 0) := (blk_cell BK251.out 3).trans rfl; have hcz13_4 : w10.cell? ⟨gb251, 4, none⟩ = some (.int .i64 0) := (blk_cell BK251.out 4).trans rfl; have hfz13_0 := blk_frozen BK251.out 0; have hfz13_1 := blk_frozen BK251.out 1; have hfz13_2 := blk_frozen BK251.out 2; have hfz13_3 := blk_frozen BK251.out 3; have hfz13_4 := blk_frozen BK251.out 4))
  have H := H9.out
  clear H9
  by_cases c14 : t250 = 0
  rotate_left
  · rw [if_neg c14] at H
    have c14b0 : (t250 == 0) = false := beq_eq_false_iff_ne.mpr c14
    have c14b1 : (t250 != 0) = true := bne_iff_ne.mpr c14
    (first | rw [c14b0] | (simp only [i64_w, i32_w]; rw [c14b0]) | skip)
    replace H := Option.bind_eq_some_iff.mp H
    obtain ⟨t261, A440, H⟩ := H
    replace H : (some (t261, t250)) = some (r1, r2) := H
    have A44 := Aside0.mk A440
    clear A440
    simp only [Option.some.injEq, Prod.mk.injEq] at H
    obtain ⟨rfl, rfl⟩ := H
    have hnb45 := NB243_244.out
    have hnc45 := NB244_243.out
    have hnb46 := NB243_251.out
    have hnc46 := NB251_243.out
    have hcz47_0 : w10.cell? ⟨gb243, 0, none⟩ = some (.slice A0_0 l0_0.length c0_0) := (blk_cell BK243.out 0).trans rfl
    have hfz47_0 := blk_frozen BK243.out 0
    go_wp2_with (first | ((with_reducible refine gate_callee (f := 54) rfl ?_); refine goesL_ (some 20) rfl rfl Try.func54 (by kernel_rfl) rfl #[.agg #[.slice A0_0 l0_0.length c0_0]] rfl u8_6 ?_; (with_reducible refine (spec_l10Copy.calls k _ _ l0_0 t261 _ ?side1 ?side2 A44.out).mono ?_); (case side1 => exact u8_33); (case side2 => exact HC0_0.out); rintro e w48 ⟨v262, rfl, ho0, hb⟩; refine ⟨_, rfl, ?_⟩; have n0_ := Aside0.mk (Kd.R_lower (Kd.R_newB ho0 (g := gb251) (o := .cells #[.int .u64 t245, .int .u64 t246, .int .u64 t247, .int .u64 t248, .int .i64 t249] 53 (0, 0)) u8_0) (below_size u8_3)); have n1_ := Aside0.mk (blk_below (g := gb243) (o := .cells #[.slice A0_0 l0_0.length c0_0] 29 (0, 0)) u8_8 hb); have n2_ := Aside0.mk (blk_below (g := gb244) (o := .cells #[.slice none 0 0] 29 (0, 0)) u8_9 hb); have n3_ := Aside0.mk (blk_below (g := gb251) (o := .cells #[.int .u64 t245, .int .u64 t246, .int .u64 t247, .int .u64 t248, .int .i64 t249] 53 (0, 0)) u8_0 hb); have n4_ := Aside0.mk (below_step u8_3 hb); clear BK243; clear BK244; clear BK251; clear HB; have HO263 := n0_; have BK243 := n1_; have BK244 := n2_; have BK251 := n3_; have HB := n4_; clear n0_ n1_ n2_ n3_ n4_; (try clear hb); (try clear hb2); (try clear hk); (try clear hi); (try clear ho0); obtain ⟨Ao49, co49, eo49⟩ := Kd.R_slice HO263.out; subst eo49; have hnb50 := NB244_251.out; have hnc50 := NB251_244.out; have hcz51_0 : w48.cell? ⟨gb244, 0, none⟩ = some (.slice none 0 0) := (blk_cell BK244.out 0).trans rfl; have hfz51_0 := blk_frozen BK244.out 0))
    refine bodyPost_ret (results_ct rfl _ _ gb244 29 #[.slice Ao49 t261.length co49] (0, 0) _ rfl u8_17 Try.underlying29 rfl (by kernel_rfl)) rfl ?_
    exact ⟨_, by first | rfl | (simp [errW_none, errW_some] <;> rfl) | (simp [*, errW_none, errW_some] <;> rfl), (by (with_reducible repeat (first | apply Kd.R_alloc | apply Kd.R_drewN | apply Kd.R_drew)); exact Kd.R_mono (Kd.R_far (p := ⟨gb244, 0, none⟩) (Kd.R_types HO263.out BK244.out (by decide)) (fun _ hk => hk.2) (.slice Ao49 t261.length co49)) (fun _ hk => trivial)), u8_3⟩
  rw [if_pos c14] at H
  have c14b0 : (t250 == 0) = true := beq_iff_eq.mpr c14
  have c14b1 : (t250 != 0) = false := bne_eq_false_iff_eq.mpr c14
  clear c14
  (first | rw [c14b0] | (simp only [i64_w, i32_w]; rw [c14b0]) | skip)
  by_cases c15 : t249 = 0
  rotate_left
  · rw [if_neg c15] at H
    have c15b0 : (t249 == 0) = false := beq_eq_false_iff_ne.mpr c15
    have c15b1 : (t249 != 0) = true := bne_iff_ne.mpr c15
    replace H := Option.bind_eq_some_iff.mp H
    obtain ⟨t258, A350, H⟩ := H
    replace H : (some (t258, 6)) = some (r1, r2) := H
    have A35 := Aside0.mk A350
    clear A350
    simp only [Option.some.injEq, Prod.mk.injEq] at H
    obtain ⟨rfl, rfl⟩ := H
    have hnb36 := NB251_243.out
    have hnc36 := NB243_251.out
    have hnb37 := NB251_244.out
    have hnc37 := NB244_251.out
    have hcz38_0 : w10.cell? ⟨gb251, 0, none⟩ = some (.int .u64 0) := (blk_cell BK251.out 0).trans rfl
    have hcz38_1 : w10.cell? ⟨gb251, 1, none⟩ = some (.int .u64 0) := (blk_cell BK251.out 1).trans rfl
    have hcz38_2 : w10.cell? ⟨gb251, 2, none⟩ = some (.int .u64 0) := (blk_cell BK251.out 2).trans rfl
    have hcz38_3 : w10.cell? ⟨gb251, 3, none⟩ = some (.int .u64 0) := (blk_cell BK251.out 3).trans rfl
    have hcz38_4 : w10.cell? ⟨gb251, 4, none⟩ = some (.int .i64 0) := (blk_cell BK251.out 4).trans rfl
    have hfz38_0 := blk_frozen BK251.out 0
    have hfz38_1 := blk_frozen BK251.out 1
    have hfz38_2 := blk_frozen BK251.out 2
    have hfz38_3 := blk_frozen BK251.out 3
    have hfz38_4 := blk_frozen BK251.out 4
    have hnb39 := NB243_244.out
    have hnc39 := NB244_243.out
    have hcz40_0 : w10.cell? ⟨gb243, 0, none⟩ = some (.slice A0_0 l0_0.length c0_0) := (blk_cell BK243.out 0).trans rfl
    have hfz40_0 := blk_frozen BK243.out 0
    go_wp2_with (first | ((with_reducible refine gate_callee (f := 54) rfl ?_); refine goesL_ (some 27) rfl rfl Try.func54 (by kernel_rfl) rfl #[.agg #[.slice A0_0 l0_0.length c0_0]] rfl u8_6 ?_; (with_reducible refine (spec_l10Copy.calls k _ _ l0_0 t258 _ ?side1 ?side2 A35.out).mono ?_); (case side1 => exact u8_33); (case side2 => exact HC0_0.out); rintro e w41 ⟨v259, rfl, ho0, hb⟩; refine ⟨_, rfl, ?_⟩; have n0_ := Aside0.mk (Kd.R_lower (Kd.R_newB ho0 (g := gb251) (o := .cells #[.int .u64 t245, .int .u64 t246, .int .u64 t247, .int .u64 t248, .int .i64 t249] 53 (0, 0)) u8_0) (below_size u8_3)); have n1_ := Aside0.mk (blk_below (g := gb243) (o := .cells #[.slice A0_0 l0_0.length c0_0] 29 (0, 0)) u8_8 hb); have n2_ := Aside0.mk (blk_below (g := gb244) (o := .cells #[.slice none 0 0] 29 (0, 0)) u8_9 hb); have n3_ := Aside0.mk (blk_below (g := gb251) (o := .cells #[.int .u64 t245, .int .u64 t246, .int .u64 t247, .int .u64 t248, .int .i64 t249] 53 (0, 0)) u8_0 hb); have n4_ := Aside0.mk (below_step u8_3 hb); clear BK243; clear BK244; clear BK251; clear HB; have HO260 := n0_; have BK243 := n1_; have BK244 := n2_; have BK251 := n3_; have HB := n4_; clear n0_ n1_ n2_ n3_ n4_; (try clear hb); (try clear hb2); (try clear hk); (try clear hi); (try clear ho0); obtain ⟨Ao42, co42, eo42⟩ := Kd.R_slice HO260.out; subst eo42; have hcz43_0 : w41.cell? ⟨gb244, 0, none⟩ = some (.slice none 0 0) := (blk_cell BK244.out 0).trans rfl; have hfz43_0 := blk_frozen BK244.out 0))
    refine bodyPost_ret (results_ct rfl _ _ gb244 29 #[.slice Ao42 t258.length co42] (0, 0) _ rfl u8_17 Try.underlying29 rfl (by kernel_rfl)) rfl ?_
    exact ⟨_, by first | rfl | (simp [errW_none, errW_some] <;> rfl) | (simp [*, errW_none, errW_some] <;> rfl), (by (with_reducible repeat (first | apply Kd.R_alloc | apply Kd.R_drewN | apply Kd.R_drew)); exact Kd.R_mono (Kd.R_far (p := ⟨gb244, 0, none⟩) (Kd.R_types HO260.out BK244.out (by decide)) (fun _ hk => hk.2) (.slice Ao42 t258.length co42)) (fun _ hk => trivial)), u8_3⟩
  rw [if_pos c15] at H
  have c15b0 : (t249 == 0) = true := beq_iff_eq.mpr c15
  have c15b1 : (t249 != 0) = false := bne_eq_false_iff_eq.mpr c15
  clear c15
  by_cases c16 : a2 > (IntKind.u64.wrap (18446744073709551615 - t246))
  · rw [if_pos c16] at H
    have c16b0 : decide ((IntKind.u64.wrap (18446744073709551615 - t246)) < a2) = true := decide_eq_true c16
    clear c16
    replace H := Option.bind_eq_some_iff.mp H
    obtain ⟨t252, A170, H⟩ := H
    replace H : (some (t252, 5)) = some (r1, r2) := H
    have A17 := Aside0.mk A170
    clear A170
    simp only [Option.some.injEq, Prod.mk.injEq] at H
    obtain ⟨rfl, rfl⟩ := H
    have hnb18 := NB251_243.out
    have hnc18 := NB243_251.out
    have hnb19 := NB251_244.out
    have hnc19 := NB244_251.out
    have hcz20_0 : w10.cell? ⟨gb251, 0, none⟩ = some (.int .u64 0) := (blk_cell BK251.out 0).trans rfl
    have hcz20_1 : w10.cell? ⟨gb251, 1, none⟩ = some (.int .u64 0) := (blk_cell BK251.out 1).trans rfl
    have hcz20_2 : w10.cell? ⟨gb251, 2, none⟩ = some (.int .u64 0) := (blk_cell BK251.out 2).trans rfl
    have hcz20_3 : w10.cell? ⟨gb251, 3, none⟩ = some (.int .u64 0) := (blk_cell BK251.out 3).trans rfl
    have hcz20_4 : w10.cell? ⟨gb251, 4, none⟩ = some (.int .i64 0) := (blk_cell BK251.out 4).trans rfl
    have hfz20_0 := blk_frozen BK251.out 0
    have hfz20_1 := blk_frozen BK251.out 1
    have hfz20_2 := blk_frozen BK251.out 2
    have hfz20_3 := blk_frozen BK251.out 3
    have hfz20_4 := blk_frozen BK251.out 4
    have hnb21 := NB243_244.out
    have hnc21 := NB244_243.out
    have hcz22_0 : w10.cell? ⟨gb243, 0, none⟩ = some (.slice A0_0 l0_0.length c0_0) := (blk_cell BK243.out 0).trans rfl
    have hfz22_0 := blk_frozen BK243.out 0
    go_wp2_with (first | ((with_reducible refine gate_callee (f := 54) rfl ?_); refine goesL_ (some 35) rfl rfl Try.func54 (by kernel_rfl) rfl #[.agg #[.slice A0_0 l0_0.length c0_0]] rfl u8_6 ?_; (with_reducible refine (spec_l10Copy.calls k _ _ l0_0 t252 _ ?side1 ?side2 A17.out).mono ?_); (case side1 => exact u8_33); (case side2 => exact HC0_0.out); rintro e w23 ⟨v253, rfl, ho0, hb⟩; refine ⟨_, rfl, ?_⟩; have n0_ := Aside0.mk (Kd.R_lower (Kd.R_newB ho0 (g := gb251) (o := .cells #[.int .u64 t245, .int .u64 t246, .int .u64 t247, .int .u64 t248, .int .i64 t249] 53 (0, 0)) u8_0) (below_size u8_3)); have n1_ := Aside0.mk (blk_below (g := gb243) (o := .cells #[.slice A0_0 l0_0.length c0_0] 29 (0, 0)) u8_8 hb); have n2_ := Aside0.mk (blk_below (g := gb244) (o := .cells #[.slice none 0 0] 29 (0, 0)) u8_9 hb); have n3_ := Aside0.mk (blk_below (g := gb251) (o := .cells #[.int .u64 t245, .int .u64 t246, .int .u64 t247, .int .u64 t248, .int .i64 t249] 53 (0, 0)) u8_0 hb); have n4_ := Aside0.mk (below_step u8_3 hb); clear BK243; clear BK244; clear BK251; clear HB; have HO254 := n0_; have BK243 := n1_; have BK244 := n2_; have BK251 := n3_; have HB := n4_; clear n0_ n1_ n2_ n3_ n4_; (try clear hb); (try clear hb2); (try clear hk); (try clear hi); (try clear ho0); obtain ⟨Ao24, co24, eo24⟩ := Kd.R_slice HO254.out; subst eo24; have hcz25_0 : w23.cell? ⟨gb244, 0, none⟩ = some (.slice none 0 0) := (blk_cell BK244.out 0).trans rfl; have hfz25_0 := blk_frozen BK244.out 0))
    refine bodyPost_ret (results_ct rfl _ _ gb244 29 #[.slice Ao24 t252.length co24] (0, 0) _ rfl u8_17 Try.underlying29 rfl (by kernel_rfl)) rfl ?_
    exact ⟨_, by first | rfl | (simp [errW_none, errW_some] <;> rfl) | (simp [*, errW_none, errW_some] <;> rfl), (by (with_reducible repeat (first | apply Kd.R_alloc | apply Kd.R_drewN | apply Kd.R_drew)); exact Kd.R_mono (Kd.R_far (p := ⟨gb244, 0, none⟩) (Kd.R_types HO254.out BK244.out (by decide)) (fun _ hk => hk.2) (.slice Ao24 t252.length co24)) (fun _ hk => trivial)), u8_3⟩
  rw [if_neg c16] at H
  have c16b0 : decide ((IntKind.u64.wrap (18446744073709551615 - t246)) < a2) = false := decide_eq_false c16
  clear c16
  replace H := Option.bind_eq_some_iff.mp H
  obtain ⟨t255, A260, H⟩ := H
  replace H : (some (t255, 0)) = some (r1, r2) := H
  have A26 := Aside0.mk A260
  clear A260
  simp only [Option.some.injEq, Prod.mk.injEq] at H
  obtain ⟨rfl, rfl⟩ := H
  have hnb27 := NB251_243.out
  have hnc27 := NB243_251.out
  have hnb28 := NB251_244.out
  have hnc28 := NB244_251.out
  have hcz29_0 : w10.cell? ⟨gb251, 0, none⟩ = some (.int .u64 0) := (blk_cell BK251.out 0).trans rfl
  have hcz29_1 : w10.cell? ⟨gb251, 1, none⟩ = some (.int .u64 0) := (blk_cell BK251.out 1).trans rfl
  have hcz29_2 : w10.cell? ⟨gb251, 2, none⟩ = some (.int .u64 0) := (blk_cell BK251.out 2).trans rfl
  have hcz29_3 : w10.cell? ⟨gb251, 3, none⟩ = some (.int .u64 0) := (blk_cell BK251.out 3).trans rfl
  have hcz29_4 : w10.cell? ⟨gb251, 4, none⟩ = some (.int .i64 0) := (blk_cell BK251.out 4).trans rfl
  have hfz29_0 := blk_frozen BK251.out 0
  have hfz29_1 := blk_frozen BK251.out 1
  have hfz29_2 := blk_frozen BK251.out 2
  have hfz29_3 := blk_frozen BK251.out 3
  have hfz29_4 := blk_frozen BK251.out 4
  have hnb30 := NB243_244.out
  have hnc30 := NB244_243.out
  have hcz31_0 : w10.cell? ⟨gb243, 0, none⟩ = some (.slice A0_0 l0_0.length c0_0) := (blk_cell BK243.out 0).trans rfl
  have hfz31_0 := blk_frozen BK243.out 0
  go_wp2_with (first | ((with_reducible refine gate_callee (f := 55) rfl ?_); refine goesL_ (some 43) rfl rfl Try.func55 (by kernel_rfl) rfl #[.agg #[.slice A0_0 l0_0.length c0_0], .agg #[.int .u64 t245, .int .u64 (IntKind.u64.wrap (t246 + a2)), .int .u64 t247, .int .u64 t248, .int .i64 t249]] rfl u8_6 ?_; (with_reducible refine (spec_l10With.calls k _ _ l0_0 t245 (IntKind.u64.wrap (t246 + a2)) t247 t248 t249 t255 _ ?side1 ?side2 A26.out).mono ?_); (case side1 => exact u8_33); (case side2 => exact HC0_0.out); rintro e w32 ⟨v256, rfl, ho0, hb⟩; refine ⟨_, rfl, ?_⟩; have n0_ := Aside0.mk (Kd.R_lower (Kd.R_newB ho0 (g := gb251) (o := .cells #[.int .u64 t245, .int .u64 (IntKind.u64.wrap (t246 + a2)), .int .u64 t247, .int .u64 t248, .int .i64 t249] 53 (0, 0)) u8_14) (below_size u8_3)); have n1_ := Aside0.mk (blk_below (g := gb243) (o := .cells #[.slice A0_0 l0_0.length c0_0] 29 (0, 0)) (by (with_reducible repeat (first | refine blk_drewN ?_ _ | refine blk_drew ?_ | refine blk_alloc ?_ _)); refine blk_far ?_ NB243_251.out _; (with_reducible repeat (first | refine blk_drewN ?_ _ | refine blk_drew ?_ | refine blk_alloc ?_ _)); refine blk_far ?_ NB243_251.out _; (with_reducible repeat (first | refine blk_drewN ?_ _ | refine blk_drew ?_ | refine blk_alloc ?_ _)); refine blk_far ?_ NB243_251.out _; (with_reducible repeat (first | refine blk_drewN ?_ _ | refine blk_drew ?_ | refine blk_alloc ?_ _)); refine blk_far ?_ NB243_251.out _; (with_reducible repeat (first | refine blk_drewN ?_ _ | refine blk_drew ?_ | refine blk_alloc ?_ _)); refine blk_far ?_ NB243_251.out _; (with_reducible repeat (first | refine blk_drewN ?_ _ | refine blk_drew ?_ | refine blk_alloc ?_ _)); refine blk_far ?_ NB243_251.out _; (with_reducible repeat (first | refine blk_drewN ?_ _ | refine blk_drew ?_ | refine blk_alloc ?_ _)); exact BK243.out) hb); have n2_ := Aside0.mk (blk_below (g := gb244) (o := .cells #[.slice none 0 0] 29 (0, 0)) (by (with_reducible repeat (first | refine blk_drewN ?_ _ | refine blk_drew ?_ | refine blk_alloc ?_ _)); refine blk_far ?_ NB244_251.out _; (with_reducible repeat (first | refine blk_drewN ?_ _ | refine blk_drew ?_ | refine blk_alloc ?_ _)); refine blk_far ?_ NB244_251.out _; (with_reducible repeat (first | refine blk_drewN ?_ _ | refine blk_drew ?_ | refine blk_alloc ?_ _)); refine blk_far ?_ NB244_251.out _; (with_reducible repeat (first | refine blk_drewN ?_ _ | refine blk_drew ?_ | refine blk_alloc ?_ _)); refine blk_far ?_ NB244_251.out _; (with_reducible repeat (first | refine blk_drewN ?_ _ | refine blk_drew ?_ | refine blk_alloc ?_ _)); refine blk_far ?_ NB244_251.out _; (with_reducible repeat (first | refine blk_drewN ?_ _ | refine blk_drew ?_ | refine blk_alloc ?_ _)); refine blk_far ?_ NB244_251.out _; (with_reducible repeat (first | refine blk_drewN ?_ _ | refine blk_drew ?_ | refine blk_alloc ?_ _)); exact BK244.out) hb); have n3_ := Aside0.mk (blk_below (g := gb251) (o := .cells #[.int .u64 t245, .int .u64 (IntKind.u64.wrap (t246 + a2)), .int .u64 t247, .int .u64 t248, .int .i64 t249] 53 (0, 0)) u8_14 hb); have n4_ := Aside0.mk (below_step u8_3 hb); clear BK243; clear BK244; clear BK251; clear HB; have HO257 := n0_; have BK243 := n1_; have BK244 := n2_; have BK251 := n3_; have HB := n4_; clear n0_ n1_ n2_ n3_ n4_; (try clear hb); (try clear hb2); (try clear hk); (try clear hi); (try clear ho0); obtain ⟨Ao33, co33, eo33⟩ := Kd.R_slice HO257.out; subst eo33; have hcz34_0 : w32.cell? ⟨gb244, 0, none⟩ = some (.slice none 0 0) := (blk_cell BK244.out 0).trans rfl; have hfz34_0 := blk_frozen BK244.out 0))
  refine bodyPost_ret (results_ct rfl _ _ gb244 29 #[.slice Ao33 t255.length co33] (0, 0) _ rfl u8_17 Try.underlying29 rfl (by kernel_rfl)) rfl ?_
  exact ⟨_, by first | rfl | (simp [errW_none, errW_some] <;> rfl) | (simp [*, errW_none, errW_some] <;> rfl), (by (with_reducible repeat (first | apply Kd.R_alloc | apply Kd.R_drewN | apply Kd.R_drew)); exact Kd.R_mono (Kd.R_far (p := ⟨gb244, 0, none⟩) (Kd.R_types HO257.out BK244.out (by decide)) (fun _ hk => hk.2) (.slice Ao33 t255.length co33)) (fun _ hk => trivial)), u8_3⟩

/-! ### spec_Withdraw: function 36 -/
def spec_Withdraw.f (k : Nat) (l0_0 : List (S53)) (a1 : Int) (a2 : Int) : Option ((List (S53)) × Int) := (spec_l10Of.f k l0_0 a1 1).bind fun bt266 => (if bt266.2.2.2.2.2 = 0 then (if bt266.2.2.2.2.1 = 0 then (if a2 > bt266.2.1 then ((spec_l10Copy.f k l0_0).bind fun t273 => (some (t273, 4))) else ((spec_l10With.f k l0_0 bt266.1 (IntKind.u64.wrap (bt266.2.1 - a2)) bt266.2.2.1 bt266.2.2.2.1 bt266.2.2.2.2.1).bind fun t276 => (some (t276, 0)))) else ((spec_l10Copy.f k l0_0).bind fun t279 => (some (t279, 6)))) else ((spec_l10Copy.f k l0_0).bind fun t282 => (some (t282, bt266.2.2.2.2.2))))
theorem spec_Withdraw.mono : ∀ a0 a1 a2 k, LeO (spec_Withdraw.f k a0 a1 a2) (spec_Withdraw.f (k + 1) a0 a1 a2) := by
  intro a0 a1 a2 k
  unfold spec_Withdraw.f
  repeat' first
      | (with_reducible exact spec_l10Copy.mono _ _)
      | (with_reducible exact spec_l10Of.mono _ _ _ _)
      | (with_reducible exact spec_l10With.mono _ _ _ _ _ _ _)
      | (with_reducible exact LeO.refl _)
      | (with_reducible exact LeO.none _)
      | (with_reducible refine LeO.ite ?_ ?_)
      | (with_reducible refine LeO.bind ?_ (fun _ => ?_))
      | exact spec_l10Copy.mono _ _
      | exact spec_l10Of.mono _ _ _ _
      | exact spec_l10With.mono _ _ _ _ _ _ _
      | exact LeO.none _
      | refine LeO.ite ?_ ?_
      | refine LeO.bind ?_ (fun _ => ?_)
set_option maxHeartbeats 8000000 in
set_option maxRecDepth 100000 in
theorem spec_Withdraw.calls (k : Nat) (A0_0 : Option Addr) (c0_0 : Nat) (l0_0 : List (S53)) (a1 : Int) (a2 : Int) (r1 : List (S53)) (r2 : Int) (w : World) (hr0_0 : Kd.C k53 w A0_0 l0_0.length l0_0) (hc0_0 : l0_0.length ≤ c0_0) (h : spec_Withdraw.f k l0_0 a1 a2 = some (r1, r2)) :
    Calls Try.prog 36 #[.agg #[.slice A0_0 l0_0.length c0_0], .int .u64 a1, .int .u64 a2] w fun e w' => ∃ v0_ : Value, e = .returned (.tuple #[.agg #[v0_], .int .i64 r2]) ∧ Kd.R k53 53 w' w.heap.size (fun _ => True) v0_ r1 ∧ Below w.heap.size w w' := by
  have hu29 := Try.underlying29
  have hu53 := Try.underlying53
  have HR0_0 := Aside0.mk hr0_0
  have HC0_0 := Aside0.mk hc0_0
  clear hr0_0 hc0_0
  have HB := Aside0.mk (Below.refl w.heap.size w)
  have H : ((spec_l10Of.f k l0_0 a1 1).bind fun bt266 => (if bt266.2.2.2.2.2 = 0 then (if bt266.2.2.2.2.1 = 0 then (if a2 > bt266.2.1 then ((spec_l10Copy.f k l0_0).bind fun t273 => (some (t273, 4))) else ((spec_l10With.f k l0_0 bt266.1 (IntKind.u64.wrap (bt266.2.1 - a2)) bt266.2.2.1 bt266.2.2.2.1 bt266.2.2.2.2.1).bind fun t276 => (some (t276, 0)))) else ((spec_l10Copy.f k l0_0).bind fun t279 => (some (t279, 6)))) else ((spec_l10Copy.f k l0_0).bind fun t282 => (some (t282, bt266.2.2.2.2.2))))) = some (r1, r2) := h
  clear h
  replace H := Option.bind_eq_some_iff.mp H
  obtain ⟨⟨t266, t267, t268, t269, t270, t271⟩, A40, H⟩ := H
  (try dsimp only at H)
  have A4 := Aside0.mk A40
  clear A40
  have H9 := Aside0.mk H
  clear H
  go_enter Try.func36, Try.ntmps36
  go_upto_if 16 with (first | ((with_reducible refine gate_dst (N := 3) rfl ?_); refine box_event ?hg (N := 3) ?hd (cs := #[.slice A0_0 l0_0.length c0_0]) (t := 29) ?hr ?_; (case hd => rfl); (case hg => rfl); (case hr => first | (go_simp; done) | (go_simp; rfl)); intro gb264 hg w5 hbox hb; have n0_ := Aside0.mk (below_step u8_16 hb); have n1_ := Aside0.mk (hbox); have n2_ := Aside0.mk ((by rw [hg]; exact (below_size u8_16) : w.heap.size ≤ gb264)); have n3_ := Aside0.mk ((by rw [hg]; exact (below_size u8_16) : w.heap.size ≤ gb264)); clear HB; have HB := n0_; have BK264 := n1_; have GW264 := n2_; have GE264 := n3_; clear n0_ n1_ n2_ n3_; clear hb hbox hg) | ((with_reducible refine gate_dst (N := 6) rfl ?_); refine box_event ?hg (N := 6) ?hd (cs := #[.slice none 0 0]) (t := 29) ?hr ?_; (case hd => rfl); (case hg => rfl); (case hr => first | (go_simp; done) | (go_simp; rfl)); intro gb265 hg w6 hbox hb; have n0_ := Aside0.mk (blk_below (g := gb264) (o := .cells #[.slice A0_0 l0_0.length c0_0] 29 (0, 0)) u8_21 hb); have n1_ := Aside0.mk (below_step u8_31 hb); have n2_ := Aside0.mk (hbox); have n3_ := Aside0.mk ((by rw [hg]; exact (below_size u8_31) : w.heap.size ≤ gb265)); have n4_ := Aside0.mk ((by rw [hg]; exact (below_size u8_31) : w.heap.size ≤ gb265)); have n5_ := Aside0.mk ((by rw [hg]; exact Nat.ne_of_lt (blk_lt (g := gb264) (o := .cells #[.slice A0_0 l0_0.length c0_0] 29 (0, 0)) u8_21) : gb264 ≠ gb265)); have n6_ := Aside0.mk ((by rw [hg]; exact Nat.ne_of_gt (blk_lt (g := gb264) (o := .cells #[.slice A0_0 l0_0.length c0_0] 29 (0, 0)) u8_21) : gb265 ≠ gb264)); clear BK264; clear HB; have BK264 := n0_; have HB := n1_; have BK265 := n2_; have GW265 := n3_; have GE265 := n4_; have NB264_265 := n5_; have NB265_264 := n6_; clear n0_ n1_ n2_ n3_ n4_ n5_ n6_; clear hb hbox hg; have hnb7 := NB264_265.out; have hnc7 := NB265_264.out; have hcz8_0 : w6.cell? ⟨gb264, 0, none⟩ = some (.slice A0_0 l0_0.length c0_0) := (blk_cell BK264.out 0).trans rfl; have hfz8_0 := blk_frozen BK264.out 0) | ((with_reducible refine gate_callee (f := 53) rfl ?_); refine goesL_ (some 13) rfl rfl Try.func53 (by kernel_rfl) rfl #[.agg #[.slice A0_0 l0_0.length c0_0], .int .u64 a1, .int .i64 1] rfl u8_6 ?_; (with_reducible refine (spec_l10Of.calls k _ _ l0_0 a1 1 t266 t267 t268 t269 t270 t271 _ ?side1 ?side2 A4.out).mono ?_); (case side1 => exact u8_26); (case side2 => exact HC0_0.out); rintro e w9 ⟨rfl, hb⟩; refine ⟨_, rfl, ?_⟩; have n0_ := Aside0.mk (blk_below (g := gb264) (o := .cells #[.slice A0_0 l0_0.length c0_0] 29 (0, 0)) u8_21 hb); have n1_ := Aside0.mk (blk_below (g := gb265) (o := .cells #[.slice none 0 0] 29 (0, 0)) u8_28 hb); have n2_ := Aside0.mk (below_step u8_24 hb); clear BK264; clear BK265; clear HB; have BK264 := n0_; have BK265 := n1_; have HB := n2_; clear n0_ n1_ n2_; (try clear hb); (try clear hb2); (try clear hk); (try clear hi)) | ((with_reducible refine gate_dst (N := 8) rfl ?_); refine box_event ?hg (N := 8) ?hd (cs := #[.int .u64 0, .int .u64 0, .int .u64 0, .int .u64 0, .int .i64 0]) (t := 53) ?hr ?_; (case hd => rfl); (case hg => rfl); (case hr => first | (go_simp; done) | (go_simp; rfl)); intro gb272 hg w10 hbox hb; have n0_ := Aside0.mk (blk_below (g := gb264) (o := .cells #[.slice A0_0 l0_0.length c0_0] 29 (0, 0)) u8_21 hb); have n1_ := Aside0.mk (blk_below (g := gb265) (o := .cells #[.slice none 0 0] 29 (0, 0)) u8_28 hb); have n2_ := Aside0.mk (below_step u8_24 hb); have n3_ := Aside0.mk (hbox); have n4_ := Aside0.mk ((by rw [hg]; exact (below_size u8_24) : w.heap.size ≤ gb272)); have n5_ := Aside0.mk ((by rw [hg]; exact (below_size u8_24) : w.heap.size ≤ gb272)); have n6_ := Aside0.mk ((by rw [hg]; exact Nat.ne_of_lt (blk_lt (g := gb264) (o := .cells #[.slice A0_0 l0_0.length c0_0] 29 (0, 0)) u8_21) : gb264 ≠ gb272)); have n7_ := Aside0.mk ((by rw [hg]; exact Nat.ne_of_gt (blk_lt (g := gb264) (o := .cells #[.slice A0_0 l0_0.length c0_0] 29 (0, 0)) u8_21) : gb272 ≠ gb264)); have n8_ := Aside0.mk ((by rw [hg]; exact Nat.ne_of_lt (blk_lt (g := gb265) (o := .cells #[.slice none 0 0] 29 (0, 0)) u8_28) : gb265 ≠ gb272)); have n9_ := Aside0.mk ((by rw [hg]; exact Nat.ne_of_gt (blk_lt (g := gb265) (o := .cells #[.slice none 0 0] 29 (0, 0)) u8_28) : gb272 ≠ gb265)); clear BK264; clear BK265; clear HB; have BK264 := n0_; have BK265 := n1_; have HB := n2_; have BK272 := n3_; have GW272 := n4_; have GE272 := n5_; have NB264_272 := n6_; have NB272_264 := n7_; have NB265_272 := n8_; have NB272_265 := n9_; clear n0_ n1_ n2_ n3_ n4_ n5_ n6_ n7_ n8_ n9_; clear hb hbox hg; have hnb11 := NB272_264.out; have hnc11 := NB264_272.out; have hnb12 := NB272_265.out; have hnc12 := NB265_272.out; have hcz13_0 : w10.cell? ⟨gb272, 0, none⟩ = some (.int .u64 0) := (blk_cell BK272.out 0).trans rfl; have hcz13_1 : w10.cell? ⟨gb272, 1, none⟩ = some (.int .u64 0) := (blk_cell BK272.out 1).trans rfl; have hcz13_2 : w10.cell? ⟨gb272, 2, none⟩ = some (.int .u64 0) := (blk_cell BK272.out 2).trans rfl; have hcz13_3 : w10.cell? ⟨gb272, 3, none⟩ = some (.int .u64 0) := (blk_cell BK272.out 3).trans rfl; have hcz13_4 : w10.cell? ⟨gb272, 4, none⟩ = some (.int .i64 0) := (blk_cell BK272.out 4).trans rfl; have hfz13_0 := blk_frozen BK272.out 0; have hfz13_1 := blk_frozen BK272.out 1; have hfz13_2 := blk_frozen BK272.out 2; have hfz13_3 := blk_frozen BK272.out 3; have hfz13_4 := blk_frozen BK272.out 4))
  have H := H9.out
  clear H9
  by_cases c14 : t271 = 0
  rotate_left
  · rw [if_neg c14] at H
    have c14b0 : (t271 == 0) = false := beq_eq_false_iff_ne.mpr c14
    have c14b1 : (t271 != 0) = true := bne_iff_ne.mpr c14
    (first | rw [c14b0] | (simp only [i64_w, i32_w]; rw [c14b0]) | skip)
    replace H := Option.bind_eq_some_iff.mp H
    obtain ⟨t282, A440, H⟩ := H
    replace H : (some (t282, t271)) = some (r1, r2) := H
    have A44 := Aside0.mk A440
    clear A440
    simp only [Option.some.injEq, Prod.mk.injEq] at H
    obtain ⟨rfl, rfl⟩ := H
    have hnb45 := NB264_265.out
    have hnc45 := NB265_264.out
    have hnb46 := NB264_272.out
    have hnc46 := NB272_264.out
    have hcz47_0 : w10.cell? ⟨gb264, 0, none⟩ = some (.slice A0_0 l0_0.length c0_0) := (blk_cell BK264.out 0).trans rfl
    have hfz47_0 := blk_frozen BK264.out 0
    go_wp2_with (first | ((with_reducible refine gate_callee (f := 54) rfl ?_); refine goesL_ (some 20) rfl rfl Try.func54 (by kernel_rfl) rfl #[.agg #[.slice A0_0 l0_0.length c0_0]] rfl u8_6 ?_; (with_reducible refine (spec_l10Copy.calls k _ _ l0_0 t282 _ ?side1 ?side2 A44.out).mono ?_); (case side1 => exact u8_34); (case side2 => exact HC0_0.out); rintro e w48 ⟨v283, rfl, ho0, hb⟩; refine ⟨_, rfl, ?_⟩; have n0_ := Aside0.mk (Kd.R_lower (Kd.R_newB ho0 (g := gb272) (o := .cells #[.int .u64 t266, .int .u64 t267, .int .u64 t268, .int .u64 t269, .int .i64 t270] 53 (0, 0)) u8_1) (below_size u8_4)); have n1_ := Aside0.mk (blk_below (g := gb264) (o := .cells #[.slice A0_0 l0_0.length c0_0] 29 (0, 0)) u8_10 hb); have n2_ := Aside0.mk (blk_below (g := gb265) (o := .cells #[.slice none 0 0] 29 (0, 0)) u8_11 hb); have n3_ := Aside0.mk (blk_below (g := gb272) (o := .cells #[.int .u64 t266, .int .u64 t267, .int .u64 t268, .int .u64 t269, .int .i64 t270] 53 (0, 0)) u8_1 hb); have n4_ := Aside0.mk (below_step u8_4 hb); clear BK264; clear BK265; clear BK272; clear HB; have HO284 := n0_; have BK264 := n1_; have BK265 := n2_; have BK272 := n3_; have HB := n4_; clear n0_ n1_ n2_ n3_ n4_; (try clear hb); (try clear hb2); (try clear hk); (try clear hi); (try clear ho0); obtain ⟨Ao49, co49, eo49⟩ := Kd.R_slice HO284.out; subst eo49; have hnb50 := NB265_272.out; have hnc50 := NB272_265.out; have hcz51_0 : w48.cell? ⟨gb265, 0, none⟩ = some (.slice none 0 0) := (blk_cell BK265.out 0).trans rfl; have hfz51_0 := blk_frozen BK265.out 0))
    refine bodyPost_ret (results_ct rfl _ _ gb265 29 #[.slice Ao49 t282.length co49] (0, 0) _ rfl u8_18 Try.underlying29 rfl (by kernel_rfl)) rfl ?_
    exact ⟨_, by first | rfl | (simp [errW_none, errW_some] <;> rfl) | (simp [*, errW_none, errW_some] <;> rfl), (by (with_reducible repeat (first | apply Kd.R_alloc | apply Kd.R_drewN | apply Kd.R_drew)); exact Kd.R_mono (Kd.R_far (p := ⟨gb265, 0, none⟩) (Kd.R_types HO284.out BK265.out (by decide)) (fun _ hk => hk.2) (.slice Ao49 t282.length co49)) (fun _ hk => trivial)), u8_4⟩
  rw [if_pos c14] at H
  have c14b0 : (t271 == 0) = true := beq_iff_eq.mpr c14
  have c14b1 : (t271 != 0) = false := bne_eq_false_iff_eq.mpr c14
  clear c14
  (first | rw [c14b0] | (simp only [i64_w, i32_w]; rw [c14b0]) | skip)
  by_cases c15 : t270 = 0
  rotate_left
  · rw [if_neg c15] at H
    have c15b0 : (t270 == 0) = false := beq_eq_false_iff_ne.mpr c15
    have c15b1 : (t270 != 0) = true := bne_iff_ne.mpr c15
    replace H := Option.bind_eq_some_iff.mp H
    obtain ⟨t279, A350, H⟩ := H
    replace H : (some (t279, 6)) = some (r1, r2) := H
    have A35 := Aside0.mk A350
    clear A350
    simp only [Option.some.injEq, Prod.mk.injEq] at H
    obtain ⟨rfl, rfl⟩ := H
    have hnb36 := NB272_264.out
    have hnc36 := NB264_272.out
    have hnb37 := NB272_265.out
    have hnc37 := NB265_272.out
    have hcz38_0 : w10.cell? ⟨gb272, 0, none⟩ = some (.int .u64 0) := (blk_cell BK272.out 0).trans rfl
    have hcz38_1 : w10.cell? ⟨gb272, 1, none⟩ = some (.int .u64 0) := (blk_cell BK272.out 1).trans rfl
    have hcz38_2 : w10.cell? ⟨gb272, 2, none⟩ = some (.int .u64 0) := (blk_cell BK272.out 2).trans rfl
    have hcz38_3 : w10.cell? ⟨gb272, 3, none⟩ = some (.int .u64 0) := (blk_cell BK272.out 3).trans rfl
    have hcz38_4 : w10.cell? ⟨gb272, 4, none⟩ = some (.int .i64 0) := (blk_cell BK272.out 4).trans rfl
    have hfz38_0 := blk_frozen BK272.out 0
    have hfz38_1 := blk_frozen BK272.out 1
    have hfz38_2 := blk_frozen BK272.out 2
    have hfz38_3 := blk_frozen BK272.out 3
    have hfz38_4 := blk_frozen BK272.out 4
    have hnb39 := NB264_265.out
    have hnc39 := NB265_264.out
    have hcz40_0 : w10.cell? ⟨gb264, 0, none⟩ = some (.slice A0_0 l0_0.length c0_0) := (blk_cell BK264.out 0).trans rfl
    have hfz40_0 := blk_frozen BK264.out 0
    go_wp2_with (first | ((with_reducible refine gate_callee (f := 54) rfl ?_); refine goesL_ (some 27) rfl rfl Try.func54 (by kernel_rfl) rfl #[.agg #[.slice A0_0 l0_0.length c0_0]] rfl u8_6 ?_; (with_reducible refine (spec_l10Copy.calls k _ _ l0_0 t279 _ ?side1 ?side2 A35.out).mono ?_); (case side1 => exact u8_34); (case side2 => exact HC0_0.out); rintro e w41 ⟨v280, rfl, ho0, hb⟩; refine ⟨_, rfl, ?_⟩; have n0_ := Aside0.mk (Kd.R_lower (Kd.R_newB ho0 (g := gb272) (o := .cells #[.int .u64 t266, .int .u64 t267, .int .u64 t268, .int .u64 t269, .int .i64 t270] 53 (0, 0)) u8_1) (below_size u8_4)); have n1_ := Aside0.mk (blk_below (g := gb264) (o := .cells #[.slice A0_0 l0_0.length c0_0] 29 (0, 0)) u8_10 hb); have n2_ := Aside0.mk (blk_below (g := gb265) (o := .cells #[.slice none 0 0] 29 (0, 0)) u8_11 hb); have n3_ := Aside0.mk (blk_below (g := gb272) (o := .cells #[.int .u64 t266, .int .u64 t267, .int .u64 t268, .int .u64 t269, .int .i64 t270] 53 (0, 0)) u8_1 hb); have n4_ := Aside0.mk (below_step u8_4 hb); clear BK264; clear BK265; clear BK272; clear HB; have HO281 := n0_; have BK264 := n1_; have BK265 := n2_; have BK272 := n3_; have HB := n4_; clear n0_ n1_ n2_ n3_ n4_; (try clear hb); (try clear hb2); (try clear hk); (try clear hi); (try clear ho0); obtain ⟨Ao42, co42, eo42⟩ := Kd.R_slice HO281.out; subst eo42; have hcz43_0 : w41.cell? ⟨gb265, 0, none⟩ = some (.slice none 0 0) := (blk_cell BK265.out 0).trans rfl; have hfz43_0 := blk_frozen BK265.out 0))
    refine bodyPost_ret (results_ct rfl _ _ gb265 29 #[.slice Ao42 t279.length co42] (0, 0) _ rfl u8_18 Try.underlying29 rfl (by kernel_rfl)) rfl ?_
    exact ⟨_, by first | rfl | (simp [errW_none, errW_some] <;> rfl) | (simp [*, errW_none, errW_some] <;> rfl), (by (with_reducible repeat (first | apply Kd.R_alloc | apply Kd.R_drewN | apply Kd.R_drew)); exact Kd.R_mono (Kd.R_far (p := ⟨gb265, 0, none⟩) (Kd.R_types HO281.out BK265.out (by decide)) (fun _ hk => hk.2) (.slice Ao42 t279.length co42)) (fun _ hk => trivial)), u8_4⟩
  rw [if_pos c15] at H
  have c15b0 : (t270 == 0) = true := beq_iff_eq.mpr c15
  have c15b1 : (t270 != 0) = false := bne_eq_false_iff_eq.mpr c15
  clear c15
  by_cases c16 : a2 > t267
  · rw [if_pos c16] at H
    have c16b0 : decide (t267 < a2) = true := decide_eq_true c16
    clear c16
    replace H := Option.bind_eq_some_iff.mp H
    obtain ⟨t273, A170, H⟩ := H
    replace H : (some (t273, 4)) = some (r1, r2) := H
    have A17 := Aside0.mk A170
    clear A170
    simp only [Option.some.injEq, Prod.mk.injEq] at H
    obtain ⟨rfl, rfl⟩ := H
    have hnb18 := NB272_264.out
    have hnc18 := NB264_272.out
    have hnb19 := NB272_265.out
    have hnc19 := NB265_272.out
    have hcz20_0 : w10.cell? ⟨gb272, 0, none⟩ = some (.int .u64 0) := (blk_cell BK272.out 0).trans rfl
    have hcz20_1 : w10.cell? ⟨gb272, 1, none⟩ = some (.int .u64 0) := (blk_cell BK272.out 1).trans rfl
    have hcz20_2 : w10.cell? ⟨gb272, 2, none⟩ = some (.int .u64 0) := (blk_cell BK272.out 2).trans rfl
    have hcz20_3 : w10.cell? ⟨gb272, 3, none⟩ = some (.int .u64 0) := (blk_cell BK272.out 3).trans rfl
    have hcz20_4 : w10.cell? ⟨gb272, 4, none⟩ = some (.int .i64 0) := (blk_cell BK272.out 4).trans rfl
    have hfz20_0 := blk_frozen BK272.out 0
    have hfz20_1 := blk_frozen BK272.out 1
    have hfz20_2 := blk_frozen BK272.out 2
    have hfz20_3 := blk_frozen BK272.out 3
    have hfz20_4 := blk_frozen BK272.out 4
    have hnb21 := NB264_265.out
    have hnc21 := NB265_264.out
    have hcz22_0 : w10.cell? ⟨gb264, 0, none⟩ = some (.slice A0_0 l0_0.length c0_0) := (blk_cell BK264.out 0).trans rfl
    have hfz22_0 := blk_frozen BK264.out 0
    go_wp2_with (first | ((with_reducible refine gate_callee (f := 54) rfl ?_); refine goesL_ (some 34) rfl rfl Try.func54 (by kernel_rfl) rfl #[.agg #[.slice A0_0 l0_0.length c0_0]] rfl u8_6 ?_; (with_reducible refine (spec_l10Copy.calls k _ _ l0_0 t273 _ ?side1 ?side2 A17.out).mono ?_); (case side1 => exact u8_34); (case side2 => exact HC0_0.out); rintro e w23 ⟨v274, rfl, ho0, hb⟩; refine ⟨_, rfl, ?_⟩; have n0_ := Aside0.mk (Kd.R_lower (Kd.R_newB ho0 (g := gb272) (o := .cells #[.int .u64 t266, .int .u64 t267, .int .u64 t268, .int .u64 t269, .int .i64 t270] 53 (0, 0)) u8_1) (below_size u8_4)); have n1_ := Aside0.mk (blk_below (g := gb264) (o := .cells #[.slice A0_0 l0_0.length c0_0] 29 (0, 0)) u8_10 hb); have n2_ := Aside0.mk (blk_below (g := gb265) (o := .cells #[.slice none 0 0] 29 (0, 0)) u8_11 hb); have n3_ := Aside0.mk (blk_below (g := gb272) (o := .cells #[.int .u64 t266, .int .u64 t267, .int .u64 t268, .int .u64 t269, .int .i64 t270] 53 (0, 0)) u8_1 hb); have n4_ := Aside0.mk (below_step u8_4 hb); clear BK264; clear BK265; clear BK272; clear HB; have HO275 := n0_; have BK264 := n1_; have BK265 := n2_; have BK272 := n3_; have HB := n4_; clear n0_ n1_ n2_ n3_ n4_; (try clear hb); (try clear hb2); (try clear hk); (try clear hi); (try clear ho0); obtain ⟨Ao24, co24, eo24⟩ := Kd.R_slice HO275.out; subst eo24; have hcz25_0 : w23.cell? ⟨gb265, 0, none⟩ = some (.slice none 0 0) := (blk_cell BK265.out 0).trans rfl; have hfz25_0 := blk_frozen BK265.out 0))
    refine bodyPost_ret (results_ct rfl _ _ gb265 29 #[.slice Ao24 t273.length co24] (0, 0) _ rfl u8_18 Try.underlying29 rfl (by kernel_rfl)) rfl ?_
    exact ⟨_, by first | rfl | (simp [errW_none, errW_some] <;> rfl) | (simp [*, errW_none, errW_some] <;> rfl), (by (with_reducible repeat (first | apply Kd.R_alloc | apply Kd.R_drewN | apply Kd.R_drew)); exact Kd.R_mono (Kd.R_far (p := ⟨gb265, 0, none⟩) (Kd.R_types HO275.out BK265.out (by decide)) (fun _ hk => hk.2) (.slice Ao24 t273.length co24)) (fun _ hk => trivial)), u8_4⟩
  rw [if_neg c16] at H
  have c16b0 : decide (t267 < a2) = false := decide_eq_false c16
  clear c16
  replace H := Option.bind_eq_some_iff.mp H
  obtain ⟨t276, A260, H⟩ := H
  replace H : (some (t276, 0)) = some (r1, r2) := H
  have A26 := Aside0.mk A260
  clear A260
  simp only [Option.some.injEq, Prod.mk.injEq] at H
  obtain ⟨rfl, rfl⟩ := H
  have hnb27 := NB272_264.out
  have hnc27 := NB264_272.out
  have hnb28 := NB272_265.out
  have hnc28 := NB265_272.out
  have hcz29_0 : w10.cell? ⟨gb272, 0, none⟩ = some (.int .u64 0) := (blk_cell BK272.out 0).trans rfl
  have hcz29_1 : w10.cell? ⟨gb272, 1, none⟩ = some (.int .u64 0) := (blk_cell BK272.out 1).trans rfl
  have hcz29_2 : w10.cell? ⟨gb272, 2, none⟩ = some (.int .u64 0) := (blk_cell BK272.out 2).trans rfl
  have hcz29_3 : w10.cell? ⟨gb272, 3, none⟩ = some (.int .u64 0) := (blk_cell BK272.out 3).trans rfl
  have hcz29_4 : w10.cell? ⟨gb272, 4, none⟩ = some (.int .i64 0) := (blk_cell BK272.out 4).trans rfl
  have hfz29_0 := blk_frozen BK272.out 0
  have hfz29_1 := blk_frozen BK272.out 1
  have hfz29_2 := blk_frozen BK272.out 2
  have hfz29_3 := blk_frozen BK272.out 3
  have hfz29_4 := blk_frozen BK272.out 4
  have hnb30 := NB264_265.out
  have hnc30 := NB265_264.out
  have hcz31_0 : w10.cell? ⟨gb264, 0, none⟩ = some (.slice A0_0 l0_0.length c0_0) := (blk_cell BK264.out 0).trans rfl
  have hfz31_0 := blk_frozen BK264.out 0
  go_wp2_with (first | ((with_reducible refine gate_callee (f := 55) rfl ?_); refine goesL_ (some 42) rfl rfl Try.func55 (by kernel_rfl) rfl #[.agg #[.slice A0_0 l0_0.length c0_0], .agg #[.int .u64 t266, .int .u64 (IntKind.u64.wrap (t267 - a2)), .int .u64 t268, .int .u64 t269, .int .i64 t270]] rfl u8_6 ?_; (with_reducible refine (spec_l10With.calls k _ _ l0_0 t266 (IntKind.u64.wrap (t267 - a2)) t268 t269 t270 t276 _ ?side1 ?side2 A26.out).mono ?_); (case side1 => exact u8_34); (case side2 => exact HC0_0.out); rintro e w32 ⟨v277, rfl, ho0, hb⟩; refine ⟨_, rfl, ?_⟩; have n0_ := Aside0.mk (Kd.R_lower (Kd.R_newB ho0 (g := gb272) (o := .cells #[.int .u64 t266, .int .u64 (IntKind.u64.wrap (t267 - a2)), .int .u64 t268, .int .u64 t269, .int .i64 t270] 53 (0, 0)) u8_15) (below_size u8_4)); have n1_ := Aside0.mk (blk_below (g := gb264) (o := .cells #[.slice A0_0 l0_0.length c0_0] 29 (0, 0)) (by (with_reducible repeat (first | refine blk_drewN ?_ _ | refine blk_drew ?_ | refine blk_alloc ?_ _)); refine blk_far ?_ NB264_272.out _; (with_reducible repeat (first | refine blk_drewN ?_ _ | refine blk_drew ?_ | refine blk_alloc ?_ _)); refine blk_far ?_ NB264_272.out _; (with_reducible repeat (first | refine blk_drewN ?_ _ | refine blk_drew ?_ | refine blk_alloc ?_ _)); refine blk_far ?_ NB264_272.out _; (with_reducible repeat (first | refine blk_drewN ?_ _ | refine blk_drew ?_ | refine blk_alloc ?_ _)); refine blk_far ?_ NB264_272.out _; (with_reducible repeat (first | refine blk_drewN ?_ _ | refine blk_drew ?_ | refine blk_alloc ?_ _)); refine blk_far ?_ NB264_272.out _; (with_reducible repeat (first | refine blk_drewN ?_ _ | refine blk_drew ?_ | refine blk_alloc ?_ _)); refine blk_far ?_ NB264_272.out _; (with_reducible repeat (first | refine blk_drewN ?_ _ | refine blk_drew ?_ | refine blk_alloc ?_ _)); exact BK264.out) hb); have n2_ := Aside0.mk (blk_below (g := gb265) (o := .cells #[.slice none 0 0] 29 (0, 0)) (by (with_reducible repeat (first | refine blk_drewN ?_ _ | refine blk_drew ?_ | refine blk_alloc ?_ _)); refine blk_far ?_ NB265_272.out _; (with_reducible repeat (first | refine blk_drewN ?_ _ | refine blk_drew ?_ | refine blk_alloc ?_ _)); refine blk_far ?_ NB265_272.out _; (with_reducible repeat (first | refine blk_drewN ?_ _ | refine blk_drew ?_ | refine blk_alloc ?_ _)); refine blk_far ?_ NB265_272.out _; (with_reducible repeat (first | refine blk_drewN ?_ _ | refine blk_drew ?_ | refine blk_alloc ?_ _)); refine blk_far ?_ NB265_272.out _; (with_reducible repeat (first | refine blk_drewN ?_ _ | refine blk_drew ?_ | refine blk_alloc ?_ _)); refine blk_far ?_ NB265_272.out _; (with_reducible repeat (first | refine blk_drewN ?_ _ | refine blk_drew ?_ | refine blk_alloc ?_ _)); refine blk_far ?_ NB265_272.out _; (with_reducible repeat (first | refine blk_drewN ?_ _ | refine blk_drew ?_ | refine blk_alloc ?_ _)); exact BK265.out) hb); have n3_ := Aside0.mk (blk_below (g := gb272) (o := .cells #[.int .u64 t266, .int .u64 (IntKind.u64.wrap (t267 - a2)), .int .u64 t268, .int .u64 t269, .int .i64 t270] 53 (0, 0)) u8_15 hb); have n4_ := Aside0.mk (below_step u8_4 hb); clear BK264; clear BK265; clear BK272; clear HB; have HO278 := n0_; have BK264 := n1_; have BK265 := n2_; have BK272 := n3_; have HB := n4_; clear n0_ n1_ n2_ n3_ n4_; (try clear hb); (try clear hb2); (try clear hk); (try clear hi); (try clear ho0); obtain ⟨Ao33, co33, eo33⟩ := Kd.R_slice HO278.out; subst eo33; have hcz34_0 : w32.cell? ⟨gb265, 0, none⟩ = some (.slice none 0 0) := (blk_cell BK265.out 0).trans rfl; have hfz34_0 := blk_frozen BK265.out 0))
  refine bodyPost_ret (results_ct rfl _ _ gb265 29 #[.slice Ao33 t276.length co33] (0, 0) _ rfl u8_18 Try.underlying29 rfl (by kernel_rfl)) rfl ?_
  exact ⟨_, by first | rfl | (simp [errW_none, errW_some] <;> rfl) | (simp [*, errW_none, errW_some] <;> rfl), (by (with_reducible repeat (first | apply Kd.R_alloc | apply Kd.R_drewN | apply Kd.R_drew)); exact Kd.R_mono (Kd.R_far (p := ⟨gb265, 0, none⟩) (Kd.R_types HO278.out BK265.out (by decide)) (fun _ hk => hk.2) (.slice Ao33 t276.length co33)) (fun _ hk => trivial)), u8_4⟩

/-! ### spec_LockCredit: function 38 -/
def spec_LockCredit.f (k : Nat) (l0_0 : List (S53)) (a1 : Int) (a2 : Int) (a3 : Int) : Option ((List (S53)) × Int) := (spec_l10Of.f k l0_0 a1 a3).bind fun bt287 => (if bt287.2.2.2.2.2 = 0 then (if bt287.2.2.2.2.1 = 0 then (if a2 > (IntKind.u64.wrap (18446744073709551615 - bt287.2.1)) then ((spec_l10Copy.f k l0_0).bind fun t294 => (some (t294, 5))) else ((spec_l10With.f k l0_0 bt287.1 bt287.2.1 bt287.2.2.1 a2 a3).bind fun t297 => (some (t297, 0)))) else ((spec_l10Copy.f k l0_0).bind fun t300 => (some (t300, 6)))) else ((spec_l10Copy.f k l0_0).bind fun t303 => (some (t303, bt287.2.2.2.2.2))))
theorem spec_LockCredit.mono : ∀ a0 a1 a2 a3 k, LeO (spec_LockCredit.f k a0 a1 a2 a3) (spec_LockCredit.f (k + 1) a0 a1 a2 a3) := by
  intro a0 a1 a2 a3 k
  unfold spec_LockCredit.f
  repeat' first
      | (with_reducible exact spec_l10Copy.mono _ _)
      | (with_reducible exact spec_l10Of.mono _ _ _ _)
      | (with_reducible exact spec_l10With.mono _ _ _ _ _ _ _)
      | (with_reducible exact LeO.refl _)
      | (with_reducible exact LeO.none _)
      | (with_reducible refine LeO.ite ?_ ?_)
      | (with_reducible refine LeO.bind ?_ (fun _ => ?_))
      | exact spec_l10Copy.mono _ _
      | exact spec_l10Of.mono _ _ _ _
      | exact spec_l10With.mono _ _ _ _ _ _ _
      | exact LeO.none _
      | refine LeO.ite ?_ ?_
      | refine LeO.bind ?_ (fun _ => ?_)
set_option maxHeartbeats 8000000 in
set_option maxRecDepth 100000 in
theorem spec_LockCredit.calls (k : Nat) (A0_0 : Option Addr) (c0_0 : Nat) (l0_0 : List (S53)) (a1 : Int) (a2 : Int) (a3 : Int) (r1 : List (S53)) (r2 : Int) (w : World) (hr0_0 : Kd.C k53 w A0_0 l0_0.length l0_0) (hc0_0 : l0_0.length ≤ c0_0) (h : spec_LockCredit.f k l0_0 a1 a2 a3 = some (r1, r2)) :
    Calls Try.prog 38 #[.agg #[.slice A0_0 l0_0.length c0_0], .int .u64 a1, .int .u64 a2, .int .i64 a3] w fun e w' => ∃ v0_ : Value, e = .returned (.tuple #[.agg #[v0_], .int .i64 r2]) ∧ Kd.R k53 53 w' w.heap.size (fun _ => True) v0_ r1 ∧ Below w.heap.size w w' := by
  have hu29 := Try.underlying29
  have hu53 := Try.underlying53
  have HR0_0 := Aside0.mk hr0_0
  have HC0_0 := Aside0.mk hc0_0
  clear hr0_0 hc0_0
  have HB := Aside0.mk (Below.refl w.heap.size w)
  have H : ((spec_l10Of.f k l0_0 a1 a3).bind fun bt287 => (if bt287.2.2.2.2.2 = 0 then (if bt287.2.2.2.2.1 = 0 then (if a2 > (IntKind.u64.wrap (18446744073709551615 - bt287.2.1)) then ((spec_l10Copy.f k l0_0).bind fun t294 => (some (t294, 5))) else ((spec_l10With.f k l0_0 bt287.1 bt287.2.1 bt287.2.2.1 a2 a3).bind fun t297 => (some (t297, 0)))) else ((spec_l10Copy.f k l0_0).bind fun t300 => (some (t300, 6)))) else ((spec_l10Copy.f k l0_0).bind fun t303 => (some (t303, bt287.2.2.2.2.2))))) = some (r1, r2) := h
  clear h
  replace H := Option.bind_eq_some_iff.mp H
  obtain ⟨⟨t287, t288, t289, t290, t291, t292⟩, A50, H⟩ := H
  (try dsimp only at H)
  have A5 := Aside0.mk A50
  clear A50
  have H9 := Aside0.mk H
  clear H
  go_enter Try.func38, Try.ntmps38
  go_upto_if 19 with (first | ((with_reducible refine gate_dst (N := 4) rfl ?_); refine box_event ?hg (N := 4) ?hd (cs := #[.slice A0_0 l0_0.length c0_0]) (t := 29) ?hr ?_; (case hd => rfl); (case hg => rfl); (case hr => first | (go_simp; done) | (go_simp; rfl)); intro gb285 hg w6 hbox hb; have n0_ := Aside0.mk (below_step u8_16 hb); have n1_ := Aside0.mk (hbox); have n2_ := Aside0.mk ((by rw [hg]; exact (below_size u8_16) : w.heap.size ≤ gb285)); have n3_ := Aside0.mk ((by rw [hg]; exact (below_size u8_16) : w.heap.size ≤ gb285)); clear HB; have HB := n0_; have BK285 := n1_; have GW285 := n2_; have GE285 := n3_; clear n0_ n1_ n2_ n3_; clear hb hbox hg) | ((with_reducible refine gate_dst (N := 8) rfl ?_); refine box_event ?hg (N := 8) ?hd (cs := #[.slice none 0 0]) (t := 29) ?hr ?_; (case hd => rfl); (case hg => rfl); (case hr => first | (go_simp; done) | (go_simp; rfl)); intro gb286 hg w7 hbox hb; have n0_ := Aside0.mk (blk_below (g := gb285) (o := .cells #[.slice A0_0 l0_0.length c0_0] 29 (0, 0)) u8_22 hb); have n1_ := Aside0.mk (below_step u8_32 hb); have n2_ := Aside0.mk (hbox); have n3_ := Aside0.mk ((by rw [hg]; exact (below_size u8_32) : w.heap.size ≤ gb286)); have n4_ := Aside0.mk ((by rw [hg]; exact (below_size u8_32) : w.heap.size ≤ gb286)); have n5_ := Aside0.mk ((by rw [hg]; exact Nat.ne_of_lt (blk_lt (g := gb285) (o := .cells #[.slice A0_0 l0_0.length c0_0] 29 (0, 0)) u8_22) : gb285 ≠ gb286)); have n6_ := Aside0.mk ((by rw [hg]; exact Nat.ne_of_gt (blk_lt (g := gb285) (o := .cells #[.slice A0_0 l0_0.length c0_0] 29 (0, 0)) u8_22) : gb286 ≠ gb285)); clear BK285; clear HB; have BK285 := n0_; have HB := n1_; have BK286 := n2_; have GW286 := n3_; have GE286 := n4_; have NB285_286 := n5_; have NB286_285 := n6_; clear n0_ n1_ n2_ n3_ n4_ n5_ n6_; clear hb hbox hg; have hnb8 := NB285_286.out; have hnc8 := NB286_285.out; have hcz9_0 : w7.cell? ⟨gb285, 0, none⟩ = some (.slice A0_0 l0_0.length c0_0) := (blk_cell BK285.out 0).trans rfl; have hfz9_0 := blk_frozen BK285.out 0) | ((with_reducible refine gate_callee (f := 53) rfl ?_); refine goesL_ (some 16) rfl rfl Try.func53 (by kernel_rfl) rfl #[.agg #[.slice A0_0 l0_0.length c0_0], .int .u64 a1, .int .i64 a3] rfl u8_6 ?_; (with_reducible refine (spec_l10Of.calls k _ _ l0_0 a1 a3 t287 t288 t289 t290 t291 t292 _ ?side1 ?side2 A5.out).mono ?_); (case side1 => exact u8_26); (case side2 => exact HC0_0.out); rintro e w10 ⟨rfl, hb⟩; refine ⟨_, rfl, ?_⟩; have n0_ := Aside0.mk (blk_below (g := gb285) (o := .cells #[.slice A0_0 l0_0.length c0_0] 29 (0, 0)) u8_22 hb); have n1_ := Aside0.mk (blk_below (g := gb286) (o := .cells #[.slice none 0 0] 29 (0, 0)) u8_29 hb); have n2_ := Aside0.mk (below_step u8_25 hb); clear BK285; clear BK286; clear HB; have BK285 := n0_; have BK286 := n1_; have HB := n2_; clear n0_ n1_ n2_; (try clear hb); (try clear hb2); (try clear hk); (try clear hi)) | ((with_reducible refine gate_dst (N := 10) rfl ?_); refine box_event ?hg (N := 10) ?hd (cs := #[.int .u64 0, .int .u64 0, .int .u64 0, .int .u64 0, .int .i64 0]) (t := 53) ?hr ?_; (case hd => rfl); (case hg => rfl); (case hr => first | (go_simp; done) | (go_simp; rfl)); intro gb293 hg w11 hbox hb; have n0_ := Aside0.mk (blk_below (g := gb285) (o := .cells #[.slice A0_0 l0_0.length c0_0] 29 (0, 0)) u8_22 hb); have n1_ := Aside0.mk (blk_below (g := gb286) (o := .cells #[.slice none 0 0] 29 (0, 0)) u8_29 hb); have n2_ := Aside0.mk (below_step u8_25 hb); have n3_ := Aside0.mk (hbox); have n4_ := Aside0.mk ((by rw [hg]; exact (below_size u8_25) : w.heap.size ≤ gb293)); have n5_ := Aside0.mk ((by rw [hg]; exact (below_size u8_25) : w.heap.size ≤ gb293)); have n6_ := Aside0.mk ((by rw [hg]; exact Nat.ne_of_lt (blk_lt (g := gb285) (o := .cells #[.slice A0_0 l0_0.length c0_0] 29 (0, 0)) u8_22) : gb285 ≠ gb293)); have n7_ := Aside0.mk ((by rw [hg]; exact Nat.ne_of_gt (blk_lt (g := gb285) (o := .cells #[.slice A0_0 l0_0.length c0_0] 29 (0, 0)) u8_22) : gb293 ≠ gb285)); have n8_ := Aside0.mk ((by rw [hg]; exact Nat.ne_of_lt (blk_lt (g := gb286) (o := .cells #[.slice none 0 0] 29 (0, 0)) u8_29) : gb286 ≠ gb293)); have n9_ := Aside0.mk ((by rw [hg]; exact Nat.ne_of_gt (blk_lt (g := gb286) (o := .cells #[.slice none 0 0] 29 (0, 0)) u8_29) : gb293 ≠ gb286)); clear BK285; clear BK286; clear HB; have BK285 := n0_; have BK286 := n1_; have HB := n2_; have BK293 := n3_; have GW293 := n4_; have GE293 := n5_; have NB285_293 := n6_; have NB293_285 := n7_; have NB286_293 := n8_; have NB293_286 := n9_; clear n0_ n1_ n2_ n3_ n4_ n5_ n6_ n7_ n8_ n9_; clear hb hbox hg; have hnb12 := NB293_285.out; have hnc12 := NB285_293.out; have hnb13 := NB293_286.out; have hnc13 := NB286_293.out; have hcz14_0 : w11.cell? ⟨gb293, 0, none⟩ = some (.int .u64 0) := (blk_cell BK293.out 0).trans rfl; have hcz14_1 : w11.cell? ⟨gb293, 1, none⟩ = some (.int .u64 0) := (blk_cell BK293.out 1).trans rfl; have hcz14_2 : w11.cell? ⟨gb293, 2, none⟩ = some (.int .u64 0) := (blk_cell BK293.out 2).trans rfl; have hcz14_3 : w11.cell? ⟨gb293, 3, none⟩ = some (.int .u64 0) := (blk_cell BK293.out 3).trans rfl; have hcz14_4 : w11.cell? ⟨gb293, 4, none⟩ = some (.int .i64 0) := (blk_cell BK293.out 4).trans rfl; have hfz14_0 := blk_frozen BK293.out 0; have hfz14_1 := blk_frozen BK293.out 1; have hfz14_2 := blk_frozen BK293.out 2; have hfz14_3 := blk_frozen BK293.out 3; have hfz14_4 := blk_frozen BK293.out 4))
  have H := H9.out
  clear H9
  by_cases c15 : t292 = 0
  rotate_left
  · rw [if_neg c15] at H
    have c15b0 : (t292 == 0) = false := beq_eq_false_iff_ne.mpr c15
    have c15b1 : (t292 != 0) = true := bne_iff_ne.mpr c15
    (first | rw [c15b0] | (simp only [i64_w, i32_w]; rw [c15b0]) | skip)
    replace H := Option.bind_eq_some_iff.mp H
    obtain ⟨t303, A450, H⟩ := H
    replace H : (some (t303, t292)) = some (r1, r2) := H
    have A45 := Aside0.mk A450
    clear A450
    simp only [Option.some.injEq, Prod.mk.injEq] at H
    obtain ⟨rfl, rfl⟩ := H
    have hnb46 := NB285_286.out
    have hnc46 := NB286_285.out
    have hnb47 := NB285_293.out
    have hnc47 := NB293_285.out
    have hcz48_0 : w11.cell? ⟨gb285, 0, none⟩ = some (.slice A0_0 l0_0.length c0_0) := (blk_cell BK285.out 0).trans rfl
    have hfz48_0 := blk_frozen BK285.out 0
    go_wp2_with (first | ((with_reducible refine gate_callee (f := 54) rfl ?_); refine goesL_ (some 23) rfl rfl Try.func54 (by kernel_rfl) rfl #[.agg #[.slice A0_0 l0_0.length c0_0]] rfl u8_6 ?_; (with_reducible refine (spec_l10Copy.calls k _ _ l0_0 t303 _ ?side1 ?side2 A45.out).mono ?_); (case side1 => exact u8_35); (case side2 => exact HC0_0.out); rintro e w49 ⟨v304, rfl, ho0, hb⟩; refine ⟨_, rfl, ?_⟩; have n0_ := Aside0.mk (Kd.R_lower (Kd.R_newB ho0 (g := gb293) (o := .cells #[.int .u64 t287, .int .u64 t288, .int .u64 t289, .int .u64 t290, .int .i64 t291] 53 (0, 0)) u8_2) (below_size u8_5)); have n1_ := Aside0.mk (blk_below (g := gb285) (o := .cells #[.slice A0_0 l0_0.length c0_0] 29 (0, 0)) u8_12 hb); have n2_ := Aside0.mk (blk_below (g := gb286) (o := .cells #[.slice none 0 0] 29 (0, 0)) u8_13 hb); have n3_ := Aside0.mk (blk_below (g := gb293) (o := .cells #[.int .u64 t287, .int .u64 t288, .int .u64 t289, .int .u64 t290, .int .i64 t291] 53 (0, 0)) u8_2 hb); have n4_ := Aside0.mk (below_step u8_5 hb); clear BK285; clear BK286; clear BK293; clear HB; have HO305 := n0_; have BK285 := n1_; have BK286 := n2_; have BK293 := n3_; have HB := n4_; clear n0_ n1_ n2_ n3_ n4_; (try clear hb); (try clear hb2); (try clear hk); (try clear hi); (try clear ho0); obtain ⟨Ao50, co50, eo50⟩ := Kd.R_slice HO305.out; subst eo50; have hnb51 := NB286_293.out; have hnc51 := NB293_286.out; have hcz52_0 : w49.cell? ⟨gb286, 0, none⟩ = some (.slice none 0 0) := (blk_cell BK286.out 0).trans rfl; have hfz52_0 := blk_frozen BK286.out 0))
    refine bodyPost_ret (results_ct rfl _ _ gb286 29 #[.slice Ao50 t303.length co50] (0, 0) _ rfl u8_19 Try.underlying29 rfl (by kernel_rfl)) rfl ?_
    exact ⟨_, by first | rfl | (simp [errW_none, errW_some] <;> rfl) | (simp [*, errW_none, errW_some] <;> rfl), (by (with_reducible repeat (first | apply Kd.R_alloc | apply Kd.R_drewN | apply Kd.R_drew)); exact Kd.R_mono (Kd.R_far (p := ⟨gb286, 0, none⟩) (Kd.R_types HO305.out BK286.out (by decide)) (fun _ hk => hk.2) (.slice Ao50 t303.length co50)) (fun _ hk => trivial)), u8_5⟩
  rw [if_pos c15] at H
  have c15b0 : (t292 == 0) = true := beq_iff_eq.mpr c15
  have c15b1 : (t292 != 0) = false := bne_eq_false_iff_eq.mpr c15
  clear c15
  (first | rw [c15b0] | (simp only [i64_w, i32_w]; rw [c15b0]) | skip)
  by_cases c16 : t291 = 0
  rotate_left
  · rw [if_neg c16] at H
    have c16b0 : (t291 == 0) = false := beq_eq_false_iff_ne.mpr c16
    have c16b1 : (t291 != 0) = true := bne_iff_ne.mpr c16
    replace H := Option.bind_eq_some_iff.mp H
    obtain ⟨t300, A360, H⟩ := H
    replace H : (some (t300, 6)) = some (r1, r2) := H
    have A36 := Aside0.mk A360
    clear A360
    simp only [Option.some.injEq, Prod.mk.injEq] at H
    obtain ⟨rfl, rfl⟩ := H
    have hnb37 := NB293_285.out
    have hnc37 := NB285_293.out
    have hnb38 := NB293_286.out
    have hnc38 := NB286_293.out
    have hcz39_0 : w11.cell? ⟨gb293, 0, none⟩ = some (.int .u64 0) := (blk_cell BK293.out 0).trans rfl
    have hcz39_1 : w11.cell? ⟨gb293, 1, none⟩ = some (.int .u64 0) := (blk_cell BK293.out 1).trans rfl
    have hcz39_2 : w11.cell? ⟨gb293, 2, none⟩ = some (.int .u64 0) := (blk_cell BK293.out 2).trans rfl
    have hcz39_3 : w11.cell? ⟨gb293, 3, none⟩ = some (.int .u64 0) := (blk_cell BK293.out 3).trans rfl
    have hcz39_4 : w11.cell? ⟨gb293, 4, none⟩ = some (.int .i64 0) := (blk_cell BK293.out 4).trans rfl
    have hfz39_0 := blk_frozen BK293.out 0
    have hfz39_1 := blk_frozen BK293.out 1
    have hfz39_2 := blk_frozen BK293.out 2
    have hfz39_3 := blk_frozen BK293.out 3
    have hfz39_4 := blk_frozen BK293.out 4
    have hnb40 := NB285_286.out
    have hnc40 := NB286_285.out
    have hcz41_0 : w11.cell? ⟨gb285, 0, none⟩ = some (.slice A0_0 l0_0.length c0_0) := (blk_cell BK285.out 0).trans rfl
    have hfz41_0 := blk_frozen BK285.out 0
    go_wp2_with (first | ((with_reducible refine gate_callee (f := 54) rfl ?_); refine goesL_ (some 30) rfl rfl Try.func54 (by kernel_rfl) rfl #[.agg #[.slice A0_0 l0_0.length c0_0]] rfl u8_6 ?_; (with_reducible refine (spec_l10Copy.calls k _ _ l0_0 t300 _ ?side1 ?side2 A36.out).mono ?_); (case side1 => exact u8_35); (case side2 => exact HC0_0.out); rintro e w42 ⟨v301, rfl, ho0, hb⟩; refine ⟨_, rfl, ?_⟩; have n0_ := Aside0.mk (Kd.R_lower (Kd.R_newB ho0 (g := gb293) (o := .cells #[.int .u64 t287, .int .u64 t288, .int .u64 t289, .int .u64 t290, .int .i64 t291] 53 (0, 0)) u8_2) (below_size u8_5)); have n1_ := Aside0.mk (blk_below (g := gb285) (o := .cells #[.slice A0_0 l0_0.length c0_0] 29 (0, 0)) u8_12 hb); have n2_ := Aside0.mk (blk_below (g := gb286) (o := .cells #[.slice none 0 0] 29 (0, 0)) u8_13 hb); have n3_ := Aside0.mk (blk_below (g := gb293) (o := .cells #[.int .u64 t287, .int .u64 t288, .int .u64 t289, .int .u64 t290, .int .i64 t291] 53 (0, 0)) u8_2 hb); have n4_ := Aside0.mk (below_step u8_5 hb); clear BK285; clear BK286; clear BK293; clear HB; have HO302 := n0_; have BK285 := n1_; have BK286 := n2_; have BK293 := n3_; have HB := n4_; clear n0_ n1_ n2_ n3_ n4_; (try clear hb); (try clear hb2); (try clear hk); (try clear hi); (try clear ho0); obtain ⟨Ao43, co43, eo43⟩ := Kd.R_slice HO302.out; subst eo43; have hcz44_0 : w42.cell? ⟨gb286, 0, none⟩ = some (.slice none 0 0) := (blk_cell BK286.out 0).trans rfl; have hfz44_0 := blk_frozen BK286.out 0))
    refine bodyPost_ret (results_ct rfl _ _ gb286 29 #[.slice Ao43 t300.length co43] (0, 0) _ rfl u8_19 Try.underlying29 rfl (by kernel_rfl)) rfl ?_
    exact ⟨_, by first | rfl | (simp [errW_none, errW_some] <;> rfl) | (simp [*, errW_none, errW_some] <;> rfl), (by (with_reducible repeat (first | apply Kd.R_alloc | apply Kd.R_drewN | apply Kd.R_drew)); exact Kd.R_mono (Kd.R_far (p := ⟨gb286, 0, none⟩) (Kd.R_types HO302.out BK286.out (by decide)) (fun _ hk => hk.2) (.slice Ao43 t300.length co43)) (fun _ hk => trivial)), u8_5⟩
  rw [if_pos c16] at H
  have c16b0 : (t291 == 0) = true := beq_iff_eq.mpr c16
  have c16b1 : (t291 != 0) = false := bne_eq_false_iff_eq.mpr c16
  clear c16
  by_cases c17 : a2 > (IntKind.u64.wrap (18446744073709551615 - t288))
  · rw [if_pos c17] at H
    have c17b0 : decide ((IntKind.u64.wrap (18446744073709551615 - t288)) < a2) = true := decide_eq_true c17
    clear c17
    replace H := Option.bind_eq_some_iff.mp H
    obtain ⟨t294, A180, H⟩ := H
    replace H : (some (t294, 5)) = some (r1, r2) := H
    have A18 := Aside0.mk A180
    clear A180
    simp only [Option.some.injEq, Prod.mk.injEq] at H
    obtain ⟨rfl, rfl⟩ := H
    have hnb19 := NB293_285.out
    have hnc19 := NB285_293.out
    have hnb20 := NB293_286.out
    have hnc20 := NB286_293.out
    have hcz21_0 : w11.cell? ⟨gb293, 0, none⟩ = some (.int .u64 0) := (blk_cell BK293.out 0).trans rfl
    have hcz21_1 : w11.cell? ⟨gb293, 1, none⟩ = some (.int .u64 0) := (blk_cell BK293.out 1).trans rfl
    have hcz21_2 : w11.cell? ⟨gb293, 2, none⟩ = some (.int .u64 0) := (blk_cell BK293.out 2).trans rfl
    have hcz21_3 : w11.cell? ⟨gb293, 3, none⟩ = some (.int .u64 0) := (blk_cell BK293.out 3).trans rfl
    have hcz21_4 : w11.cell? ⟨gb293, 4, none⟩ = some (.int .i64 0) := (blk_cell BK293.out 4).trans rfl
    have hfz21_0 := blk_frozen BK293.out 0
    have hfz21_1 := blk_frozen BK293.out 1
    have hfz21_2 := blk_frozen BK293.out 2
    have hfz21_3 := blk_frozen BK293.out 3
    have hfz21_4 := blk_frozen BK293.out 4
    have hnb22 := NB285_286.out
    have hnc22 := NB286_285.out
    have hcz23_0 : w11.cell? ⟨gb285, 0, none⟩ = some (.slice A0_0 l0_0.length c0_0) := (blk_cell BK285.out 0).trans rfl
    have hfz23_0 := blk_frozen BK285.out 0
    go_wp2_with (first | ((with_reducible refine gate_callee (f := 54) rfl ?_); refine goesL_ (some 38) rfl rfl Try.func54 (by kernel_rfl) rfl #[.agg #[.slice A0_0 l0_0.length c0_0]] rfl u8_6 ?_; (with_reducible refine (spec_l10Copy.calls k _ _ l0_0 t294 _ ?side1 ?side2 A18.out).mono ?_); (case side1 => exact u8_35); (case side2 => exact HC0_0.out); rintro e w24 ⟨v295, rfl, ho0, hb⟩; refine ⟨_, rfl, ?_⟩; have n0_ := Aside0.mk (Kd.R_lower (Kd.R_newB ho0 (g := gb293) (o := .cells #[.int .u64 t287, .int .u64 t288, .int .u64 t289, .int .u64 t290, .int .i64 t291] 53 (0, 0)) u8_2) (below_size u8_5)); have n1_ := Aside0.mk (blk_below (g := gb285) (o := .cells #[.slice A0_0 l0_0.length c0_0] 29 (0, 0)) u8_12 hb); have n2_ := Aside0.mk (blk_below (g := gb286) (o := .cells #[.slice none 0 0] 29 (0, 0)) u8_13 hb); have n3_ := Aside0.mk (blk_below (g := gb293) (o := .cells #[.int .u64 t287, .int .u64 t288, .int .u64 t289, .int .u64 t290, .int .i64 t291] 53 (0, 0)) u8_2 hb); have n4_ := Aside0.mk (below_step u8_5 hb); clear BK285; clear BK286; clear BK293; clear HB; have HO296 := n0_; have BK285 := n1_; have BK286 := n2_; have BK293 := n3_; have HB := n4_; clear n0_ n1_ n2_ n3_ n4_; (try clear hb); (try clear hb2); (try clear hk); (try clear hi); (try clear ho0); obtain ⟨Ao25, co25, eo25⟩ := Kd.R_slice HO296.out; subst eo25; have hcz26_0 : w24.cell? ⟨gb286, 0, none⟩ = some (.slice none 0 0) := (blk_cell BK286.out 0).trans rfl; have hfz26_0 := blk_frozen BK286.out 0))
    refine bodyPost_ret (results_ct rfl _ _ gb286 29 #[.slice Ao25 t294.length co25] (0, 0) _ rfl u8_19 Try.underlying29 rfl (by kernel_rfl)) rfl ?_
    exact ⟨_, by first | rfl | (simp [errW_none, errW_some] <;> rfl) | (simp [*, errW_none, errW_some] <;> rfl), (by (with_reducible repeat (first | apply Kd.R_alloc | apply Kd.R_drewN | apply Kd.R_drew)); exact Kd.R_mono (Kd.R_far (p := ⟨gb286, 0, none⟩) (Kd.R_types HO296.out BK286.out (by decide)) (fun _ hk => hk.2) (.slice Ao25 t294.length co25)) (fun _ hk => trivial)), u8_5⟩
  rw [if_neg c17] at H
  have c17b0 : decide ((IntKind.u64.wrap (18446744073709551615 - t288)) < a2) = false := decide_eq_false c17
  clear c17
  replace H := Option.bind_eq_some_iff.mp H
  obtain ⟨t297, A270, H⟩ := H
  replace H : (some (t297, 0)) = some (r1, r2) := H
  have A27 := Aside0.mk A270
  clear A270
  simp only [Option.some.injEq, Prod.mk.injEq] at H
  obtain ⟨rfl, rfl⟩ := H
  have hnb28 := NB293_285.out
  have hnc28 := NB285_293.out
  have hnb29 := NB293_286.out
  have hnc29 := NB286_293.out
  have hcz30_0 : w11.cell? ⟨gb293, 0, none⟩ = some (.int .u64 0) := (blk_cell BK293.out 0).trans rfl
  have hcz30_1 : w11.cell? ⟨gb293, 1, none⟩ = some (.int .u64 0) := (blk_cell BK293.out 1).trans rfl
  have hcz30_2 : w11.cell? ⟨gb293, 2, none⟩ = some (.int .u64 0) := (blk_cell BK293.out 2).trans rfl
  have hcz30_3 : w11.cell? ⟨gb293, 3, none⟩ = some (.int .u64 0) := (blk_cell BK293.out 3).trans rfl
  have hcz30_4 : w11.cell? ⟨gb293, 4, none⟩ = some (.int .i64 0) := (blk_cell BK293.out 4).trans rfl
  have hfz30_0 := blk_frozen BK293.out 0
  have hfz30_1 := blk_frozen BK293.out 1
  have hfz30_2 := blk_frozen BK293.out 2
  have hfz30_3 := blk_frozen BK293.out 3
  have hfz30_4 := blk_frozen BK293.out 4
  have hnb31 := NB285_286.out
  have hnc31 := NB286_285.out
  have hcz32_0 : w11.cell? ⟨gb285, 0, none⟩ = some (.slice A0_0 l0_0.length c0_0) := (blk_cell BK285.out 0).trans rfl
  have hfz32_0 := blk_frozen BK285.out 0
  go_wp2_with (first | ((with_reducible refine gate_callee (f := 55) rfl ?_); refine goesL_ (some 45) rfl rfl Try.func55 (by kernel_rfl) rfl #[.agg #[.slice A0_0 l0_0.length c0_0], .agg #[.int .u64 t287, .int .u64 t288, .int .u64 t289, .int .u64 a2, .int .i64 a3]] rfl u8_6 ?_; (with_reducible refine (spec_l10With.calls k _ _ l0_0 t287 t288 t289 a2 a3 t297 _ ?side1 ?side2 A27.out).mono ?_); (case side1 => exact u8_35); (case side2 => exact HC0_0.out); rintro e w33 ⟨v298, rfl, ho0, hb⟩; refine ⟨_, rfl, ?_⟩; have n0_ := Aside0.mk (Kd.R_lower (Kd.R_newB ho0 (g := gb293) (o := .cells #[.int .u64 t287, .int .u64 t288, .int .u64 t289, .int .u64 a2, .int .i64 a3] 53 (0, 0)) u8_7) (below_size u8_5)); have n1_ := Aside0.mk (blk_below (g := gb285) (o := .cells #[.slice A0_0 l0_0.length c0_0] 29 (0, 0)) (by (with_reducible repeat (first | refine blk_drewN ?_ _ | refine blk_drew ?_ | refine blk_alloc ?_ _)); refine blk_far ?_ NB285_293.out _; (with_reducible repeat (first | refine blk_drewN ?_ _ | refine blk_drew ?_ | refine blk_alloc ?_ _)); refine blk_far ?_ NB285_293.out _; (with_reducible repeat (first | refine blk_drewN ?_ _ | refine blk_drew ?_ | refine blk_alloc ?_ _)); refine blk_far ?_ NB285_293.out _; (with_reducible repeat (first | refine blk_drewN ?_ _ | refine blk_drew ?_ | refine blk_alloc ?_ _)); refine blk_far ?_ NB285_293.out _; (with_reducible repeat (first | refine blk_drewN ?_ _ | refine blk_drew ?_ | refine blk_alloc ?_ _)); refine blk_far ?_ NB285_293.out _; (with_reducible repeat (first | refine blk_drewN ?_ _ | refine blk_drew ?_ | refine blk_alloc ?_ _)); refine blk_far ?_ NB285_293.out _; (with_reducible repeat (first | refine blk_drewN ?_ _ | refine blk_drew ?_ | refine blk_alloc ?_ _)); refine blk_far ?_ NB285_293.out _; (with_reducible repeat (first | refine blk_drewN ?_ _ | refine blk_drew ?_ | refine blk_alloc ?_ _)); exact BK285.out) hb); have n2_ := Aside0.mk (blk_below (g := gb286) (o := .cells #[.slice none 0 0] 29 (0, 0)) (by (with_reducible repeat (first | refine blk_drewN ?_ _ | refine blk_drew ?_ | refine blk_alloc ?_ _)); refine blk_far ?_ NB286_293.out _; (with_reducible repeat (first | refine blk_drewN ?_ _ | refine blk_drew ?_ | refine blk_alloc ?_ _)); refine blk_far ?_ NB286_293.out _; (with_reducible repeat (first | refine blk_drewN ?_ _ | refine blk_drew ?_ | refine blk_alloc ?_ _)); refine blk_far ?_ NB286_293.out _; (with_reducible repeat (first | refine blk_drewN ?_ _ | refine blk_drew ?_ | refine blk_alloc ?_ _)); refine blk_far ?_ NB286_293.out _; (with_reducible repeat (first | refine blk_drewN ?_ _ | refine blk_drew ?_ | refine blk_alloc ?_ _)); refine blk_far ?_ NB286_293.out _; (with_reducible repeat (first | refine blk_drewN ?_ _ | refine blk_drew ?_ | refine blk_alloc ?_ _)); refine blk_far ?_ NB286_293.out _; (with_reducible repeat (first | refine blk_drewN ?_ _ | refine blk_drew ?_ | refine blk_alloc ?_ _)); refine blk_far ?_ NB286_293.out _; (with_reducible repeat (first | refine blk_drewN ?_ _ | refine blk_drew ?_ | refine blk_alloc ?_ _)); exact BK286.out) hb); have n3_ := Aside0.mk (blk_below (g := gb293) (o := .cells #[.int .u64 t287, .int .u64 t288, .int .u64 t289, .int .u64 a2, .int .i64 a3] 53 (0, 0)) u8_7 hb); have n4_ := Aside0.mk (below_step u8_5 hb); clear BK285; clear BK286; clear BK293; clear HB; have HO299 := n0_; have BK285 := n1_; have BK286 := n2_; have BK293 := n3_; have HB := n4_; clear n0_ n1_ n2_ n3_ n4_; (try clear hb); (try clear hb2); (try clear hk); (try clear hi); (try clear ho0); obtain ⟨Ao34, co34, eo34⟩ := Kd.R_slice HO299.out; subst eo34; have hcz35_0 : w33.cell? ⟨gb286, 0, none⟩ = some (.slice none 0 0) := (blk_cell BK286.out 0).trans rfl; have hfz35_0 := blk_frozen BK286.out 0))
  refine bodyPost_ret (results_ct rfl _ _ gb286 29 #[.slice Ao34 t297.length co34] (0, 0) _ rfl u8_19 Try.underlying29 rfl (by kernel_rfl)) rfl ?_
  exact ⟨_, by first | rfl | (simp [errW_none, errW_some] <;> rfl) | (simp [*, errW_none, errW_some] <;> rfl), (by (with_reducible repeat (first | apply Kd.R_alloc | apply Kd.R_drewN | apply Kd.R_drew)); exact Kd.R_mono (Kd.R_far (p := ⟨gb286, 0, none⟩) (Kd.R_types HO299.out BK286.out (by decide)) (fun _ hk => hk.2) (.slice Ao34 t297.length co34)) (fun _ hk => trivial)), u8_5⟩

end Go.Proofs.Ytdbfjakhkclggaa.QFnHolds
