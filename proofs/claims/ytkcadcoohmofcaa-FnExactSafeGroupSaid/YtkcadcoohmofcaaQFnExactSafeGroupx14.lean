-- Printed by the session's own program wip/prx.py.
import Derived.Test.YtkcadcoohmofcaaSqFnExactSafeGroup
import Derived.Test.YtkcadcoohmofcaaQFnExactSafeGroupx0
import Derived.Test.YtkcadcoohmofcaaQFnExactSafeGroupx1
import Derived.Test.YtkcadcoohmofcaaQFnExactSafeGroupx12
import Derived.Test.YtkcadcoohmofcaaQFnExactSafeGroupx13
namespace Go.Proofs.Ytkcadcoohmofcaa.QFnExactSafeGroup
open Go.RowKit Go.Proofs.YtkcadcoohmofcaaW.PrintWords Go.Proofs.YtkcadcoohmofcaaW.PrintLast Go.Proofs.YtkcadcoohmofcaaW.PrintMore Go.Proofs.Ytkcadcoohmofcaa.SqFnExactSafeGroup
attribute [local go_sem] max2_int min2_int max_two min_two max_three min_three max_four min_four Go.Proofs.Ytkcadcoohmofcaa.Set.isSome_setCell
set_option linter.unusedVariables false
set_option linter.unusedSimpArgs false

attribute [local go_sem high] eqA85
-- squeezed
theorem u14_0 {P : Prop} (h : P := by (with_reducible repeat (first | refine blk_drewN ?_ _ | refine blk_drew ?_ | refine blk_alloc ?_ _)); refine blk_far ?_ NB301_302.out _; (with_reducible repeat (first | refine blk_drewN ?_ _ | refine blk_drew ?_ | refine blk_alloc ?_ _)); refine blk_far ?_ NB301_302.out _; (with_reducible repeat (first | refine blk_drewN ?_ _ | refine blk_drew ?_ | refine blk_alloc ?_ _)); refine blk_far ?_ NB301_302.out _; (with_reducible repeat (first | refine blk_drewN ?_ _ | refine blk_drew ?_ | refine blk_alloc ?_ _)); refine blk_far ?_ NB301_302.out _; (with_reducible repeat (first | refine blk_drewN ?_ _ | refine blk_drew ?_ | refine blk_alloc ?_ _)); refine blk_far ?_ NB301_302.out _; (with_reducible repeat (first | refine blk_drewN ?_ _ | refine blk_drew ?_ | refine blk_alloc ?_ _)); refine blk_far ?_ NB301_302.out _; (with_reducible repeat (first | refine blk_drewN ?_ _ | refine blk_drew ?_ | refine blk_alloc ?_ _)); refine blk_far ?_ NB301_302.out _; (with_reducible repeat (first | refine blk_drewN ?_ _ | refine blk_drew ?_ | refine blk_alloc ?_ _)); refine blk_far ?_ NB301_302.out _; (with_reducible repeat (first | refine blk_drewN ?_ _ | refine blk_drew ?_ | refine blk_alloc ?_ _)); refine blk_far ?_ NB301_302.out _; (with_reducible repeat (first | refine blk_drewN ?_ _ | refine blk_drew ?_ | refine blk_alloc ?_ _)); refine blk_far ?_ NB301_302.out _; (with_reducible repeat (first | refine blk_drewN ?_ _ | refine blk_drew ?_ | refine blk_alloc ?_ _)); refine blk_put (cs := #[.int .i64 ((rd_T37 l0_1 x3_1).f0), .int .i64 ((rd_T37 l0_1 x3_1).f1), .int .i64 ((rd_T37 l0_1 x3_1).f2), .int .i64 ((rd_T37 l0_1 x3_1).f3), .int .i64 ((rd_T37 l0_1 x3_1).f4), .int .i64 ((rd_T37 l0_1 x3_1).f5.f0), .int .i64 ((rd_T37 l0_1 x3_1).f5.f1), .slice A299_7 ((rd_T37 l0_1 x3_1).f5.f2).length c299_7, .slice A299_8 ((rd_T37 l0_1 x3_1).f6).length c299_8, .slice none 0 0]) ?_ 9 _ rfl; (with_reducible repeat (first | refine blk_drewN ?_ _ | refine blk_drew ?_ | refine blk_alloc ?_ _)); refine blk_put (cs := #[.int .i64 ((rd_T37 l0_1 x3_1).f0), .int .i64 ((rd_T37 l0_1 x3_1).f1), .int .i64 ((rd_T37 l0_1 x3_1).f2), .int .i64 ((rd_T37 l0_1 x3_1).f3), .int .i64 ((rd_T37 l0_1 x3_1).f4), .int .i64 ((rd_T37 l0_1 x3_1).f5.f0), .int .i64 ((rd_T37 l0_1 x3_1).f5.f1), .slice A299_7 ((rd_T37 l0_1 x3_1).f5.f2).length c299_7, .slice none 0 0, .slice none 0 0]) ?_ 8 _ rfl; (with_reducible repeat (first | refine blk_drewN ?_ _ | refine blk_drew ?_ | refine blk_alloc ?_ _)); refine blk_put (cs := #[.int .i64 ((rd_T37 l0_1 x3_1).f0), .int .i64 ((rd_T37 l0_1 x3_1).f1), .int .i64 ((rd_T37 l0_1 x3_1).f2), .int .i64 ((rd_T37 l0_1 x3_1).f3), .int .i64 ((rd_T37 l0_1 x3_1).f4), .int .i64 ((rd_T37 l0_1 x3_1).f5.f0), .int .i64 ((rd_T37 l0_1 x3_1).f5.f1), .slice none 0 0, .slice none 0 0, .slice none 0 0]) ?_ 7 _ rfl; (with_reducible repeat (first | refine blk_drewN ?_ _ | refine blk_drew ?_ | refine blk_alloc ?_ _)); refine blk_put (cs := #[.int .i64 ((rd_T37 l0_1 x3_1).f0), .int .i64 ((rd_T37 l0_1 x3_1).f1), .int .i64 ((rd_T37 l0_1 x3_1).f2), .int .i64 ((rd_T37 l0_1 x3_1).f3), .int .i64 ((rd_T37 l0_1 x3_1).f4), .int .i64 ((rd_T37 l0_1 x3_1).f5.f0), .int .i64 0, .slice none 0 0, .slice none 0 0, .slice none 0 0]) ?_ 6 _ rfl; (with_reducible repeat (first | refine blk_drewN ?_ _ | refine blk_drew ?_ | refine blk_alloc ?_ _)); refine blk_put (cs := #[.int .i64 ((rd_T37 l0_1 x3_1).f0), .int .i64 ((rd_T37 l0_1 x3_1).f1), .int .i64 ((rd_T37 l0_1 x3_1).f2), .int .i64 ((rd_T37 l0_1 x3_1).f3), .int .i64 ((rd_T37 l0_1 x3_1).f4), .int .i64 0, .int .i64 0, .slice none 0 0, .slice none 0 0, .slice none 0 0]) ?_ 5 _ rfl; (with_reducible repeat (first | refine blk_drewN ?_ _ | refine blk_drew ?_ | refine blk_alloc ?_ _)); refine blk_put (cs := #[.int .i64 ((rd_T37 l0_1 x3_1).f0), .int .i64 ((rd_T37 l0_1 x3_1).f1), .int .i64 ((rd_T37 l0_1 x3_1).f2), .int .i64 ((rd_T37 l0_1 x3_1).f3), .int .i64 0, .int .i64 0, .int .i64 0, .slice none 0 0, .slice none 0 0, .slice none 0 0]) ?_ 4 _ rfl; (with_reducible repeat (first | refine blk_drewN ?_ _ | refine blk_drew ?_ | refine blk_alloc ?_ _)); refine blk_put (cs := #[.int .i64 ((rd_T37 l0_1 x3_1).f0), .int .i64 ((rd_T37 l0_1 x3_1).f1), .int .i64 ((rd_T37 l0_1 x3_1).f2), .int .i64 0, .int .i64 0, .int .i64 0, .int .i64 0, .slice none 0 0, .slice none 0 0, .slice none 0 0]) ?_ 3 _ rfl; (with_reducible repeat (first | refine blk_drewN ?_ _ | refine blk_drew ?_ | refine blk_alloc ?_ _)); refine blk_put (cs := #[.int .i64 ((rd_T37 l0_1 x3_1).f0), .int .i64 ((rd_T37 l0_1 x3_1).f1), .int .i64 0, .int .i64 0, .int .i64 0, .int .i64 0, .int .i64 0, .slice none 0 0, .slice none 0 0, .slice none 0 0]) ?_ 2 _ rfl; (with_reducible repeat (first | refine blk_drewN ?_ _ | refine blk_drew ?_ | refine blk_alloc ?_ _)); refine blk_put (cs := #[.int .i64 ((rd_T37 l0_1 x3_1).f0), .int .i64 0, .int .i64 0, .int .i64 0, .int .i64 0, .int .i64 0, .int .i64 0, .slice none 0 0, .slice none 0 0, .slice none 0 0]) ?_ 1 _ rfl; (with_reducible repeat (first | refine blk_drewN ?_ _ | refine blk_drew ?_ | refine blk_alloc ?_ _)); refine blk_put (cs := #[.int .i64 0, .int .i64 0, .int .i64 0, .int .i64 0, .int .i64 0, .int .i64 0, .int .i64 0, .slice none 0 0, .slice none 0 0, .slice none 0 0]) ?_ 0 _ rfl; (with_reducible repeat (first | refine blk_drewN ?_ _ | refine blk_drew ?_ | refine blk_alloc ?_ _)); exact BK301.out) : P := h
theorem u14_1 {P : Prop} (h : P := by (with_reducible repeat (first | refine blk_drewN ?_ _ | refine blk_drew ?_ | refine blk_alloc ?_ _)); refine blk_put (cs := #[.int .i64 ((rd_T37 l0_1 x4_2).f0), .int .i64 ((rd_T37 l0_1 x4_2).f1), .int .i64 ((rd_T37 l0_1 x4_2).f2), .int .i64 ((rd_T37 l0_1 x4_2).f3), .int .i64 ((rd_T37 l0_1 x4_2).f4), .int .i64 ((rd_T37 l0_1 x4_2).f5.f0), .int .i64 ((rd_T37 l0_1 x4_2).f5.f1), .slice A300_7 ((rd_T37 l0_1 x4_2).f5.f2).length c300_7, .slice A300_8 ((rd_T37 l0_1 x4_2).f6).length c300_8, .slice none 0 0]) ?_ 9 _ rfl; (with_reducible repeat (first | refine blk_drewN ?_ _ | refine blk_drew ?_ | refine blk_alloc ?_ _)); refine blk_put (cs := #[.int .i64 ((rd_T37 l0_1 x4_2).f0), .int .i64 ((rd_T37 l0_1 x4_2).f1), .int .i64 ((rd_T37 l0_1 x4_2).f2), .int .i64 ((rd_T37 l0_1 x4_2).f3), .int .i64 ((rd_T37 l0_1 x4_2).f4), .int .i64 ((rd_T37 l0_1 x4_2).f5.f0), .int .i64 ((rd_T37 l0_1 x4_2).f5.f1), .slice A300_7 ((rd_T37 l0_1 x4_2).f5.f2).length c300_7, .slice none 0 0, .slice none 0 0]) ?_ 8 _ rfl; (with_reducible repeat (first | refine blk_drewN ?_ _ | refine blk_drew ?_ | refine blk_alloc ?_ _)); refine blk_put (cs := #[.int .i64 ((rd_T37 l0_1 x4_2).f0), .int .i64 ((rd_T37 l0_1 x4_2).f1), .int .i64 ((rd_T37 l0_1 x4_2).f2), .int .i64 ((rd_T37 l0_1 x4_2).f3), .int .i64 ((rd_T37 l0_1 x4_2).f4), .int .i64 ((rd_T37 l0_1 x4_2).f5.f0), .int .i64 ((rd_T37 l0_1 x4_2).f5.f1), .slice none 0 0, .slice none 0 0, .slice none 0 0]) ?_ 7 _ rfl; (with_reducible repeat (first | refine blk_drewN ?_ _ | refine blk_drew ?_ | refine blk_alloc ?_ _)); refine blk_put (cs := #[.int .i64 ((rd_T37 l0_1 x4_2).f0), .int .i64 ((rd_T37 l0_1 x4_2).f1), .int .i64 ((rd_T37 l0_1 x4_2).f2), .int .i64 ((rd_T37 l0_1 x4_2).f3), .int .i64 ((rd_T37 l0_1 x4_2).f4), .int .i64 ((rd_T37 l0_1 x4_2).f5.f0), .int .i64 0, .slice none 0 0, .slice none 0 0, .slice none 0 0]) ?_ 6 _ rfl; (with_reducible repeat (first | refine blk_drewN ?_ _ | refine blk_drew ?_ | refine blk_alloc ?_ _)); refine blk_put (cs := #[.int .i64 ((rd_T37 l0_1 x4_2).f0), .int .i64 ((rd_T37 l0_1 x4_2).f1), .int .i64 ((rd_T37 l0_1 x4_2).f2), .int .i64 ((rd_T37 l0_1 x4_2).f3), .int .i64 ((rd_T37 l0_1 x4_2).f4), .int .i64 0, .int .i64 0, .slice none 0 0, .slice none 0 0, .slice none 0 0]) ?_ 5 _ rfl; (with_reducible repeat (first | refine blk_drewN ?_ _ | refine blk_drew ?_ | refine blk_alloc ?_ _)); refine blk_put (cs := #[.int .i64 ((rd_T37 l0_1 x4_2).f0), .int .i64 ((rd_T37 l0_1 x4_2).f1), .int .i64 ((rd_T37 l0_1 x4_2).f2), .int .i64 ((rd_T37 l0_1 x4_2).f3), .int .i64 0, .int .i64 0, .int .i64 0, .slice none 0 0, .slice none 0 0, .slice none 0 0]) ?_ 4 _ rfl; (with_reducible repeat (first | refine blk_drewN ?_ _ | refine blk_drew ?_ | refine blk_alloc ?_ _)); refine blk_put (cs := #[.int .i64 ((rd_T37 l0_1 x4_2).f0), .int .i64 ((rd_T37 l0_1 x4_2).f1), .int .i64 ((rd_T37 l0_1 x4_2).f2), .int .i64 0, .int .i64 0, .int .i64 0, .int .i64 0, .slice none 0 0, .slice none 0 0, .slice none 0 0]) ?_ 3 _ rfl; (with_reducible repeat (first | refine blk_drewN ?_ _ | refine blk_drew ?_ | refine blk_alloc ?_ _)); refine blk_put (cs := #[.int .i64 ((rd_T37 l0_1 x4_2).f0), .int .i64 ((rd_T37 l0_1 x4_2).f1), .int .i64 0, .int .i64 0, .int .i64 0, .int .i64 0, .int .i64 0, .slice none 0 0, .slice none 0 0, .slice none 0 0]) ?_ 2 _ rfl; (with_reducible repeat (first | refine blk_drewN ?_ _ | refine blk_drew ?_ | refine blk_alloc ?_ _)); refine blk_put (cs := #[.int .i64 ((rd_T37 l0_1 x4_2).f0), .int .i64 0, .int .i64 0, .int .i64 0, .int .i64 0, .int .i64 0, .int .i64 0, .slice none 0 0, .slice none 0 0, .slice none 0 0]) ?_ 1 _ rfl; (with_reducible repeat (first | refine blk_drewN ?_ _ | refine blk_drew ?_ | refine blk_alloc ?_ _)); refine blk_put (cs := #[.int .i64 0, .int .i64 0, .int .i64 0, .int .i64 0, .int .i64 0, .int .i64 0, .int .i64 0, .slice none 0 0, .slice none 0 0, .slice none 0 0]) ?_ 0 _ rfl; (with_reducible repeat (first | refine blk_drewN ?_ _ | refine blk_drew ?_ | refine blk_alloc ?_ _)); refine blk_far ?_ NB302_301.out _; (with_reducible repeat (first | refine blk_drewN ?_ _ | refine blk_drew ?_ | refine blk_alloc ?_ _)); refine blk_far ?_ NB302_301.out _; (with_reducible repeat (first | refine blk_drewN ?_ _ | refine blk_drew ?_ | refine blk_alloc ?_ _)); refine blk_far ?_ NB302_301.out _; (with_reducible repeat (first | refine blk_drewN ?_ _ | refine blk_drew ?_ | refine blk_alloc ?_ _)); refine blk_far ?_ NB302_301.out _; (with_reducible repeat (first | refine blk_drewN ?_ _ | refine blk_drew ?_ | refine blk_alloc ?_ _)); refine blk_far ?_ NB302_301.out _; (with_reducible repeat (first | refine blk_drewN ?_ _ | refine blk_drew ?_ | refine blk_alloc ?_ _)); refine blk_far ?_ NB302_301.out _; (with_reducible repeat (first | refine blk_drewN ?_ _ | refine blk_drew ?_ | refine blk_alloc ?_ _)); refine blk_far ?_ NB302_301.out _; (with_reducible repeat (first | refine blk_drewN ?_ _ | refine blk_drew ?_ | refine blk_alloc ?_ _)); refine blk_far ?_ NB302_301.out _; (with_reducible repeat (first | refine blk_drewN ?_ _ | refine blk_drew ?_ | refine blk_alloc ?_ _)); refine blk_far ?_ NB302_301.out _; (with_reducible repeat (first | refine blk_drewN ?_ _ | refine blk_drew ?_ | refine blk_alloc ?_ _)); refine blk_far ?_ NB302_301.out _; (with_reducible repeat (first | refine blk_drewN ?_ _ | refine blk_drew ?_ | refine blk_alloc ?_ _)); exact BK302.out) : P := h
theorem u14_2 {P : Prop} (h : P := by have := World.block_lt_of_cell? _ _ hw299_0; first | rwa [add_block] at this | exact this) : P := h
theorem u14_3 {P : Prop} (h : P := by have := World.block_lt_of_cell? _ _ hw299_1; first | rwa [add_block] at this | exact this) : P := h
theorem u14_4 {P : Prop} (h : P := by have := World.block_lt_of_cell? _ _ hw299_2; first | rwa [add_block] at this | exact this) : P := h
theorem u14_5 {P : Prop} (h : P := by have := World.block_lt_of_cell? _ _ hw299_3; first | rwa [add_block] at this | exact this) : P := h
theorem u14_6 {P : Prop} (h : P := by have := World.block_lt_of_cell? _ _ hw299_4; first | rwa [add_block] at this | exact this) : P := h
theorem u14_7 {P : Prop} (h : P := by have := World.block_lt_of_cell? _ _ hw299_5; first | rwa [add_block] at this | exact this) : P := h
theorem u14_8 {P : Prop} (h : P := by have := World.block_lt_of_cell? _ _ hw299_6; first | rwa [add_block] at this | exact this) : P := h
theorem u14_9 {P : Prop} (h : P := by have := World.block_lt_of_cell? _ _ hw299_7; first | rwa [add_block] at this | exact this) : P := h
theorem u14_10 {P : Prop} (h : P := by have := World.block_lt_of_cell? _ _ hw299_8; first | rwa [add_block] at this | exact this) : P := h
theorem u14_11 {P : Prop} (h : P := by have := World.block_lt_of_cell? _ _ hw299_9; first | rwa [add_block] at this | exact this) : P := h
theorem u14_12 {P : Prop} (h : P := by have := World.block_lt_of_cell? _ _ hw300_0; first | rwa [add_block] at this | exact this) : P := h
theorem u14_13 {P : Prop} (h : P := by have := World.block_lt_of_cell? _ _ hw300_1; first | rwa [add_block] at this | exact this) : P := h
theorem u14_14 {P : Prop} (h : P := by have := World.block_lt_of_cell? _ _ hw300_2; first | rwa [add_block] at this | exact this) : P := h
theorem u14_15 {P : Prop} (h : P := by have := World.block_lt_of_cell? _ _ hw300_3; first | rwa [add_block] at this | exact this) : P := h
theorem u14_16 {P : Prop} (h : P := by have := World.block_lt_of_cell? _ _ hw300_4; first | rwa [add_block] at this | exact this) : P := h
theorem u14_17 {P : Prop} (h : P := by have := World.block_lt_of_cell? _ _ hw300_5; first | rwa [add_block] at this | exact this) : P := h
theorem u14_18 {P : Prop} (h : P := by have := World.block_lt_of_cell? _ _ hw300_6; first | rwa [add_block] at this | exact this) : P := h
theorem u14_19 {P : Prop} (h : P := by have := World.block_lt_of_cell? _ _ hw300_7; first | rwa [add_block] at this | exact this) : P := h
theorem u14_20 {P : Prop} (h : P := by have := World.block_lt_of_cell? _ _ hw300_8; first | rwa [add_block] at this | exact this) : P := h
theorem u14_21 {P : Prop} (h : P := by have := World.block_lt_of_cell? _ _ hw300_9; first | rwa [add_block] at this | exact this) : P := h
theorem u14_22 {P : Prop} (h : P := by (with_reducible repeat (first | refine blk_drewN ?_ _ | refine blk_drew ?_ | refine blk_alloc ?_ _)); refine blk_far ?_ NB297_302.out _; (with_reducible repeat (first | refine blk_drewN ?_ _ | refine blk_drew ?_ | refine blk_alloc ?_ _)); refine blk_far ?_ NB297_302.out _; (with_reducible repeat (first | refine blk_drewN ?_ _ | refine blk_drew ?_ | refine blk_alloc ?_ _)); refine blk_far ?_ NB297_302.out _; (with_reducible repeat (first | refine blk_drewN ?_ _ | refine blk_drew ?_ | refine blk_alloc ?_ _)); refine blk_far ?_ NB297_302.out _; (with_reducible repeat (first | refine blk_drewN ?_ _ | refine blk_drew ?_ | refine blk_alloc ?_ _)); refine blk_far ?_ NB297_302.out _; (with_reducible repeat (first | refine blk_drewN ?_ _ | refine blk_drew ?_ | refine blk_alloc ?_ _)); refine blk_far ?_ NB297_302.out _; (with_reducible repeat (first | refine blk_drewN ?_ _ | refine blk_drew ?_ | refine blk_alloc ?_ _)); refine blk_far ?_ NB297_302.out _; (with_reducible repeat (first | refine blk_drewN ?_ _ | refine blk_drew ?_ | refine blk_alloc ?_ _)); refine blk_far ?_ NB297_302.out _; (with_reducible repeat (first | refine blk_drewN ?_ _ | refine blk_drew ?_ | refine blk_alloc ?_ _)); refine blk_far ?_ NB297_302.out _; (with_reducible repeat (first | refine blk_drewN ?_ _ | refine blk_drew ?_ | refine blk_alloc ?_ _)); refine blk_far ?_ NB297_302.out _; (with_reducible repeat (first | refine blk_drewN ?_ _ | refine blk_drew ?_ | refine blk_alloc ?_ _)); refine blk_far ?_ NB297_301.out _; (with_reducible repeat (first | refine blk_drewN ?_ _ | refine blk_drew ?_ | refine blk_alloc ?_ _)); refine blk_far ?_ NB297_301.out _; (with_reducible repeat (first | refine blk_drewN ?_ _ | refine blk_drew ?_ | refine blk_alloc ?_ _)); refine blk_far ?_ NB297_301.out _; (with_reducible repeat (first | refine blk_drewN ?_ _ | refine blk_drew ?_ | refine blk_alloc ?_ _)); refine blk_far ?_ NB297_301.out _; (with_reducible repeat (first | refine blk_drewN ?_ _ | refine blk_drew ?_ | refine blk_alloc ?_ _)); refine blk_far ?_ NB297_301.out _; (with_reducible repeat (first | refine blk_drewN ?_ _ | refine blk_drew ?_ | refine blk_alloc ?_ _)); refine blk_far ?_ NB297_301.out _; (with_reducible repeat (first | refine blk_drewN ?_ _ | refine blk_drew ?_ | refine blk_alloc ?_ _)); refine blk_far ?_ NB297_301.out _; (with_reducible repeat (first | refine blk_drewN ?_ _ | refine blk_drew ?_ | refine blk_alloc ?_ _)); refine blk_far ?_ NB297_301.out _; (with_reducible repeat (first | refine blk_drewN ?_ _ | refine blk_drew ?_ | refine blk_alloc ?_ _)); refine blk_far ?_ NB297_301.out _; (with_reducible repeat (first | refine blk_drewN ?_ _ | refine blk_drew ?_ | refine blk_alloc ?_ _)); refine blk_far ?_ NB297_301.out _; (with_reducible repeat (first | refine blk_drewN ?_ _ | refine blk_drew ?_ | refine blk_alloc ?_ _)); exact BK297.out) : P := h
theorem u14_23 {P : Prop} (h : P := by first | exact Nat.ne_of_lt (Nat.lt_of_lt_of_le u14_10 GW301.out) | (rw [add_block]; exact Nat.ne_of_lt (Nat.lt_of_lt_of_le u14_10 GW301.out)) | (show (Addr.add _ _).block ≠ _; rw [add_block]; exact Nat.ne_of_lt (Nat.lt_of_lt_of_le u14_10 GW301.out)) | (dsimp only; exact Nat.ne_of_lt (Nat.lt_of_lt_of_le u14_10 GW301.out))) : P := h
theorem u14_24 {P : Prop} (h : P := by first | exact Nat.ne_of_lt (Nat.lt_of_lt_of_le u14_11 GW301.out) | (rw [add_block]; exact Nat.ne_of_lt (Nat.lt_of_lt_of_le u14_11 GW301.out)) | (show (Addr.add _ _).block ≠ _; rw [add_block]; exact Nat.ne_of_lt (Nat.lt_of_lt_of_le u14_11 GW301.out)) | (dsimp only; exact Nat.ne_of_lt (Nat.lt_of_lt_of_le u14_11 GW301.out))) : P := h
theorem u14_25 {P : Prop} (h : P := by first | exact Nat.ne_of_lt (Nat.lt_of_lt_of_le u14_12 GW301.out) | (rw [add_block]; exact Nat.ne_of_lt (Nat.lt_of_lt_of_le u14_12 GW301.out)) | (show (Addr.add _ _).block ≠ _; rw [add_block]; exact Nat.ne_of_lt (Nat.lt_of_lt_of_le u14_12 GW301.out)) | (dsimp only; exact Nat.ne_of_lt (Nat.lt_of_lt_of_le u14_12 GW301.out))) : P := h
theorem u14_26 {P : Prop} (h : P := by first | exact Nat.ne_of_lt (Nat.lt_of_lt_of_le u14_13 GW301.out) | (rw [add_block]; exact Nat.ne_of_lt (Nat.lt_of_lt_of_le u14_13 GW301.out)) | (show (Addr.add _ _).block ≠ _; rw [add_block]; exact Nat.ne_of_lt (Nat.lt_of_lt_of_le u14_13 GW301.out)) | (dsimp only; exact Nat.ne_of_lt (Nat.lt_of_lt_of_le u14_13 GW301.out))) : P := h
theorem u14_27 {P : Prop} (h : P := by first | exact Nat.ne_of_lt (Nat.lt_of_lt_of_le u14_14 GW301.out) | (rw [add_block]; exact Nat.ne_of_lt (Nat.lt_of_lt_of_le u14_14 GW301.out)) | (show (Addr.add _ _).block ≠ _; rw [add_block]; exact Nat.ne_of_lt (Nat.lt_of_lt_of_le u14_14 GW301.out)) | (dsimp only; exact Nat.ne_of_lt (Nat.lt_of_lt_of_le u14_14 GW301.out))) : P := h
theorem u14_28 {P : Prop} (h : P := by first | exact Nat.ne_of_lt (Nat.lt_of_lt_of_le u14_15 GW301.out) | (rw [add_block]; exact Nat.ne_of_lt (Nat.lt_of_lt_of_le u14_15 GW301.out)) | (show (Addr.add _ _).block ≠ _; rw [add_block]; exact Nat.ne_of_lt (Nat.lt_of_lt_of_le u14_15 GW301.out)) | (dsimp only; exact Nat.ne_of_lt (Nat.lt_of_lt_of_le u14_15 GW301.out))) : P := h
theorem u14_29 {P : Prop} (h : P := by first | exact Nat.ne_of_lt (Nat.lt_of_lt_of_le u14_16 GW301.out) | (rw [add_block]; exact Nat.ne_of_lt (Nat.lt_of_lt_of_le u14_16 GW301.out)) | (show (Addr.add _ _).block ≠ _; rw [add_block]; exact Nat.ne_of_lt (Nat.lt_of_lt_of_le u14_16 GW301.out)) | (dsimp only; exact Nat.ne_of_lt (Nat.lt_of_lt_of_le u14_16 GW301.out))) : P := h
theorem u14_30 {P : Prop} (h : P := by first | exact Nat.ne_of_lt (Nat.lt_of_lt_of_le u14_17 GW301.out) | (rw [add_block]; exact Nat.ne_of_lt (Nat.lt_of_lt_of_le u14_17 GW301.out)) | (show (Addr.add _ _).block ≠ _; rw [add_block]; exact Nat.ne_of_lt (Nat.lt_of_lt_of_le u14_17 GW301.out)) | (dsimp only; exact Nat.ne_of_lt (Nat.lt_of_lt_of_le u14_17 GW301.out))) : P := h
theorem u14_31 {P : Prop} (h : P := by first | exact Nat.ne_of_lt (Nat.lt_of_lt_of_le u14_18 GW301.out) | (rw [add_block]; exact Nat.ne_of_lt (Nat.lt_of_lt_of_le u14_18 GW301.out)) | (show (Addr.add _ _).block ≠ _; rw [add_block]; exact Nat.ne_of_lt (Nat.lt_of_lt_of_le u14_18 GW301.out)) | (dsimp only; exact Nat.ne_of_lt (Nat.lt_of_lt_of_le u14_18 GW301.out))) : P := h
theorem u14_32 {P : Prop} (h : P := by first | exact Nat.ne_of_lt (Nat.lt_of_lt_of_le u14_19 GW301.out) | (rw [add_block]; exact Nat.ne_of_lt (Nat.lt_of_lt_of_le u14_19 GW301.out)) | (show (Addr.add _ _).block ≠ _; rw [add_block]; exact Nat.ne_of_lt (Nat.lt_of_lt_of_le u14_19 GW301.out)) | (dsimp only; exact Nat.ne_of_lt (Nat.lt_of_lt_of_le u14_19 GW301.out))) : P := h
theorem u14_33 {P : Prop} (h : P := by first | exact Nat.ne_of_lt (Nat.lt_of_lt_of_le u14_20 GW301.out) | (rw [add_block]; exact Nat.ne_of_lt (Nat.lt_of_lt_of_le u14_20 GW301.out)) | (show (Addr.add _ _).block ≠ _; rw [add_block]; exact Nat.ne_of_lt (Nat.lt_of_lt_of_le u14_20 GW301.out)) | (dsimp only; exact Nat.ne_of_lt (Nat.lt_of_lt_of_le u14_20 GW301.out))) : P := h
theorem u14_34 {P : Prop} (h : P := by first | exact Nat.ne_of_lt (Nat.lt_of_lt_of_le u14_21 GW301.out) | (rw [add_block]; exact Nat.ne_of_lt (Nat.lt_of_lt_of_le u14_21 GW301.out)) | (show (Addr.add _ _).block ≠ _; rw [add_block]; exact Nat.ne_of_lt (Nat.lt_of_lt_of_le u14_21 GW301.out)) | (dsimp only; exact Nat.ne_of_lt (Nat.lt_of_lt_of_le u14_21 GW301.out))) : P := h
theorem u14_35 {P : Prop} (h : P := by first | exact Nat.ne_of_lt (Nat.lt_of_lt_of_le u14_10 GW302.out) | (rw [add_block]; exact Nat.ne_of_lt (Nat.lt_of_lt_of_le u14_10 GW302.out)) | (show (Addr.add _ _).block ≠ _; rw [add_block]; exact Nat.ne_of_lt (Nat.lt_of_lt_of_le u14_10 GW302.out)) | (dsimp only; exact Nat.ne_of_lt (Nat.lt_of_lt_of_le u14_10 GW302.out))) : P := h
theorem u14_36 {P : Prop} (h : P := by first | exact Nat.ne_of_lt (Nat.lt_of_lt_of_le u14_11 GW302.out) | (rw [add_block]; exact Nat.ne_of_lt (Nat.lt_of_lt_of_le u14_11 GW302.out)) | (show (Addr.add _ _).block ≠ _; rw [add_block]; exact Nat.ne_of_lt (Nat.lt_of_lt_of_le u14_11 GW302.out)) | (dsimp only; exact Nat.ne_of_lt (Nat.lt_of_lt_of_le u14_11 GW302.out))) : P := h
theorem u14_37 {P : Prop} (h : P := by first | exact Nat.ne_of_lt (Nat.lt_of_lt_of_le u14_12 GW302.out) | (rw [add_block]; exact Nat.ne_of_lt (Nat.lt_of_lt_of_le u14_12 GW302.out)) | (show (Addr.add _ _).block ≠ _; rw [add_block]; exact Nat.ne_of_lt (Nat.lt_of_lt_of_le u14_12 GW302.out)) | (dsimp only; exact Nat.ne_of_lt (Nat.lt_of_lt_of_le u14_12 GW302.out))) : P := h
theorem u14_38 {P : Prop} (h : P := by first | exact Nat.ne_of_lt (Nat.lt_of_lt_of_le u14_13 GW302.out) | (rw [add_block]; exact Nat.ne_of_lt (Nat.lt_of_lt_of_le u14_13 GW302.out)) | (show (Addr.add _ _).block ≠ _; rw [add_block]; exact Nat.ne_of_lt (Nat.lt_of_lt_of_le u14_13 GW302.out)) | (dsimp only; exact Nat.ne_of_lt (Nat.lt_of_lt_of_le u14_13 GW302.out))) : P := h
theorem u14_39 {P : Prop} (h : P := by first | exact Nat.ne_of_lt (Nat.lt_of_lt_of_le u14_14 GW302.out) | (rw [add_block]; exact Nat.ne_of_lt (Nat.lt_of_lt_of_le u14_14 GW302.out)) | (show (Addr.add _ _).block ≠ _; rw [add_block]; exact Nat.ne_of_lt (Nat.lt_of_lt_of_le u14_14 GW302.out)) | (dsimp only; exact Nat.ne_of_lt (Nat.lt_of_lt_of_le u14_14 GW302.out))) : P := h
theorem u14_40 {P : Prop} (h : P := by first | exact Nat.ne_of_lt (Nat.lt_of_lt_of_le u14_15 GW302.out) | (rw [add_block]; exact Nat.ne_of_lt (Nat.lt_of_lt_of_le u14_15 GW302.out)) | (show (Addr.add _ _).block ≠ _; rw [add_block]; exact Nat.ne_of_lt (Nat.lt_of_lt_of_le u14_15 GW302.out)) | (dsimp only; exact Nat.ne_of_lt (Nat.lt_of_lt_of_le u14_15 GW302.out))) : P := h
theorem u14_41 {P : Prop} (h : P := by first | exact Nat.ne_of_lt (Nat.lt_of_lt_of_le u14_16 GW302.out) | (rw [add_block]; exact Nat.ne_of_lt (Nat.lt_of_lt_of_le u14_16 GW302.out)) | (show (Addr.add _ _).block ≠ _; rw [add_block]; exact Nat.ne_of_lt (Nat.lt_of_lt_of_le u14_16 GW302.out)) | (dsimp only; exact Nat.ne_of_lt (Nat.lt_of_lt_of_le u14_16 GW302.out))) : P := h
theorem u14_42 {P : Prop} (h : P := by first | exact Nat.ne_of_lt (Nat.lt_of_lt_of_le u14_17 GW302.out) | (rw [add_block]; exact Nat.ne_of_lt (Nat.lt_of_lt_of_le u14_17 GW302.out)) | (show (Addr.add _ _).block ≠ _; rw [add_block]; exact Nat.ne_of_lt (Nat.lt_of_lt_of_le u14_17 GW302.out)) | (dsimp only; exact Nat.ne_of_lt (Nat.lt_of_lt_of_le u14_17 GW302.out))) : P := h
theorem u14_43 {P : Prop} (h : P := by first | exact Nat.ne_of_lt (Nat.lt_of_lt_of_le u14_18 GW302.out) | (rw [add_block]; exact Nat.ne_of_lt (Nat.lt_of_lt_of_le u14_18 GW302.out)) | (show (Addr.add _ _).block ≠ _; rw [add_block]; exact Nat.ne_of_lt (Nat.lt_of_lt_of_le u14_18 GW302.out)) | (dsimp only; exact Nat.ne_of_lt (Nat.lt_of_lt_of_le u14_18 GW302.out))) : P := h
theorem u14_44 {P : Prop} (h : P := by first | exact Nat.ne_of_lt (Nat.lt_of_lt_of_le u14_19 GW302.out) | (rw [add_block]; exact Nat.ne_of_lt (Nat.lt_of_lt_of_le u14_19 GW302.out)) | (show (Addr.add _ _).block ≠ _; rw [add_block]; exact Nat.ne_of_lt (Nat.lt_of_lt_of_le u14_19 GW302.out)) | (dsimp only; exact Nat.ne_of_lt (Nat.lt_of_lt_of_le u14_19 GW302.out))) : P := h
theorem u14_45 {P : Prop} (h : P := by first | exact Nat.ne_of_lt (Nat.lt_of_lt_of_le u14_20 GW302.out) | (rw [add_block]; exact Nat.ne_of_lt (Nat.lt_of_lt_of_le u14_20 GW302.out)) | (show (Addr.add _ _).block ≠ _; rw [add_block]; exact Nat.ne_of_lt (Nat.lt_of_lt_of_le u14_20 GW302.out)) | (dsimp only; exact Nat.ne_of_lt (Nat.lt_of_lt_of_le u14_20 GW302.out))) : P := h
theorem u14_46 {P : Prop} (h : P := by first | exact Nat.ne_of_lt (Nat.lt_of_lt_of_le u14_21 GW302.out) | (rw [add_block]; exact Nat.ne_of_lt (Nat.lt_of_lt_of_le u14_21 GW302.out)) | (show (Addr.add _ _).block ≠ _; rw [add_block]; exact Nat.ne_of_lt (Nat.lt_of_lt_of_le u14_21 GW302.out)) | (dsimp only; exact Nat.ne_of_lt (Nat.lt_of_lt_of_le u14_21 GW302.out))) : P := h
theorem u14_47 {P : Prop} (h : P := by first | exact Nat.ne_of_lt (Nat.lt_of_lt_of_le u14_2 GW301.out) | (rw [add_block]; exact Nat.ne_of_lt (Nat.lt_of_lt_of_le u14_2 GW301.out)) | (show (Addr.add _ _).block ≠ _; rw [add_block]; exact Nat.ne_of_lt (Nat.lt_of_lt_of_le u14_2 GW301.out)) | (dsimp only; exact Nat.ne_of_lt (Nat.lt_of_lt_of_le u14_2 GW301.out))) : P := h
theorem u14_48 {P : Prop} (h : P := by first | exact Nat.ne_of_lt (Nat.lt_of_lt_of_le u14_3 GW301.out) | (rw [add_block]; exact Nat.ne_of_lt (Nat.lt_of_lt_of_le u14_3 GW301.out)) | (show (Addr.add _ _).block ≠ _; rw [add_block]; exact Nat.ne_of_lt (Nat.lt_of_lt_of_le u14_3 GW301.out)) | (dsimp only; exact Nat.ne_of_lt (Nat.lt_of_lt_of_le u14_3 GW301.out))) : P := h
theorem u14_49 {P : Prop} (h : P := by first | exact Nat.ne_of_lt (Nat.lt_of_lt_of_le u14_4 GW301.out) | (rw [add_block]; exact Nat.ne_of_lt (Nat.lt_of_lt_of_le u14_4 GW301.out)) | (show (Addr.add _ _).block ≠ _; rw [add_block]; exact Nat.ne_of_lt (Nat.lt_of_lt_of_le u14_4 GW301.out)) | (dsimp only; exact Nat.ne_of_lt (Nat.lt_of_lt_of_le u14_4 GW301.out))) : P := h
theorem u14_50 {P : Prop} (h : P := by first | exact Nat.ne_of_lt (Nat.lt_of_lt_of_le u14_5 GW301.out) | (rw [add_block]; exact Nat.ne_of_lt (Nat.lt_of_lt_of_le u14_5 GW301.out)) | (show (Addr.add _ _).block ≠ _; rw [add_block]; exact Nat.ne_of_lt (Nat.lt_of_lt_of_le u14_5 GW301.out)) | (dsimp only; exact Nat.ne_of_lt (Nat.lt_of_lt_of_le u14_5 GW301.out))) : P := h
theorem u14_51 {P : Prop} (h : P := by first | exact Nat.ne_of_lt (Nat.lt_of_lt_of_le u14_6 GW301.out) | (rw [add_block]; exact Nat.ne_of_lt (Nat.lt_of_lt_of_le u14_6 GW301.out)) | (show (Addr.add _ _).block ≠ _; rw [add_block]; exact Nat.ne_of_lt (Nat.lt_of_lt_of_le u14_6 GW301.out)) | (dsimp only; exact Nat.ne_of_lt (Nat.lt_of_lt_of_le u14_6 GW301.out))) : P := h
theorem u14_52 {P : Prop} (h : P := by first | exact Nat.ne_of_lt (Nat.lt_of_lt_of_le u14_7 GW301.out) | (rw [add_block]; exact Nat.ne_of_lt (Nat.lt_of_lt_of_le u14_7 GW301.out)) | (show (Addr.add _ _).block ≠ _; rw [add_block]; exact Nat.ne_of_lt (Nat.lt_of_lt_of_le u14_7 GW301.out)) | (dsimp only; exact Nat.ne_of_lt (Nat.lt_of_lt_of_le u14_7 GW301.out))) : P := h
theorem u14_53 {P : Prop} (h : P := by first | exact Nat.ne_of_lt (Nat.lt_of_lt_of_le u14_8 GW301.out) | (rw [add_block]; exact Nat.ne_of_lt (Nat.lt_of_lt_of_le u14_8 GW301.out)) | (show (Addr.add _ _).block ≠ _; rw [add_block]; exact Nat.ne_of_lt (Nat.lt_of_lt_of_le u14_8 GW301.out)) | (dsimp only; exact Nat.ne_of_lt (Nat.lt_of_lt_of_le u14_8 GW301.out))) : P := h
theorem u14_54 {P : Prop} (h : P := by first | exact Nat.ne_of_lt (Nat.lt_of_lt_of_le u14_9 GW301.out) | (rw [add_block]; exact Nat.ne_of_lt (Nat.lt_of_lt_of_le u14_9 GW301.out)) | (show (Addr.add _ _).block ≠ _; rw [add_block]; exact Nat.ne_of_lt (Nat.lt_of_lt_of_le u14_9 GW301.out)) | (dsimp only; exact Nat.ne_of_lt (Nat.lt_of_lt_of_le u14_9 GW301.out))) : P := h
theorem u14_55 {P : Prop} (h : P := by first | exact Nat.ne_of_lt (Nat.lt_of_lt_of_le u14_2 GW302.out) | (rw [add_block]; exact Nat.ne_of_lt (Nat.lt_of_lt_of_le u14_2 GW302.out)) | (show (Addr.add _ _).block ≠ _; rw [add_block]; exact Nat.ne_of_lt (Nat.lt_of_lt_of_le u14_2 GW302.out)) | (dsimp only; exact Nat.ne_of_lt (Nat.lt_of_lt_of_le u14_2 GW302.out))) : P := h
theorem u14_56 {P : Prop} (h : P := by first | exact Nat.ne_of_lt (Nat.lt_of_lt_of_le u14_3 GW302.out) | (rw [add_block]; exact Nat.ne_of_lt (Nat.lt_of_lt_of_le u14_3 GW302.out)) | (show (Addr.add _ _).block ≠ _; rw [add_block]; exact Nat.ne_of_lt (Nat.lt_of_lt_of_le u14_3 GW302.out)) | (dsimp only; exact Nat.ne_of_lt (Nat.lt_of_lt_of_le u14_3 GW302.out))) : P := h
theorem u14_57 {P : Prop} (h : P := by first | exact Nat.ne_of_lt (Nat.lt_of_lt_of_le u14_4 GW302.out) | (rw [add_block]; exact Nat.ne_of_lt (Nat.lt_of_lt_of_le u14_4 GW302.out)) | (show (Addr.add _ _).block ≠ _; rw [add_block]; exact Nat.ne_of_lt (Nat.lt_of_lt_of_le u14_4 GW302.out)) | (dsimp only; exact Nat.ne_of_lt (Nat.lt_of_lt_of_le u14_4 GW302.out))) : P := h
theorem u14_58 {P : Prop} (h : P := by first | exact Nat.ne_of_lt (Nat.lt_of_lt_of_le u14_5 GW302.out) | (rw [add_block]; exact Nat.ne_of_lt (Nat.lt_of_lt_of_le u14_5 GW302.out)) | (show (Addr.add _ _).block ≠ _; rw [add_block]; exact Nat.ne_of_lt (Nat.lt_of_lt_of_le u14_5 GW302.out)) | (dsimp only; exact Nat.ne_of_lt (Nat.lt_of_lt_of_le u14_5 GW302.out))) : P := h
theorem u14_59 {P : Prop} (h : P := by first | exact Nat.ne_of_lt (Nat.lt_of_lt_of_le u14_6 GW302.out) | (rw [add_block]; exact Nat.ne_of_lt (Nat.lt_of_lt_of_le u14_6 GW302.out)) | (show (Addr.add _ _).block ≠ _; rw [add_block]; exact Nat.ne_of_lt (Nat.lt_of_lt_of_le u14_6 GW302.out)) | (dsimp only; exact Nat.ne_of_lt (Nat.lt_of_lt_of_le u14_6 GW302.out))) : P := h
theorem u14_60 {P : Prop} (h : P := by first | exact Nat.ne_of_lt (Nat.lt_of_lt_of_le u14_7 GW302.out) | (rw [add_block]; exact Nat.ne_of_lt (Nat.lt_of_lt_of_le u14_7 GW302.out)) | (show (Addr.add _ _).block ≠ _; rw [add_block]; exact Nat.ne_of_lt (Nat.lt_of_lt_of_le u14_7 GW302.out)) | (dsimp only; exact Nat.ne_of_lt (Nat.lt_of_lt_of_le u14_7 GW302.out))) : P := h
theorem u14_61 {P : Prop} (h : P := by first | exact Nat.ne_of_lt (Nat.lt_of_lt_of_le u14_8 GW302.out) | (rw [add_block]; exact Nat.ne_of_lt (Nat.lt_of_lt_of_le u14_8 GW302.out)) | (show (Addr.add _ _).block ≠ _; rw [add_block]; exact Nat.ne_of_lt (Nat.lt_of_lt_of_le u14_8 GW302.out)) | (dsimp only; exact Nat.ne_of_lt (Nat.lt_of_lt_of_le u14_8 GW302.out))) : P := h
theorem u14_62 {P : Prop} (h : P := by first | exact Nat.ne_of_lt (Nat.lt_of_lt_of_le u14_9 GW302.out) | (rw [add_block]; exact Nat.ne_of_lt (Nat.lt_of_lt_of_le u14_9 GW302.out)) | (show (Addr.add _ _).block ≠ _; rw [add_block]; exact Nat.ne_of_lt (Nat.lt_of_lt_of_le u14_9 GW302.out)) | (dsimp only; exact Nat.ne_of_lt (Nat.lt_of_lt_of_le u14_9 GW302.out))) : P := h
theorem u14_64 {P : Prop} (h : P := by (with_reducible repeat (first | refine blk_drewN ?_ _ | refine blk_drew ?_ | refine blk_alloc ?_ _)); exact BK297.out) : P := h
theorem u14_66 {P : Prop} (h : P := by (with_reducible repeat (first | refine blk_drewN ?_ _ | refine blk_drew ?_ | refine blk_alloc ?_ _)); exact BK301.out) : P := h
theorem u14_67 {P : Prop} (h : P := by (with_reducible repeat (first | refine blk_drewN ?_ _ | refine blk_drew ?_ | refine blk_alloc ?_ _)); exact BK302.out) : P := h
theorem u14_75 {P : Prop} (h : P := by simp only [putAll, Act.put, la, lb, lc]) : P := h
theorem u14_76 {P : Prop} (h : P := by have := HK1.out; have := HK2.out; have := HJ13.out; have := HJ55.out; have := HK5.out; omega) : P := h
theorem u14_77 {P : Prop} (h : P := by have := HK1.out; have := HK2.out; have := HJ13.out; first | omega | exact Nat.le_refl _) : P := h
/-! ### spec_SafeGroup: function 49 -/
mutual
def spec_SafeGroup.l0 : Nat → Int → Int → List (S37) → List (S29) → Option (Bool)
 | 0, _, _, _, _ => none
 | k + 1, x3, x298000, x298001, x298002 => if x3 < x298000 then (spec_SafeGroup.l1 k x3 0 x298000 x298001 x298002) else (some true)
def spec_SafeGroup.l1 : Nat → Int → Int → Int → List (S37) → List (S29) → Option (Bool)
 | 0, _, _, _, _, _ => none
 | k + 1, x3, x4, x298000, x298001, x298002 => if x4 < x3 then (if 0 ≤ x3 then (if x3 < (x298001.length : Int) then (if 0 ≤ x4 then (if x4 < (x298001.length : Int) then (if ((rd_T37 x298001 x3).f3) = 2 then (if ((rd_T37 x298001 x4).f3) = 2 then (spec_SafeGroup.j2 k x3 x4 (((rd_T37 x298001 x3).f1) == ((rd_T37 x298001 x4).f1)) x298000 x298001 x298002 ((rd_T37 x298001 x3).f0) ((rd_T37 x298001 x3).f1) ((rd_T37 x298001 x3).f2) ((rd_T37 x298001 x3).f3) ((rd_T37 x298001 x3).f4) ((rd_T37 x298001 x3).f5.f0) ((rd_T37 x298001 x3).f5.f1) ((rd_T37 x298001 x3).f5.f2) ((rd_T37 x298001 x3).f6) ((rd_T37 x298001 x3).f7) ((rd_T37 x298001 x4).f0) ((rd_T37 x298001 x4).f1) ((rd_T37 x298001 x4).f2) ((rd_T37 x298001 x4).f3) ((rd_T37 x298001 x4).f4) ((rd_T37 x298001 x4).f5.f0) ((rd_T37 x298001 x4).f5.f1) ((rd_T37 x298001 x4).f5.f2) ((rd_T37 x298001 x4).f6) ((rd_T37 x298001 x4).f7)) else (spec_SafeGroup.j2 k x3 x4 false x298000 x298001 x298002 ((rd_T37 x298001 x3).f0) ((rd_T37 x298001 x3).f1) ((rd_T37 x298001 x3).f2) ((rd_T37 x298001 x3).f3) ((rd_T37 x298001 x3).f4) ((rd_T37 x298001 x3).f5.f0) ((rd_T37 x298001 x3).f5.f1) ((rd_T37 x298001 x3).f5.f2) ((rd_T37 x298001 x3).f6) ((rd_T37 x298001 x3).f7) ((rd_T37 x298001 x4).f0) ((rd_T37 x298001 x4).f1) ((rd_T37 x298001 x4).f2) ((rd_T37 x298001 x4).f3) ((rd_T37 x298001 x4).f4) ((rd_T37 x298001 x4).f5.f0) ((rd_T37 x298001 x4).f5.f1) ((rd_T37 x298001 x4).f5.f2) ((rd_T37 x298001 x4).f6) ((rd_T37 x298001 x4).f7))) else (spec_SafeGroup.j2 k x3 x4 false x298000 x298001 x298002 ((rd_T37 x298001 x3).f0) ((rd_T37 x298001 x3).f1) ((rd_T37 x298001 x3).f2) ((rd_T37 x298001 x3).f3) ((rd_T37 x298001 x3).f4) ((rd_T37 x298001 x3).f5.f0) ((rd_T37 x298001 x3).f5.f1) ((rd_T37 x298001 x3).f5.f2) ((rd_T37 x298001 x3).f6) ((rd_T37 x298001 x3).f7) ((rd_T37 x298001 x4).f0) ((rd_T37 x298001 x4).f1) ((rd_T37 x298001 x4).f2) ((rd_T37 x298001 x4).f3) ((rd_T37 x298001 x4).f4) ((rd_T37 x298001 x4).f5.f0) ((rd_T37 x298001 x4).f5.f1) ((rd_T37 x298001 x4).f5.f2) ((rd_T37 x298001 x4).f6) ((rd_T37 x298001 x4).f7))) else (none)) else (none)) else (none)) else (none)) else (spec_SafeGroup.l0 k (wrap64 (x3 + 1)) x298000 x298001 x298002)
def spec_SafeGroup.j2 : Nat → Int → Int → Bool → Int → List (S37) → List (S29) → Int → Int → Int → Int → Int → Int → Int → List (S85) → List Int → List Int → Int → Int → Int → Int → Int → Int → Int → List (S85) → List Int → List Int → Option (Bool)
 | 0, _, _, _, _, _, _, _, _, _, _, _, _, _, _, _, _, _, _, _, _, _, _, _, _, _, _ => none
 | k + 1, x3, x4, x47, x298000, x298001, x298002, x302000, x302001, x302002, x302003, x302004, x302005, x302006, x302007, x302008, x302009, x303000, x303001, x303002, x303003, x303004, x303005, x303006, x303007, x303008, x303009 => if x47 = true then (some false) else ((spec_Agree.f k x302005 x302006 x302007 x303005 x303006 x303007).bind fun t303 => (if t303 < x302004 then (spec_SafeGroup.j3 k x3 x4 t303 (decide (t303 < x303004)) x298000 x298001 x298002 x302000 x302001 x302002 x302003 x302004 x302005 x302006 x302007 x302008 x302009 x303000 x303001 x303002 x303003 x303004 x303005 x303006 x303007 x303008 x303009) else (spec_SafeGroup.j3 k x3 x4 t303 false x298000 x298001 x298002 x302000 x302001 x302002 x302003 x302004 x302005 x302006 x302007 x302008 x302009 x303000 x303001 x303002 x303003 x303004 x303005 x303006 x303007 x303008 x303009)))
def spec_SafeGroup.j3 : Nat → Int → Int → Int → Bool → Int → List (S37) → List (S29) → Int → Int → Int → Int → Int → Int → Int → List (S85) → List Int → List Int → Int → Int → Int → Int → Int → Int → Int → List (S85) → List Int → List Int → Option (Bool)
 | 0, _, _, _, _, _, _, _, _, _, _, _, _, _, _, _, _, _, _, _, _, _, _, _, _, _, _, _ => none
 | k + 1, x3, x4, x7, x62, x298000, x298001, x298002, x302000, x302001, x302002, x302003, x302004, x302005, x302006, x302007, x302008, x302009, x303000, x303001, x303002, x303003, x303004, x303005, x303006, x303007, x303008, x303009 => if x62 = true then (some false) else (spec_SafeGroup.l2 k x3 x4 x7 0 x298000 x298001 x298002 x302000 x302001 x302002 x302003 x302004 x302005 x302006 x302007 x302008 x302009 x303000 x303001 x303002 x303003 x303004 x303005 x303006 x303007 x303008 x303009)
def spec_SafeGroup.l2 : Nat → Int → Int → Int → Int → Int → List (S37) → List (S29) → Int → Int → Int → Int → Int → Int → Int → List (S85) → List Int → List Int → Int → Int → Int → Int → Int → Int → Int → List (S85) → List Int → List Int → Option (Bool)
 | 0, _, _, _, _, _, _, _, _, _, _, _, _, _, _, _, _, _, _, _, _, _, _, _, _, _, _, _ => none
 | k + 1, x3, x4, x7, x8, x298000, x298001, x298002, x302000, x302001, x302002, x302003, x302004, x302005, x302006, x302007, x302008, x302009, x303000, x303001, x303002, x303003, x303004, x303005, x303006, x303007, x303008, x303009 => if x8 < x7 then (if 0 ≤ x8 then (if x8 < (x302007.length : Int) then (if x8 < (x303007.length : Int) then (if (!(((rd_T85 x302007 x8).f0) == ((rd_T85 x303007 x8).f0)) || (!((((rd_T85 x302007 x8).f1).toList) == (((rd_T85 x303007 x8).f1).toList)))) = true then (some false) else (spec_SafeGroup.l2 k x3 x4 x7 (wrap64 (x8 + 1)) x298000 x298001 x298002 x302000 x302001 x302002 x302003 x302004 x302005 x302006 x302007 x302008 x302009 x303000 x303001 x303002 x303003 x303004 x303005 x303006 x303007 x303008 x303009)) else (none)) else (none)) else (none)) else (spec_SafeGroup.l1 k x3 (wrap64 (x4 + 1)) x298000 x298001 x298002)
end
def spec_SafeGroup.f (k : Nat) (a0_0 : Int) (l0_1 : List (S37)) (l0_2 : List (S29)) : Option (Bool) := (spec_GroupOk.f k a0_0 l0_1 l0_2).bind fun t298 => (if t298 = true then (spec_SafeGroup.l0 k 0 a0_0 l0_1 l0_2) else (some false))
theorem spec_SafeGroup.mono_l : ∀ k, (∀ y0 y1 y2 y3, LeO (spec_SafeGroup.l0 k y0 y1 y2 y3) (spec_SafeGroup.l0 (k + 1) y0 y1 y2 y3)) ∧ (∀ y0 y1 y2 y3 y4, LeO (spec_SafeGroup.l1 k y0 y1 y2 y3 y4) (spec_SafeGroup.l1 (k + 1) y0 y1 y2 y3 y4)) ∧ (∀ y0 y1 y2 y3 y4 y5 y6 y7 y8 y9 y10 y11 y12 y13 y14 y15 y16 y17 y18 y19 y20 y21 y22 y23 y24 y25, LeO (spec_SafeGroup.j2 k y0 y1 y2 y3 y4 y5 y6 y7 y8 y9 y10 y11 y12 y13 y14 y15 y16 y17 y18 y19 y20 y21 y22 y23 y24 y25) (spec_SafeGroup.j2 (k + 1) y0 y1 y2 y3 y4 y5 y6 y7 y8 y9 y10 y11 y12 y13 y14 y15 y16 y17 y18 y19 y20 y21 y22 y23 y24 y25)) ∧ (∀ y0 y1 y2 y3 y4 y5 y6 y7 y8 y9 y10 y11 y12 y13 y14 y15 y16 y17 y18 y19 y20 y21 y22 y23 y24 y25 y26, LeO (spec_SafeGroup.j3 k y0 y1 y2 y3 y4 y5 y6 y7 y8 y9 y10 y11 y12 y13 y14 y15 y16 y17 y18 y19 y20 y21 y22 y23 y24 y25 y26) (spec_SafeGroup.j3 (k + 1) y0 y1 y2 y3 y4 y5 y6 y7 y8 y9 y10 y11 y12 y13 y14 y15 y16 y17 y18 y19 y20 y21 y22 y23 y24 y25 y26)) ∧ (∀ y0 y1 y2 y3 y4 y5 y6 y7 y8 y9 y10 y11 y12 y13 y14 y15 y16 y17 y18 y19 y20 y21 y22 y23 y24 y25 y26, LeO (spec_SafeGroup.l2 k y0 y1 y2 y3 y4 y5 y6 y7 y8 y9 y10 y11 y12 y13 y14 y15 y16 y17 y18 y19 y20 y21 y22 y23 y24 y25 y26) (spec_SafeGroup.l2 (k + 1) y0 y1 y2 y3 y4 y5 y6 y7 y8 y9 y10 y11 y12 y13 y14 y15 y16 y17 y18 y19 y20 y21 y22 y23 y24 y25 y26))
 | 0 => ⟨fun _ _ _ _ r h => by simp [spec_SafeGroup.l0] at h, fun _ _ _ _ _ r h => by simp [spec_SafeGroup.l1] at h, fun _ _ _ _ _ _ _ _ _ _ _ _ _ _ _ _ _ _ _ _ _ _ _ _ _ _ r h => by simp [spec_SafeGroup.j2] at h, fun _ _ _ _ _ _ _ _ _ _ _ _ _ _ _ _ _ _ _ _ _ _ _ _ _ _ _ r h => by simp [spec_SafeGroup.j3] at h, fun _ _ _ _ _ _ _ _ _ _ _ _ _ _ _ _ _ _ _ _ _ _ _ _ _ _ _ r h => by simp [spec_SafeGroup.l2] at h⟩
 | k + 1 => by
   obtain ⟨ih0, ih1, ih2, ih3, ih4⟩ := spec_SafeGroup.mono_l k
   refine ⟨?_, ?_, ?_, ?_, ?_⟩ <;> intros <;> (first | unfold spec_SafeGroup.l0 | unfold spec_SafeGroup.l1 | unfold spec_SafeGroup.j2 | unfold spec_SafeGroup.j3 | unfold spec_SafeGroup.l2) <;> repeat' first
   | (with_reducible exact ih0 _ _ _ _)
   | (with_reducible exact ih1 _ _ _ _ _)
   | (with_reducible exact ih2 _ _ _ _ _ _ _ _ _ _ _ _ _ _ _ _ _ _ _ _ _ _ _ _ _ _)
   | (with_reducible exact ih3 _ _ _ _ _ _ _ _ _ _ _ _ _ _ _ _ _ _ _ _ _ _ _ _ _ _ _)
   | (with_reducible exact ih4 _ _ _ _ _ _ _ _ _ _ _ _ _ _ _ _ _ _ _ _ _ _ _ _ _ _ _)
   | (with_reducible exact spec_Agree.mono _ _ _ _ _ _ _)
   | (with_reducible exact spec_GroupOk.mono _ _ _ _)
   | (with_reducible exact LeO.refl _)
   | (with_reducible exact LeO.none _)
   | (with_reducible refine LeO.ite ?_ ?_)
   | (with_reducible refine LeO.bind ?_ (fun _ => ?_))
   | exact ih0 _ _ _ _
   | exact ih1 _ _ _ _ _
   | exact ih2 _ _ _ _ _ _ _ _ _ _ _ _ _ _ _ _ _ _ _ _ _ _ _ _ _ _
   | exact ih3 _ _ _ _ _ _ _ _ _ _ _ _ _ _ _ _ _ _ _ _ _ _ _ _ _ _ _
   | exact ih4 _ _ _ _ _ _ _ _ _ _ _ _ _ _ _ _ _ _ _ _ _ _ _ _ _ _ _
   | exact spec_Agree.mono _ _ _ _ _ _ _
   | exact spec_GroupOk.mono _ _ _ _
   | exact LeO.none _
   | refine LeO.ite ?_ ?_
   | refine LeO.bind ?_ (fun _ => ?_)
theorem spec_SafeGroup.mono : ∀ a0 a1 a2 k, LeO (spec_SafeGroup.f k a0 a1 a2) (spec_SafeGroup.f (k + 1) a0 a1 a2) := by
 intro a0 a1 a2 k
 obtain ⟨ih0, ih1, ih2, ih3, ih4⟩ := spec_SafeGroup.mono_l k
 unfold spec_SafeGroup.f
 repeat' first
     | (with_reducible exact ih0 _ _ _ _)
     | (with_reducible exact ih1 _ _ _ _ _)
     | (with_reducible exact ih2 _ _ _ _ _ _ _ _ _ _ _ _ _ _ _ _ _ _ _ _ _ _ _ _ _ _)
     | (with_reducible exact ih3 _ _ _ _ _ _ _ _ _ _ _ _ _ _ _ _ _ _ _ _ _ _ _ _ _ _ _)
     | (with_reducible exact ih4 _ _ _ _ _ _ _ _ _ _ _ _ _ _ _ _ _ _ _ _ _ _ _ _ _ _ _)
     | (with_reducible exact spec_Agree.mono _ _ _ _ _ _ _)
     | (with_reducible exact spec_GroupOk.mono _ _ _ _)
     | (with_reducible exact LeO.refl _)
     | (with_reducible exact LeO.none _)
     | (with_reducible refine LeO.ite ?_ ?_)
     | (with_reducible refine LeO.bind ?_ (fun _ => ?_))
     | exact ih0 _ _ _ _
     | exact ih1 _ _ _ _ _
     | exact ih2 _ _ _ _ _ _ _ _ _ _ _ _ _ _ _ _ _ _ _ _ _ _ _ _ _ _
     | exact ih3 _ _ _ _ _ _ _ _ _ _ _ _ _ _ _ _ _ _ _ _ _ _ _ _ _ _ _
     | exact ih4 _ _ _ _ _ _ _ _ _ _ _ _ _ _ _ _ _ _ _ _ _ _ _ _ _ _ _
     | exact spec_Agree.mono _ _ _ _ _ _ _
     | exact spec_GroupOk.mono _ _ _ _
     | exact LeO.none _
     | refine LeO.ite ?_ ?_
     | refine LeO.bind ?_ (fun _ => ?_)
def spec_SafeGroup.T9 : Bool × List (List Nat × List Nat) := (true, [([], []), ([0], [0]), ([], []), ([1, 2], [1, 2]), ([3], [3]), ([], []), ([5], [5]), ([], []), ([6, 7], [6, 7]), ([8], [8]), ([], []), ([], []), ([10, 4, 0, 1, 2, 3, 4, 10, 11], [4, 10]), ([11, 9, 12, 0, 1, 2, 3, 4, 5, 6, 7, 8, 9, 10, 11, 12], [9, 11])])
def spec_SafeGroup.B9 : List Nat := [0, 1, 0, 7, 15, 0, 32, 0, 224, 480, 0, 0, 3103, 8191]
theorem spec_SafeGroup.tab9 : rtab .any (opsOf Try.f49 9) = spec_SafeGroup.T9 := by kernel_rfl
theorem spec_SafeGroup.bits9 : waitsOk spec_SafeGroup.T9.2 spec_SafeGroup.B9 = true := by kernel_rfl
def spec_SafeGroup.T18 : Bool × List (List Nat × List Nat) := (true, [([], []), ([0], [0]), ([1], [1]), ([], []), ([2, 3], [2, 3]), ([4], [4]), ([], []), ([6], [6]), ([7], [7]), ([], []), ([8, 9], [8, 9]), ([10], [10]), ([5, 11], [5, 11])])
def spec_SafeGroup.B18 : List Nat := [0, 1, 3, 0, 15, 31, 0, 64, 192, 0, 960, 1984, 4095]
theorem spec_SafeGroup.tab18 : rtab .any (opsOf Try.f49 18) = spec_SafeGroup.T18 := by kernel_rfl
theorem spec_SafeGroup.bits18 : waitsOk spec_SafeGroup.T18.2 spec_SafeGroup.B18 = true := by kernel_rfl
set_option maxHeartbeats 8000000 in
set_option maxRecDepth 100000 in
theorem spec_SafeGroup.calls (k : Nat) (a0_0 : Int) (A0_1 : Option Addr) (c0_1 : Nat) (l0_1 : List (S37)) (A0_2 : Option Addr) (c0_2 : Nat) (l0_2 : List (S29)) (r : Bool) (w : World) (hr0_1 : Kd.C k37 w A0_1 l0_1.length l0_1) (hc0_1 : l0_1.length ≤ c0_1) (hr0_2 : Kd.C k29 w A0_2 l0_2.length l0_2) (hc0_2 : l0_2.length ≤ c0_2) (h : spec_SafeGroup.f k a0_0 l0_1 l0_2 = some r) :
   Calls Try.prog 49 #[.agg #[.int .i64 a0_0, .slice A0_1 l0_1.length c0_1, .slice A0_2 l0_2.length c0_2]] w fun e w' => e = .returned (.bool r) ∧ Below w.heap.size w w' := by
 have hu53 := Try.underlying53
 have hu37 := Try.underlying37
 have hu34 := Try.underlying34
 have hu85 := Try.underlying85
 have HR0_1 := am hr0_1
 have HC0_1 := am hc0_1
 clear hr0_1 hc0_1
 have HR0_2 := am hr0_2
 have HC0_2 := am hc0_2
 clear hr0_2 hc0_2
 have HB := am (Below.refl w.heap.size w)
 have H : ((spec_GroupOk.f k a0_0 l0_1 l0_2).bind fun t298 => (if t298 = true then (spec_SafeGroup.l0 k 0 a0_0 l0_1 l0_2) else (some false))) = some r := h
 clear h
 replace H := Option.bind_eq_some_iff.mp H
 obtain ⟨t298, A20, H⟩ := H
 replace H : (if t298 = true then (spec_SafeGroup.l0 k 0 a0_0 l0_1 l0_2) else (some false)) = some r := H
 have A2 := am A20
 clear A20
 have H9 := am H
 clear H
 go_enter Try.func49, Try.ntmps49
 go_upto_if 11 with (first | ((with_reducible refine gate_dst (N := 1) rfl ?_); refine box_event ?hg (N := 1) ?hd (cs := #[.int .i64 a0_0, .slice A0_1 l0_1.length c0_1, .slice A0_2 l0_2.length c0_2]) (t := 53) ?hr ?_; (case hd => rfl); (case hg => rfl); (case hr => first | (go_simp; done) | (go_simp; rfl)); intro gb297 hg w3 hbox hb; have BK297 := am (hbox); have GW297 := am ((by rw [hg]; exact (below_size q2) : w.heap.size ≤ gb297)); have GE297 := am ((by rw [hg]; exact (below_size q2) : w.heap.size ≤ gb297)); replace HB := am (below_step q2 hb); clear hb hbox hg; obtain ⟨hcz4_0, hcz4_1, hcz4_2, hfz4_0, hfz4_1, hfz4_2⟩ := bc3f w3 BK297.out) | ((with_reducible refine gate_callee (f := 44) rfl ?_); refine goesL_ (some 10) rfl rfl Try.func44 kr rfl #[.agg #[.int .i64 a0_0, .slice A0_1 l0_1.length c0_1, .slice A0_2 l0_2.length c0_2]] rfl q0 ?_; (with_reducible refine (spec_GroupOk.calls k a0_0 _ _ l0_1 _ _ l0_2 t298 _ ?side1 ?side2 ?side3 ?side4 A2.out).mono ?_); (case side1 => exact (by repeat (first | exact (Kd.C_below HR0_1.out HB.out) | (with_reducible refine Kd.C_alloc ?_ _) | (with_reducible refine Kd.C_drewN ?_ _) | (with_reducible refine Kd.C_drew ?_)))); (case side2 => exact HC0_1.out); (case side3 => exact (by repeat (first | exact (Kd.C_below HR0_2.out HB.out) | (with_reducible refine Kd.C_alloc ?_ _) | (with_reducible refine Kd.C_drewN ?_ _) | (with_reducible refine Kd.C_drew ?_)))); (case side4 => exact HC0_2.out); rintro e w5 ⟨rfl, hb⟩; refine ⟨_, rfl, ?_⟩; replace BK297 := am (blk_below (g := gb297) (o := .cells #[.int .i64 a0_0, .slice A0_1 l0_1.length c0_1, .slice A0_2 l0_2.length c0_2] 53 (0, 0)) u14_64 hb); replace HB := am (below_step q2 hb); (try clear hb); (try clear hb2); (try clear hk); (try clear hi)))
 have H := H9.out
 clear H9
 by_cases c6 : t298 = true
 rotate_left
 · replace c6 := Bool.eq_false_iff.mpr c6
   subst c6
   rw [nf] at H
   obtain rfl := sj H
   go_wp2
   go_ret
   exact ⟨er, q2⟩
 subst c6
 rw [if_pos rfl] at H
 have H' := am H
 clear H
 go_wp2
 go_loopg [3] k (fun kq v3 w' => ∃ (x3_1 : Int), v3 = .int .i64 x3_1 ∧ Aside0 (spec_SafeGroup.l0 kq x3_1 a0_0 l0_1 l0_2 = some r) ∧ Aside0 (kq ≤ k) ∧ Aside0 (w'.heap[gb297]? = some (.cells #[.int .i64 a0_0, (.slice A0_1 l0_1.length c0_1), (.slice A0_2 l0_2.length c0_2)] 53 (0, 0))) ∧ Aside0 (Below w.heap.size w w'))
 case atStart => exact ⟨(0), q3, H', ⟨Nat.le_refl _⟩, ⟨u14_64⟩, ⟨q2⟩⟩
 clear H'
 try clear c6
 try clear hcz4_0
 try clear hcz4_1
 try clear hcz4_2
 try clear hfz4_0
 try clear hfz4_1
 try clear hfz4_2
 obtain ⟨x3_1, rfl, HA, HK1, BK297, HB⟩ := hrel
 cases gk with
 | zero => exact absurd HA.out (by simp [spec_SafeGroup.l0])
 | succ k1 =>
   have H := HA.out
   clear HA
   simp only [spec_SafeGroup.l0] at H
   by_cases c7 : x3_1 < a0_0
   rotate_left
   · rw [if_neg c7] at H
     have c7b0 : decide (x3_1 < a0_0) = false := decide_eq_false c7
     clear c7
     (first | rw [c7b0] | (simp only [i64_w, i32_w]; rw [c7b0]) | skip)
     obtain rfl := sj H
     obtain ⟨hcz79_0, hcz79_1, hcz79_2, hfz79_0, hfz79_1, hfz79_2⟩ := bc3f wr BK297.out
     go_wp2
     go_ret
     exact ⟨er, q2⟩
   rw [if_pos c7] at H
   have c7b0 : decide (x3_1 < a0_0) = true := decide_eq_true c7
   clear c7
   (first | rw [c7b0] | (simp only [i64_w, i32_w]; rw [c7b0]) | skip)
   have H' := am H
   clear H
   obtain ⟨hcz8_0, hcz8_1, hcz8_2, hfz8_0, hfz8_1, hfz8_2⟩ := bc3f wr BK297.out
   go_wp2
   go_loopg [4] k1 (fun kq v4 w' => ∃ (x4_2 : Int), v4 = .int .i64 x4_2 ∧ Aside0 (spec_SafeGroup.l1 kq x3_1 x4_2 a0_0 l0_1 l0_2 = some r) ∧ Aside0 (kq ≤ k1) ∧ Aside0 (w'.heap[gb297]? = some (.cells #[.int .i64 a0_0, (.slice A0_1 l0_1.length c0_1), (.slice A0_2 l0_2.length c0_2)] 53 (0, 0))) ∧ Aside0 (Below w.heap.size w w'))
   case atStart => exact ⟨(0), q3, H', ⟨Nat.le_refl _⟩, ⟨u14_64⟩, ⟨q2⟩⟩
   clear H'
   try clear c6
   try clear c7
   try clear c7b0
   try clear hcz4_0
   try clear hcz4_1
   try clear hcz4_2
   try clear hcz8_0
   try clear hcz8_1
   try clear hcz8_2
   try clear hfz4_0
   try clear hfz4_1
   try clear hfz4_2
   try clear hfz8_0
   try clear hfz8_1
   try clear hfz8_2
   obtain ⟨x4_2, rfl, HA, HK2, BK297, HB⟩ := hrel
   cases gk with
   | zero => exact absurd HA.out (by simp [spec_SafeGroup.l1])
   | succ k2 =>
     have H := HA.out
     clear HA
     simp only [spec_SafeGroup.l1] at H
     by_cases c9 : x4_2 < x3_1
     rotate_left
     · rw [if_neg c9] at H
       have c9b0 : decide (x4_2 < x3_1) = false := decide_eq_false c9
       clear c9
       have H' := am H
       clear H
       go_wp2
       go_roundg k2
       case measure => have := HK1.out; have := HK2.out; omega
       case rel => exact ⟨(wrap64 (x3_1 + 1)), q3, H', ⟨(by have := HK1.out; have := HK2.out; omega)⟩, ⟨u14_64⟩, ⟨q2⟩⟩
     rw [if_pos c9] at H
     have c9b0 : decide (x4_2 < x3_1) = true := decide_eq_true c9
     clear c9
     by_cases c10 : 0 ≤ x3_1
     rotate_left
     · rw [if_neg c10] at H
       exact absurd H (by simp)
     rw [if_pos c10] at H
     have c10b0 : decide (0 ≤ x3_1) = true := decide_eq_true c10
     clear c10
     by_cases c11 : x3_1 < (l0_1.length : Int)
     rotate_left
     · rw [if_neg c11] at H
       exact absurd H (by simp)
     rw [if_pos c11] at H
     have c11b0 : decide (x3_1 < (l0_1.length : Int)) = true := decide_eq_true c11
     clear c11
     by_cases c12 : 0 ≤ x4_2
     rotate_left
     · rw [if_neg c12] at H
       exact absurd H (by simp)
     rw [if_pos c12] at H
     have c12b0 : decide (0 ≤ x4_2) = true := decide_eq_true c12
     clear c12
     by_cases c13 : x4_2 < (l0_1.length : Int)
     rotate_left
     · rw [if_neg c13] at H
       exact absurd H (by simp)
     rw [if_pos c13] at H
     have c13b0 : decide (x4_2 < (l0_1.length : Int)) = true := decide_eq_true c13
     clear c13
     have HC14 := am H
     clear H
     try go_wp2
     replace BK297 := am (blk_drew BK297.out)
     replace HB := am (below_drew1 HB.out)
     have p299 : 0 ≤ (x3_1 : Int) := of_decide_eq_true q1
     have q299 : x3_1 < (l0_1.length : Int) := of_decide_eq_true q1
     obtain ⟨ad299, A299_7, c299_7, A299_8, c299_8, A299_9, c299_9, e299, hx299_0, hx299_1, hx299_2, hx299_3, hx299_4, hx299_5, hx299_6, hx299_7, hx299_8, hx299_9, hl299_7, hi299_7, hl299_8, hi299_8, hl299_9, hi299_9⟩ := at_T37 HR0_1.out x3_1 p299 q299
     have hw299_9 := hx299_9
     have hw299_8 := hx299_8
     have hw299_7 := hx299_7
     have hw299_6 := hx299_6
     have hw299_5 := hx299_5
     have hw299_4 := hx299_4
     have hw299_3 := hx299_3
     have hw299_2 := hx299_2
     have hw299_1 := hx299_1
     have hw299_0 := hx299_0
     cases e299
     replace hx299_0 := cm HB.out hx299_0
     replace hx299_1 := cm HB.out hx299_1
     replace hx299_2 := cm HB.out hx299_2
     replace hx299_3 := cm HB.out hx299_3
     replace hx299_4 := cm HB.out hx299_4
     replace hx299_5 := cm HB.out hx299_5
     replace hx299_6 := cm HB.out hx299_6
     replace hx299_7 := cm HB.out hx299_7
     replace hx299_8 := cm HB.out hx299_8
     replace hx299_9 := cm HB.out hx299_9
     have HR299_7 := am hi299_7
     have HC299_7 := am hl299_7
     clear hi299_7 hl299_7
     have HR299_8 := am hi299_8
     have HC299_8 := am hl299_8
     clear hi299_8 hl299_8
     have HR299_9 := am hi299_9
     have HC299_9 := am hl299_9
     clear hi299_9 hl299_9
     replace p299 := eq_true p299
     replace q299 := eq_true q299
     have p300 : 0 ≤ (x4_2 : Int) := of_decide_eq_true q1
     have q300 : x4_2 < (l0_1.length : Int) := of_decide_eq_true q1
     obtain ⟨ad300, A300_7, c300_7, A300_8, c300_8, A300_9, c300_9, e300, hx300_0, hx300_1, hx300_2, hx300_3, hx300_4, hx300_5, hx300_6, hx300_7, hx300_8, hx300_9, hl300_7, hi300_7, hl300_8, hi300_8, hl300_9, hi300_9⟩ := at_T37 HR0_1.out x4_2 p300 q300
     have hw300_9 := hx300_9
     have hw300_8 := hx300_8
     have hw300_7 := hx300_7
     have hw300_6 := hx300_6
     have hw300_5 := hx300_5
     have hw300_4 := hx300_4
     have hw300_3 := hx300_3
     have hw300_2 := hx300_2
     have hw300_1 := hx300_1
     have hw300_0 := hx300_0
     obtain rfl : ad299 = ad300 := (by injection e300)
     replace hx300_0 := cm HB.out hx300_0
     replace hx300_1 := cm HB.out hx300_1
     replace hx300_2 := cm HB.out hx300_2
     replace hx300_3 := cm HB.out hx300_3
     replace hx300_4 := cm HB.out hx300_4
     replace hx300_5 := cm HB.out hx300_5
     replace hx300_6 := cm HB.out hx300_6
     replace hx300_7 := cm HB.out hx300_7
     replace hx300_8 := cm HB.out hx300_8
     replace hx300_9 := cm HB.out hx300_9
     have HR300_7 := am hi300_7
     have HC300_7 := am hl300_7
     clear hi300_7 hl300_7
     have HR300_8 := am hi300_8
     have HC300_8 := am hl300_8
     clear hi300_8 hl300_8
     have HR300_9 := am hi300_9
     have HC300_9 := am hl300_9
     clear hi300_9 hl300_9
     replace p300 := eq_true p300
     replace q300 := eq_true q300
     refine start_ (n := 14) (S := fun w' => w'.cell? ⟨gb297, 0, none⟩ = some (.int .i64 a0_0) ∧ w'.cell? ⟨gb297, 1, none⟩ = some (.slice (some ad299) l0_1.length c0_1) ∧ w'.cell? ⟨gb297, 2, none⟩ = some (.slice A0_2 l0_2.length c0_2) ∧ w'.cell? (ad299.add ((x3_1).toNat * 10)) = some (.int .i64 ((rd_T37 l0_1 x3_1).f0)) ∧ w'.cell? ⟨(ad299.add ((x3_1).toNat * 10)).block, (ad299.add ((x3_1).toNat * 10)).off + 1, none⟩ = some (.int .i64 ((rd_T37 l0_1 x3_1).f1)) ∧ w'.cell? ⟨(ad299.add ((x3_1).toNat * 10)).block, (ad299.add ((x3_1).toNat * 10)).off + 2, none⟩ = some (.int .i64 ((rd_T37 l0_1 x3_1).f2)) ∧ w'.cell? ⟨(ad299.add ((x3_1).toNat * 10)).block, (ad299.add ((x3_1).toNat * 10)).off + 3, none⟩ = some (.int .i64 ((rd_T37 l0_1 x3_1).f3)) ∧ w'.cell? ⟨(ad299.add ((x3_1).toNat * 10)).block, (ad299.add ((x3_1).toNat * 10)).off + 4, none⟩ = some (.int .i64 ((rd_T37 l0_1 x3_1).f4)) ∧ w'.cell? ⟨(ad299.add ((x3_1).toNat * 10)).block, (ad299.add ((x3_1).toNat * 10)).off + 5, none⟩ = some (.int .i64 ((rd_T37 l0_1 x3_1).f5.f0)) ∧ w'.cell? ⟨(ad299.add ((x3_1).toNat * 10)).block, (ad299.add ((x3_1).toNat * 10)).off + 6, none⟩ = some (.int .i64 ((rd_T37 l0_1 x3_1).f5.f1)) ∧ w'.cell? ⟨(ad299.add ((x3_1).toNat * 10)).block, (ad299.add ((x3_1).toNat * 10)).off + 7, none⟩ = some (.slice A299_7 ((rd_T37 l0_1 x3_1).f5.f2).length c299_7) ∧ w'.cell? ⟨(ad299.add ((x3_1).toNat * 10)).block, (ad299.add ((x3_1).toNat * 10)).off + 8, none⟩ = some (.slice A299_8 ((rd_T37 l0_1 x3_1).f6).length c299_8) ∧ w'.cell? ⟨(ad299.add ((x3_1).toNat * 10)).block, (ad299.add ((x3_1).toNat * 10)).off + 9, none⟩ = some (.slice A299_9 ((rd_T37 l0_1 x3_1).f7).length c299_9) ∧ w'.cell? (ad299.add ((x4_2).toNat * 10)) = some (.int .i64 ((rd_T37 l0_1 x4_2).f0)) ∧ w'.cell? ⟨(ad299.add ((x4_2).toNat * 10)).block, (ad299.add ((x4_2).toNat * 10)).off + 1, none⟩ = some (.int .i64 ((rd_T37 l0_1 x4_2).f1)) ∧ w'.cell? ⟨(ad299.add ((x4_2).toNat * 10)).block, (ad299.add ((x4_2).toNat * 10)).off + 2, none⟩ = some (.int .i64 ((rd_T37 l0_1 x4_2).f2)) ∧ w'.cell? ⟨(ad299.add ((x4_2).toNat * 10)).block, (ad299.add ((x4_2).toNat * 10)).off + 3, none⟩ = some (.int .i64 ((rd_T37 l0_1 x4_2).f3)) ∧ w'.cell? ⟨(ad299.add ((x4_2).toNat * 10)).block, (ad299.add ((x4_2).toNat * 10)).off + 4, none⟩ = some (.int .i64 ((rd_T37 l0_1 x4_2).f4)) ∧ w'.cell? ⟨(ad299.add ((x4_2).toNat * 10)).block, (ad299.add ((x4_2).toNat * 10)).off + 5, none⟩ = some (.int .i64 ((rd_T37 l0_1 x4_2).f5.f0)) ∧ w'.cell? ⟨(ad299.add ((x4_2).toNat * 10)).block, (ad299.add ((x4_2).toNat * 10)).off + 6, none⟩ = some (.int .i64 ((rd_T37 l0_1 x4_2).f5.f1)) ∧ w'.cell? ⟨(ad299.add ((x4_2).toNat * 10)).block, (ad299.add ((x4_2).toNat * 10)).off + 7, none⟩ = some (.slice A300_7 ((rd_T37 l0_1 x4_2).f5.f2).length c300_7) ∧ w'.cell? ⟨(ad299.add ((x4_2).toNat * 10)).block, (ad299.add ((x4_2).toNat * 10)).off + 8, none⟩ = some (.slice A300_8 ((rd_T37 l0_1 x4_2).f6).length c300_8) ∧ w'.cell? ⟨(ad299.add ((x4_2).toNat * 10)).block, (ad299.add ((x4_2).toNat * 10)).off + 9, none⟩ = some (.slice A300_9 ((rd_T37 l0_1 x4_2).f7).length c300_9)) (ds := []) b0_14 kr rfl rfl ⟨(blk_cell BK297.out 0).trans rfl, (blk_cell BK297.out 1).trans rfl, (blk_cell BK297.out 2).trans rfl, (cm HB.out hw299_0), (cm HB.out hw299_1), (cm HB.out hw299_2), (cm HB.out hw299_3), (cm HB.out hw299_4), (cm HB.out hw299_5), (cm HB.out hw299_6), (cm HB.out hw299_7), (cm HB.out hw299_8), (cm HB.out hw299_9), (cm HB.out hw300_0), (cm HB.out hw300_1), (cm HB.out hw300_2), (cm HB.out hw300_3), (cm HB.out hw300_4), (cm HB.out hw300_5), (cm HB.out hw300_6), (cm HB.out hw300_7), (cm HB.out hw300_8), (cm HB.out hw300_9)⟩ (fun hHeld => ?_); refine with_tabW spec_SafeGroup.tab9 spec_SafeGroup.bits9 (fun HT_ HW_ => ?_)
     generalize wr.drew = w15 at BK297 HB HR299_7 HR299_8 HR299_9 HR300_7 HR300_8 HR300_9 hx299_0 hx299_1 hx299_2 hx299_3 hx299_4 hx299_5 hx299_6 hx299_7 hx299_8 hx299_9 hx300_0 hx300_1 hx300_2 hx300_3 hx300_4 hx300_5 hx300_6 hx300_7 hx300_8 hx300_9 hHeld ⊢
     refine pV 0 23 (bt 1 14) ?_
     refine pV 2 25 #[true, false, true, false, false, false, false, false, false, false, false, false, false, false] ?_
     refine pV 5 28 #[true, false, true, false, false, true, false, false, false, false, false, false, false, false] ?_
     refine pV 7 30 #[true, false, true, false, false, true, false, true, false, false, false, false, false, false] ?_
     refine tV 1 24 #[true, true, true, false, false, true, false, true, false, false, false, false, false, false] ?_
     refine pV 3 26 #[true, true, true, true, false, true, false, true, false, false, false, false, false, false] ?_
     refine tV 4 27 #[true, true, true, true, true, true, false, true, false, false, false, false, false, false] ?_
     refine tV 6 29 (bt 8 14) ?_
     refine pV 8 31 (bt 9 14) ?_
     refine tV 9 32 (bt 10 14) ?_
     refine join_ (σ := Nat × Nat) 2 b12_14 (fun s_ => [(5, .pointer (some ⟨s_.1, 0, none⟩)), (6, .pointer (some ⟨s_.2, 0, none⟩))]) (fun s_ w' => (w'.cell? ⟨gb297, 0, none⟩ = some (.int .i64 a0_0) ∧ w'.cell? ⟨gb297, 1, none⟩ = some (.slice (some ad299) l0_1.length c0_1) ∧ w'.cell? ⟨gb297, 2, none⟩ = some (.slice A0_2 l0_2.length c0_2) ∧ w'.cell? (ad299.add ((x3_1).toNat * 10)) = some (.int .i64 ((rd_T37 l0_1 x3_1).f0)) ∧ w'.cell? ⟨(ad299.add ((x3_1).toNat * 10)).block, (ad299.add ((x3_1).toNat * 10)).off + 1, none⟩ = some (.int .i64 ((rd_T37 l0_1 x3_1).f1)) ∧ w'.cell? ⟨(ad299.add ((x3_1).toNat * 10)).block, (ad299.add ((x3_1).toNat * 10)).off + 2, none⟩ = some (.int .i64 ((rd_T37 l0_1 x3_1).f2)) ∧ w'.cell? ⟨(ad299.add ((x3_1).toNat * 10)).block, (ad299.add ((x3_1).toNat * 10)).off + 3, none⟩ = some (.int .i64 ((rd_T37 l0_1 x3_1).f3)) ∧ w'.cell? ⟨(ad299.add ((x3_1).toNat * 10)).block, (ad299.add ((x3_1).toNat * 10)).off + 4, none⟩ = some (.int .i64 ((rd_T37 l0_1 x3_1).f4)) ∧ w'.cell? ⟨(ad299.add ((x3_1).toNat * 10)).block, (ad299.add ((x3_1).toNat * 10)).off + 5, none⟩ = some (.int .i64 ((rd_T37 l0_1 x3_1).f5.f0)) ∧ w'.cell? ⟨(ad299.add ((x3_1).toNat * 10)).block, (ad299.add ((x3_1).toNat * 10)).off + 6, none⟩ = some (.int .i64 ((rd_T37 l0_1 x3_1).f5.f1)) ∧ w'.cell? ⟨(ad299.add ((x3_1).toNat * 10)).block, (ad299.add ((x3_1).toNat * 10)).off + 7, none⟩ = some (.slice A299_7 ((rd_T37 l0_1 x3_1).f5.f2).length c299_7) ∧ w'.cell? ⟨(ad299.add ((x3_1).toNat * 10)).block, (ad299.add ((x3_1).toNat * 10)).off + 8, none⟩ = some (.slice A299_8 ((rd_T37 l0_1 x3_1).f6).length c299_8) ∧ w'.cell? ⟨(ad299.add ((x3_1).toNat * 10)).block, (ad299.add ((x3_1).toNat * 10)).off + 9, none⟩ = some (.slice A299_9 ((rd_T37 l0_1 x3_1).f7).length c299_9) ∧ w'.cell? (ad299.add ((x4_2).toNat * 10)) = some (.int .i64 ((rd_T37 l0_1 x4_2).f0)) ∧ w'.cell? ⟨(ad299.add ((x4_2).toNat * 10)).block, (ad299.add ((x4_2).toNat * 10)).off + 1, none⟩ = some (.int .i64 ((rd_T37 l0_1 x4_2).f1)) ∧ w'.cell? ⟨(ad299.add ((x4_2).toNat * 10)).block, (ad299.add ((x4_2).toNat * 10)).off + 2, none⟩ = some (.int .i64 ((rd_T37 l0_1 x4_2).f2)) ∧ w'.cell? ⟨(ad299.add ((x4_2).toNat * 10)).block, (ad299.add ((x4_2).toNat * 10)).off + 3, none⟩ = some (.int .i64 ((rd_T37 l0_1 x4_2).f3)) ∧ w'.cell? ⟨(ad299.add ((x4_2).toNat * 10)).block, (ad299.add ((x4_2).toNat * 10)).off + 4, none⟩ = some (.int .i64 ((rd_T37 l0_1 x4_2).f4)) ∧ w'.cell? ⟨(ad299.add ((x4_2).toNat * 10)).block, (ad299.add ((x4_2).toNat * 10)).off + 5, none⟩ = some (.int .i64 ((rd_T37 l0_1 x4_2).f5.f0)) ∧ w'.cell? ⟨(ad299.add ((x4_2).toNat * 10)).block, (ad299.add ((x4_2).toNat * 10)).off + 6, none⟩ = some (.int .i64 ((rd_T37 l0_1 x4_2).f5.f1)) ∧ w'.cell? ⟨(ad299.add ((x4_2).toNat * 10)).block, (ad299.add ((x4_2).toNat * 10)).off + 7, none⟩ = some (.slice A300_7 ((rd_T37 l0_1 x4_2).f5.f2).length c300_7) ∧ w'.cell? ⟨(ad299.add ((x4_2).toNat * 10)).block, (ad299.add ((x4_2).toNat * 10)).off + 8, none⟩ = some (.slice A300_8 ((rd_T37 l0_1 x4_2).f6).length c300_8) ∧ w'.cell? ⟨(ad299.add ((x4_2).toNat * 10)).block, (ad299.add ((x4_2).toNat * 10)).off + 9, none⟩ = some (.slice A300_9 ((rd_T37 l0_1 x4_2).f7).length c300_9)) ∧ (w'.heap[gb297]? = some (.cells #[.int .i64 a0_0, .slice (some ad299) l0_1.length c0_1, .slice A0_2 l0_2.length c0_2] 53 (0, 0))) ∧ (w'.heap[s_.1]? = some (.cells #[.int .i64 0, .int .i64 0, .int .i64 0, .int .i64 0, .int .i64 0, .int .i64 0, .int .i64 0, .slice none 0 0, .slice none 0 0, .slice none 0 0] 37 (0, 0))) ∧ (w'.heap[s_.2]? = some (.cells #[.int .i64 0, .int .i64 0, .int .i64 0, .int .i64 0, .int .i64 0, .int .i64 0, .int .i64 0, .slice none 0 0, .slice none 0 0, .slice none 0 0] 37 (0, 0))) ∧ (w.heap.size ≤ s_.1) ∧ (w.heap.size ≤ s_.1) ∧ (gb297 ≠ s_.1) ∧ (s_.1 ≠ gb297) ∧ (s_.2 ≠ s_.1) ∧ (s_.1 ≠ s_.2) ∧ (w.heap.size ≤ s_.2) ∧ (w.heap.size ≤ s_.2) ∧ (gb297 ≠ s_.2) ∧ (s_.2 ≠ gb297) ∧ (Below w.heap.size w w')) ?_ ?_
     rotate_left
     · intro hCont
       refine two_ (i := 10) (j := 11) (Ni := some 5) (Nj := some 6) b11_14 #[true, true, true, true, true, true, true, true, true, true, false, true, false, false] rfl rfl rfl rfl (two_of HT_.out kr) (by decide) (by decide) (fun K hK => ?_) (fun K hK => ?_)
       · skip
         refine box_step ?hg (N := 5) ?hd (cs := #[.int .i64 0, .int .i64 0, .int .i64 0, .int .i64 0, .int .i64 0, .int .i64 0, .int .i64 0, .slice none 0 0, .slice none 0 0, .slice none 0 0]) (t := 37) ?hr ?_; (case hd => rfl); (case hg => rfl); (case hr => first | (go_simp; done) | (go_simp; rfl))
         intro gb301 hg w16 hbox hb
         have BK301 := am (hbox)
         have GW301 := am ((by rw [hg]; exact (below_size q2) : w.heap.size ≤ gb301))
         have GE301 := am ((by rw [hg]; exact (below_size q2) : w.heap.size ≤ gb301))
         replace HB := am (below_step q2 hb)
         have NB297_301 := am ((by rw [hg]; exact Nat.ne_of_lt (blk_lt (g := gb297) (o := .cells #[.int .i64 a0_0, .slice (some ad299) l0_1.length c0_1, .slice A0_2 l0_2.length c0_2] 53 (0, 0)) u14_64) : gb297 ≠ gb301))
         have NB301_297 := am ((by rw [hg]; exact Nat.ne_of_gt (blk_lt (g := gb297) (o := .cells #[.int .i64 a0_0, .slice (some ad299) l0_1.length c0_1, .slice A0_2 l0_2.length c0_2] 53 (0, 0)) u14_64) : gb301 ≠ gb297))
         replace BK297 := am (blk_below (g := gb297) (o := .cells #[.int .i64 a0_0, .slice (some ad299) l0_1.length c0_1, .slice A0_2 l0_2.length c0_2] 53 (0, 0)) u14_64 hb)
         clear hb hbox hg
         refine hK.out _ _ ⟨(blk_cell BK297.out 0).trans rfl, (blk_cell BK297.out 1).trans rfl, (blk_cell BK297.out 2).trans rfl, (cm HB.out hw299_0), (cm HB.out hw299_1), (cm HB.out hw299_2), (cm HB.out hw299_3), (cm HB.out hw299_4), (cm HB.out hw299_5), (cm HB.out hw299_6), (cm HB.out hw299_7), (cm HB.out hw299_8), (cm HB.out hw299_9), (cm HB.out hw300_0), (cm HB.out hw300_1), (cm HB.out hw300_2), (cm HB.out hw300_3), (cm HB.out hw300_4), (cm HB.out hw300_5), (cm HB.out hw300_6), (cm HB.out hw300_7), (cm HB.out hw300_8), (cm HB.out hw300_9)⟩ (fun hHeld => ?_)
         clear hK K
         refine norm_ (a' := ?_) ?_ ?_
         rotate_left
         · show Act.put _ (some 5) _ = _
           simp only [Act.put, la, lb, lc, i64_w, i32_w]
           rfl
         refine one_ (i := 11) (N := some 6) b12_14 rfl rfl (one_of HT_.out kr) (by decide) (fun K hK => ?_)
         refine box_step ?hg (N := 6) ?hd (cs := #[.int .i64 0, .int .i64 0, .int .i64 0, .int .i64 0, .int .i64 0, .int .i64 0, .int .i64 0, .slice none 0 0, .slice none 0 0, .slice none 0 0]) (t := 37) ?hr ?_; (case hd => rfl); (case hg => rfl); (case hr => first | (go_simp; done) | (go_simp; rfl))
         intro gb302 hg w17 hbox hb
         have BK302 := am (hbox)
         have GW302 := am ((by rw [hg]; exact (below_size q2) : w.heap.size ≤ gb302))
         have GE302 := am ((by rw [hg]; exact (below_size q2) : w.heap.size ≤ gb302))
         replace HB := am (below_step q2 hb)
         have NB297_302 := am ((by rw [hg]; exact Nat.ne_of_lt (blk_lt (g := gb297) (o := .cells #[.int .i64 a0_0, .slice (some ad299) l0_1.length c0_1, .slice A0_2 l0_2.length c0_2] 53 (0, 0)) u14_64) : gb297 ≠ gb302))
         have NB302_297 := am ((by rw [hg]; exact Nat.ne_of_gt (blk_lt (g := gb297) (o := .cells #[.int .i64 a0_0, .slice (some ad299) l0_1.length c0_1, .slice A0_2 l0_2.length c0_2] 53 (0, 0)) u14_64) : gb302 ≠ gb297))
         replace BK297 := am (blk_below (g := gb297) (o := .cells #[.int .i64 a0_0, .slice (some ad299) l0_1.length c0_1, .slice A0_2 l0_2.length c0_2] 53 (0, 0)) u14_64 hb)
         have NB301_302 := am ((by rw [hg]; exact Nat.ne_of_lt (blk_lt (g := gb301) (o := .cells #[.int .i64 0, .int .i64 0, .int .i64 0, .int .i64 0, .int .i64 0, .int .i64 0, .int .i64 0, .slice none 0 0, .slice none 0 0, .slice none 0 0] 37 (0, 0)) u14_66) : gb301 ≠ gb302))
         have NB302_301 := am ((by rw [hg]; exact Nat.ne_of_gt (blk_lt (g := gb301) (o := .cells #[.int .i64 0, .int .i64 0, .int .i64 0, .int .i64 0, .int .i64 0, .int .i64 0, .int .i64 0, .slice none 0 0, .slice none 0 0, .slice none 0 0] 37 (0, 0)) u14_66) : gb302 ≠ gb301))
         replace BK301 := am (blk_below (g := gb301) (o := .cells #[.int .i64 0, .int .i64 0, .int .i64 0, .int .i64 0, .int .i64 0, .int .i64 0, .int .i64 0, .slice none 0 0, .slice none 0 0, .slice none 0 0] 37 (0, 0)) u14_66 hb)
         clear hb hbox hg
         refine hK.out _ _ ⟨(blk_cell BK297.out 0).trans rfl, (blk_cell BK297.out 1).trans rfl, (blk_cell BK297.out 2).trans rfl, (cm HB.out hw299_0), (cm HB.out hw299_1), (cm HB.out hw299_2), (cm HB.out hw299_3), (cm HB.out hw299_4), (cm HB.out hw299_5), (cm HB.out hw299_6), (cm HB.out hw299_7), (cm HB.out hw299_8), (cm HB.out hw299_9), (cm HB.out hw300_0), (cm HB.out hw300_1), (cm HB.out hw300_2), (cm HB.out hw300_3), (cm HB.out hw300_4), (cm HB.out hw300_5), (cm HB.out hw300_6), (cm HB.out hw300_7), (cm HB.out hw300_8), (cm HB.out hw300_9)⟩ (fun hHeld => ?_)
         clear hK K
         refine norm_ (a' := ?_) ?_ ?_
         rotate_left
         · show Act.put _ (some 6) _ = _
           simp only [Act.put, la, lb, lc, i64_w, i32_w]
           rfl
         exact norm_ u14_75 (hCont (gb301, gb302) _ ⟨hHeld, u14_64, u14_66, u14_67, GW301.out, GE301.out, NB297_301.out, NB301_297.out, NB302_301.out, NB301_302.out, GW302.out, GE302.out, NB297_302.out, NB302_297.out, q2⟩)
       skip
       refine box_step ?hg (N := 6) ?hd (cs := #[.int .i64 0, .int .i64 0, .int .i64 0, .int .i64 0, .int .i64 0, .int .i64 0, .int .i64 0, .slice none 0 0, .slice none 0 0, .slice none 0 0]) (t := 37) ?hr ?_; (case hd => rfl); (case hg => rfl); (case hr => first | (go_simp; done) | (go_simp; rfl))
       intro gb302 hg w16 hbox hb
       have BK302 := am (hbox)
       have GW302 := am ((by rw [hg]; exact (below_size q2) : w.heap.size ≤ gb302))
       have GE302 := am ((by rw [hg]; exact (below_size q2) : w.heap.size ≤ gb302))
       replace HB := am (below_step q2 hb)
       have NB297_302 := am ((by rw [hg]; exact Nat.ne_of_lt (blk_lt (g := gb297) (o := .cells #[.int .i64 a0_0, .slice (some ad299) l0_1.length c0_1, .slice A0_2 l0_2.length c0_2] 53 (0, 0)) u14_64) : gb297 ≠ gb302))
       have NB302_297 := am ((by rw [hg]; exact Nat.ne_of_gt (blk_lt (g := gb297) (o := .cells #[.int .i64 a0_0, .slice (some ad299) l0_1.length c0_1, .slice A0_2 l0_2.length c0_2] 53 (0, 0)) u14_64) : gb302 ≠ gb297))
       replace BK297 := am (blk_below (g := gb297) (o := .cells #[.int .i64 a0_0, .slice (some ad299) l0_1.length c0_1, .slice A0_2 l0_2.length c0_2] 53 (0, 0)) u14_64 hb)
       clear hb hbox hg
       refine hK.out _ _ ⟨(blk_cell BK297.out 0).trans rfl, (blk_cell BK297.out 1).trans rfl, (blk_cell BK297.out 2).trans rfl, (cm HB.out hw299_0), (cm HB.out hw299_1), (cm HB.out hw299_2), (cm HB.out hw299_3), (cm HB.out hw299_4), (cm HB.out hw299_5), (cm HB.out hw299_6), (cm HB.out hw299_7), (cm HB.out hw299_8), (cm HB.out hw299_9), (cm HB.out hw300_0), (cm HB.out hw300_1), (cm HB.out hw300_2), (cm HB.out hw300_3), (cm HB.out hw300_4), (cm HB.out hw300_5), (cm HB.out hw300_6), (cm HB.out hw300_7), (cm HB.out hw300_8), (cm HB.out hw300_9)⟩ (fun hHeld => ?_)
       clear hK K
       refine norm_ (a' := ?_) ?_ ?_
       rotate_left
       · show Act.put _ (some 6) _ = _
         simp only [Act.put, la, lb, lc, i64_w, i32_w]
         rfl
       refine one_ (i := 10) (N := some 5) b12_14 rfl rfl (one_of HT_.out kr) (by decide) (fun K hK => ?_)
       refine box_step ?hg (N := 5) ?hd (cs := #[.int .i64 0, .int .i64 0, .int .i64 0, .int .i64 0, .int .i64 0, .int .i64 0, .int .i64 0, .slice none 0 0, .slice none 0 0, .slice none 0 0]) (t := 37) ?hr ?_; (case hd => rfl); (case hg => rfl); (case hr => first | (go_simp; done) | (go_simp; rfl))
       intro gb301 hg w17 hbox hb
       have BK301 := am (hbox)
       have GW301 := am ((by rw [hg]; exact (below_size q2) : w.heap.size ≤ gb301))
       have GE301 := am ((by rw [hg]; exact (below_size q2) : w.heap.size ≤ gb301))
       replace HB := am (below_step q2 hb)
       have NB297_301 := am ((by rw [hg]; exact Nat.ne_of_lt (blk_lt (g := gb297) (o := .cells #[.int .i64 a0_0, .slice (some ad299) l0_1.length c0_1, .slice A0_2 l0_2.length c0_2] 53 (0, 0)) u14_64) : gb297 ≠ gb301))
       have NB301_297 := am ((by rw [hg]; exact Nat.ne_of_gt (blk_lt (g := gb297) (o := .cells #[.int .i64 a0_0, .slice (some ad299) l0_1.length c0_1, .slice A0_2 l0_2.length c0_2] 53 (0, 0)) u14_64) : gb301 ≠ gb297))
       replace BK297 := am (blk_below (g := gb297) (o := .cells #[.int .i64 a0_0, .slice (some ad299) l0_1.length c0_1, .slice A0_2 l0_2.length c0_2] 53 (0, 0)) u14_64 hb)
       have NB302_301 := am ((by rw [hg]; exact Nat.ne_of_lt (blk_lt (g := gb302) (o := .cells #[.int .i64 0, .int .i64 0, .int .i64 0, .int .i64 0, .int .i64 0, .int .i64 0, .int .i64 0, .slice none 0 0, .slice none 0 0, .slice none 0 0] 37 (0, 0)) u14_67) : gb302 ≠ gb301))
       have NB301_302 := am ((by rw [hg]; exact Nat.ne_of_gt (blk_lt (g := gb302) (o := .cells #[.int .i64 0, .int .i64 0, .int .i64 0, .int .i64 0, .int .i64 0, .int .i64 0, .int .i64 0, .slice none 0 0, .slice none 0 0, .slice none 0 0] 37 (0, 0)) u14_67) : gb301 ≠ gb302))
       replace BK302 := am (blk_below (g := gb302) (o := .cells #[.int .i64 0, .int .i64 0, .int .i64 0, .int .i64 0, .int .i64 0, .int .i64 0, .int .i64 0, .slice none 0 0, .slice none 0 0, .slice none 0 0] 37 (0, 0)) u14_67 hb)
       clear hb hbox hg
       refine hK.out _ _ ⟨(blk_cell BK297.out 0).trans rfl, (blk_cell BK297.out 1).trans rfl, (blk_cell BK297.out 2).trans rfl, (cm HB.out hw299_0), (cm HB.out hw299_1), (cm HB.out hw299_2), (cm HB.out hw299_3), (cm HB.out hw299_4), (cm HB.out hw299_5), (cm HB.out hw299_6), (cm HB.out hw299_7), (cm HB.out hw299_8), (cm HB.out hw299_9), (cm HB.out hw300_0), (cm HB.out hw300_1), (cm HB.out hw300_2), (cm HB.out hw300_3), (cm HB.out hw300_4), (cm HB.out hw300_5), (cm HB.out hw300_6), (cm HB.out hw300_7), (cm HB.out hw300_8), (cm HB.out hw300_9)⟩ (fun hHeld => ?_)
       clear hK K
       refine norm_ (a' := ?_) ?_ ?_
       rotate_left
       · show Act.put _ (some 5) _ = _
         simp only [Act.put, la, lb, lc, i64_w, i32_w]
         rfl
       exact norm_ u14_75 (hCont (gb301, gb302) _ ⟨hHeld, u14_64, u14_66, u14_67, GW301.out, GE301.out, NB297_301.out, NB301_297.out, NB302_301.out, NB301_302.out, GW302.out, GE302.out, NB297_302.out, NB302_297.out, (by repeat (first | (with_reducible first | exact HB.out | apply below_alloc | apply pw_below_drewN | apply below_drew1 | refine below_set ?_ GE297.out | refine below_set ?_ GE302.out | refine below_set ?_ GE301.out) | exact HB.out))⟩)
     rintro ⟨gb301, gb302⟩ w18 ⟨hS_, h0_, h1_, h2_, h3_, h4_, h5_, h6_, h7_, h8_, h9_, h10_, h11_, h12_, h13_⟩
     have n0_ : Aside0 (w18.heap[gb297]? = some (.cells #[.int .i64 a0_0, .slice (some ad299) l0_1.length c0_1, .slice A0_2 l0_2.length c0_2] 53 (0, 0))) := ⟨h0_⟩
     have n1_ : Aside0 (w18.heap[gb301]? = some (.cells #[.int .i64 0, .int .i64 0, .int .i64 0, .int .i64 0, .int .i64 0, .int .i64 0, .int .i64 0, .slice none 0 0, .slice none 0 0, .slice none 0 0] 37 (0, 0))) := ⟨h1_⟩
     have n2_ : Aside0 (w18.heap[gb302]? = some (.cells #[.int .i64 0, .int .i64 0, .int .i64 0, .int .i64 0, .int .i64 0, .int .i64 0, .int .i64 0, .slice none 0 0, .slice none 0 0, .slice none 0 0] 37 (0, 0))) := ⟨h2_⟩
     have n3_ : Aside0 (w.heap.size ≤ gb301) := ⟨h3_⟩
     have n4_ : Aside0 (w.heap.size ≤ gb301) := ⟨h4_⟩
     have n5_ : Aside0 (gb297 ≠ gb301) := ⟨h5_⟩
     have n6_ : Aside0 (gb301 ≠ gb297) := ⟨h6_⟩
     have n7_ : Aside0 (gb302 ≠ gb301) := ⟨h7_⟩
     have n8_ : Aside0 (gb301 ≠ gb302) := ⟨h8_⟩
     have n9_ : Aside0 (w.heap.size ≤ gb302) := ⟨h9_⟩
     have n10_ : Aside0 (w.heap.size ≤ gb302) := ⟨h10_⟩
     have n11_ : Aside0 (gb297 ≠ gb302) := ⟨h11_⟩
     have n12_ : Aside0 (gb302 ≠ gb297) := ⟨h12_⟩
     have n13_ : Aside0 (Below w.heap.size w w18) := ⟨h13_⟩
     clear BK297
     clear HB
     clear h0_ h1_ h2_ h3_ h4_ h5_ h6_ h7_ h8_ h9_ h10_ h11_ h12_ h13_
     have BK297 := n0_
     have BK301 := n1_
     have BK302 := n2_
     have GW301 := n3_
     have GE301 := n4_
     have NB297_301 := n5_
     have NB301_297 := n6_
     have NB302_301 := n7_
     have NB301_302 := n8_
     have GW302 := n9_
     have GE302 := n10_
     have NB297_302 := n11_
     have NB302_297 := n12_
     have HB := n13_
     clear n0_ n1_ n2_ n3_ n4_ n5_ n6_ n7_ n8_ n9_ n10_ n11_ n12_ n13_
     have hHeld : w18.cell? ⟨gb297, 0, none⟩ = some (.int .i64 a0_0) ∧ w18.cell? ⟨gb297, 1, none⟩ = some (.slice (some ad299) l0_1.length c0_1) ∧ w18.cell? ⟨gb297, 2, none⟩ = some (.slice A0_2 l0_2.length c0_2) ∧ w18.cell? (ad299.add ((x3_1).toNat * 10)) = some (.int .i64 ((rd_T37 l0_1 x3_1).f0)) ∧ w18.cell? ⟨(ad299.add ((x3_1).toNat * 10)).block, (ad299.add ((x3_1).toNat * 10)).off + 1, none⟩ = some (.int .i64 ((rd_T37 l0_1 x3_1).f1)) ∧ w18.cell? ⟨(ad299.add ((x3_1).toNat * 10)).block, (ad299.add ((x3_1).toNat * 10)).off + 2, none⟩ = some (.int .i64 ((rd_T37 l0_1 x3_1).f2)) ∧ w18.cell? ⟨(ad299.add ((x3_1).toNat * 10)).block, (ad299.add ((x3_1).toNat * 10)).off + 3, none⟩ = some (.int .i64 ((rd_T37 l0_1 x3_1).f3)) ∧ w18.cell? ⟨(ad299.add ((x3_1).toNat * 10)).block, (ad299.add ((x3_1).toNat * 10)).off + 4, none⟩ = some (.int .i64 ((rd_T37 l0_1 x3_1).f4)) ∧ w18.cell? ⟨(ad299.add ((x3_1).toNat * 10)).block, (ad299.add ((x3_1).toNat * 10)).off + 5, none⟩ = some (.int .i64 ((rd_T37 l0_1 x3_1).f5.f0)) ∧ w18.cell? ⟨(ad299.add ((x3_1).toNat * 10)).block, (ad299.add ((x3_1).toNat * 10)).off + 6, none⟩ = some (.int .i64 ((rd_T37 l0_1 x3_1).f5.f1)) ∧ w18.cell? ⟨(ad299.add ((x3_1).toNat * 10)).block, (ad299.add ((x3_1).toNat * 10)).off + 7, none⟩ = some (.slice A299_7 ((rd_T37 l0_1 x3_1).f5.f2).length c299_7) ∧ w18.cell? ⟨(ad299.add ((x3_1).toNat * 10)).block, (ad299.add ((x3_1).toNat * 10)).off + 8, none⟩ = some (.slice A299_8 ((rd_T37 l0_1 x3_1).f6).length c299_8) ∧ w18.cell? ⟨(ad299.add ((x3_1).toNat * 10)).block, (ad299.add ((x3_1).toNat * 10)).off + 9, none⟩ = some (.slice A299_9 ((rd_T37 l0_1 x3_1).f7).length c299_9) ∧ w18.cell? (ad299.add ((x4_2).toNat * 10)) = some (.int .i64 ((rd_T37 l0_1 x4_2).f0)) ∧ w18.cell? ⟨(ad299.add ((x4_2).toNat * 10)).block, (ad299.add ((x4_2).toNat * 10)).off + 1, none⟩ = some (.int .i64 ((rd_T37 l0_1 x4_2).f1)) ∧ w18.cell? ⟨(ad299.add ((x4_2).toNat * 10)).block, (ad299.add ((x4_2).toNat * 10)).off + 2, none⟩ = some (.int .i64 ((rd_T37 l0_1 x4_2).f2)) ∧ w18.cell? ⟨(ad299.add ((x4_2).toNat * 10)).block, (ad299.add ((x4_2).toNat * 10)).off + 3, none⟩ = some (.int .i64 ((rd_T37 l0_1 x4_2).f3)) ∧ w18.cell? ⟨(ad299.add ((x4_2).toNat * 10)).block, (ad299.add ((x4_2).toNat * 10)).off + 4, none⟩ = some (.int .i64 ((rd_T37 l0_1 x4_2).f4)) ∧ w18.cell? ⟨(ad299.add ((x4_2).toNat * 10)).block, (ad299.add ((x4_2).toNat * 10)).off + 5, none⟩ = some (.int .i64 ((rd_T37 l0_1 x4_2).f5.f0)) ∧ w18.cell? ⟨(ad299.add ((x4_2).toNat * 10)).block, (ad299.add ((x4_2).toNat * 10)).off + 6, none⟩ = some (.int .i64 ((rd_T37 l0_1 x4_2).f5.f1)) ∧ w18.cell? ⟨(ad299.add ((x4_2).toNat * 10)).block, (ad299.add ((x4_2).toNat * 10)).off + 7, none⟩ = some (.slice A300_7 ((rd_T37 l0_1 x4_2).f5.f2).length c300_7) ∧ w18.cell? ⟨(ad299.add ((x4_2).toNat * 10)).block, (ad299.add ((x4_2).toNat * 10)).off + 8, none⟩ = some (.slice A300_8 ((rd_T37 l0_1 x4_2).f6).length c300_8) ∧ w18.cell? ⟨(ad299.add ((x4_2).toNat * 10)).block, (ad299.add ((x4_2).toNat * 10)).off + 9, none⟩ = some (.slice A300_9 ((rd_T37 l0_1 x4_2).f7).length c300_9) := hS_
     refine norm_ (a' := ?_) ?_ ?_
     rotate_left
     · simp only [putAll, Act.put, la, lb, lc]
       rfl
     refine one_ (i := 12) (N := none) b13_14 rfl rfl (one_of HT_.out kr) (by decide) (fun K hK => ?_)
     have hs19 : w18.cell? ⟨gb301, 0, none⟩ = some (.int .i64 0) := (blk_cell BK301.out 0).trans rfl
     have hfs19 := blk_frozen BK301.out 0
     have hns19_0 := NB297_301.out
     have hns19_2 := NB302_301.out
     have hms19_0 := NB301_297.out
     have hms19_2 := NB301_302.out
     have hs20 : w18.cell? ⟨gb301, 1, none⟩ = some (.int .i64 0) := (blk_cell BK301.out 1).trans rfl
     have hfs20 := blk_frozen BK301.out 1
     have hns20_0 := NB297_301.out
     have hns20_2 := NB302_301.out
     have hms20_0 := NB301_297.out
     have hms20_2 := NB301_302.out
     have hs21 : w18.cell? ⟨gb301, 2, none⟩ = some (.int .i64 0) := (blk_cell BK301.out 2).trans rfl
     have hfs21 := blk_frozen BK301.out 2
     have hns21_0 := NB297_301.out
     have hns21_2 := NB302_301.out
     have hms21_0 := NB301_297.out
     have hms21_2 := NB301_302.out
     have hs22 : w18.cell? ⟨gb301, 3, none⟩ = some (.int .i64 0) := (blk_cell BK301.out 3).trans rfl
     have hfs22 := blk_frozen BK301.out 3
     have hns22_0 := NB297_301.out
     have hns22_2 := NB302_301.out
     have hms22_0 := NB301_297.out
     have hms22_2 := NB301_302.out
     have hs23 : w18.cell? ⟨gb301, 4, none⟩ = some (.int .i64 0) := (blk_cell BK301.out 4).trans rfl
     have hfs23 := blk_frozen BK301.out 4
     have hns23_0 := NB297_301.out
     have hns23_2 := NB302_301.out
     have hms23_0 := NB301_297.out
     have hms23_2 := NB301_302.out
     have hs24 : w18.cell? ⟨gb301, 5, none⟩ = some (.int .i64 0) := (blk_cell BK301.out 5).trans rfl
     have hfs24 := blk_frozen BK301.out 5
     have hns24_0 := NB297_301.out
     have hns24_2 := NB302_301.out
     have hms24_0 := NB301_297.out
     have hms24_2 := NB301_302.out
     have hs25 : w18.cell? ⟨gb301, 6, none⟩ = some (.int .i64 0) := (blk_cell BK301.out 6).trans rfl
     have hfs25 := blk_frozen BK301.out 6
     have hns25_0 := NB297_301.out
     have hns25_2 := NB302_301.out
     have hms25_0 := NB301_297.out
     have hms25_2 := NB301_302.out
     have hs26 : w18.cell? ⟨gb301, 7, none⟩ = some (.slice none 0 0) := (blk_cell BK301.out 7).trans rfl
     have hfs26 := blk_frozen BK301.out 7
     have hns26_0 := NB297_301.out
     have hns26_2 := NB302_301.out
     have hms26_0 := NB301_297.out
     have hms26_2 := NB301_302.out
     have hs27 : w18.cell? ⟨gb301, 8, none⟩ = some (.slice none 0 0) := (blk_cell BK301.out 8).trans rfl
     have hfs27 := blk_frozen BK301.out 8
     have hns27_0 := NB297_301.out
     have hns27_2 := NB302_301.out
     have hms27_0 := NB301_297.out
     have hms27_2 := NB301_302.out
     have hs28 : w18.cell? ⟨gb301, 9, none⟩ = some (.slice none 0 0) := (blk_cell BK301.out 9).trans rfl
     have hfs28 := blk_frozen BK301.out 9
     have hns28_0 := NB297_301.out
     have hns28_2 := NB302_301.out
     have hms28_0 := NB301_297.out
     have hms28_2 := NB301_302.out
     refine skip_ (w1 := ?_) (by rfl) rfl ?_ ?_
     rotate_left
     · go_simp
       rfl
     refine hK.out _ _ ⟨((cell_far (p := ⟨gb301, _, none⟩) NB297_301.out _).trans (((cell_far (p := ⟨gb301, _, none⟩) NB297_301.out _).trans (((cell_far (p := ⟨gb301, _, none⟩) NB297_301.out _).trans (((cell_far (p := ⟨gb301, _, none⟩) NB297_301.out _).trans (((cell_far (p := ⟨gb301, _, none⟩) NB297_301.out _).trans (((cell_far (p := ⟨gb301, _, none⟩) NB297_301.out _).trans (((cell_far (p := ⟨gb301, _, none⟩) NB297_301.out _).trans (((cell_far (p := ⟨gb301, _, none⟩) NB297_301.out _).trans (((cell_far (p := ⟨gb301, _, none⟩) NB297_301.out _).trans (((cell_far (p := ⟨gb301, _, none⟩) NB297_301.out _).trans (hHeld.1)))))))))))))))))))), ((cell_far (p := ⟨gb301, _, none⟩) NB297_301.out _).trans (((cell_far (p := ⟨gb301, _, none⟩) NB297_301.out _).trans (((cell_far (p := ⟨gb301, _, none⟩) NB297_301.out _).trans (((cell_far (p := ⟨gb301, _, none⟩) NB297_301.out _).trans (((cell_far (p := ⟨gb301, _, none⟩) NB297_301.out _).trans (((cell_far (p := ⟨gb301, _, none⟩) NB297_301.out _).trans (((cell_far (p := ⟨gb301, _, none⟩) NB297_301.out _).trans (((cell_far (p := ⟨gb301, _, none⟩) NB297_301.out _).trans (((cell_far (p := ⟨gb301, _, none⟩) NB297_301.out _).trans (((cell_far (p := ⟨gb301, _, none⟩) NB297_301.out _).trans (hHeld.2.1)))))))))))))))))))), ((cell_far (p := ⟨gb301, _, none⟩) NB297_301.out _).trans (((cell_far (p := ⟨gb301, _, none⟩) NB297_301.out _).trans (((cell_far (p := ⟨gb301, _, none⟩) NB297_301.out _).trans (((cell_far (p := ⟨gb301, _, none⟩) NB297_301.out _).trans (((cell_far (p := ⟨gb301, _, none⟩) NB297_301.out _).trans (((cell_far (p := ⟨gb301, _, none⟩) NB297_301.out _).trans (((cell_far (p := ⟨gb301, _, none⟩) NB297_301.out _).trans (((cell_far (p := ⟨gb301, _, none⟩) NB297_301.out _).trans (((cell_far (p := ⟨gb301, _, none⟩) NB297_301.out _).trans (((cell_far (p := ⟨gb301, _, none⟩) NB297_301.out _).trans (hHeld.2.2.1)))))))))))))))))))), ((cell_far (p := ⟨gb301, _, none⟩) u14_47 _).trans (((cell_far (p := ⟨gb301, _, none⟩) u14_47 _).trans (((cell_far (p := ⟨gb301, _, none⟩) u14_47 _).trans (((cell_far (p := ⟨gb301, _, none⟩) u14_47 _).trans (((cell_far (p := ⟨gb301, _, none⟩) u14_47 _).trans (((cell_far (p := ⟨gb301, _, none⟩) u14_47 _).trans (((cell_far (p := ⟨gb301, _, none⟩) u14_47 _).trans (((cell_far (p := ⟨gb301, _, none⟩) u14_47 _).trans (((cell_far (p := ⟨gb301, _, none⟩) u14_47 _).trans (((cell_far (p := ⟨gb301, _, none⟩) u14_47 _).trans (hHeld.2.2.2.1)))))))))))))))))))), ((cell_far (p := ⟨gb301, _, none⟩) u14_48 _).trans (((cell_far (p := ⟨gb301, _, none⟩) u14_48 _).trans (((cell_far (p := ⟨gb301, _, none⟩) u14_48 _).trans (((cell_far (p := ⟨gb301, _, none⟩) u14_48 _).trans (((cell_far (p := ⟨gb301, _, none⟩) u14_48 _).trans (((cell_far (p := ⟨gb301, _, none⟩) u14_48 _).trans (((cell_far (p := ⟨gb301, _, none⟩) u14_48 _).trans (((cell_far (p := ⟨gb301, _, none⟩) u14_48 _).trans (((cell_far (p := ⟨gb301, _, none⟩) u14_48 _).trans (((cell_far (p := ⟨gb301, _, none⟩) u14_48 _).trans (hHeld.2.2.2.2.1)))))))))))))))))))), ((cell_far (p := ⟨gb301, _, none⟩) u14_49 _).trans (((cell_far (p := ⟨gb301, _, none⟩) u14_49 _).trans (((cell_far (p := ⟨gb301, _, none⟩) u14_49 _).trans (((cell_far (p := ⟨gb301, _, none⟩) u14_49 _).trans (((cell_far (p := ⟨gb301, _, none⟩) u14_49 _).trans (((cell_far (p := ⟨gb301, _, none⟩) u14_49 _).trans (((cell_far (p := ⟨gb301, _, none⟩) u14_49 _).trans (((cell_far (p := ⟨gb301, _, none⟩) u14_49 _).trans (((cell_far (p := ⟨gb301, _, none⟩) u14_49 _).trans (((cell_far (p := ⟨gb301, _, none⟩) u14_49 _).trans (hHeld.2.2.2.2.2.1)))))))))))))))))))), ((cell_far (p := ⟨gb301, _, none⟩) u14_50 _).trans (((cell_far (p := ⟨gb301, _, none⟩) u14_50 _).trans (((cell_far (p := ⟨gb301, _, none⟩) u14_50 _).trans (((cell_far (p := ⟨gb301, _, none⟩) u14_50 _).trans (((cell_far (p := ⟨gb301, _, none⟩) u14_50 _).trans (((cell_far (p := ⟨gb301, _, none⟩) u14_50 _).trans (((cell_far (p := ⟨gb301, _, none⟩) u14_50 _).trans (((cell_far (p := ⟨gb301, _, none⟩) u14_50 _).trans (((cell_far (p := ⟨gb301, _, none⟩) u14_50 _).trans (((cell_far (p := ⟨gb301, _, none⟩) u14_50 _).trans (hHeld.2.2.2.2.2.2.1)))))))))))))))))))), ((cell_far (p := ⟨gb301, _, none⟩) u14_51 _).trans (((cell_far (p := ⟨gb301, _, none⟩) u14_51 _).trans (((cell_far (p := ⟨gb301, _, none⟩) u14_51 _).trans (((cell_far (p := ⟨gb301, _, none⟩) u14_51 _).trans (((cell_far (p := ⟨gb301, _, none⟩) u14_51 _).trans (((cell_far (p := ⟨gb301, _, none⟩) u14_51 _).trans (((cell_far (p := ⟨gb301, _, none⟩) u14_51 _).trans (((cell_far (p := ⟨gb301, _, none⟩) u14_51 _).trans (((cell_far (p := ⟨gb301, _, none⟩) u14_51 _).trans (((cell_far (p := ⟨gb301, _, none⟩) u14_51 _).trans (hHeld.2.2.2.2.2.2.2.1)))))))))))))))))))), ((cell_far (p := ⟨gb301, _, none⟩) u14_52 _).trans (((cell_far (p := ⟨gb301, _, none⟩) u14_52 _).trans (((cell_far (p := ⟨gb301, _, none⟩) u14_52 _).trans (((cell_far (p := ⟨gb301, _, none⟩) u14_52 _).trans (((cell_far (p := ⟨gb301, _, none⟩) u14_52 _).trans (((cell_far (p := ⟨gb301, _, none⟩) u14_52 _).trans (((cell_far (p := ⟨gb301, _, none⟩) u14_52 _).trans (((cell_far (p := ⟨gb301, _, none⟩) u14_52 _).trans (((cell_far (p := ⟨gb301, _, none⟩) u14_52 _).trans (((cell_far (p := ⟨gb301, _, none⟩) u14_52 _).trans (hHeld.2.2.2.2.2.2.2.2.1)))))))))))))))))))), ((cell_far (p := ⟨gb301, _, none⟩) u14_53 _).trans (((cell_far (p := ⟨gb301, _, none⟩) u14_53 _).trans (((cell_far (p := ⟨gb301, _, none⟩) u14_53 _).trans (((cell_far (p := ⟨gb301, _, none⟩) u14_53 _).trans (((cell_far (p := ⟨gb301, _, none⟩) u14_53 _).trans (((cell_far (p := ⟨gb301, _, none⟩) u14_53 _).trans (((cell_far (p := ⟨gb301, _, none⟩) u14_53 _).trans (((cell_far (p := ⟨gb301, _, none⟩) u14_53 _).trans (((cell_far (p := ⟨gb301, _, none⟩) u14_53 _).trans (((cell_far (p := ⟨gb301, _, none⟩) u14_53 _).trans (hHeld.2.2.2.2.2.2.2.2.2.1)))))))))))))))))))), ((cell_far (p := ⟨gb301, _, none⟩) u14_54 _).trans (((cell_far (p := ⟨gb301, _, none⟩) u14_54 _).trans (((cell_far (p := ⟨gb301, _, none⟩) u14_54 _).trans (((cell_far (p := ⟨gb301, _, none⟩) u14_54 _).trans (((cell_far (p := ⟨gb301, _, none⟩) u14_54 _).trans (((cell_far (p := ⟨gb301, _, none⟩) u14_54 _).trans (((cell_far (p := ⟨gb301, _, none⟩) u14_54 _).trans (((cell_far (p := ⟨gb301, _, none⟩) u14_54 _).trans (((cell_far (p := ⟨gb301, _, none⟩) u14_54 _).trans (((cell_far (p := ⟨gb301, _, none⟩) u14_54 _).trans (hHeld.2.2.2.2.2.2.2.2.2.2.1)))))))))))))))))))), ((cell_far (p := ⟨gb301, _, none⟩) u14_23 _).trans (((cell_far (p := ⟨gb301, _, none⟩) u14_23 _).trans (((cell_far (p := ⟨gb301, _, none⟩) u14_23 _).trans (((cell_far (p := ⟨gb301, _, none⟩) u14_23 _).trans (((cell_far (p := ⟨gb301, _, none⟩) u14_23 _).trans (((cell_far (p := ⟨gb301, _, none⟩) u14_23 _).trans (((cell_far (p := ⟨gb301, _, none⟩) u14_23 _).trans (((cell_far (p := ⟨gb301, _, none⟩) u14_23 _).trans (((cell_far (p := ⟨gb301, _, none⟩) u14_23 _).trans (((cell_far (p := ⟨gb301, _, none⟩) u14_23 _).trans (hHeld.2.2.2.2.2.2.2.2.2.2.2.1)))))))))))))))))))), ((cell_far (p := ⟨gb301, _, none⟩) u14_24 _).trans (((cell_far (p := ⟨gb301, _, none⟩) u14_24 _).trans (((cell_far (p := ⟨gb301, _, none⟩) u14_24 _).trans (((cell_far (p := ⟨gb301, _, none⟩) u14_24 _).trans (((cell_far (p := ⟨gb301, _, none⟩) u14_24 _).trans (((cell_far (p := ⟨gb301, _, none⟩) u14_24 _).trans (((cell_far (p := ⟨gb301, _, none⟩) u14_24 _).trans (((cell_far (p := ⟨gb301, _, none⟩) u14_24 _).trans (((cell_far (p := ⟨gb301, _, none⟩) u14_24 _).trans (((cell_far (p := ⟨gb301, _, none⟩) u14_24 _).trans (hHeld.2.2.2.2.2.2.2.2.2.2.2.2.1)))))))))))))))))))), ((cell_far (p := ⟨gb301, _, none⟩) u14_25 _).trans (((cell_far (p := ⟨gb301, _, none⟩) u14_25 _).trans (((cell_far (p := ⟨gb301, _, none⟩) u14_25 _).trans (((cell_far (p := ⟨gb301, _, none⟩) u14_25 _).trans (((cell_far (p := ⟨gb301, _, none⟩) u14_25 _).trans (((cell_far (p := ⟨gb301, _, none⟩) u14_25 _).trans (((cell_far (p := ⟨gb301, _, none⟩) u14_25 _).trans (((cell_far (p := ⟨gb301, _, none⟩) u14_25 _).trans (((cell_far (p := ⟨gb301, _, none⟩) u14_25 _).trans (((cell_far (p := ⟨gb301, _, none⟩) u14_25 _).trans (hHeld.2.2.2.2.2.2.2.2.2.2.2.2.2.1)))))))))))))))))))), ((cell_far (p := ⟨gb301, _, none⟩) u14_26 _).trans (((cell_far (p := ⟨gb301, _, none⟩) u14_26 _).trans (((cell_far (p := ⟨gb301, _, none⟩) u14_26 _).trans (((cell_far (p := ⟨gb301, _, none⟩) u14_26 _).trans (((cell_far (p := ⟨gb301, _, none⟩) u14_26 _).trans (((cell_far (p := ⟨gb301, _, none⟩) u14_26 _).trans (((cell_far (p := ⟨gb301, _, none⟩) u14_26 _).trans (((cell_far (p := ⟨gb301, _, none⟩) u14_26 _).trans (((cell_far (p := ⟨gb301, _, none⟩) u14_26 _).trans (((cell_far (p := ⟨gb301, _, none⟩) u14_26 _).trans (hHeld.2.2.2.2.2.2.2.2.2.2.2.2.2.2.1)))))))))))))))))))), ((cell_far (p := ⟨gb301, _, none⟩) u14_27 _).trans (((cell_far (p := ⟨gb301, _, none⟩) u14_27 _).trans (((cell_far (p := ⟨gb301, _, none⟩) u14_27 _).trans (((cell_far (p := ⟨gb301, _, none⟩) u14_27 _).trans (((cell_far (p := ⟨gb301, _, none⟩) u14_27 _).trans (((cell_far (p := ⟨gb301, _, none⟩) u14_27 _).trans (((cell_far (p := ⟨gb301, _, none⟩) u14_27 _).trans (((cell_far (p := ⟨gb301, _, none⟩) u14_27 _).trans (((cell_far (p := ⟨gb301, _, none⟩) u14_27 _).trans (((cell_far (p := ⟨gb301, _, none⟩) u14_27 _).trans (hHeld.2.2.2.2.2.2.2.2.2.2.2.2.2.2.2.1)))))))))))))))))))), ((cell_far (p := ⟨gb301, _, none⟩) u14_28 _).trans (((cell_far (p := ⟨gb301, _, none⟩) u14_28 _).trans (((cell_far (p := ⟨gb301, _, none⟩) u14_28 _).trans (((cell_far (p := ⟨gb301, _, none⟩) u14_28 _).trans (((cell_far (p := ⟨gb301, _, none⟩) u14_28 _).trans (((cell_far (p := ⟨gb301, _, none⟩) u14_28 _).trans (((cell_far (p := ⟨gb301, _, none⟩) u14_28 _).trans (((cell_far (p := ⟨gb301, _, none⟩) u14_28 _).trans (((cell_far (p := ⟨gb301, _, none⟩) u14_28 _).trans (((cell_far (p := ⟨gb301, _, none⟩) u14_28 _).trans (hHeld.2.2.2.2.2.2.2.2.2.2.2.2.2.2.2.2.1)))))))))))))))))))), ((cell_far (p := ⟨gb301, _, none⟩) u14_29 _).trans (((cell_far (p := ⟨gb301, _, none⟩) u14_29 _).trans (((cell_far (p := ⟨gb301, _, none⟩) u14_29 _).trans (((cell_far (p := ⟨gb301, _, none⟩) u14_29 _).trans (((cell_far (p := ⟨gb301, _, none⟩) u14_29 _).trans (((cell_far (p := ⟨gb301, _, none⟩) u14_29 _).trans (((cell_far (p := ⟨gb301, _, none⟩) u14_29 _).trans (((cell_far (p := ⟨gb301, _, none⟩) u14_29 _).trans (((cell_far (p := ⟨gb301, _, none⟩) u14_29 _).trans (((cell_far (p := ⟨gb301, _, none⟩) u14_29 _).trans (hHeld.2.2.2.2.2.2.2.2.2.2.2.2.2.2.2.2.2.1)))))))))))))))))))), ((cell_far (p := ⟨gb301, _, none⟩) u14_30 _).trans (((cell_far (p := ⟨gb301, _, none⟩) u14_30 _).trans (((cell_far (p := ⟨gb301, _, none⟩) u14_30 _).trans (((cell_far (p := ⟨gb301, _, none⟩) u14_30 _).trans (((cell_far (p := ⟨gb301, _, none⟩) u14_30 _).trans (((cell_far (p := ⟨gb301, _, none⟩) u14_30 _).trans (((cell_far (p := ⟨gb301, _, none⟩) u14_30 _).trans (((cell_far (p := ⟨gb301, _, none⟩) u14_30 _).trans (((cell_far (p := ⟨gb301, _, none⟩) u14_30 _).trans (((cell_far (p := ⟨gb301, _, none⟩) u14_30 _).trans (hHeld.2.2.2.2.2.2.2.2.2.2.2.2.2.2.2.2.2.2.1)))))))))))))))))))), ((cell_far (p := ⟨gb301, _, none⟩) u14_31 _).trans (((cell_far (p := ⟨gb301, _, none⟩) u14_31 _).trans (((cell_far (p := ⟨gb301, _, none⟩) u14_31 _).trans (((cell_far (p := ⟨gb301, _, none⟩) u14_31 _).trans (((cell_far (p := ⟨gb301, _, none⟩) u14_31 _).trans (((cell_far (p := ⟨gb301, _, none⟩) u14_31 _).trans (((cell_far (p := ⟨gb301, _, none⟩) u14_31 _).trans (((cell_far (p := ⟨gb301, _, none⟩) u14_31 _).trans (((cell_far (p := ⟨gb301, _, none⟩) u14_31 _).trans (((cell_far (p := ⟨gb301, _, none⟩) u14_31 _).trans (hHeld.2.2.2.2.2.2.2.2.2.2.2.2.2.2.2.2.2.2.2.1)))))))))))))))))))), ((cell_far (p := ⟨gb301, _, none⟩) u14_32 _).trans (((cell_far (p := ⟨gb301, _, none⟩) u14_32 _).trans (((cell_far (p := ⟨gb301, _, none⟩) u14_32 _).trans (((cell_far (p := ⟨gb301, _, none⟩) u14_32 _).trans (((cell_far (p := ⟨gb301, _, none⟩) u14_32 _).trans (((cell_far (p := ⟨gb301, _, none⟩) u14_32 _).trans (((cell_far (p := ⟨gb301, _, none⟩) u14_32 _).trans (((cell_far (p := ⟨gb301, _, none⟩) u14_32 _).trans (((cell_far (p := ⟨gb301, _, none⟩) u14_32 _).trans (((cell_far (p := ⟨gb301, _, none⟩) u14_32 _).trans (hHeld.2.2.2.2.2.2.2.2.2.2.2.2.2.2.2.2.2.2.2.2.1)))))))))))))))))))), ((cell_far (p := ⟨gb301, _, none⟩) u14_33 _).trans (((cell_far (p := ⟨gb301, _, none⟩) u14_33 _).trans (((cell_far (p := ⟨gb301, _, none⟩) u14_33 _).trans (((cell_far (p := ⟨gb301, _, none⟩) u14_33 _).trans (((cell_far (p := ⟨gb301, _, none⟩) u14_33 _).trans (((cell_far (p := ⟨gb301, _, none⟩) u14_33 _).trans (((cell_far (p := ⟨gb301, _, none⟩) u14_33 _).trans (((cell_far (p := ⟨gb301, _, none⟩) u14_33 _).trans (((cell_far (p := ⟨gb301, _, none⟩) u14_33 _).trans (((cell_far (p := ⟨gb301, _, none⟩) u14_33 _).trans (hHeld.2.2.2.2.2.2.2.2.2.2.2.2.2.2.2.2.2.2.2.2.2.1)))))))))))))))))))), ((cell_far (p := ⟨gb301, _, none⟩) u14_34 _).trans (((cell_far (p := ⟨gb301, _, none⟩) u14_34 _).trans (((cell_far (p := ⟨gb301, _, none⟩) u14_34 _).trans (((cell_far (p := ⟨gb301, _, none⟩) u14_34 _).trans (((cell_far (p := ⟨gb301, _, none⟩) u14_34 _).trans (((cell_far (p := ⟨gb301, _, none⟩) u14_34 _).trans (((cell_far (p := ⟨gb301, _, none⟩) u14_34 _).trans (((cell_far (p := ⟨gb301, _, none⟩) u14_34 _).trans (((cell_far (p := ⟨gb301, _, none⟩) u14_34 _).trans (((cell_far (p := ⟨gb301, _, none⟩) u14_34 _).trans (hHeld.2.2.2.2.2.2.2.2.2.2.2.2.2.2.2.2.2.2.2.2.2.2))))))))))))))))))))⟩ (fun hHeld => ?_)
     clear hK K
     refine one_ (i := 13) (N := none) b14_14 rfl rfl (one_of HT_.out kr) (by decide) (fun K hK => ?_)
     have hs29 : w18.cell? ⟨gb302, 0, none⟩ = some (.int .i64 0) := (blk_cell BK302.out 0).trans rfl
     have hfs29 := blk_frozen BK302.out 0
     have hns29_0 := NB297_302.out
     have hns29_1 := NB301_302.out
     have hms29_0 := NB302_297.out
     have hms29_1 := NB302_301.out
     have hs30 : w18.cell? ⟨gb302, 1, none⟩ = some (.int .i64 0) := (blk_cell BK302.out 1).trans rfl
     have hfs30 := blk_frozen BK302.out 1
     have hns30_0 := NB297_302.out
     have hns30_1 := NB301_302.out
     have hms30_0 := NB302_297.out
     have hms30_1 := NB302_301.out
     have hs31 : w18.cell? ⟨gb302, 2, none⟩ = some (.int .i64 0) := (blk_cell BK302.out 2).trans rfl
     have hfs31 := blk_frozen BK302.out 2
     have hns31_0 := NB297_302.out
     have hns31_1 := NB301_302.out
     have hms31_0 := NB302_297.out
     have hms31_1 := NB302_301.out
     have hs32 : w18.cell? ⟨gb302, 3, none⟩ = some (.int .i64 0) := (blk_cell BK302.out 3).trans rfl
     have hfs32 := blk_frozen BK302.out 3
     have hns32_0 := NB297_302.out
     have hns32_1 := NB301_302.out
     have hms32_0 := NB302_297.out
     have hms32_1 := NB302_301.out
     have hs33 : w18.cell? ⟨gb302, 4, none⟩ = some (.int .i64 0) := (blk_cell BK302.out 4).trans rfl
     have hfs33 := blk_frozen BK302.out 4
     have hns33_0 := NB297_302.out
     have hns33_1 := NB301_302.out
     have hms33_0 := NB302_297.out
     have hms33_1 := NB302_301.out
     have hs34 : w18.cell? ⟨gb302, 5, none⟩ = some (.int .i64 0) := (blk_cell BK302.out 5).trans rfl
     have hfs34 := blk_frozen BK302.out 5
     have hns34_0 := NB297_302.out
     have hns34_1 := NB301_302.out
     have hms34_0 := NB302_297.out
     have hms34_1 := NB302_301.out
     have hs35 : w18.cell? ⟨gb302, 6, none⟩ = some (.int .i64 0) := (blk_cell BK302.out 6).trans rfl
     have hfs35 := blk_frozen BK302.out 6
     have hns35_0 := NB297_302.out
     have hns35_1 := NB301_302.out
     have hms35_0 := NB302_297.out
     have hms35_1 := NB302_301.out
     have hs36 : w18.cell? ⟨gb302, 7, none⟩ = some (.slice none 0 0) := (blk_cell BK302.out 7).trans rfl
     have hfs36 := blk_frozen BK302.out 7
     have hns36_0 := NB297_302.out
     have hns36_1 := NB301_302.out
     have hms36_0 := NB302_297.out
     have hms36_1 := NB302_301.out
     have hs37 : w18.cell? ⟨gb302, 8, none⟩ = some (.slice none 0 0) := (blk_cell BK302.out 8).trans rfl
     have hfs37 := blk_frozen BK302.out 8
     have hns37_0 := NB297_302.out
     have hns37_1 := NB301_302.out
     have hms37_0 := NB302_297.out
     have hms37_1 := NB302_301.out
     have hs38 : w18.cell? ⟨gb302, 9, none⟩ = some (.slice none 0 0) := (blk_cell BK302.out 9).trans rfl
     have hfs38 := blk_frozen BK302.out 9
     have hns38_0 := NB297_302.out
     have hns38_1 := NB301_302.out
     have hms38_0 := NB302_297.out
     have hms38_1 := NB302_301.out
     generalize hw_ : World.setCell _ _ _ = wq_
     refine skip_ (w1 := ?_) (by rfl) rfl ?_ ?_
     rotate_left
     · subst hw_
       go_simp
       rfl
     refine hK.out _ _ ⟨((cell_far (p := ⟨gb302, _, none⟩) NB297_302.out _).trans (((cell_far (p := ⟨gb302, _, none⟩) NB297_302.out _).trans (((cell_far (p := ⟨gb302, _, none⟩) NB297_302.out _).trans (((cell_far (p := ⟨gb302, _, none⟩) NB297_302.out _).trans (((cell_far (p := ⟨gb302, _, none⟩) NB297_302.out _).trans (((cell_far (p := ⟨gb302, _, none⟩) NB297_302.out _).trans (((cell_far (p := ⟨gb302, _, none⟩) NB297_302.out _).trans (((cell_far (p := ⟨gb302, _, none⟩) NB297_302.out _).trans (((cell_far (p := ⟨gb302, _, none⟩) NB297_302.out _).trans (((cell_far (p := ⟨gb302, _, none⟩) NB297_302.out _).trans (hHeld.1)))))))))))))))))))), ((cell_far (p := ⟨gb302, _, none⟩) NB297_302.out _).trans (((cell_far (p := ⟨gb302, _, none⟩) NB297_302.out _).trans (((cell_far (p := ⟨gb302, _, none⟩) NB297_302.out _).trans (((cell_far (p := ⟨gb302, _, none⟩) NB297_302.out _).trans (((cell_far (p := ⟨gb302, _, none⟩) NB297_302.out _).trans (((cell_far (p := ⟨gb302, _, none⟩) NB297_302.out _).trans (((cell_far (p := ⟨gb302, _, none⟩) NB297_302.out _).trans (((cell_far (p := ⟨gb302, _, none⟩) NB297_302.out _).trans (((cell_far (p := ⟨gb302, _, none⟩) NB297_302.out _).trans (((cell_far (p := ⟨gb302, _, none⟩) NB297_302.out _).trans (hHeld.2.1)))))))))))))))))))), ((cell_far (p := ⟨gb302, _, none⟩) NB297_302.out _).trans (((cell_far (p := ⟨gb302, _, none⟩) NB297_302.out _).trans (((cell_far (p := ⟨gb302, _, none⟩) NB297_302.out _).trans (((cell_far (p := ⟨gb302, _, none⟩) NB297_302.out _).trans (((cell_far (p := ⟨gb302, _, none⟩) NB297_302.out _).trans (((cell_far (p := ⟨gb302, _, none⟩) NB297_302.out _).trans (((cell_far (p := ⟨gb302, _, none⟩) NB297_302.out _).trans (((cell_far (p := ⟨gb302, _, none⟩) NB297_302.out _).trans (((cell_far (p := ⟨gb302, _, none⟩) NB297_302.out _).trans (((cell_far (p := ⟨gb302, _, none⟩) NB297_302.out _).trans (hHeld.2.2.1)))))))))))))))))))), ((cell_far (p := ⟨gb302, _, none⟩) u14_55 _).trans (((cell_far (p := ⟨gb302, _, none⟩) u14_55 _).trans (((cell_far (p := ⟨gb302, _, none⟩) u14_55 _).trans (((cell_far (p := ⟨gb302, _, none⟩) u14_55 _).trans (((cell_far (p := ⟨gb302, _, none⟩) u14_55 _).trans (((cell_far (p := ⟨gb302, _, none⟩) u14_55 _).trans (((cell_far (p := ⟨gb302, _, none⟩) u14_55 _).trans (((cell_far (p := ⟨gb302, _, none⟩) u14_55 _).trans (((cell_far (p := ⟨gb302, _, none⟩) u14_55 _).trans (((cell_far (p := ⟨gb302, _, none⟩) u14_55 _).trans (hHeld.2.2.2.1)))))))))))))))))))), ((cell_far (p := ⟨gb302, _, none⟩) u14_56 _).trans (((cell_far (p := ⟨gb302, _, none⟩) u14_56 _).trans (((cell_far (p := ⟨gb302, _, none⟩) u14_56 _).trans (((cell_far (p := ⟨gb302, _, none⟩) u14_56 _).trans (((cell_far (p := ⟨gb302, _, none⟩) u14_56 _).trans (((cell_far (p := ⟨gb302, _, none⟩) u14_56 _).trans (((cell_far (p := ⟨gb302, _, none⟩) u14_56 _).trans (((cell_far (p := ⟨gb302, _, none⟩) u14_56 _).trans (((cell_far (p := ⟨gb302, _, none⟩) u14_56 _).trans (((cell_far (p := ⟨gb302, _, none⟩) u14_56 _).trans (hHeld.2.2.2.2.1)))))))))))))))))))), ((cell_far (p := ⟨gb302, _, none⟩) u14_57 _).trans (((cell_far (p := ⟨gb302, _, none⟩) u14_57 _).trans (((cell_far (p := ⟨gb302, _, none⟩) u14_57 _).trans (((cell_far (p := ⟨gb302, _, none⟩) u14_57 _).trans (((cell_far (p := ⟨gb302, _, none⟩) u14_57 _).trans (((cell_far (p := ⟨gb302, _, none⟩) u14_57 _).trans (((cell_far (p := ⟨gb302, _, none⟩) u14_57 _).trans (((cell_far (p := ⟨gb302, _, none⟩) u14_57 _).trans (((cell_far (p := ⟨gb302, _, none⟩) u14_57 _).trans (((cell_far (p := ⟨gb302, _, none⟩) u14_57 _).trans (hHeld.2.2.2.2.2.1)))))))))))))))))))), ((cell_far (p := ⟨gb302, _, none⟩) u14_58 _).trans (((cell_far (p := ⟨gb302, _, none⟩) u14_58 _).trans (((cell_far (p := ⟨gb302, _, none⟩) u14_58 _).trans (((cell_far (p := ⟨gb302, _, none⟩) u14_58 _).trans (((cell_far (p := ⟨gb302, _, none⟩) u14_58 _).trans (((cell_far (p := ⟨gb302, _, none⟩) u14_58 _).trans (((cell_far (p := ⟨gb302, _, none⟩) u14_58 _).trans (((cell_far (p := ⟨gb302, _, none⟩) u14_58 _).trans (((cell_far (p := ⟨gb302, _, none⟩) u14_58 _).trans (((cell_far (p := ⟨gb302, _, none⟩) u14_58 _).trans (hHeld.2.2.2.2.2.2.1)))))))))))))))))))), ((cell_far (p := ⟨gb302, _, none⟩) u14_59 _).trans (((cell_far (p := ⟨gb302, _, none⟩) u14_59 _).trans (((cell_far (p := ⟨gb302, _, none⟩) u14_59 _).trans (((cell_far (p := ⟨gb302, _, none⟩) u14_59 _).trans (((cell_far (p := ⟨gb302, _, none⟩) u14_59 _).trans (((cell_far (p := ⟨gb302, _, none⟩) u14_59 _).trans (((cell_far (p := ⟨gb302, _, none⟩) u14_59 _).trans (((cell_far (p := ⟨gb302, _, none⟩) u14_59 _).trans (((cell_far (p := ⟨gb302, _, none⟩) u14_59 _).trans (((cell_far (p := ⟨gb302, _, none⟩) u14_59 _).trans (hHeld.2.2.2.2.2.2.2.1)))))))))))))))))))), ((cell_far (p := ⟨gb302, _, none⟩) u14_60 _).trans (((cell_far (p := ⟨gb302, _, none⟩) u14_60 _).trans (((cell_far (p := ⟨gb302, _, none⟩) u14_60 _).trans (((cell_far (p := ⟨gb302, _, none⟩) u14_60 _).trans (((cell_far (p := ⟨gb302, _, none⟩) u14_60 _).trans (((cell_far (p := ⟨gb302, _, none⟩) u14_60 _).trans (((cell_far (p := ⟨gb302, _, none⟩) u14_60 _).trans (((cell_far (p := ⟨gb302, _, none⟩) u14_60 _).trans (((cell_far (p := ⟨gb302, _, none⟩) u14_60 _).trans (((cell_far (p := ⟨gb302, _, none⟩) u14_60 _).trans (hHeld.2.2.2.2.2.2.2.2.1)))))))))))))))))))), ((cell_far (p := ⟨gb302, _, none⟩) u14_61 _).trans (((cell_far (p := ⟨gb302, _, none⟩) u14_61 _).trans (((cell_far (p := ⟨gb302, _, none⟩) u14_61 _).trans (((cell_far (p := ⟨gb302, _, none⟩) u14_61 _).trans (((cell_far (p := ⟨gb302, _, none⟩) u14_61 _).trans (((cell_far (p := ⟨gb302, _, none⟩) u14_61 _).trans (((cell_far (p := ⟨gb302, _, none⟩) u14_61 _).trans (((cell_far (p := ⟨gb302, _, none⟩) u14_61 _).trans (((cell_far (p := ⟨gb302, _, none⟩) u14_61 _).trans (((cell_far (p := ⟨gb302, _, none⟩) u14_61 _).trans (hHeld.2.2.2.2.2.2.2.2.2.1)))))))))))))))))))), ((cell_far (p := ⟨gb302, _, none⟩) u14_62 _).trans (((cell_far (p := ⟨gb302, _, none⟩) u14_62 _).trans (((cell_far (p := ⟨gb302, _, none⟩) u14_62 _).trans (((cell_far (p := ⟨gb302, _, none⟩) u14_62 _).trans (((cell_far (p := ⟨gb302, _, none⟩) u14_62 _).trans (((cell_far (p := ⟨gb302, _, none⟩) u14_62 _).trans (((cell_far (p := ⟨gb302, _, none⟩) u14_62 _).trans (((cell_far (p := ⟨gb302, _, none⟩) u14_62 _).trans (((cell_far (p := ⟨gb302, _, none⟩) u14_62 _).trans (((cell_far (p := ⟨gb302, _, none⟩) u14_62 _).trans (hHeld.2.2.2.2.2.2.2.2.2.2.1)))))))))))))))))))), ((cell_far (p := ⟨gb302, _, none⟩) u14_35 _).trans (((cell_far (p := ⟨gb302, _, none⟩) u14_35 _).trans (((cell_far (p := ⟨gb302, _, none⟩) u14_35 _).trans (((cell_far (p := ⟨gb302, _, none⟩) u14_35 _).trans (((cell_far (p := ⟨gb302, _, none⟩) u14_35 _).trans (((cell_far (p := ⟨gb302, _, none⟩) u14_35 _).trans (((cell_far (p := ⟨gb302, _, none⟩) u14_35 _).trans (((cell_far (p := ⟨gb302, _, none⟩) u14_35 _).trans (((cell_far (p := ⟨gb302, _, none⟩) u14_35 _).trans (((cell_far (p := ⟨gb302, _, none⟩) u14_35 _).trans (hHeld.2.2.2.2.2.2.2.2.2.2.2.1)))))))))))))))))))), ((cell_far (p := ⟨gb302, _, none⟩) u14_36 _).trans (((cell_far (p := ⟨gb302, _, none⟩) u14_36 _).trans (((cell_far (p := ⟨gb302, _, none⟩) u14_36 _).trans (((cell_far (p := ⟨gb302, _, none⟩) u14_36 _).trans (((cell_far (p := ⟨gb302, _, none⟩) u14_36 _).trans (((cell_far (p := ⟨gb302, _, none⟩) u14_36 _).trans (((cell_far (p := ⟨gb302, _, none⟩) u14_36 _).trans (((cell_far (p := ⟨gb302, _, none⟩) u14_36 _).trans (((cell_far (p := ⟨gb302, _, none⟩) u14_36 _).trans (((cell_far (p := ⟨gb302, _, none⟩) u14_36 _).trans (hHeld.2.2.2.2.2.2.2.2.2.2.2.2.1)))))))))))))))))))), ((cell_far (p := ⟨gb302, _, none⟩) u14_37 _).trans (((cell_far (p := ⟨gb302, _, none⟩) u14_37 _).trans (((cell_far (p := ⟨gb302, _, none⟩) u14_37 _).trans (((cell_far (p := ⟨gb302, _, none⟩) u14_37 _).trans (((cell_far (p := ⟨gb302, _, none⟩) u14_37 _).trans (((cell_far (p := ⟨gb302, _, none⟩) u14_37 _).trans (((cell_far (p := ⟨gb302, _, none⟩) u14_37 _).trans (((cell_far (p := ⟨gb302, _, none⟩) u14_37 _).trans (((cell_far (p := ⟨gb302, _, none⟩) u14_37 _).trans (((cell_far (p := ⟨gb302, _, none⟩) u14_37 _).trans (hHeld.2.2.2.2.2.2.2.2.2.2.2.2.2.1)))))))))))))))))))), ((cell_far (p := ⟨gb302, _, none⟩) u14_38 _).trans (((cell_far (p := ⟨gb302, _, none⟩) u14_38 _).trans (((cell_far (p := ⟨gb302, _, none⟩) u14_38 _).trans (((cell_far (p := ⟨gb302, _, none⟩) u14_38 _).trans (((cell_far (p := ⟨gb302, _, none⟩) u14_38 _).trans (((cell_far (p := ⟨gb302, _, none⟩) u14_38 _).trans (((cell_far (p := ⟨gb302, _, none⟩) u14_38 _).trans (((cell_far (p := ⟨gb302, _, none⟩) u14_38 _).trans (((cell_far (p := ⟨gb302, _, none⟩) u14_38 _).trans (((cell_far (p := ⟨gb302, _, none⟩) u14_38 _).trans (hHeld.2.2.2.2.2.2.2.2.2.2.2.2.2.2.1)))))))))))))))))))), ((cell_far (p := ⟨gb302, _, none⟩) u14_39 _).trans (((cell_far (p := ⟨gb302, _, none⟩) u14_39 _).trans (((cell_far (p := ⟨gb302, _, none⟩) u14_39 _).trans (((cell_far (p := ⟨gb302, _, none⟩) u14_39 _).trans (((cell_far (p := ⟨gb302, _, none⟩) u14_39 _).trans (((cell_far (p := ⟨gb302, _, none⟩) u14_39 _).trans (((cell_far (p := ⟨gb302, _, none⟩) u14_39 _).trans (((cell_far (p := ⟨gb302, _, none⟩) u14_39 _).trans (((cell_far (p := ⟨gb302, _, none⟩) u14_39 _).trans (((cell_far (p := ⟨gb302, _, none⟩) u14_39 _).trans (hHeld.2.2.2.2.2.2.2.2.2.2.2.2.2.2.2.1)))))))))))))))))))), ((cell_far (p := ⟨gb302, _, none⟩) u14_40 _).trans (((cell_far (p := ⟨gb302, _, none⟩) u14_40 _).trans (((cell_far (p := ⟨gb302, _, none⟩) u14_40 _).trans (((cell_far (p := ⟨gb302, _, none⟩) u14_40 _).trans (((cell_far (p := ⟨gb302, _, none⟩) u14_40 _).trans (((cell_far (p := ⟨gb302, _, none⟩) u14_40 _).trans (((cell_far (p := ⟨gb302, _, none⟩) u14_40 _).trans (((cell_far (p := ⟨gb302, _, none⟩) u14_40 _).trans (((cell_far (p := ⟨gb302, _, none⟩) u14_40 _).trans (((cell_far (p := ⟨gb302, _, none⟩) u14_40 _).trans (hHeld.2.2.2.2.2.2.2.2.2.2.2.2.2.2.2.2.1)))))))))))))))))))), ((cell_far (p := ⟨gb302, _, none⟩) u14_41 _).trans (((cell_far (p := ⟨gb302, _, none⟩) u14_41 _).trans (((cell_far (p := ⟨gb302, _, none⟩) u14_41 _).trans (((cell_far (p := ⟨gb302, _, none⟩) u14_41 _).trans (((cell_far (p := ⟨gb302, _, none⟩) u14_41 _).trans (((cell_far (p := ⟨gb302, _, none⟩) u14_41 _).trans (((cell_far (p := ⟨gb302, _, none⟩) u14_41 _).trans (((cell_far (p := ⟨gb302, _, none⟩) u14_41 _).trans (((cell_far (p := ⟨gb302, _, none⟩) u14_41 _).trans (((cell_far (p := ⟨gb302, _, none⟩) u14_41 _).trans (hHeld.2.2.2.2.2.2.2.2.2.2.2.2.2.2.2.2.2.1)))))))))))))))))))), ((cell_far (p := ⟨gb302, _, none⟩) u14_42 _).trans (((cell_far (p := ⟨gb302, _, none⟩) u14_42 _).trans (((cell_far (p := ⟨gb302, _, none⟩) u14_42 _).trans (((cell_far (p := ⟨gb302, _, none⟩) u14_42 _).trans (((cell_far (p := ⟨gb302, _, none⟩) u14_42 _).trans (((cell_far (p := ⟨gb302, _, none⟩) u14_42 _).trans (((cell_far (p := ⟨gb302, _, none⟩) u14_42 _).trans (((cell_far (p := ⟨gb302, _, none⟩) u14_42 _).trans (((cell_far (p := ⟨gb302, _, none⟩) u14_42 _).trans (((cell_far (p := ⟨gb302, _, none⟩) u14_42 _).trans (hHeld.2.2.2.2.2.2.2.2.2.2.2.2.2.2.2.2.2.2.1)))))))))))))))))))), ((cell_far (p := ⟨gb302, _, none⟩) u14_43 _).trans (((cell_far (p := ⟨gb302, _, none⟩) u14_43 _).trans (((cell_far (p := ⟨gb302, _, none⟩) u14_43 _).trans (((cell_far (p := ⟨gb302, _, none⟩) u14_43 _).trans (((cell_far (p := ⟨gb302, _, none⟩) u14_43 _).trans (((cell_far (p := ⟨gb302, _, none⟩) u14_43 _).trans (((cell_far (p := ⟨gb302, _, none⟩) u14_43 _).trans (((cell_far (p := ⟨gb302, _, none⟩) u14_43 _).trans (((cell_far (p := ⟨gb302, _, none⟩) u14_43 _).trans (((cell_far (p := ⟨gb302, _, none⟩) u14_43 _).trans (hHeld.2.2.2.2.2.2.2.2.2.2.2.2.2.2.2.2.2.2.2.1)))))))))))))))))))), ((cell_far (p := ⟨gb302, _, none⟩) u14_44 _).trans (((cell_far (p := ⟨gb302, _, none⟩) u14_44 _).trans (((cell_far (p := ⟨gb302, _, none⟩) u14_44 _).trans (((cell_far (p := ⟨gb302, _, none⟩) u14_44 _).trans (((cell_far (p := ⟨gb302, _, none⟩) u14_44 _).trans (((cell_far (p := ⟨gb302, _, none⟩) u14_44 _).trans (((cell_far (p := ⟨gb302, _, none⟩) u14_44 _).trans (((cell_far (p := ⟨gb302, _, none⟩) u14_44 _).trans (((cell_far (p := ⟨gb302, _, none⟩) u14_44 _).trans (((cell_far (p := ⟨gb302, _, none⟩) u14_44 _).trans (hHeld.2.2.2.2.2.2.2.2.2.2.2.2.2.2.2.2.2.2.2.2.1)))))))))))))))))))), ((cell_far (p := ⟨gb302, _, none⟩) u14_45 _).trans (((cell_far (p := ⟨gb302, _, none⟩) u14_45 _).trans (((cell_far (p := ⟨gb302, _, none⟩) u14_45 _).trans (((cell_far (p := ⟨gb302, _, none⟩) u14_45 _).trans (((cell_far (p := ⟨gb302, _, none⟩) u14_45 _).trans (((cell_far (p := ⟨gb302, _, none⟩) u14_45 _).trans (((cell_far (p := ⟨gb302, _, none⟩) u14_45 _).trans (((cell_far (p := ⟨gb302, _, none⟩) u14_45 _).trans (((cell_far (p := ⟨gb302, _, none⟩) u14_45 _).trans (((cell_far (p := ⟨gb302, _, none⟩) u14_45 _).trans (hHeld.2.2.2.2.2.2.2.2.2.2.2.2.2.2.2.2.2.2.2.2.2.1)))))))))))))))))))), ((cell_far (p := ⟨gb302, _, none⟩) u14_46 _).trans (((cell_far (p := ⟨gb302, _, none⟩) u14_46 _).trans (((cell_far (p := ⟨gb302, _, none⟩) u14_46 _).trans (((cell_far (p := ⟨gb302, _, none⟩) u14_46 _).trans (((cell_far (p := ⟨gb302, _, none⟩) u14_46 _).trans (((cell_far (p := ⟨gb302, _, none⟩) u14_46 _).trans (((cell_far (p := ⟨gb302, _, none⟩) u14_46 _).trans (((cell_far (p := ⟨gb302, _, none⟩) u14_46 _).trans (((cell_far (p := ⟨gb302, _, none⟩) u14_46 _).trans (((cell_far (p := ⟨gb302, _, none⟩) u14_46 _).trans (hHeld.2.2.2.2.2.2.2.2.2.2.2.2.2.2.2.2.2.2.2.2.2.2))))))))))))))))))))⟩ (fun hHeld => ?_)
     clear hK K
     refine done_ (done_of HT_.out kr) ?_
     generalize hw2_ : World.setCell _ _ _ = w19_
     have n0_ : Aside0 (w19_.heap[gb297]? = some (.cells #[.int .i64 a0_0, (.slice (some ad299) l0_1.length c0_1), (.slice A0_2 l0_2.length c0_2)] 53 (0, 0))) := ⟨by rw [← hw2_]; exact u14_22⟩
     have n1_ : Aside0 (w19_.heap[gb301]? = some (.cells #[.int .i64 ((rd_T37 l0_1 x3_1).f0), .int .i64 ((rd_T37 l0_1 x3_1).f1), .int .i64 ((rd_T37 l0_1 x3_1).f2), .int .i64 ((rd_T37 l0_1 x3_1).f3), .int .i64 ((rd_T37 l0_1 x3_1).f4), .int .i64 ((rd_T37 l0_1 x3_1).f5.f0), .int .i64 ((rd_T37 l0_1 x3_1).f5.f1), (.slice A299_7 ((rd_T37 l0_1 x3_1).f5.f2).length c299_7), (.slice A299_8 ((rd_T37 l0_1 x3_1).f6).length c299_8), (.slice A299_9 ((rd_T37 l0_1 x3_1).f7).length c299_9)] 37 (0, 0))) := ⟨by rw [← hw2_]; exact u14_0⟩
     have n2_ : Aside0 (w19_.heap[gb302]? = some (.cells #[.int .i64 ((rd_T37 l0_1 x4_2).f0), .int .i64 ((rd_T37 l0_1 x4_2).f1), .int .i64 ((rd_T37 l0_1 x4_2).f2), .int .i64 ((rd_T37 l0_1 x4_2).f3), .int .i64 ((rd_T37 l0_1 x4_2).f4), .int .i64 ((rd_T37 l0_1 x4_2).f5.f0), .int .i64 ((rd_T37 l0_1 x4_2).f5.f1), (.slice A300_7 ((rd_T37 l0_1 x4_2).f5.f2).length c300_7), (.slice A300_8 ((rd_T37 l0_1 x4_2).f6).length c300_8), (.slice A300_9 ((rd_T37 l0_1 x4_2).f7).length c300_9)] 37 (0, 0))) := ⟨by rw [← hw2_]; exact u14_1⟩
     have n3_ : Aside0 (Below w.heap.size w w19_) := ⟨by rw [← hw2_]; exact q2⟩
     clear BK297 BK301 BK302 HB hw2_
     have BK297 := n0_
     have BK301 := n1_
     have BK302 := n2_
     have HB := n3_
     clear n0_ n1_ n2_ n3_
     go_upto_region 10 with (fail)
     go_cut [47] (fun v47 wc => ∃ (kq : Nat) (x47_13 : Bool), v47 = .bool x47_13 ∧ Aside0 (spec_SafeGroup.j2 kq x3_1 x4_2 x47_13 a0_0 l0_1 l0_2 ((rd_T37 l0_1 x3_1).f0) ((rd_T37 l0_1 x3_1).f1) ((rd_T37 l0_1 x3_1).f2) ((rd_T37 l0_1 x3_1).f3) ((rd_T37 l0_1 x3_1).f4) ((rd_T37 l0_1 x3_1).f5.f0) ((rd_T37 l0_1 x3_1).f5.f1) ((rd_T37 l0_1 x3_1).f5.f2) ((rd_T37 l0_1 x3_1).f6) ((rd_T37 l0_1 x3_1).f7) ((rd_T37 l0_1 x4_2).f0) ((rd_T37 l0_1 x4_2).f1) ((rd_T37 l0_1 x4_2).f2) ((rd_T37 l0_1 x4_2).f3) ((rd_T37 l0_1 x4_2).f4) ((rd_T37 l0_1 x4_2).f5.f0) ((rd_T37 l0_1 x4_2).f5.f1) ((rd_T37 l0_1 x4_2).f5.f2) ((rd_T37 l0_1 x4_2).f6) ((rd_T37 l0_1 x4_2).f7) = some r) ∧ Aside0 (kq ≤ k2) ∧ Aside0 (wc.heap[gb297]? = some (.cells #[.int .i64 a0_0, (.slice (some ad299) l0_1.length c0_1), (.slice A0_2 l0_2.length c0_2)] 53 (0, 0))) ∧ Aside0 (wc.heap[gb301]? = some (.cells #[.int .i64 ((rd_T37 l0_1 x3_1).f0), .int .i64 ((rd_T37 l0_1 x3_1).f1), .int .i64 ((rd_T37 l0_1 x3_1).f2), .int .i64 ((rd_T37 l0_1 x3_1).f3), .int .i64 ((rd_T37 l0_1 x3_1).f4), .int .i64 ((rd_T37 l0_1 x3_1).f5.f0), .int .i64 ((rd_T37 l0_1 x3_1).f5.f1), (.slice A299_7 ((rd_T37 l0_1 x3_1).f5.f2).length c299_7), (.slice A299_8 ((rd_T37 l0_1 x3_1).f6).length c299_8), (.slice A299_9 ((rd_T37 l0_1 x3_1).f7).length c299_9)] 37 (0, 0))) ∧ Aside0 (wc.heap[gb302]? = some (.cells #[.int .i64 ((rd_T37 l0_1 x4_2).f0), .int .i64 ((rd_T37 l0_1 x4_2).f1), .int .i64 ((rd_T37 l0_1 x4_2).f2), .int .i64 ((rd_T37 l0_1 x4_2).f3), .int .i64 ((rd_T37 l0_1 x4_2).f4), .int .i64 ((rd_T37 l0_1 x4_2).f5.f0), .int .i64 ((rd_T37 l0_1 x4_2).f5.f1), (.slice A300_7 ((rd_T37 l0_1 x4_2).f5.f2).length c300_7), (.slice A300_8 ((rd_T37 l0_1 x4_2).f6).length c300_8), (.slice A300_9 ((rd_T37 l0_1 x4_2).f7).length c300_9)] 37 (0, 0))) ∧ Aside0 (Below w.heap.size w wc))
     case first =>
       have H := HC14.out
       clear HC14
       by_cases c39 : ((rd_T37 l0_1 x3_1).f3) = 2
       rotate_left
       · rw [if_neg c39] at H
         have c39b0 : (((rd_T37 l0_1 x3_1).f3) == 2) = false := beq_eq_false_iff_ne.mpr c39
         have c39b1 : (((rd_T37 l0_1 x3_1).f3) != 2) = true := bne_iff_ne.mpr c39
         (first | rw [c39b0] | (simp only [i64_w, i32_w]; rw [c39b0]) | skip)
         have H' := am H
         clear H
         have hnb51 := NB301_297.out
         have hnc51 := NB297_301.out
         have hnb52 := NB301_302.out
         have hnc52 := NB302_301.out
         obtain ⟨hcz53_0, hcz53_1, hcz53_2, hcz53_3, hcz53_4, hcz53_5, hcz53_6, hcz53_7, hcz53_8, hcz53_9, hfz53_0, hfz53_1, hfz53_2, hfz53_3, hfz53_4, hfz53_5, hfz53_6, hfz53_7, hfz53_8, hfz53_9⟩ := bc10f w19_ BK301.out
         go_wp2
         go_meet
         case rel => exact ⟨_, (false), q3, H', ⟨q10⟩, ⟨by (with_reducible repeat (first | refine blk_drewN ?_ _ | refine blk_drew ?_ | refine blk_alloc ?_ _)); exact BK297.out⟩, ⟨by (with_reducible repeat (first | refine blk_drewN ?_ _ | refine blk_drew ?_ | refine blk_alloc ?_ _)); exact BK301.out⟩, ⟨by (with_reducible repeat (first | refine blk_drewN ?_ _ | refine blk_drew ?_ | refine blk_alloc ?_ _)); exact BK302.out⟩, ⟨q2⟩⟩
       rw [if_pos c39] at H
       have c39b0 : (((rd_T37 l0_1 x3_1).f3) == 2) = true := beq_iff_eq.mpr c39
       have c39b1 : (((rd_T37 l0_1 x3_1).f3) != 2) = false := bne_eq_false_iff_eq.mpr c39
       clear c39
       (first | rw [c39b0] | (simp only [i64_w, i32_w]; rw [c39b0]) | skip)
       by_cases c40 : ((rd_T37 l0_1 x4_2).f3) = 2
       rotate_left
       · rw [if_neg c40] at H
         have c40b0 : (((rd_T37 l0_1 x4_2).f3) == 2) = false := beq_eq_false_iff_ne.mpr c40
         have c40b1 : (((rd_T37 l0_1 x4_2).f3) != 2) = true := bne_iff_ne.mpr c40
         have H' := am H
         clear H
         have hnb46 := NB301_297.out
         have hnc46 := NB297_301.out
         have hnb47 := NB301_302.out
         have hnc47 := NB302_301.out
         obtain ⟨hcz48_0, hcz48_1, hcz48_2, hcz48_3, hcz48_4, hcz48_5, hcz48_6, hcz48_7, hcz48_8, hcz48_9, hfz48_0, hfz48_1, hfz48_2, hfz48_3, hfz48_4, hfz48_5, hfz48_6, hfz48_7, hfz48_8, hfz48_9⟩ := bc10f w19_ BK301.out
         have hnb49 := NB302_297.out
         have hnc49 := NB297_302.out
         obtain ⟨hcz50_0, hcz50_1, hcz50_2, hcz50_3, hcz50_4, hcz50_5, hcz50_6, hcz50_7, hcz50_8, hcz50_9, hfz50_0, hfz50_1, hfz50_2, hfz50_3, hfz50_4, hfz50_5, hfz50_6, hfz50_7, hfz50_8, hfz50_9⟩ := bc10f w19_ BK302.out
         go_wp2
         go_meet
         case rel => exact ⟨_, (false), q3, H', ⟨q10⟩, ⟨by (with_reducible repeat (first | refine blk_drewN ?_ _ | refine blk_drew ?_ | refine blk_alloc ?_ _)); exact BK297.out⟩, ⟨by (with_reducible repeat (first | refine blk_drewN ?_ _ | refine blk_drew ?_ | refine blk_alloc ?_ _)); exact BK301.out⟩, ⟨by (with_reducible repeat (first | refine blk_drewN ?_ _ | refine blk_drew ?_ | refine blk_alloc ?_ _)); exact BK302.out⟩, ⟨q2⟩⟩
       rw [if_pos c40] at H
       have c40b0 : (((rd_T37 l0_1 x4_2).f3) == 2) = true := beq_iff_eq.mpr c40
       have c40b1 : (((rd_T37 l0_1 x4_2).f3) != 2) = false := bne_eq_false_iff_eq.mpr c40
       clear c40
       have H' := am H
       clear H
       have hnb41 := NB301_297.out
       have hnc41 := NB297_301.out
       have hnb42 := NB301_302.out
       have hnc42 := NB302_301.out
       obtain ⟨hcz43_0, hcz43_1, hcz43_2, hcz43_3, hcz43_4, hcz43_5, hcz43_6, hcz43_7, hcz43_8, hcz43_9, hfz43_0, hfz43_1, hfz43_2, hfz43_3, hfz43_4, hfz43_5, hfz43_6, hfz43_7, hfz43_8, hfz43_9⟩ := bc10f w19_ BK301.out
       have hnb44 := NB302_297.out
       have hnc44 := NB297_302.out
       obtain ⟨hcz45_0, hcz45_1, hcz45_2, hcz45_3, hcz45_4, hcz45_5, hcz45_6, hcz45_7, hcz45_8, hcz45_9, hfz45_0, hfz45_1, hfz45_2, hfz45_3, hfz45_4, hfz45_5, hfz45_6, hfz45_7, hfz45_8, hfz45_9⟩ := bc10f w19_ BK302.out
       go_wp2
       go_meet
       case rel => exact ⟨_, ((((rd_T37 l0_1 x3_1).f1) == ((rd_T37 l0_1 x4_2).f1))), q3, H', ⟨q10⟩, ⟨by (with_reducible repeat (first | refine blk_drewN ?_ _ | refine blk_drew ?_ | refine blk_alloc ?_ _)); exact BK297.out⟩, ⟨by (with_reducible repeat (first | refine blk_drewN ?_ _ | refine blk_drew ?_ | refine blk_alloc ?_ _)); exact BK301.out⟩, ⟨by (with_reducible repeat (first | refine blk_drewN ?_ _ | refine blk_drew ?_ | refine blk_alloc ?_ _)); exact BK302.out⟩, ⟨q2⟩⟩
     clear HC14
     try clear hx299_0
     try clear hx299_1
     try clear hx299_2
     try clear hx299_3
     try clear hx299_4
     try clear hx299_5
     try clear hx299_6
     try clear hx299_7
     try clear hx299_8
     try clear hx299_9
     try clear hx300_0
     try clear hx300_1
     try clear hx300_2
     try clear hx300_3
     try clear hx300_4
     try clear hx300_5
     try clear hx300_6
     try clear hx300_7
     try clear hx300_8
     try clear hx300_9
     try clear p299
     try clear p300
     try clear q299
     try clear q300
     obtain ⟨kq, x47_13, rfl, HA, HJ13, BK297, BK301, BK302, HB⟩ := hcut
     cases kq with
     | zero => exact absurd HA.out (by simp [spec_SafeGroup.j2])
     | succ kj13 =>
       have H := HA.out
       clear HA
       simp only [spec_SafeGroup.j2] at H
       as_aux_lemma =>
        by_cases c54 : x47_13 = true
        · subst c54
          rw [if_pos rfl] at H
          obtain rfl := sj H
          go_wp2
          go_ret
          exact ⟨er, q2⟩
        replace c54 := Bool.eq_false_iff.mpr c54
        subst c54
        rw [nf] at H
        replace H := Option.bind_eq_some_iff.mp H
        obtain ⟨t303, A550, H⟩ := H
        have A55 := am A550
        clear A550
        have HC56 := am H
        clear H
        have hnb57 := NB301_297.out
        have hnc57 := NB297_301.out
        have hnb58 := NB301_302.out
        have hnc58 := NB302_301.out
        obtain ⟨hcz59_0, hcz59_1, hcz59_2, hcz59_3, hcz59_4, hcz59_5, hcz59_6, hcz59_7, hcz59_8, hcz59_9, hfz59_0, hfz59_1, hfz59_2, hfz59_3, hfz59_4, hfz59_5, hfz59_6, hfz59_7, hfz59_8, hfz59_9⟩ := bc10f wc BK301.out
        have hnb60 := NB302_297.out
        have hnc60 := NB297_302.out
        obtain ⟨hcz61_0, hcz61_1, hcz61_2, hcz61_3, hcz61_4, hcz61_5, hcz61_6, hcz61_7, hcz61_8, hcz61_9, hfz61_0, hfz61_1, hfz61_2, hfz61_3, hfz61_4, hfz61_5, hfz61_6, hfz61_7, hfz61_8, hfz61_9⟩ := bc10f wc BK302.out
        go_upto_region 13 with (first | ((with_reducible refine gate_callee (f := 101) rfl ?_); refine goesL_ (some 52) rfl rfl Try.func101 kr rfl #[.agg #[.int .i64 ((rd_T37 l0_1 x3_1).f5.f0), .int .i64 ((rd_T37 l0_1 x3_1).f5.f1), .slice A299_7 ((rd_T37 l0_1 x3_1).f5.f2).length c299_7], .agg #[.int .i64 ((rd_T37 l0_1 x4_2).f5.f0), .int .i64 ((rd_T37 l0_1 x4_2).f5.f1), .slice A300_7 ((rd_T37 l0_1 x4_2).f5.f2).length c300_7]] rfl q0 ?_; (with_reducible refine (spec_Agree.calls kj13 ((rd_T37 l0_1 x3_1).f5.f0) ((rd_T37 l0_1 x3_1).f5.f1) _ _ ((rd_T37 l0_1 x3_1).f5.f2) ((rd_T37 l0_1 x4_2).f5.f0) ((rd_T37 l0_1 x4_2).f5.f1) _ _ ((rd_T37 l0_1 x4_2).f5.f2) t303 _ ?side1 ?side2 ?side3 ?side4 A55.out).mono ?_); (case side1 => exact (by repeat (first | exact (Kd.C_below HR299_7.out HB.out) | (with_reducible refine Kd.C_alloc ?_ _) | (with_reducible refine Kd.C_drewN ?_ _) | (with_reducible refine Kd.C_drew ?_)))); (case side2 => exact HC299_7.out); (case side3 => exact (by repeat (first | exact (Kd.C_below HR300_7.out HB.out) | (with_reducible refine Kd.C_alloc ?_ _) | (with_reducible refine Kd.C_drewN ?_ _) | (with_reducible refine Kd.C_drew ?_)))); (case side4 => exact HC300_7.out); rintro e w62 ⟨rfl, hb⟩; refine ⟨_, rfl, ?_⟩; replace BK297 := am (blk_below (g := gb297) (o := .cells #[.int .i64 a0_0, .slice (some ad299) l0_1.length c0_1, .slice A0_2 l0_2.length c0_2] 53 (0, 0)) u14_64 hb); replace BK301 := am (blk_below (g := gb301) (o := .cells #[.int .i64 ((rd_T37 l0_1 x3_1).f0), .int .i64 ((rd_T37 l0_1 x3_1).f1), .int .i64 ((rd_T37 l0_1 x3_1).f2), .int .i64 ((rd_T37 l0_1 x3_1).f3), .int .i64 ((rd_T37 l0_1 x3_1).f4), .int .i64 ((rd_T37 l0_1 x3_1).f5.f0), .int .i64 ((rd_T37 l0_1 x3_1).f5.f1), .slice A299_7 ((rd_T37 l0_1 x3_1).f5.f2).length c299_7, .slice A299_8 ((rd_T37 l0_1 x3_1).f6).length c299_8, .slice A299_9 ((rd_T37 l0_1 x3_1).f7).length c299_9] 37 (0, 0)) u14_66 hb); replace BK302 := am (blk_below (g := gb302) (o := .cells #[.int .i64 ((rd_T37 l0_1 x4_2).f0), .int .i64 ((rd_T37 l0_1 x4_2).f1), .int .i64 ((rd_T37 l0_1 x4_2).f2), .int .i64 ((rd_T37 l0_1 x4_2).f3), .int .i64 ((rd_T37 l0_1 x4_2).f4), .int .i64 ((rd_T37 l0_1 x4_2).f5.f0), .int .i64 ((rd_T37 l0_1 x4_2).f5.f1), .slice A300_7 ((rd_T37 l0_1 x4_2).f5.f2).length c300_7, .slice A300_8 ((rd_T37 l0_1 x4_2).f6).length c300_8, .slice A300_9 ((rd_T37 l0_1 x4_2).f7).length c300_9] 37 (0, 0)) u14_67 hb); replace HB := am (below_step q2 hb); (try clear hb); (try clear hb2); (try clear hk); (try clear hi)))
        (try simp only [Act.put, la, lb, lc])
        go_cut [62] (fun v62 wc => ∃ (kq : Nat) (x62_55 : Bool), v62 = .bool x62_55 ∧ Aside0 (spec_SafeGroup.j3 kq x3_1 x4_2 t303 x62_55 a0_0 l0_1 l0_2 ((rd_T37 l0_1 x3_1).f0) ((rd_T37 l0_1 x3_1).f1) ((rd_T37 l0_1 x3_1).f2) ((rd_T37 l0_1 x3_1).f3) ((rd_T37 l0_1 x3_1).f4) ((rd_T37 l0_1 x3_1).f5.f0) ((rd_T37 l0_1 x3_1).f5.f1) ((rd_T37 l0_1 x3_1).f5.f2) ((rd_T37 l0_1 x3_1).f6) ((rd_T37 l0_1 x3_1).f7) ((rd_T37 l0_1 x4_2).f0) ((rd_T37 l0_1 x4_2).f1) ((rd_T37 l0_1 x4_2).f2) ((rd_T37 l0_1 x4_2).f3) ((rd_T37 l0_1 x4_2).f4) ((rd_T37 l0_1 x4_2).f5.f0) ((rd_T37 l0_1 x4_2).f5.f1) ((rd_T37 l0_1 x4_2).f5.f2) ((rd_T37 l0_1 x4_2).f6) ((rd_T37 l0_1 x4_2).f7) = some r) ∧ Aside0 (kq ≤ kj13) ∧ Aside0 (wc.heap[gb297]? = some (.cells #[.int .i64 a0_0, (.slice (some ad299) l0_1.length c0_1), (.slice A0_2 l0_2.length c0_2)] 53 (0, 0))) ∧ Aside0 (wc.heap[gb301]? = some (.cells #[.int .i64 ((rd_T37 l0_1 x3_1).f0), .int .i64 ((rd_T37 l0_1 x3_1).f1), .int .i64 ((rd_T37 l0_1 x3_1).f2), .int .i64 ((rd_T37 l0_1 x3_1).f3), .int .i64 ((rd_T37 l0_1 x3_1).f4), .int .i64 ((rd_T37 l0_1 x3_1).f5.f0), .int .i64 ((rd_T37 l0_1 x3_1).f5.f1), (.slice A299_7 ((rd_T37 l0_1 x3_1).f5.f2).length c299_7), (.slice A299_8 ((rd_T37 l0_1 x3_1).f6).length c299_8), (.slice A299_9 ((rd_T37 l0_1 x3_1).f7).length c299_9)] 37 (0, 0))) ∧ Aside0 (wc.heap[gb302]? = some (.cells #[.int .i64 ((rd_T37 l0_1 x4_2).f0), .int .i64 ((rd_T37 l0_1 x4_2).f1), .int .i64 ((rd_T37 l0_1 x4_2).f2), .int .i64 ((rd_T37 l0_1 x4_2).f3), .int .i64 ((rd_T37 l0_1 x4_2).f4), .int .i64 ((rd_T37 l0_1 x4_2).f5.f0), .int .i64 ((rd_T37 l0_1 x4_2).f5.f1), (.slice A300_7 ((rd_T37 l0_1 x4_2).f5.f2).length c300_7), (.slice A300_8 ((rd_T37 l0_1 x4_2).f6).length c300_8), (.slice A300_9 ((rd_T37 l0_1 x4_2).f7).length c300_9)] 37 (0, 0))) ∧ Aside0 (Below w.heap.size w wc))
        case first =>
          have H := HC56.out
          clear HC56
          by_cases c63 : t303 < ((rd_T37 l0_1 x3_1).f4)
          rotate_left
          · rw [if_neg c63] at H
            have c63b0 : decide (t303 < ((rd_T37 l0_1 x3_1).f4)) = false := decide_eq_false c63
            clear c63
            (first | rw [c63b0] | (simp only [i64_w, i32_w]; rw [c63b0]) | skip)
            have H' := am H
            clear H
            have hnb69 := NB301_297.out
            have hnc69 := NB297_301.out
            have hnb70 := NB301_302.out
            have hnc70 := NB302_301.out
            obtain ⟨hcz71_0, hcz71_1, hcz71_2, hcz71_3, hcz71_4, hcz71_5, hcz71_6, hcz71_7, hcz71_8, hcz71_9, hfz71_0, hfz71_1, hfz71_2, hfz71_3, hfz71_4, hfz71_5, hfz71_6, hfz71_7, hfz71_8, hfz71_9⟩ := bc10f w62 BK301.out
            go_wp2
            go_meet
            case rel => exact ⟨_, (false), q3, H', ⟨u14_77⟩, ⟨u14_64⟩, ⟨u14_66⟩, ⟨u14_67⟩, ⟨q2⟩⟩
          rw [if_pos c63] at H
          have c63b0 : decide (t303 < ((rd_T37 l0_1 x3_1).f4)) = true := decide_eq_true c63
          clear c63
          (first | rw [c63b0] | (simp only [i64_w, i32_w]; rw [c63b0]) | skip)
          have H' := am H
          clear H
          have hnb64 := NB301_297.out
          have hnc64 := NB297_301.out
          have hnb65 := NB301_302.out
          have hnc65 := NB302_301.out
          obtain ⟨hcz66_0, hcz66_1, hcz66_2, hcz66_3, hcz66_4, hcz66_5, hcz66_6, hcz66_7, hcz66_8, hcz66_9, hfz66_0, hfz66_1, hfz66_2, hfz66_3, hfz66_4, hfz66_5, hfz66_6, hfz66_7, hfz66_8, hfz66_9⟩ := bc10f w62 BK301.out
          have hnb67 := NB302_297.out
          have hnc67 := NB297_302.out
          obtain ⟨hcz68_0, hcz68_1, hcz68_2, hcz68_3, hcz68_4, hcz68_5, hcz68_6, hcz68_7, hcz68_8, hcz68_9, hfz68_0, hfz68_1, hfz68_2, hfz68_3, hfz68_4, hfz68_5, hfz68_6, hfz68_7, hfz68_8, hfz68_9⟩ := bc10f w62 BK302.out
          go_wp2
          go_meet
          case rel => exact ⟨_, (decide (t303 < ((rd_T37 l0_1 x4_2).f4))), q3, H', ⟨u14_77⟩, ⟨u14_64⟩, ⟨u14_66⟩, ⟨u14_67⟩, ⟨q2⟩⟩
        clear HC56
        try clear c6
        try clear c7
        try clear c10
        try clear c54
        try clear hcz59_0
        try clear hcz59_1
        try clear hcz59_2
        try clear hcz59_3
        try clear hcz59_4
        try clear hcz59_5
        try clear hcz59_6
        try clear hcz59_7
        try clear hcz59_8
        try clear hcz59_9
        try clear hcz61_0
        try clear hcz61_1
        try clear hcz61_2
        try clear hcz61_3
        try clear hcz61_4
        try clear hcz61_5
        try clear hcz61_6
        try clear hcz61_7
        try clear hcz61_8
        try clear hcz61_9
        try clear hfz59_0
        try clear hfz59_1
        try clear hfz59_2
        try clear hfz59_3
        try clear hfz59_4
        try clear hfz59_5
        try clear hfz59_6
        try clear hfz59_7
        try clear hfz59_8
        try clear hfz59_9
        try clear hfz61_0
        try clear hfz61_1
        try clear hfz61_2
        try clear hfz61_3
        try clear hfz61_4
        try clear hfz61_5
        try clear hfz61_6
        try clear hfz61_7
        try clear hfz61_8
        try clear hfz61_9
        try clear hx299_0
        try clear hx299_1
        try clear hx299_2
        try clear hx299_3
        try clear hx299_4
        try clear hx299_5
        try clear hx299_6
        try clear hx299_7
        try clear hx299_8
        try clear hx299_9
        try clear hx300_0
        try clear hx300_1
        try clear hx300_2
        try clear hx300_3
        try clear hx300_4
        try clear hx300_5
        try clear hx300_6
        try clear hx300_7
        try clear hx300_8
        try clear hx300_9
        try clear p299
        try clear p300
        try clear q299
        try clear q300
        obtain ⟨kq, x62_55, rfl, HA, HJ55, BK297, BK301, BK302, HB⟩ := hcut
        cases kq with
        | zero => exact absurd HA.out (by simp [spec_SafeGroup.j3])
        | succ kj55 =>
          have H := HA.out
          clear HA
          simp only [spec_SafeGroup.j3] at H
          by_cases c72 : x62_55 = true
          · subst c72
            rw [if_pos rfl] at H
            obtain rfl := sj H
            go_wp2
            go_ret
            exact ⟨er, q2⟩
          replace c72 := Bool.eq_false_iff.mpr c72
          subst c72
          rw [nf] at H
          have H' := am H
          clear H
          go_wp2
          go_loopg [8] kj55 (fun kq v8 w' => ∃ (x8_5 : Int), v8 = .int .i64 x8_5 ∧ Aside0 (spec_SafeGroup.l2 kq x3_1 x4_2 t303 x8_5 a0_0 l0_1 l0_2 ((rd_T37 l0_1 x3_1).f0) ((rd_T37 l0_1 x3_1).f1) ((rd_T37 l0_1 x3_1).f2) ((rd_T37 l0_1 x3_1).f3) ((rd_T37 l0_1 x3_1).f4) ((rd_T37 l0_1 x3_1).f5.f0) ((rd_T37 l0_1 x3_1).f5.f1) ((rd_T37 l0_1 x3_1).f5.f2) ((rd_T37 l0_1 x3_1).f6) ((rd_T37 l0_1 x3_1).f7) ((rd_T37 l0_1 x4_2).f0) ((rd_T37 l0_1 x4_2).f1) ((rd_T37 l0_1 x4_2).f2) ((rd_T37 l0_1 x4_2).f3) ((rd_T37 l0_1 x4_2).f4) ((rd_T37 l0_1 x4_2).f5.f0) ((rd_T37 l0_1 x4_2).f5.f1) ((rd_T37 l0_1 x4_2).f5.f2) ((rd_T37 l0_1 x4_2).f6) ((rd_T37 l0_1 x4_2).f7) = some r) ∧ Aside0 (kq ≤ kj55) ∧ Aside0 (w'.heap[gb297]? = some (.cells #[.int .i64 a0_0, (.slice (some ad299) l0_1.length c0_1), (.slice A0_2 l0_2.length c0_2)] 53 (0, 0))) ∧ Aside0 (w'.heap[gb301]? = some (.cells #[.int .i64 ((rd_T37 l0_1 x3_1).f0), .int .i64 ((rd_T37 l0_1 x3_1).f1), .int .i64 ((rd_T37 l0_1 x3_1).f2), .int .i64 ((rd_T37 l0_1 x3_1).f3), .int .i64 ((rd_T37 l0_1 x3_1).f4), .int .i64 ((rd_T37 l0_1 x3_1).f5.f0), .int .i64 ((rd_T37 l0_1 x3_1).f5.f1), (.slice A299_7 ((rd_T37 l0_1 x3_1).f5.f2).length c299_7), (.slice A299_8 ((rd_T37 l0_1 x3_1).f6).length c299_8), (.slice A299_9 ((rd_T37 l0_1 x3_1).f7).length c299_9)] 37 (0, 0))) ∧ Aside0 (w'.heap[gb302]? = some (.cells #[.int .i64 ((rd_T37 l0_1 x4_2).f0), .int .i64 ((rd_T37 l0_1 x4_2).f1), .int .i64 ((rd_T37 l0_1 x4_2).f2), .int .i64 ((rd_T37 l0_1 x4_2).f3), .int .i64 ((rd_T37 l0_1 x4_2).f4), .int .i64 ((rd_T37 l0_1 x4_2).f5.f0), .int .i64 ((rd_T37 l0_1 x4_2).f5.f1), (.slice A300_7 ((rd_T37 l0_1 x4_2).f5.f2).length c300_7), (.slice A300_8 ((rd_T37 l0_1 x4_2).f6).length c300_8), (.slice A300_9 ((rd_T37 l0_1 x4_2).f7).length c300_9)] 37 (0, 0))) ∧ Aside0 (Below w.heap.size w w'))
          case atStart => exact ⟨(0), q3, H', ⟨Nat.le_refl _⟩, ⟨u14_64⟩, ⟨u14_66⟩, ⟨u14_67⟩, ⟨q2⟩⟩
          clear H'
          try clear c6
          try clear c7
          try clear c10
          try clear c54
          try clear c72
          try clear hcz59_0
          try clear hcz59_1
          try clear hcz59_2
          try clear hcz59_3
          try clear hcz59_4
          try clear hcz59_5
          try clear hcz59_6
          try clear hcz59_7
          try clear hcz59_8
          try clear hcz59_9
          try clear hcz61_0
          try clear hcz61_1
          try clear hcz61_2
          try clear hcz61_3
          try clear hcz61_4
          try clear hcz61_5
          try clear hcz61_6
          try clear hcz61_7
          try clear hcz61_8
          try clear hcz61_9
          try clear hfz59_0
          try clear hfz59_1
          try clear hfz59_2
          try clear hfz59_3
          try clear hfz59_4
          try clear hfz59_5
          try clear hfz59_6
          try clear hfz59_7
          try clear hfz59_8
          try clear hfz59_9
          try clear hfz61_0
          try clear hfz61_1
          try clear hfz61_2
          try clear hfz61_3
          try clear hfz61_4
          try clear hfz61_5
          try clear hfz61_6
          try clear hfz61_7
          try clear hfz61_8
          try clear hfz61_9
          try clear hx299_0
          try clear hx299_1
          try clear hx299_2
          try clear hx299_3
          try clear hx299_4
          try clear hx299_5
          try clear hx299_6
          try clear hx299_7
          try clear hx299_8
          try clear hx299_9
          try clear hx300_0
          try clear hx300_1
          try clear hx300_2
          try clear hx300_3
          try clear hx300_4
          try clear hx300_5
          try clear hx300_6
          try clear hx300_7
          try clear hx300_8
          try clear hx300_9
          try clear p299
          try clear p300
          try clear q299
          try clear q300
          obtain ⟨x8_5, rfl, HA, HK5, BK297, BK301, BK302, HB⟩ := hrel
          cases gk with
          | zero => exact absurd HA.out (by simp [spec_SafeGroup.l2])
          | succ k5 =>
            have H := HA.out
            clear HA
            simp only [spec_SafeGroup.l2] at H
            as_aux_lemma =>
             by_cases c73 : x8_5 < t303
             rotate_left
             · rw [if_neg c73] at H
               have c73b0 : decide (x8_5 < t303) = false := decide_eq_false c73
               clear c73
               have H' := am H
               clear H
               go_wp2
               go_roundg k5
               case measure => have := HK1.out; have := HK2.out; have := HJ13.out; have := HJ55.out; have := HK5.out; omega
               case rel => exact ⟨(wrap64 (x4_2 + 1)), q3, H', ⟨u14_76⟩, ⟨u14_64⟩, ⟨q2⟩⟩
             rw [if_pos c73] at H
             have c73b0 : decide (x8_5 < t303) = true := decide_eq_true c73
             clear c73
             by_cases c74 : 0 ≤ x8_5
             rotate_left
             · rw [if_neg c74] at H
               exact absurd H (by simp)
             rw [if_pos c74] at H
             have c74b0 : decide (0 ≤ x8_5) = true := decide_eq_true c74
             clear c74
             by_cases c75 : x8_5 < (((rd_T37 l0_1 x3_1).f5.f2).length : Int)
             rotate_left
             · rw [if_neg c75] at H
               exact absurd H (by simp)
             rw [if_pos c75] at H
             have c75b0 : decide (x8_5 < (((rd_T37 l0_1 x3_1).f5.f2).length : Int)) = true := decide_eq_true c75
             clear c75
             by_cases c76 : x8_5 < (((rd_T37 l0_1 x4_2).f5.f2).length : Int)
             rotate_left
             · rw [if_neg c76] at H
               exact absurd H (by simp)
             rw [if_pos c76] at H
             have c76b0 : decide (x8_5 < (((rd_T37 l0_1 x4_2).f5.f2).length : Int)) = true := decide_eq_true c76
             clear c76
             have H9 := am H
             clear H
             try go_wp2
             replace BK297 := am (blk_drew BK297.out)
             replace BK301 := am (blk_drew BK301.out)
             replace BK302 := am (blk_drew BK302.out)
             replace HB := am (below_drew1 HB.out)
             have p304 : 0 ≤ (x8_5 : Int) := of_decide_eq_true q1
             have q304 : x8_5 < (((rd_T37 l0_1 x3_1).f5.f2).length : Int) := of_decide_eq_true q1
             obtain ⟨ad304, e304, hx304_0, hx304_1⟩ := at_T85 HR299_7.out x8_5 p304 q304
             have hw304_1 := hx304_1
             have hw304_0 := hx304_0
             cases e304
             replace hx304_0 := cm HB.out hx304_0
             replace hx304_1 := cm HB.out hx304_1
             replace p304 := eq_true p304
             replace q304 := eq_true q304
             have p305 : 0 ≤ (x8_5 : Int) := of_decide_eq_true q1
             have q305 : x8_5 < (((rd_T37 l0_1 x4_2).f5.f2).length : Int) := of_decide_eq_true q1
             obtain ⟨ad305, e305, hx305_0, hx305_1⟩ := at_T85 HR300_7.out x8_5 p305 q305
             have hw305_1 := hx305_1
             have hw305_0 := hx305_0
             cases e305
             replace hx305_0 := cm HB.out hx305_0
             replace hx305_1 := cm HB.out hx305_1
             replace p305 := eq_true p305
             replace q305 := eq_true q305
             refine start_ (n := 13) (S := fun w' => w'.cell? ⟨gb301, 0, none⟩ = some (.int .i64 ((rd_T37 l0_1 x3_1).f0)) ∧ w'.cell? ⟨gb301, 1, none⟩ = some (.int .i64 ((rd_T37 l0_1 x3_1).f1)) ∧ w'.cell? ⟨gb301, 2, none⟩ = some (.int .i64 ((rd_T37 l0_1 x3_1).f2)) ∧ w'.cell? ⟨gb301, 3, none⟩ = some (.int .i64 ((rd_T37 l0_1 x3_1).f3)) ∧ w'.cell? ⟨gb301, 4, none⟩ = some (.int .i64 ((rd_T37 l0_1 x3_1).f4)) ∧ w'.cell? ⟨gb301, 5, none⟩ = some (.int .i64 ((rd_T37 l0_1 x3_1).f5.f0)) ∧ w'.cell? ⟨gb301, 6, none⟩ = some (.int .i64 ((rd_T37 l0_1 x3_1).f5.f1)) ∧ w'.cell? ⟨gb301, 7, none⟩ = some (.slice (some ad304) ((rd_T37 l0_1 x3_1).f5.f2).length c299_7) ∧ w'.cell? ⟨gb301, 8, none⟩ = some (.slice A299_8 ((rd_T37 l0_1 x3_1).f6).length c299_8) ∧ w'.cell? ⟨gb301, 9, none⟩ = some (.slice A299_9 ((rd_T37 l0_1 x3_1).f7).length c299_9) ∧ w'.cell? ⟨gb302, 0, none⟩ = some (.int .i64 ((rd_T37 l0_1 x4_2).f0)) ∧ w'.cell? ⟨gb302, 1, none⟩ = some (.int .i64 ((rd_T37 l0_1 x4_2).f1)) ∧ w'.cell? ⟨gb302, 2, none⟩ = some (.int .i64 ((rd_T37 l0_1 x4_2).f2)) ∧ w'.cell? ⟨gb302, 3, none⟩ = some (.int .i64 ((rd_T37 l0_1 x4_2).f3)) ∧ w'.cell? ⟨gb302, 4, none⟩ = some (.int .i64 ((rd_T37 l0_1 x4_2).f4)) ∧ w'.cell? ⟨gb302, 5, none⟩ = some (.int .i64 ((rd_T37 l0_1 x4_2).f5.f0)) ∧ w'.cell? ⟨gb302, 6, none⟩ = some (.int .i64 ((rd_T37 l0_1 x4_2).f5.f1)) ∧ w'.cell? ⟨gb302, 7, none⟩ = some (.slice (some ad305) ((rd_T37 l0_1 x4_2).f5.f2).length c300_7) ∧ w'.cell? ⟨gb302, 8, none⟩ = some (.slice A300_8 ((rd_T37 l0_1 x4_2).f6).length c300_8) ∧ w'.cell? ⟨gb302, 9, none⟩ = some (.slice A300_9 ((rd_T37 l0_1 x4_2).f7).length c300_9) ∧ w'.cell? (ad304.add ((x8_5).toNat * 2)) = some (.int .i64 ((rd_T85 ((rd_T37 l0_1 x3_1).f5.f2) x8_5).f0)) ∧ w'.cell? ⟨(ad304.add ((x8_5).toNat * 2)).block, (ad304.add ((x8_5).toNat * 2)).off + 1, none⟩ = some (.string ((rd_T85 ((rd_T37 l0_1 x3_1).f5.f2) x8_5).f1)) ∧ w'.cell? (ad305.add ((x8_5).toNat * 2)) = some (.int .i64 ((rd_T85 ((rd_T37 l0_1 x4_2).f5.f2) x8_5).f0)) ∧ w'.cell? ⟨(ad305.add ((x8_5).toNat * 2)).block, (ad305.add ((x8_5).toNat * 2)).off + 1, none⟩ = some (.string ((rd_T85 ((rd_T37 l0_1 x4_2).f5.f2) x8_5).f1))) (ds := []) b0_13 kr rfl rfl ⟨(blk_cell BK301.out 0).trans rfl, (blk_cell BK301.out 1).trans rfl, (blk_cell BK301.out 2).trans rfl, (blk_cell BK301.out 3).trans rfl, (blk_cell BK301.out 4).trans rfl, (blk_cell BK301.out 5).trans rfl, (blk_cell BK301.out 6).trans rfl, (blk_cell BK301.out 7).trans rfl, (blk_cell BK301.out 8).trans rfl, (blk_cell BK301.out 9).trans rfl, (blk_cell BK302.out 0).trans rfl, (blk_cell BK302.out 1).trans rfl, (blk_cell BK302.out 2).trans rfl, (blk_cell BK302.out 3).trans rfl, (blk_cell BK302.out 4).trans rfl, (blk_cell BK302.out 5).trans rfl, (blk_cell BK302.out 6).trans rfl, (blk_cell BK302.out 7).trans rfl, (blk_cell BK302.out 8).trans rfl, (blk_cell BK302.out 9).trans rfl, (cm HB.out hw304_0), (cm HB.out hw304_1), (cm HB.out hw305_0), (cm HB.out hw305_1)⟩ (fun hHeld => ?_); refine with_tabW spec_SafeGroup.tab18 spec_SafeGroup.bits18 (fun HT_ HW_ => ?_)
             generalize wr.drew = w77 at BK297 BK301 BK302 HB hx304_0 hx304_1 hx305_0 hx305_1 hHeld ⊢
             refine pV 0 68 (bt 1 13) ?_
             refine pV 1 69 (bt 2 13) ?_
             refine pV 3 71 #[true, true, false, true, false, false, false, false, false, false, false, false, false] ?_
             refine pV 6 74 #[true, true, false, true, false, false, true, false, false, false, false, false, false] ?_
             refine pV 7 75 #[true, true, false, true, false, false, true, true, false, false, false, false, false] ?_
             refine pV 9 77 #[true, true, false, true, false, false, true, true, false, true, false, false, false] ?_
             refine tV 2 70 #[true, true, true, true, false, false, true, true, false, true, false, false, false] ?_
             refine pV 4 72 #[true, true, true, true, true, false, true, true, false, true, false, false, false] ?_
             refine tV 5 73 #[true, true, true, true, true, true, true, true, false, true, false, false, false] ?_
             refine tV 8 76 (bt 10 13) ?_
             refine pV 10 78 (bt 11 13) ?_
             refine tV 11 79 (bt 12 13) ?_
             refine pV 12 80 (bt 13 13) ?_
             refine done_ (done_of HT_.out kr) ?_
             go_upto_if 80 with (fail)
             have H := H9.out
             clear H9
             by_cases c78 : (!(((rd_T85 ((rd_T37 l0_1 x3_1).f5.f2) x8_5).f0) == ((rd_T85 ((rd_T37 l0_1 x4_2).f5.f2) x8_5).f0)) || (!((((rd_T85 ((rd_T37 l0_1 x3_1).f5.f2) x8_5).f1).toList) == (((rd_T85 ((rd_T37 l0_1 x4_2).f5.f2) x8_5).f1).toList)))) = true
             · rw [if_pos c78] at H
               have c78b0 : (!(((rd_T85 ((rd_T37 l0_1 x3_1).f5.f2) x8_5).f0) == ((rd_T85 ((rd_T37 l0_1 x4_2).f5.f2) x8_5).f0)) || (!((((rd_T85 ((rd_T37 l0_1 x3_1).f5.f2) x8_5).f1).toList) == (((rd_T85 ((rd_T37 l0_1 x4_2).f5.f2) x8_5).f1).toList)))) = true := c78
               clear c78
               (first | rw [c78b0] | (simp only [i64_w, i32_w]; rw [c78b0]) | skip)
               obtain rfl := sj H
               go_wp2
               go_ret
               exact ⟨er, q2⟩
             rw [if_neg c78] at H
             have c78b0 : (!(((rd_T85 ((rd_T37 l0_1 x3_1).f5.f2) x8_5).f0) == ((rd_T85 ((rd_T37 l0_1 x4_2).f5.f2) x8_5).f0)) || (!((((rd_T85 ((rd_T37 l0_1 x3_1).f5.f2) x8_5).f1).toList) == (((rd_T85 ((rd_T37 l0_1 x4_2).f5.f2) x8_5).f1).toList)))) = false := by simpa using c78
             clear c78
             (first | rw [c78b0] | (simp only [i64_w, i32_w]; rw [c78b0]) | skip)
             have H' := am H
             clear H
             go_wp2
             go_roundg k5
             case measure => have := HK1.out; have := HK2.out; have := HJ13.out; have := HJ55.out; have := HK5.out; omega
             case rel => exact ⟨(wrap64 (x8_5 + 1)), q3, H', ⟨u14_76⟩, ⟨u14_64⟩, ⟨u14_66⟩, ⟨u14_67⟩, ⟨q2⟩⟩

end Go.Proofs.Ytkcadcoohmofcaa.QFnExactSafeGroup
