-- Printed by the session's own program wip/prx.py.
import Derived.Test.YtdbfjakhkclggaaQFnHoldsx0
import Derived.Test.YtdbfjakhkclggaaQFnHoldsx4
import Derived.Test.YtdbfjakhkclggaaQFnHoldsx6
namespace Go.Proofs.Ytdbfjakhkclggaa.QFnHolds
open Go.RowKit Go.Proofs.YtdbfjakhkclggaaW.PrintWords Go.Proofs.YtdbfjakhkclggaaW.PrintLast Go.Proofs.YtdbfjakhkclggaaW.PrintMore
attribute [local go_sem] max2_int min2_int max_two min_two max_three min_three max_four min_four Go.Proofs.Ytdbfjakhkclggaa.Set.isSome_setCell Go.Proofs.Ytdbfjakhkclggaa.Add.add64   -- for this text's walks alone
set_option linter.unusedVariables false
set_option linter.unusedSimpArgs false

-- squeezed
theorem u7_0 {P : Prop} (h : P := by (with_reducible repeat (first | refine blk_drewN ?_ _ | refine blk_drew ?_ | refine blk_alloc ?_ _)); refine blk_put (cs := #[.int .u64 t185, .int .u64 t186, .int .u64 t187, .int .u64 t188, .int .i64 0]) ?_ 4 _ rfl; (with_reducible repeat (first | refine blk_drewN ?_ _ | refine blk_drew ?_ | refine blk_alloc ?_ _)); refine blk_put (cs := #[.int .u64 t185, .int .u64 t186, .int .u64 t187, .int .u64 0, .int .i64 0]) ?_ 3 _ rfl; (with_reducible repeat (first | refine blk_drewN ?_ _ | refine blk_drew ?_ | refine blk_alloc ?_ _)); refine blk_put (cs := #[.int .u64 t185, .int .u64 t186, .int .u64 0, .int .u64 0, .int .i64 0]) ?_ 2 _ rfl; (with_reducible repeat (first | refine blk_drewN ?_ _ | refine blk_drew ?_ | refine blk_alloc ?_ _)); refine blk_put (cs := #[.int .u64 t185, .int .u64 0, .int .u64 0, .int .u64 0, .int .i64 0]) ?_ 1 _ rfl; (with_reducible repeat (first | refine blk_drewN ?_ _ | refine blk_drew ?_ | refine blk_alloc ?_ _)); refine blk_put (cs := #[.int .u64 0, .int .u64 0, .int .u64 0, .int .u64 0, .int .i64 0]) ?_ 0 _ rfl; (with_reducible repeat (first | refine blk_drewN ?_ _ | refine blk_drew ?_ | refine blk_alloc ?_ _)); exact BK191.out) : P := h
theorem u7_1 {P : Prop} (h : P := by (with_reducible repeat (first | refine blk_drewN ?_ _ | refine blk_drew ?_ | refine blk_alloc ?_ _)); refine blk_put (cs := #[.int .u64 t209, .int .u64 t210, .int .u64 t211, .int .u64 t212, .int .i64 0]) ?_ 4 _ rfl; (with_reducible repeat (first | refine blk_drewN ?_ _ | refine blk_drew ?_ | refine blk_alloc ?_ _)); refine blk_put (cs := #[.int .u64 t209, .int .u64 t210, .int .u64 t211, .int .u64 0, .int .i64 0]) ?_ 3 _ rfl; (with_reducible repeat (first | refine blk_drewN ?_ _ | refine blk_drew ?_ | refine blk_alloc ?_ _)); refine blk_put (cs := #[.int .u64 t209, .int .u64 t210, .int .u64 0, .int .u64 0, .int .i64 0]) ?_ 2 _ rfl; (with_reducible repeat (first | refine blk_drewN ?_ _ | refine blk_drew ?_ | refine blk_alloc ?_ _)); refine blk_put (cs := #[.int .u64 t209, .int .u64 0, .int .u64 0, .int .u64 0, .int .i64 0]) ?_ 1 _ rfl; (with_reducible repeat (first | refine blk_drewN ?_ _ | refine blk_drew ?_ | refine blk_alloc ?_ _)); refine blk_put (cs := #[.int .u64 0, .int .u64 0, .int .u64 0, .int .u64 0, .int .i64 0]) ?_ 0 _ rfl; (with_reducible repeat (first | refine blk_drewN ?_ _ | refine blk_drew ?_ | refine blk_alloc ?_ _)); exact BK215.out) : P := h
theorem u7_2 {P : Prop} (h : P := by (with_reducible repeat (first | refine blk_drewN ?_ _ | refine blk_drew ?_ | refine blk_alloc ?_ _)); refine blk_put (cs := #[.int .u64 t227, .int .u64 t228, .int .u64 t229, .int .u64 t230, .int .i64 0]) ?_ 4 _ rfl; (with_reducible repeat (first | refine blk_drewN ?_ _ | refine blk_drew ?_ | refine blk_alloc ?_ _)); refine blk_put (cs := #[.int .u64 t227, .int .u64 t228, .int .u64 t229, .int .u64 0, .int .i64 0]) ?_ 3 _ rfl; (with_reducible repeat (first | refine blk_drewN ?_ _ | refine blk_drew ?_ | refine blk_alloc ?_ _)); refine blk_put (cs := #[.int .u64 t227, .int .u64 t228, .int .u64 0, .int .u64 0, .int .i64 0]) ?_ 2 _ rfl; (with_reducible repeat (first | refine blk_drewN ?_ _ | refine blk_drew ?_ | refine blk_alloc ?_ _)); refine blk_put (cs := #[.int .u64 t227, .int .u64 0, .int .u64 0, .int .u64 0, .int .i64 0]) ?_ 1 _ rfl; (with_reducible repeat (first | refine blk_drewN ?_ _ | refine blk_drew ?_ | refine blk_alloc ?_ _)); refine blk_put (cs := #[.int .u64 0, .int .u64 0, .int .u64 0, .int .u64 0, .int .i64 0]) ?_ 0 _ rfl; (with_reducible repeat (first | refine blk_drewN ?_ _ | refine blk_drew ?_ | refine blk_alloc ?_ _)); exact BK233.out) : P := h
theorem u7_3 {P : Prop} (h : P := by repeat (first | (with_reducible first | exact HB.out | apply below_alloc | apply pw_below_drewN | apply below_drew1) | exact HB.out)) : P := h
theorem u7_4 {P : Prop} (h : P := by repeat (first | (with_reducible first | exact HB.out | apply below_alloc | apply pw_below_drewN | apply below_drew1 | refine below_set ?_ GE183.out | refine below_set ?_ GE184.out | refine below_set ?_ GE191.out) | exact HB.out)) : P := h
theorem u7_5 {P : Prop} (h : P := by repeat (first | (with_reducible first | exact HB.out | apply below_alloc | apply pw_below_drewN | apply below_drew1 | refine below_set ?_ GE207.out | refine below_set ?_ GE208.out | refine below_set ?_ GE215.out) | exact HB.out)) : P := h
theorem u7_6 {P : Prop} (h : P := by repeat (first | (with_reducible first | exact HB.out | apply below_alloc | apply pw_below_drewN | apply below_drew1 | refine below_set ?_ GE225.out | refine below_set ?_ GE226.out | refine below_set ?_ GE233.out) | exact HB.out)) : P := h
theorem u7_7 {P : Prop} (h : P := by (with_reducible repeat (first | refine blk_drewN ?_ _ | refine blk_drew ?_ | refine blk_alloc ?_ _)); refine blk_put (cs := #[.int .u64 t185, .int .u64 (IntKind.u64.wrap (t186 - a2)), .int .u64 a2, .int .u64 t188, .int .i64 t189]) ?_ 4 _ rfl; (with_reducible repeat (first | refine blk_drewN ?_ _ | refine blk_drew ?_ | refine blk_alloc ?_ _)); refine blk_put (cs := #[.int .u64 t185, .int .u64 (IntKind.u64.wrap (t186 - a2)), .int .u64 t187, .int .u64 t188, .int .i64 t189]) ?_ 2 _ rfl; (with_reducible repeat (first | refine blk_drewN ?_ _ | refine blk_drew ?_ | refine blk_alloc ?_ _)); refine blk_put (cs := #[.int .u64 t185, .int .u64 t186, .int .u64 t187, .int .u64 t188, .int .i64 t189]) ?_ 1 _ rfl; (with_reducible repeat (first | refine blk_drewN ?_ _ | refine blk_drew ?_ | refine blk_alloc ?_ _)); refine blk_put (cs := #[.int .u64 t185, .int .u64 t186, .int .u64 t187, .int .u64 t188, .int .i64 0]) ?_ 4 _ rfl; (with_reducible repeat (first | refine blk_drewN ?_ _ | refine blk_drew ?_ | refine blk_alloc ?_ _)); refine blk_put (cs := #[.int .u64 t185, .int .u64 t186, .int .u64 t187, .int .u64 0, .int .i64 0]) ?_ 3 _ rfl; (with_reducible repeat (first | refine blk_drewN ?_ _ | refine blk_drew ?_ | refine blk_alloc ?_ _)); refine blk_put (cs := #[.int .u64 t185, .int .u64 t186, .int .u64 0, .int .u64 0, .int .i64 0]) ?_ 2 _ rfl; (with_reducible repeat (first | refine blk_drewN ?_ _ | refine blk_drew ?_ | refine blk_alloc ?_ _)); refine blk_put (cs := #[.int .u64 t185, .int .u64 0, .int .u64 0, .int .u64 0, .int .i64 0]) ?_ 1 _ rfl; (with_reducible repeat (first | refine blk_drewN ?_ _ | refine blk_drew ?_ | refine blk_alloc ?_ _)); refine blk_put (cs := #[.int .u64 0, .int .u64 0, .int .u64 0, .int .u64 0, .int .i64 0]) ?_ 0 _ rfl; (with_reducible repeat (first | refine blk_drewN ?_ _ | refine blk_drew ?_ | refine blk_alloc ?_ _)); exact BK191.out) : P := h
theorem u7_8 {P : Prop} (h : P := by (try simp only [List.map_toArray, List.map_cons, List.map_nil]); first | done | rfl | (simp only [List.length_drop, List.length_take]; rfl)) : P := h
theorem u7_9 {P : Prop} (h : P := by (with_reducible repeat (first | refine blk_drewN ?_ _ | refine blk_drew ?_ | refine blk_alloc ?_ _)); refine blk_far ?_ NB183_191.out _; (with_reducible repeat (first | refine blk_drewN ?_ _ | refine blk_drew ?_ | refine blk_alloc ?_ _)); refine blk_far ?_ NB183_191.out _; (with_reducible repeat (first | refine blk_drewN ?_ _ | refine blk_drew ?_ | refine blk_alloc ?_ _)); refine blk_far ?_ NB183_191.out _; (with_reducible repeat (first | refine blk_drewN ?_ _ | refine blk_drew ?_ | refine blk_alloc ?_ _)); refine blk_far ?_ NB183_191.out _; (with_reducible repeat (first | refine blk_drewN ?_ _ | refine blk_drew ?_ | refine blk_alloc ?_ _)); refine blk_far ?_ NB183_191.out _; (with_reducible repeat (first | refine blk_drewN ?_ _ | refine blk_drew ?_ | refine blk_alloc ?_ _)); exact BK183.out) : P := h
theorem u7_10 {P : Prop} (h : P := by (with_reducible repeat (first | refine blk_drewN ?_ _ | refine blk_drew ?_ | refine blk_alloc ?_ _)); refine blk_far ?_ NB184_191.out _; (with_reducible repeat (first | refine blk_drewN ?_ _ | refine blk_drew ?_ | refine blk_alloc ?_ _)); refine blk_far ?_ NB184_191.out _; (with_reducible repeat (first | refine blk_drewN ?_ _ | refine blk_drew ?_ | refine blk_alloc ?_ _)); refine blk_far ?_ NB184_191.out _; (with_reducible repeat (first | refine blk_drewN ?_ _ | refine blk_drew ?_ | refine blk_alloc ?_ _)); refine blk_far ?_ NB184_191.out _; (with_reducible repeat (first | refine blk_drewN ?_ _ | refine blk_drew ?_ | refine blk_alloc ?_ _)); refine blk_far ?_ NB184_191.out _; (with_reducible repeat (first | refine blk_drewN ?_ _ | refine blk_drew ?_ | refine blk_alloc ?_ _)); exact BK184.out) : P := h
theorem u7_11 {P : Prop} (h : P := by (with_reducible repeat (first | refine blk_drewN ?_ _ | refine blk_drew ?_ | refine blk_alloc ?_ _)); refine blk_far ?_ NB207_215.out _; (with_reducible repeat (first | refine blk_drewN ?_ _ | refine blk_drew ?_ | refine blk_alloc ?_ _)); refine blk_far ?_ NB207_215.out _; (with_reducible repeat (first | refine blk_drewN ?_ _ | refine blk_drew ?_ | refine blk_alloc ?_ _)); refine blk_far ?_ NB207_215.out _; (with_reducible repeat (first | refine blk_drewN ?_ _ | refine blk_drew ?_ | refine blk_alloc ?_ _)); refine blk_far ?_ NB207_215.out _; (with_reducible repeat (first | refine blk_drewN ?_ _ | refine blk_drew ?_ | refine blk_alloc ?_ _)); refine blk_far ?_ NB207_215.out _; (with_reducible repeat (first | refine blk_drewN ?_ _ | refine blk_drew ?_ | refine blk_alloc ?_ _)); exact BK207.out) : P := h
theorem u7_12 {P : Prop} (h : P := by (with_reducible repeat (first | refine blk_drewN ?_ _ | refine blk_drew ?_ | refine blk_alloc ?_ _)); refine blk_far ?_ NB208_215.out _; (with_reducible repeat (first | refine blk_drewN ?_ _ | refine blk_drew ?_ | refine blk_alloc ?_ _)); refine blk_far ?_ NB208_215.out _; (with_reducible repeat (first | refine blk_drewN ?_ _ | refine blk_drew ?_ | refine blk_alloc ?_ _)); refine blk_far ?_ NB208_215.out _; (with_reducible repeat (first | refine blk_drewN ?_ _ | refine blk_drew ?_ | refine blk_alloc ?_ _)); refine blk_far ?_ NB208_215.out _; (with_reducible repeat (first | refine blk_drewN ?_ _ | refine blk_drew ?_ | refine blk_alloc ?_ _)); refine blk_far ?_ NB208_215.out _; (with_reducible repeat (first | refine blk_drewN ?_ _ | refine blk_drew ?_ | refine blk_alloc ?_ _)); exact BK208.out) : P := h
theorem u7_13 {P : Prop} (h : P := by (with_reducible repeat (first | refine blk_drewN ?_ _ | refine blk_drew ?_ | refine blk_alloc ?_ _)); refine blk_far ?_ NB225_233.out _; (with_reducible repeat (first | refine blk_drewN ?_ _ | refine blk_drew ?_ | refine blk_alloc ?_ _)); refine blk_far ?_ NB225_233.out _; (with_reducible repeat (first | refine blk_drewN ?_ _ | refine blk_drew ?_ | refine blk_alloc ?_ _)); refine blk_far ?_ NB225_233.out _; (with_reducible repeat (first | refine blk_drewN ?_ _ | refine blk_drew ?_ | refine blk_alloc ?_ _)); refine blk_far ?_ NB225_233.out _; (with_reducible repeat (first | refine blk_drewN ?_ _ | refine blk_drew ?_ | refine blk_alloc ?_ _)); refine blk_far ?_ NB225_233.out _; (with_reducible repeat (first | refine blk_drewN ?_ _ | refine blk_drew ?_ | refine blk_alloc ?_ _)); exact BK225.out) : P := h
theorem u7_14 {P : Prop} (h : P := by (with_reducible repeat (first | refine blk_drewN ?_ _ | refine blk_drew ?_ | refine blk_alloc ?_ _)); refine blk_far ?_ NB226_233.out _; (with_reducible repeat (first | refine blk_drewN ?_ _ | refine blk_drew ?_ | refine blk_alloc ?_ _)); refine blk_far ?_ NB226_233.out _; (with_reducible repeat (first | refine blk_drewN ?_ _ | refine blk_drew ?_ | refine blk_alloc ?_ _)); refine blk_far ?_ NB226_233.out _; (with_reducible repeat (first | refine blk_drewN ?_ _ | refine blk_drew ?_ | refine blk_alloc ?_ _)); refine blk_far ?_ NB226_233.out _; (with_reducible repeat (first | refine blk_drewN ?_ _ | refine blk_drew ?_ | refine blk_alloc ?_ _)); refine blk_far ?_ NB226_233.out _; (with_reducible repeat (first | refine blk_drewN ?_ _ | refine blk_drew ?_ | refine blk_alloc ?_ _)); exact BK226.out) : P := h
theorem u7_15 {P : Prop} (h : P := by (with_reducible repeat (first | refine blk_drewN ?_ _ | refine blk_drew ?_ | refine blk_alloc ?_ _)); exact BK4.out) : P := h
theorem u7_16 {P : Prop} (h : P := by (with_reducible repeat (first | refine blk_drewN ?_ _ | refine blk_drew ?_ | refine blk_alloc ?_ _)); refine blk_put (cs := #[.slice none 0 0]) ?_ 0 _ rfl; (with_reducible repeat (first | refine blk_drewN ?_ _ | refine blk_drew ?_ | refine blk_alloc ?_ _)); exact BK184.out) : P := h
theorem u7_17 {P : Prop} (h : P := by (with_reducible repeat (first | refine blk_drewN ?_ _ | refine blk_drew ?_ | refine blk_alloc ?_ _)); exact BK6.out) : P := h
theorem u7_18 {P : Prop} (h : P := by (with_reducible repeat (first | refine blk_drewN ?_ _ | refine blk_drew ?_ | refine blk_alloc ?_ _)); exact BK183.out) : P := h
theorem u7_19 {P : Prop} (h : P := by (with_reducible repeat (first | refine blk_drewN ?_ _ | refine blk_drew ?_ | refine blk_alloc ?_ _)); exact BK207.out) : P := h
theorem u7_20 {P : Prop} (h : P := by (with_reducible repeat (first | refine blk_drewN ?_ _ | refine blk_drew ?_ | refine blk_alloc ?_ _)); exact BK225.out) : P := h
theorem u7_21 {P : Prop} (h : P := by repeat (first | (with_reducible first | exact HBW.out | apply below_alloc | apply pw_below_drewN | apply below_drew1) | exact HBW.out)) : P := h
theorem u7_22 {P : Prop} (h : P := by repeat (first | (with_reducible first | exact HB.out | apply below_alloc | apply pw_below_drewN | apply below_drew1 | refine below_set ?_ GE183.out | refine below_set ?_ GE184.out) | exact HB.out)) : P := h
theorem u7_23 {P : Prop} (h : P := by repeat (first | (with_reducible first | exact HB.out | apply below_alloc | apply pw_below_drewN | apply below_drew1 | refine below_set ?_ GE207.out | refine below_set ?_ GE208.out) | exact HB.out)) : P := h
theorem u7_24 {P : Prop} (h : P := by repeat (first | (with_reducible first | exact HB.out | apply below_alloc | apply pw_below_drewN | apply below_drew1 | refine below_set ?_ GE225.out | refine below_set ?_ GE226.out) | exact HB.out)) : P := h
theorem u7_25 {P : Prop} (h : P := by (with_reducible repeat (first | refine blk_drewN ?_ _ | refine blk_drew ?_ | refine blk_alloc ?_ _)); refine blk_put (cs := #[.slice none 0 0]) ?_ 0 _ rfl; (with_reducible repeat (first | refine blk_drewN ?_ _ | refine blk_drew ?_ | refine blk_alloc ?_ _)); exact BK208.out) : P := h
theorem u7_26 {P : Prop} (h : P := by (with_reducible repeat (first | refine blk_drewN ?_ _ | refine blk_drew ?_ | refine blk_alloc ?_ _)); refine blk_put (cs := #[.slice none 0 0]) ?_ 0 _ rfl; (with_reducible repeat (first | refine blk_drewN ?_ _ | refine blk_drew ?_ | refine blk_alloc ?_ _)); exact BK226.out) : P := h
theorem u7_27 {P : Prop} (h : P := by repeat (first | exact (Kd.C_below HR0_0.out HB.out) | (with_reducible refine Kd.C_alloc ?_ _) | (with_reducible refine Kd.C_drewN ?_ _) | (with_reducible refine Kd.C_drew ?_))) : P := h
theorem u7_28 {P : Prop} (h : P := by (with_reducible repeat (first | refine blk_drewN ?_ _ | refine blk_drew ?_ | refine blk_alloc ?_ _)); exact BK184.out) : P := h
theorem u7_29 {P : Prop} (h : P := by (with_reducible repeat (first | refine blk_drewN ?_ _ | refine blk_drew ?_ | refine blk_alloc ?_ _)); exact BK208.out) : P := h
theorem u7_30 {P : Prop} (h : P := by (with_reducible repeat (first | refine blk_drewN ?_ _ | refine blk_drew ?_ | refine blk_alloc ?_ _)); exact BK226.out) : P := h
theorem u7_31 {P : Prop} (h : P := by (with_reducible repeat (first | refine blk_drewN ?_ _ | refine blk_drew ?_ | refine blk_alloc ?_ _)); exact BK7.out) : P := h
theorem u7_32 {P : Prop} (h : P := by repeat (first | (with_reducible first | exact HB.out | apply below_alloc | apply pw_below_drewN | apply below_drew1 | refine below_set ?_ GE183.out) | exact HB.out)) : P := h
theorem u7_33 {P : Prop} (h : P := by repeat (first | (with_reducible first | exact HB.out | apply below_alloc | apply pw_below_drewN | apply below_drew1 | refine below_set ?_ GE207.out) | exact HB.out)) : P := h
theorem u7_34 {P : Prop} (h : P := by repeat (first | (with_reducible first | exact HB.out | apply below_alloc | apply pw_below_drewN | apply below_drew1 | refine below_set ?_ GE225.out) | exact HB.out)) : P := h
theorem u7_35 {P : Prop} (h : P := by first | rfl | (simp; done) | (simp [*]; done)) : P := h
theorem u7_36 {P : Prop} (h : P := by first | (with_reducible assumption) | assumption | rfl | (simp [Act.eval, Act.put]; done)) : P := h
theorem u7_37 {P : Prop} (h : P := by exact Kd.C_below HR0_0.out u7_4) : P := h
/-! ### spec_LockDebit: function 40 -/
def spec_LockDebit.f (k : Nat) (l0_0 : List (S53)) (a1 : Int) (a2 : Int) (a3 : Int) : Option ((List (S53)) × Int) := (spec_l10Of.f k l0_0 a1 a3).bind fun bt185 => (if bt185.2.2.2.2.2 = 0 then (if bt185.2.2.2.2.1 = 0 then (if a2 > bt185.2.1 then ((spec_l10Copy.f k l0_0).bind fun t192 => (some (t192, 4))) else ((spec_l10With.f k l0_0 bt185.1 (IntKind.u64.wrap (bt185.2.1 - a2)) a2 bt185.2.2.2.1 a3).bind fun t195 => (some (t195, 0)))) else ((spec_l10Copy.f k l0_0).bind fun t198 => (some (t198, 6)))) else ((spec_l10Copy.f k l0_0).bind fun t201 => (some (t201, bt185.2.2.2.2.2))))
theorem spec_LockDebit.mono : ∀ a0 a1 a2 a3 k, LeO (spec_LockDebit.f k a0 a1 a2 a3) (spec_LockDebit.f (k + 1) a0 a1 a2 a3) := by
  intro a0 a1 a2 a3 k
  unfold spec_LockDebit.f
  repeat' first
      | (with_reducible exact spec_l10Copy.mono _ _)
      | (with_reducible exact spec_l10Of.mono _ _ _ _)
      | (with_reducible exact spec_l10With.mono _ _ _ _ _ _ _)
      | (with_reducible exact LeO.refl _)
      | (with_reducible exact LeO.none _)
      | (with_reducible refine LeO.ite ?_ ?_)
      | (with_reducible refine LeO.bind ?_ (fun _ => ?_))
      | exact spec_l10Copy.mono _ _
      | exact spec_l10Of.mono _ _ _ _
      | exact spec_l10With.mono _ _ _ _ _ _ _
      | exact LeO.none _
      | refine LeO.ite ?_ ?_
      | refine LeO.bind ?_ (fun _ => ?_)
set_option maxHeartbeats 8000000 in
set_option maxRecDepth 100000 in
theorem spec_LockDebit.calls (k : Nat) (A0_0 : Option Addr) (c0_0 : Nat) (l0_0 : List (S53)) (a1 : Int) (a2 : Int) (a3 : Int) (r1 : List (S53)) (r2 : Int) (w : World) (hr0_0 : Kd.C k53 w A0_0 l0_0.length l0_0) (hc0_0 : l0_0.length ≤ c0_0) (h : spec_LockDebit.f k l0_0 a1 a2 a3 = some (r1, r2)) :
    Calls Try.prog 40 #[.agg #[.slice A0_0 l0_0.length c0_0], .int .u64 a1, .int .u64 a2, .int .i64 a3] w fun e w' => ∃ v0_ : Value, e = .returned (.tuple #[.agg #[v0_], .int .i64 r2]) ∧ Kd.R k53 53 w' w.heap.size (fun _ => True) v0_ r1 ∧ Below w.heap.size w w' := by
  have hu29 := Try.underlying29
  have hu53 := Try.underlying53
  have HR0_0 := Aside0.mk hr0_0
  have HC0_0 := Aside0.mk hc0_0
  clear hr0_0 hc0_0
  have HB := Aside0.mk (Below.refl w.heap.size w)
  have H : ((spec_l10Of.f k l0_0 a1 a3).bind fun bt185 => (if bt185.2.2.2.2.2 = 0 then (if bt185.2.2.2.2.1 = 0 then (if a2 > bt185.2.1 then ((spec_l10Copy.f k l0_0).bind fun t192 => (some (t192, 4))) else ((spec_l10With.f k l0_0 bt185.1 (IntKind.u64.wrap (bt185.2.1 - a2)) a2 bt185.2.2.2.1 a3).bind fun t195 => (some (t195, 0)))) else ((spec_l10Copy.f k l0_0).bind fun t198 => (some (t198, 6)))) else ((spec_l10Copy.f k l0_0).bind fun t201 => (some (t201, bt185.2.2.2.2.2))))) = some (r1, r2) := h
  clear h
  replace H := Option.bind_eq_some_iff.mp H
  obtain ⟨⟨t185, t186, t187, t188, t189, t190⟩, A50, H⟩ := H
  (try dsimp only at H)
  have A5 := Aside0.mk A50
  clear A50
  have H9 := Aside0.mk H
  clear H
  go_enter Try.func40, Try.ntmps40
  go_upto_if 19 with (first | ((with_reducible refine gate_dst (N := 4) rfl ?_); refine box_event ?hg (N := 4) ?hd (cs := #[.slice A0_0 l0_0.length c0_0]) (t := 29) ?hr ?_; (case hd => rfl); (case hg => rfl); (case hr => first | (go_simp; done) | (go_simp; rfl)); intro gb183 hg w6 hbox hb; have n0_ := Aside0.mk (below_step u7_3 hb); have n1_ := Aside0.mk (hbox); have n2_ := Aside0.mk ((by rw [hg]; exact (below_size u7_3) : w.heap.size ≤ gb183)); have n3_ := Aside0.mk ((by rw [hg]; exact (below_size u7_3) : w.heap.size ≤ gb183)); clear HB; have HB := n0_; have BK183 := n1_; have GW183 := n2_; have GE183 := n3_; clear n0_ n1_ n2_ n3_; clear hb hbox hg) | ((with_reducible refine gate_dst (N := 8) rfl ?_); refine box_event ?hg (N := 8) ?hd (cs := #[.slice none 0 0]) (t := 29) ?hr ?_; (case hd => rfl); (case hg => rfl); (case hr => first | (go_simp; done) | (go_simp; rfl)); intro gb184 hg w7 hbox hb; have n0_ := Aside0.mk (blk_below (g := gb183) (o := .cells #[.slice A0_0 l0_0.length c0_0] 29 (0, 0)) u7_18 hb); have n1_ := Aside0.mk (below_step u7_32 hb); have n2_ := Aside0.mk (hbox); have n3_ := Aside0.mk ((by rw [hg]; exact (below_size u7_32) : w.heap.size ≤ gb184)); have n4_ := Aside0.mk ((by rw [hg]; exact (below_size u7_32) : w.heap.size ≤ gb184)); have n5_ := Aside0.mk ((by rw [hg]; exact Nat.ne_of_lt (blk_lt (g := gb183) (o := .cells #[.slice A0_0 l0_0.length c0_0] 29 (0, 0)) u7_18) : gb183 ≠ gb184)); have n6_ := Aside0.mk ((by rw [hg]; exact Nat.ne_of_gt (blk_lt (g := gb183) (o := .cells #[.slice A0_0 l0_0.length c0_0] 29 (0, 0)) u7_18) : gb184 ≠ gb183)); clear BK183; clear HB; have BK183 := n0_; have HB := n1_; have BK184 := n2_; have GW184 := n3_; have GE184 := n4_; have NB183_184 := n5_; have NB184_183 := n6_; clear n0_ n1_ n2_ n3_ n4_ n5_ n6_; clear hb hbox hg; have hnb8 := NB183_184.out; have hnc8 := NB184_183.out; have hcz9_0 : w7.cell? ⟨gb183, 0, none⟩ = some (.slice A0_0 l0_0.length c0_0) := (blk_cell BK183.out 0).trans rfl; have hfz9_0 := blk_frozen BK183.out 0) | ((with_reducible refine gate_callee (f := 53) rfl ?_); refine goesL_ (some 16) rfl rfl Try.func53 (by kernel_rfl) rfl #[.agg #[.slice A0_0 l0_0.length c0_0], .int .u64 a1, .int .i64 a3] rfl u7_8 ?_; (with_reducible refine (spec_l10Of.calls k _ _ l0_0 a1 a3 t185 t186 t187 t188 t189 t190 _ ?side1 ?side2 A5.out).mono ?_); (case side1 => exact u7_27); (case side2 => exact HC0_0.out); rintro e w10 ⟨rfl, hb⟩; refine ⟨_, rfl, ?_⟩; have n0_ := Aside0.mk (blk_below (g := gb183) (o := .cells #[.slice A0_0 l0_0.length c0_0] 29 (0, 0)) u7_18 hb); have n1_ := Aside0.mk (blk_below (g := gb184) (o := .cells #[.slice none 0 0] 29 (0, 0)) u7_28 hb); have n2_ := Aside0.mk (below_step u7_22 hb); clear BK183; clear BK184; clear HB; have BK183 := n0_; have BK184 := n1_; have HB := n2_; clear n0_ n1_ n2_; (try clear hb); (try clear hb2); (try clear hk); (try clear hi)) | ((with_reducible refine gate_dst (N := 10) rfl ?_); refine box_event ?hg (N := 10) ?hd (cs := #[.int .u64 0, .int .u64 0, .int .u64 0, .int .u64 0, .int .i64 0]) (t := 53) ?hr ?_; (case hd => rfl); (case hg => rfl); (case hr => first | (go_simp; done) | (go_simp; rfl)); intro gb191 hg w11 hbox hb; have n0_ := Aside0.mk (blk_below (g := gb183) (o := .cells #[.slice A0_0 l0_0.length c0_0] 29 (0, 0)) u7_18 hb); have n1_ := Aside0.mk (blk_below (g := gb184) (o := .cells #[.slice none 0 0] 29 (0, 0)) u7_28 hb); have n2_ := Aside0.mk (below_step u7_22 hb); have n3_ := Aside0.mk (hbox); have n4_ := Aside0.mk ((by rw [hg]; exact (below_size u7_22) : w.heap.size ≤ gb191)); have n5_ := Aside0.mk ((by rw [hg]; exact (below_size u7_22) : w.heap.size ≤ gb191)); have n6_ := Aside0.mk ((by rw [hg]; exact Nat.ne_of_lt (blk_lt (g := gb183) (o := .cells #[.slice A0_0 l0_0.length c0_0] 29 (0, 0)) u7_18) : gb183 ≠ gb191)); have n7_ := Aside0.mk ((by rw [hg]; exact Nat.ne_of_gt (blk_lt (g := gb183) (o := .cells #[.slice A0_0 l0_0.length c0_0] 29 (0, 0)) u7_18) : gb191 ≠ gb183)); have n8_ := Aside0.mk ((by rw [hg]; exact Nat.ne_of_lt (blk_lt (g := gb184) (o := .cells #[.slice none 0 0] 29 (0, 0)) u7_28) : gb184 ≠ gb191)); have n9_ := Aside0.mk ((by rw [hg]; exact Nat.ne_of_gt (blk_lt (g := gb184) (o := .cells #[.slice none 0 0] 29 (0, 0)) u7_28) : gb191 ≠ gb184)); clear BK183; clear BK184; clear HB; have BK183 := n0_; have BK184 := n1_; have HB := n2_; have BK191 := n3_; have GW191 := n4_; have GE191 := n5_; have NB183_191 := n6_; have NB191_183 := n7_; have NB184_191 := n8_; have NB191_184 := n9_; clear n0_ n1_ n2_ n3_ n4_ n5_ n6_ n7_ n8_ n9_; clear hb hbox hg; have hnb12 := NB191_183.out; have hnc12 := NB183_191.out; have hnb13 := NB191_184.out; have hnc13 := NB184_191.out; have hcz14_0 : w11.cell? ⟨gb191, 0, none⟩ = some (.int .u64 0) := (blk_cell BK191.out 0).trans rfl; have hcz14_1 : w11.cell? ⟨gb191, 1, none⟩ = some (.int .u64 0) := (blk_cell BK191.out 1).trans rfl; have hcz14_2 : w11.cell? ⟨gb191, 2, none⟩ = some (.int .u64 0) := (blk_cell BK191.out 2).trans rfl; have hcz14_3 : w11.cell? ⟨gb191, 3, none⟩ = some (.int .u64 0) := (blk_cell BK191.out 3).trans rfl; have hcz14_4 : w11.cell? ⟨gb191, 4, none⟩ = some (.int .i64 0) := (blk_cell BK191.out 4).trans rfl; have hfz14_0 := blk_frozen BK191.out 0; have hfz14_1 := blk_frozen BK191.out 1; have hfz14_2 := blk_frozen BK191.out 2; have hfz14_3 := blk_frozen BK191.out 3; have hfz14_4 := blk_frozen BK191.out 4))
  have H := H9.out
  clear H9
  by_cases c15 : t190 = 0
  rotate_left
  · rw [if_neg c15] at H
    have c15b0 : (t190 == 0) = false := beq_eq_false_iff_ne.mpr c15
    have c15b1 : (t190 != 0) = true := bne_iff_ne.mpr c15
    (first | rw [c15b0] | (simp only [i64_w, i32_w]; rw [c15b0]) | skip)
    replace H := Option.bind_eq_some_iff.mp H
    obtain ⟨t201, A450, H⟩ := H
    replace H : (some (t201, t190)) = some (r1, r2) := H
    have A45 := Aside0.mk A450
    clear A450
    simp only [Option.some.injEq, Prod.mk.injEq] at H
    obtain ⟨rfl, rfl⟩ := H
    have hnb46 := NB183_184.out
    have hnc46 := NB184_183.out
    have hnb47 := NB183_191.out
    have hnc47 := NB191_183.out
    have hcz48_0 : w11.cell? ⟨gb183, 0, none⟩ = some (.slice A0_0 l0_0.length c0_0) := (blk_cell BK183.out 0).trans rfl
    have hfz48_0 := blk_frozen BK183.out 0
    go_wp2_with (first | ((with_reducible refine gate_callee (f := 54) rfl ?_); refine goesL_ (some 23) rfl rfl Try.func54 (by kernel_rfl) rfl #[.agg #[.slice A0_0 l0_0.length c0_0]] rfl u7_8 ?_; (with_reducible refine (spec_l10Copy.calls k _ _ l0_0 t201 _ ?side1 ?side2 A45.out).mono ?_); (case side1 => exact u7_37); (case side2 => exact HC0_0.out); rintro e w49 ⟨v202, rfl, ho0, hb⟩; refine ⟨_, rfl, ?_⟩; have n0_ := Aside0.mk (Kd.R_lower (Kd.R_newB ho0 (g := gb191) (o := .cells #[.int .u64 t185, .int .u64 t186, .int .u64 t187, .int .u64 t188, .int .i64 t189] 53 (0, 0)) u7_0) (below_size u7_4)); have n1_ := Aside0.mk (blk_below (g := gb183) (o := .cells #[.slice A0_0 l0_0.length c0_0] 29 (0, 0)) u7_9 hb); have n2_ := Aside0.mk (blk_below (g := gb184) (o := .cells #[.slice none 0 0] 29 (0, 0)) u7_10 hb); have n3_ := Aside0.mk (blk_below (g := gb191) (o := .cells #[.int .u64 t185, .int .u64 t186, .int .u64 t187, .int .u64 t188, .int .i64 t189] 53 (0, 0)) u7_0 hb); have n4_ := Aside0.mk (below_step u7_4 hb); clear BK183; clear BK184; clear BK191; clear HB; have HO203 := n0_; have BK183 := n1_; have BK184 := n2_; have BK191 := n3_; have HB := n4_; clear n0_ n1_ n2_ n3_ n4_; (try clear hb); (try clear hb2); (try clear hk); (try clear hi); (try clear ho0); obtain ⟨Ao50, co50, eo50⟩ := Kd.R_slice HO203.out; subst eo50; have hnb51 := NB184_191.out; have hnc51 := NB191_184.out; have hcz52_0 : w49.cell? ⟨gb184, 0, none⟩ = some (.slice none 0 0) := (blk_cell BK184.out 0).trans rfl; have hfz52_0 := blk_frozen BK184.out 0))
    refine bodyPost_ret (results_ct rfl _ _ gb184 29 #[.slice Ao50 t201.length co50] (0, 0) _ rfl u7_16 Try.underlying29 rfl (by kernel_rfl)) rfl ?_
    exact ⟨_, by first | rfl | (simp [errW_none, errW_some] <;> rfl) | (simp [*, errW_none, errW_some] <;> rfl), (by (with_reducible repeat (first | apply Kd.R_alloc | apply Kd.R_drewN | apply Kd.R_drew)); exact Kd.R_mono (Kd.R_far (p := ⟨gb184, 0, none⟩) (Kd.R_types HO203.out BK184.out (by decide)) (fun _ hk => hk.2) (.slice Ao50 t201.length co50)) (fun _ hk => trivial)), u7_4⟩
  rw [if_pos c15] at H
  have c15b0 : (t190 == 0) = true := beq_iff_eq.mpr c15
  have c15b1 : (t190 != 0) = false := bne_eq_false_iff_eq.mpr c15
  clear c15
  (first | rw [c15b0] | (simp only [i64_w, i32_w]; rw [c15b0]) | skip)
  by_cases c16 : t189 = 0
  rotate_left
  · rw [if_neg c16] at H
    have c16b0 : (t189 == 0) = false := beq_eq_false_iff_ne.mpr c16
    have c16b1 : (t189 != 0) = true := bne_iff_ne.mpr c16
    replace H := Option.bind_eq_some_iff.mp H
    obtain ⟨t198, A360, H⟩ := H
    replace H : (some (t198, 6)) = some (r1, r2) := H
    have A36 := Aside0.mk A360
    clear A360
    simp only [Option.some.injEq, Prod.mk.injEq] at H
    obtain ⟨rfl, rfl⟩ := H
    have hnb37 := NB191_183.out
    have hnc37 := NB183_191.out
    have hnb38 := NB191_184.out
    have hnc38 := NB184_191.out
    have hcz39_0 : w11.cell? ⟨gb191, 0, none⟩ = some (.int .u64 0) := (blk_cell BK191.out 0).trans rfl
    have hcz39_1 : w11.cell? ⟨gb191, 1, none⟩ = some (.int .u64 0) := (blk_cell BK191.out 1).trans rfl
    have hcz39_2 : w11.cell? ⟨gb191, 2, none⟩ = some (.int .u64 0) := (blk_cell BK191.out 2).trans rfl
    have hcz39_3 : w11.cell? ⟨gb191, 3, none⟩ = some (.int .u64 0) := (blk_cell BK191.out 3).trans rfl
    have hcz39_4 : w11.cell? ⟨gb191, 4, none⟩ = some (.int .i64 0) := (blk_cell BK191.out 4).trans rfl
    have hfz39_0 := blk_frozen BK191.out 0
    have hfz39_1 := blk_frozen BK191.out 1
    have hfz39_2 := blk_frozen BK191.out 2
    have hfz39_3 := blk_frozen BK191.out 3
    have hfz39_4 := blk_frozen BK191.out 4
    have hnb40 := NB183_184.out
    have hnc40 := NB184_183.out
    have hcz41_0 : w11.cell? ⟨gb183, 0, none⟩ = some (.slice A0_0 l0_0.length c0_0) := (blk_cell BK183.out 0).trans rfl
    have hfz41_0 := blk_frozen BK183.out 0
    go_wp2_with (first | ((with_reducible refine gate_callee (f := 54) rfl ?_); refine goesL_ (some 30) rfl rfl Try.func54 (by kernel_rfl) rfl #[.agg #[.slice A0_0 l0_0.length c0_0]] rfl u7_8 ?_; (with_reducible refine (spec_l10Copy.calls k _ _ l0_0 t198 _ ?side1 ?side2 A36.out).mono ?_); (case side1 => exact u7_37); (case side2 => exact HC0_0.out); rintro e w42 ⟨v199, rfl, ho0, hb⟩; refine ⟨_, rfl, ?_⟩; have n0_ := Aside0.mk (Kd.R_lower (Kd.R_newB ho0 (g := gb191) (o := .cells #[.int .u64 t185, .int .u64 t186, .int .u64 t187, .int .u64 t188, .int .i64 t189] 53 (0, 0)) u7_0) (below_size u7_4)); have n1_ := Aside0.mk (blk_below (g := gb183) (o := .cells #[.slice A0_0 l0_0.length c0_0] 29 (0, 0)) u7_9 hb); have n2_ := Aside0.mk (blk_below (g := gb184) (o := .cells #[.slice none 0 0] 29 (0, 0)) u7_10 hb); have n3_ := Aside0.mk (blk_below (g := gb191) (o := .cells #[.int .u64 t185, .int .u64 t186, .int .u64 t187, .int .u64 t188, .int .i64 t189] 53 (0, 0)) u7_0 hb); have n4_ := Aside0.mk (below_step u7_4 hb); clear BK183; clear BK184; clear BK191; clear HB; have HO200 := n0_; have BK183 := n1_; have BK184 := n2_; have BK191 := n3_; have HB := n4_; clear n0_ n1_ n2_ n3_ n4_; (try clear hb); (try clear hb2); (try clear hk); (try clear hi); (try clear ho0); obtain ⟨Ao43, co43, eo43⟩ := Kd.R_slice HO200.out; subst eo43; have hcz44_0 : w42.cell? ⟨gb184, 0, none⟩ = some (.slice none 0 0) := (blk_cell BK184.out 0).trans rfl; have hfz44_0 := blk_frozen BK184.out 0))
    refine bodyPost_ret (results_ct rfl _ _ gb184 29 #[.slice Ao43 t198.length co43] (0, 0) _ rfl u7_16 Try.underlying29 rfl (by kernel_rfl)) rfl ?_
    exact ⟨_, by first | rfl | (simp [errW_none, errW_some] <;> rfl) | (simp [*, errW_none, errW_some] <;> rfl), (by (with_reducible repeat (first | apply Kd.R_alloc | apply Kd.R_drewN | apply Kd.R_drew)); exact Kd.R_mono (Kd.R_far (p := ⟨gb184, 0, none⟩) (Kd.R_types HO200.out BK184.out (by decide)) (fun _ hk => hk.2) (.slice Ao43 t198.length co43)) (fun _ hk => trivial)), u7_4⟩
  rw [if_pos c16] at H
  have c16b0 : (t189 == 0) = true := beq_iff_eq.mpr c16
  have c16b1 : (t189 != 0) = false := bne_eq_false_iff_eq.mpr c16
  clear c16
  by_cases c17 : a2 > t186
  · rw [if_pos c17] at H
    have c17b0 : decide (t186 < a2) = true := decide_eq_true c17
    clear c17
    replace H := Option.bind_eq_some_iff.mp H
    obtain ⟨t192, A180, H⟩ := H
    replace H : (some (t192, 4)) = some (r1, r2) := H
    have A18 := Aside0.mk A180
    clear A180
    simp only [Option.some.injEq, Prod.mk.injEq] at H
    obtain ⟨rfl, rfl⟩ := H
    have hnb19 := NB191_183.out
    have hnc19 := NB183_191.out
    have hnb20 := NB191_184.out
    have hnc20 := NB184_191.out
    have hcz21_0 : w11.cell? ⟨gb191, 0, none⟩ = some (.int .u64 0) := (blk_cell BK191.out 0).trans rfl
    have hcz21_1 : w11.cell? ⟨gb191, 1, none⟩ = some (.int .u64 0) := (blk_cell BK191.out 1).trans rfl
    have hcz21_2 : w11.cell? ⟨gb191, 2, none⟩ = some (.int .u64 0) := (blk_cell BK191.out 2).trans rfl
    have hcz21_3 : w11.cell? ⟨gb191, 3, none⟩ = some (.int .u64 0) := (blk_cell BK191.out 3).trans rfl
    have hcz21_4 : w11.cell? ⟨gb191, 4, none⟩ = some (.int .i64 0) := (blk_cell BK191.out 4).trans rfl
    have hfz21_0 := blk_frozen BK191.out 0
    have hfz21_1 := blk_frozen BK191.out 1
    have hfz21_2 := blk_frozen BK191.out 2
    have hfz21_3 := blk_frozen BK191.out 3
    have hfz21_4 := blk_frozen BK191.out 4
    have hnb22 := NB183_184.out
    have hnc22 := NB184_183.out
    have hcz23_0 : w11.cell? ⟨gb183, 0, none⟩ = some (.slice A0_0 l0_0.length c0_0) := (blk_cell BK183.out 0).trans rfl
    have hfz23_0 := blk_frozen BK183.out 0
    go_wp2_with (first | ((with_reducible refine gate_callee (f := 54) rfl ?_); refine goesL_ (some 37) rfl rfl Try.func54 (by kernel_rfl) rfl #[.agg #[.slice A0_0 l0_0.length c0_0]] rfl u7_8 ?_; (with_reducible refine (spec_l10Copy.calls k _ _ l0_0 t192 _ ?side1 ?side2 A18.out).mono ?_); (case side1 => exact u7_37); (case side2 => exact HC0_0.out); rintro e w24 ⟨v193, rfl, ho0, hb⟩; refine ⟨_, rfl, ?_⟩; have n0_ := Aside0.mk (Kd.R_lower (Kd.R_newB ho0 (g := gb191) (o := .cells #[.int .u64 t185, .int .u64 t186, .int .u64 t187, .int .u64 t188, .int .i64 t189] 53 (0, 0)) u7_0) (below_size u7_4)); have n1_ := Aside0.mk (blk_below (g := gb183) (o := .cells #[.slice A0_0 l0_0.length c0_0] 29 (0, 0)) u7_9 hb); have n2_ := Aside0.mk (blk_below (g := gb184) (o := .cells #[.slice none 0 0] 29 (0, 0)) u7_10 hb); have n3_ := Aside0.mk (blk_below (g := gb191) (o := .cells #[.int .u64 t185, .int .u64 t186, .int .u64 t187, .int .u64 t188, .int .i64 t189] 53 (0, 0)) u7_0 hb); have n4_ := Aside0.mk (below_step u7_4 hb); clear BK183; clear BK184; clear BK191; clear HB; have HO194 := n0_; have BK183 := n1_; have BK184 := n2_; have BK191 := n3_; have HB := n4_; clear n0_ n1_ n2_ n3_ n4_; (try clear hb); (try clear hb2); (try clear hk); (try clear hi); (try clear ho0); obtain ⟨Ao25, co25, eo25⟩ := Kd.R_slice HO194.out; subst eo25; have hcz26_0 : w24.cell? ⟨gb184, 0, none⟩ = some (.slice none 0 0) := (blk_cell BK184.out 0).trans rfl; have hfz26_0 := blk_frozen BK184.out 0))
    refine bodyPost_ret (results_ct rfl _ _ gb184 29 #[.slice Ao25 t192.length co25] (0, 0) _ rfl u7_16 Try.underlying29 rfl (by kernel_rfl)) rfl ?_
    exact ⟨_, by first | rfl | (simp [errW_none, errW_some] <;> rfl) | (simp [*, errW_none, errW_some] <;> rfl), (by (with_reducible repeat (first | apply Kd.R_alloc | apply Kd.R_drewN | apply Kd.R_drew)); exact Kd.R_mono (Kd.R_far (p := ⟨gb184, 0, none⟩) (Kd.R_types HO194.out BK184.out (by decide)) (fun _ hk => hk.2) (.slice Ao25 t192.length co25)) (fun _ hk => trivial)), u7_4⟩
  rw [if_neg c17] at H
  have c17b0 : decide (t186 < a2) = false := decide_eq_false c17
  clear c17
  replace H := Option.bind_eq_some_iff.mp H
  obtain ⟨t195, A270, H⟩ := H
  replace H : (some (t195, 0)) = some (r1, r2) := H
  have A27 := Aside0.mk A270
  clear A270
  simp only [Option.some.injEq, Prod.mk.injEq] at H
  obtain ⟨rfl, rfl⟩ := H
  have hnb28 := NB191_183.out
  have hnc28 := NB183_191.out
  have hnb29 := NB191_184.out
  have hnc29 := NB184_191.out
  have hcz30_0 : w11.cell? ⟨gb191, 0, none⟩ = some (.int .u64 0) := (blk_cell BK191.out 0).trans rfl
  have hcz30_1 : w11.cell? ⟨gb191, 1, none⟩ = some (.int .u64 0) := (blk_cell BK191.out 1).trans rfl
  have hcz30_2 : w11.cell? ⟨gb191, 2, none⟩ = some (.int .u64 0) := (blk_cell BK191.out 2).trans rfl
  have hcz30_3 : w11.cell? ⟨gb191, 3, none⟩ = some (.int .u64 0) := (blk_cell BK191.out 3).trans rfl
  have hcz30_4 : w11.cell? ⟨gb191, 4, none⟩ = some (.int .i64 0) := (blk_cell BK191.out 4).trans rfl
  have hfz30_0 := blk_frozen BK191.out 0
  have hfz30_1 := blk_frozen BK191.out 1
  have hfz30_2 := blk_frozen BK191.out 2
  have hfz30_3 := blk_frozen BK191.out 3
  have hfz30_4 := blk_frozen BK191.out 4
  have hnb31 := NB183_184.out
  have hnc31 := NB184_183.out
  have hcz32_0 : w11.cell? ⟨gb183, 0, none⟩ = some (.slice A0_0 l0_0.length c0_0) := (blk_cell BK183.out 0).trans rfl
  have hfz32_0 := blk_frozen BK183.out 0
  go_wp2_with (first | ((with_reducible refine gate_callee (f := 55) rfl ?_); refine goesL_ (some 49) rfl rfl Try.func55 (by kernel_rfl) rfl #[.agg #[.slice A0_0 l0_0.length c0_0], .agg #[.int .u64 t185, .int .u64 (IntKind.u64.wrap (t186 - a2)), .int .u64 a2, .int .u64 t188, .int .i64 a3]] rfl u7_8 ?_; (with_reducible refine (spec_l10With.calls k _ _ l0_0 t185 (IntKind.u64.wrap (t186 - a2)) a2 t188 a3 t195 _ ?side1 ?side2 A27.out).mono ?_); (case side1 => exact u7_37); (case side2 => exact HC0_0.out); rintro e w33 ⟨v196, rfl, ho0, hb⟩; refine ⟨_, rfl, ?_⟩; have n0_ := Aside0.mk (Kd.R_lower (Kd.R_newB ho0 (g := gb191) (o := .cells #[.int .u64 t185, .int .u64 (IntKind.u64.wrap (t186 - a2)), .int .u64 a2, .int .u64 t188, .int .i64 a3] 53 (0, 0)) u7_7) (below_size u7_4)); have n1_ := Aside0.mk (blk_below (g := gb183) (o := .cells #[.slice A0_0 l0_0.length c0_0] 29 (0, 0)) (by (with_reducible repeat (first | refine blk_drewN ?_ _ | refine blk_drew ?_ | refine blk_alloc ?_ _)); refine blk_far ?_ NB183_191.out _; (with_reducible repeat (first | refine blk_drewN ?_ _ | refine blk_drew ?_ | refine blk_alloc ?_ _)); refine blk_far ?_ NB183_191.out _; (with_reducible repeat (first | refine blk_drewN ?_ _ | refine blk_drew ?_ | refine blk_alloc ?_ _)); refine blk_far ?_ NB183_191.out _; (with_reducible repeat (first | refine blk_drewN ?_ _ | refine blk_drew ?_ | refine blk_alloc ?_ _)); refine blk_far ?_ NB183_191.out _; (with_reducible repeat (first | refine blk_drewN ?_ _ | refine blk_drew ?_ | refine blk_alloc ?_ _)); refine blk_far ?_ NB183_191.out _; (with_reducible repeat (first | refine blk_drewN ?_ _ | refine blk_drew ?_ | refine blk_alloc ?_ _)); refine blk_far ?_ NB183_191.out _; (with_reducible repeat (first | refine blk_drewN ?_ _ | refine blk_drew ?_ | refine blk_alloc ?_ _)); refine blk_far ?_ NB183_191.out _; (with_reducible repeat (first | refine blk_drewN ?_ _ | refine blk_drew ?_ | refine blk_alloc ?_ _)); refine blk_far ?_ NB183_191.out _; (with_reducible repeat (first | refine blk_drewN ?_ _ | refine blk_drew ?_ | refine blk_alloc ?_ _)); exact BK183.out) hb); have n2_ := Aside0.mk (blk_below (g := gb184) (o := .cells #[.slice none 0 0] 29 (0, 0)) (by (with_reducible repeat (first | refine blk_drewN ?_ _ | refine blk_drew ?_ | refine blk_alloc ?_ _)); refine blk_far ?_ NB184_191.out _; (with_reducible repeat (first | refine blk_drewN ?_ _ | refine blk_drew ?_ | refine blk_alloc ?_ _)); refine blk_far ?_ NB184_191.out _; (with_reducible repeat (first | refine blk_drewN ?_ _ | refine blk_drew ?_ | refine blk_alloc ?_ _)); refine blk_far ?_ NB184_191.out _; (with_reducible repeat (first | refine blk_drewN ?_ _ | refine blk_drew ?_ | refine blk_alloc ?_ _)); refine blk_far ?_ NB184_191.out _; (with_reducible repeat (first | refine blk_drewN ?_ _ | refine blk_drew ?_ | refine blk_alloc ?_ _)); refine blk_far ?_ NB184_191.out _; (with_reducible repeat (first | refine blk_drewN ?_ _ | refine blk_drew ?_ | refine blk_alloc ?_ _)); refine blk_far ?_ NB184_191.out _; (with_reducible repeat (first | refine blk_drewN ?_ _ | refine blk_drew ?_ | refine blk_alloc ?_ _)); refine blk_far ?_ NB184_191.out _; (with_reducible repeat (first | refine blk_drewN ?_ _ | refine blk_drew ?_ | refine blk_alloc ?_ _)); refine blk_far ?_ NB184_191.out _; (with_reducible repeat (first | refine blk_drewN ?_ _ | refine blk_drew ?_ | refine blk_alloc ?_ _)); exact BK184.out) hb); have n3_ := Aside0.mk (blk_below (g := gb191) (o := .cells #[.int .u64 t185, .int .u64 (IntKind.u64.wrap (t186 - a2)), .int .u64 a2, .int .u64 t188, .int .i64 a3] 53 (0, 0)) u7_7 hb); have n4_ := Aside0.mk (below_step u7_4 hb); clear BK183; clear BK184; clear BK191; clear HB; have HO197 := n0_; have BK183 := n1_; have BK184 := n2_; have BK191 := n3_; have HB := n4_; clear n0_ n1_ n2_ n3_ n4_; (try clear hb); (try clear hb2); (try clear hk); (try clear hi); (try clear ho0); obtain ⟨Ao34, co34, eo34⟩ := Kd.R_slice HO197.out; subst eo34; have hcz35_0 : w33.cell? ⟨gb184, 0, none⟩ = some (.slice none 0 0) := (blk_cell BK184.out 0).trans rfl; have hfz35_0 := blk_frozen BK184.out 0))
  refine bodyPost_ret (results_ct rfl _ _ gb184 29 #[.slice Ao34 t195.length co34] (0, 0) _ rfl u7_16 Try.underlying29 rfl (by kernel_rfl)) rfl ?_
  exact ⟨_, by first | rfl | (simp [errW_none, errW_some] <;> rfl) | (simp [*, errW_none, errW_some] <;> rfl), (by (with_reducible repeat (first | apply Kd.R_alloc | apply Kd.R_drewN | apply Kd.R_drew)); exact Kd.R_mono (Kd.R_far (p := ⟨gb184, 0, none⟩) (Kd.R_types HO197.out BK184.out (by decide)) (fun _ hk => hk.2) (.slice Ao34 t195.length co34)) (fun _ hk => trivial)), u7_4⟩

/-! ### impl_LockDebit: function 41 -/
/-- What the literal makes of an account, and its code. -/
def impl_LockDebit.g (a2 a3 : Int) (x : S53) : S53 × Int := if ¬ x.f4 = 0 then (x, 6) else if x.f1 < a2 then (x, 4) else (⟨x.f0, IntKind.u64.wrap (x.f1 - a2), a2, x.f3, a3⟩, 0)
set_option maxHeartbeats 1600000 in
theorem impl_LockDebit.lit (g n cap i : Nat) (l0 : List S53) (ok : Nat → Prop) (a2 a3 : Int) (b2 b3 : Nat) (w0 w : World) (hB : Below w0.heap.size w0 w) (ho : Kd.R k53 53 w w0.heap.size ok (.slice (some ⟨g, 0, none⟩) n cap) l0) (hi : i < l0.length) (p2 : w.cell? ⟨b2, 0, none⟩ = some (.int .u64 a2)) (q2 : b2 ≠ g) (p3 : w.cell? ⟨b3, 0, none⟩ = some (.int .i64 a3)) (q3 : b3 ≠ g) :
    Calls Try.prog 67 #[.pointer (some ⟨g, i * 5, none⟩), .pointer (some ⟨b2, 0, none⟩), .pointer (some ⟨b3, 0, none⟩)] w fun e w' => e = .returned (.int .i64 (impl_LockDebit.g a2 a3 (l0.getD i z53)).2) ∧ Kd.R k53 53 w' w0.heap.size ok (.slice (some ⟨g, 0, none⟩) n cap) (l0.set i (impl_LockDebit.g a2 a3 (l0.getD i z53)).1) ∧ Below w0.heap.size w0 w' ∧ Kept w w' (fun k => k = g) := by
  obtain ⟨_, hg, _, _, _, cur, hb, hs, _⟩ := impl_change.flat.blockG ho
  obtain ⟨x, hx⟩ : ∃ x, x = l0.getD i z53 := ⟨_, rfl⟩
  have he : ∀ j, j < 5 → cur[i * 5 + j]? = (impl_change.enc x)[j]? := fun j hj => by rw [hx]; exact Go.Proofs.Ytdbfjakhkclggaa.Slc.flat_elem impl_change.flat ho hb hi z53 j hj
  have hlt : ∀ j, j < 5 → i * 5 + j < cur.size := fun j hj => by
    have := he j hj
    rcases Nat.lt_or_ge (i * 5 + j) cur.size with h | h
    · exact h
    · rw [Array.getElem?_eq_none h, List.getElem?_eq_getElem hj] at this
      cases this
  have x0 : w.cell? ⟨g, i * 5, none⟩ = some (.int .u64 x.f0) := (blk_cell hb _).trans (he 0 (by omega))
  have x1 : w.cell? ⟨g, i * 5 + 1, none⟩ = some (.int .u64 x.f1) := (blk_cell hb _).trans (he 1 (by omega))
  have x2 : w.cell? ⟨g, i * 5 + 2, none⟩ = some (.int .u64 x.f2) := (blk_cell hb _).trans (he 2 (by omega))
  have x3 : w.cell? ⟨g, i * 5 + 3, none⟩ = some (.int .u64 x.f3) := (blk_cell hb _).trans (he 3 (by omega))
  have x4 : w.cell? ⟨g, i * 5 + 4, none⟩ = some (.int .i64 x.f4) := (blk_cell hb _).trans (he 4 (by omega))
  have f0 : w.frozen? ⟨g, i * 5, none⟩ = false := blk_frozen hb _
  have f1 : w.frozen? ⟨g, i * 5 + 1, none⟩ = false := blk_frozen hb _
  have f2 : w.frozen? ⟨g, i * 5 + 2, none⟩ = false := blk_frozen hb _
  have f3 : w.frozen? ⟨g, i * 5 + 3, none⟩ = false := blk_frozen hb _
  have f4 : w.frozen? ⟨g, i * 5 + 4, none⟩ = false := blk_frozen hb _
  rw [← hx]
  -- the row as it was, and as it is when cells of the element are written
  have same : ∀ W : World, (∀ k, W.heap[k]? = w.heap[k]?) → Kd.R k53 53 W w0.heap.size ok (.slice (some ⟨g, 0, none⟩) n cap) (l0.set i x) := fun W hW => by
    refine Go.Proofs.Ytdbfjakhkclggaa.Slc.flat_upd impl_change.flat ho hi hb ((hW g).trans hb) rfl (fun j hj => he j hj) (fun q _ => rfl)
  have HS := Aside0.mk same
  have HBl := Aside0.mk hB
  have HG := Aside0.mk hg
  have HO := Aside0.mk ho
  have Hb := Aside0.mk hb
  have HE := Aside0.mk he
  have HI := Aside0.mk hi
  have HL := Aside0.mk hlt
  clear same hB hg ho hb he hi hlt hs hx
  have hu := Try.underlying53
  by_cases h4 : ¬ x.f4 = 0
  · have ch4 := show (x.f4 != 0) = true by simpa using h4
    go_enter Try.func67, Try.ntmps67
    go_wp2
    repeat (go_region; try go_wp2)
    go_ret
    rw [show impl_LockDebit.g a2 a3 x = (x, 6) by simp [impl_LockDebit.g, h4]]
    exact ⟨rfl, HS.out _ (fun _ => rfl), (by repeat (first | exact HBl.out | apply below_drew)), (by repeat (first | exact Kept.refl _ _ | apply Kept.drew))⟩
  have ch4 := show (x.f4 != 0) = false by simpa using h4
  by_cases h5 : x.f1 < a2
  · have ch5 := decide_eq_true h5
    go_enter Try.func67, Try.ntmps67
    go_wp2
    repeat (go_region; try go_wp2)
    go_ret
    rw [show impl_LockDebit.g a2 a3 x = (x, 4) by simp [impl_LockDebit.g, h4, h5]]
    exact ⟨rfl, HS.out _ (fun _ => rfl), (by repeat (first | exact HBl.out | apply below_drew)), (by repeat (first | exact Kept.refl _ _ | apply Kept.drew))⟩
  have ch5 := decide_eq_false h5
  go_enter Try.func67, Try.ntmps67
  go_wp2
  repeat (go_region; try go_wp2)
  go_ret
  rw [show impl_LockDebit.g a2 a3 x = (⟨x.f0, IntKind.u64.wrap (x.f1 - a2), a2, x.f3, a3⟩, 0) by simp [impl_LockDebit.g, h4, h5]]
  obtain ⟨W, hW⟩ : ∃ W, W = (((w.setCell ⟨g, i * 5 + 1, none⟩ (.int .u64 (IntKind.u64.wrap (x.f1 - a2)))).setCell ⟨g, i * 5 + 2, none⟩ (.int .u64 (a2))).setCell ⟨g, i * 5 + 4, none⟩ (.int .i64 (a3))) := ⟨_, rfl⟩
  have hbW : W.heap[g]? = some (.cells (((cur.setIfInBounds (i * 5 + 1) (.int .u64 (IntKind.u64.wrap (x.f1 - a2)))).setIfInBounds (i * 5 + 2) (.int .u64 (a2))).setIfInBounds (i * 5 + 4) (.int .i64 (a3))) 53 (0, 0)) := by rw [hW]; exact (blk_set (blk_set (blk_set (w := w) Hb.out (i * 5 + 1) (.int .u64 (IntKind.u64.wrap (x.f1 - a2)))) (i * 5 + 2) (.int .u64 (a2))) (i * 5 + 4) (.int .i64 (a3)))
  have hBW : Below w0.heap.size w0 W := by rw [hW]; exact (below_set (below_set (below_set HBl.out HG.out) HG.out) HG.out)
  have hKW : Kept w W (fun k => k = g) := by rw [hW]; exact (Kept.setCell (S := fun k => k = g) ((Kept.setCell (S := fun k => k = g) ((Kept.setCell (S := fun k => k = g) (Kept.refl _ _) (p := ⟨g, i * 5 + 1, none⟩) (.inl rfl) (.int .u64 (IntKind.u64.wrap (x.f1 - a2))))) (p := ⟨g, i * 5 + 2, none⟩) (.inl rfl) (.int .u64 (a2)))) (p := ⟨g, i * 5 + 4, none⟩) (.inl rfl) (.int .i64 (a3)))
  rw [← hW]
  clear hW
  refine ⟨rfl, Go.Proofs.Ytdbfjakhkclggaa.Slc.flat_upd impl_change.flat HO.out HI.out Hb.out (cur' := (((cur.setIfInBounds (i * 5 + 1) (.int .u64 (IntKind.u64.wrap (x.f1 - a2)))).setIfInBounds (i * 5 + 2) (.int .u64 (a2))).setIfInBounds (i * 5 + 4) (.int .i64 (a3)))) (by first | exact hbW | exact (show W.drew.heap[g]? = _ from hbW) | exact (show W.drew.drew.heap[g]? = _ from hbW)) (by simp) (fun j hj => ?_) (fun q hq => ?_), by repeat (first | exact hBW | apply below_drew), by repeat (first | exact hKW | apply Kept.drew)⟩
  · have hj : j < 5 := hj
    have e := HE.out j hj
    have hl := HL.out j hj
    show (((cur.setIfInBounds (i * 5 + 1) (.int .u64 (IntKind.u64.wrap (x.f1 - a2)))).setIfInBounds (i * 5 + 2) (.int .u64 (a2))).setIfInBounds (i * 5 + 4) (.int .i64 (a3)))[i * 5 + j]? = _
    rcases (show j = 0 ∨ j = 1 ∨ j = 2 ∨ j = 3 ∨ j = 4 by omega) with rfl | rfl | rfl | rfl | rfl
    · rw [Array.getElem?_setIfInBounds, if_neg (by omega), Array.getElem?_setIfInBounds, if_neg (by omega), Array.getElem?_setIfInBounds, if_neg (by omega)]; exact e
    · rw [Array.getElem?_setIfInBounds, if_neg (by omega), Array.getElem?_setIfInBounds, if_neg (by omega), Array.getElem?_setIfInBounds, if_pos rfl, if_pos (by simpa using hl)]; first | done | rfl
    · rw [Array.getElem?_setIfInBounds, if_neg (by omega), Array.getElem?_setIfInBounds, if_pos rfl, if_pos (by simpa using hl)]; first | done | rfl
    · rw [Array.getElem?_setIfInBounds, if_neg (by omega), Array.getElem?_setIfInBounds, if_neg (by omega), Array.getElem?_setIfInBounds, if_neg (by omega)]; exact e
    rw [Array.getElem?_setIfInBounds, if_pos rfl, if_pos (by simpa using hl)]; first | done | rfl
  have hq : q < i * 5 ∨ i * 5 + 5 ≤ q := hq
  rw [Array.getElem?_setIfInBounds, if_neg (by omega), Array.getElem?_setIfInBounds, if_neg (by omega), Array.getElem?_setIfInBounds, if_neg (by omega)]

def impl_LockDebit.cf (k : Nat) (l0 : List S53) (a1 a2 a3 : Int) : Option (List S53 × Int) := impl_change.cf (impl_LockDebit.g a2 a3) k l0 a1
theorem impl_LockDebit.cf_mono (l0 : List S53) (a1 a2 a3 : Int) (k : Nat) : LeO (impl_LockDebit.cf k l0 a1 a2 a3) (impl_LockDebit.cf (k + 1) l0 a1 a2 a3) := impl_change.cf_mono _ l0 a1 k
theorem impl_LockDebit.change (k : Nat) (A0 : Option Addr) (c0 : Nat) (l0 : List S53) (a1 a2 a3 : Int) (b2 b3 : Nat) (r1 : List S53) (r2 : Int) (w : World) (hr0 : Kd.C k53 w A0 l0.length l0) (hc0 : l0.length ≤ c0) (p2 : w.cell? ⟨b2, 0, none⟩ = some (.int .u64 a2)) (p3 : w.cell? ⟨b3, 0, none⟩ = some (.int .i64 a3)) (h : impl_LockDebit.cf k l0 a1 a2 a3 = some (r1, r2)) :
    Calls Try.prog 60 #[.agg #[.slice A0 l0.length c0], .int .u64 a1, .func (.func 67) #[] #[.pointer (some ⟨b2, 0, none⟩), .pointer (some ⟨b3, 0, none⟩)]] w fun e w' => ∃ v0_ : Value, e = .returned (.tuple #[.agg #[v0_], .int .i64 r2]) ∧ Kd.R k53 53 w' w.heap.size (fun _ => True) v0_ r1 ∧ Below w.heap.size w w' :=
  impl_change.gen 67 #[.pointer (some ⟨b2, 0, none⟩), .pointer (some ⟨b3, 0, none⟩)] (impl_LockDebit.g a2 a3) k A0 c0 l0 a1 r1 r2 w hr0 hc0 (fun i g1 c1 W hi hg hB ho => impl_LockDebit.lit g1 l0.length c1 i l0 (fun k => k = g1) a2 a3 b2 b3 w W hB ho hi ((hB.cell (World.block_lt_of_cell? w _ p2)).trans p2) (Nat.ne_of_lt (Nat.lt_of_lt_of_le (World.block_lt_of_cell? w _ p2) hg)) ((hB.cell (World.block_lt_of_cell? w _ p3)).trans p3) (Nat.ne_of_lt (Nat.lt_of_lt_of_le (World.block_lt_of_cell? w _ p3) hg))) Try.call67 h
def impl_LockDebit.f (k : Nat) (l0 : List S53) (a1 : Int) (a2 : Int) (a3 : Int) : Option (List S53 × Int) := if a3 < 1 then (impl_copyBook.f l0).bind fun y => some (y, 1) else impl_LockDebit.cf k l0 a1 a2 a3
theorem impl_LockDebit.mono : ∀ (l0 : List S53) (a1 : Int) (a2 : Int) (a3 : Int) (k : Nat), LeO (impl_LockDebit.f k l0 a1 a2 a3) (impl_LockDebit.f (k + 1) l0 a1 a2 a3) := fun l0 a1 a2 a3 k => by
  unfold impl_LockDebit.f
  exact LeO.ite (LeO.refl _) (impl_LockDebit.cf_mono _ _ _ _ k)
set_option maxHeartbeats 4000000 in
set_option maxRecDepth 100000 in
theorem impl_LockDebit.calls (k : Nat) (A0 : Option Addr) (c0 : Nat) (l0 : List S53) (a1 : Int) (a2 : Int) (a3 : Int) (r1 : List S53) (r2 : Int) (w : World) (hr0 : Kd.C k53 w A0 l0.length l0) (hc0 : l0.length ≤ c0) (h : impl_LockDebit.f k l0 a1 a2 a3 = some (r1, r2)) :
    Calls Try.prog 41 #[.agg #[.slice A0 l0.length c0], .int .u64 a1, .int .u64 a2, .int .i64 a3] w fun e w' => ∃ v0_ : Value, e = .returned (.tuple #[.agg #[v0_], .int .i64 r2]) ∧ Kd.R k53 53 w' w.heap.size (fun _ => True) v0_ r1 ∧ Below w.heap.size w w' := by
  have hu := Try.underlying29
  have HR := Aside0.mk hr0
  have HC := Aside0.mk hc0
  have HB := Aside0.mk (Below.refl w.heap.size w)
  clear hr0 hc0
  unfold impl_LockDebit.f at h
  by_cases hg : a3 < 1
  rotate_left
  · rw [if_neg hg] at h
    have HF := Aside0.mk h
    clear h
    have cg := decide_eq_false hg
    go_enter Try.func41, Try.ntmps41
    go_wp2_with (first | ((with_reducible refine gate_dst (N := 4) rfl ?_); refine box_event ?hg (N := 4) ?hd (cs := #[.slice A0 l0.length c0]) (t := 29) ?hr ?_; (case hd => rfl); (case hg => rfl); (case hr => first | (go_simp; done) | (go_simp; rfl)); intro gb4 hg w4 hbox hb; have n0_ := Aside0.mk (below_step u7_3 hb); have n1_ := Aside0.mk (show w.heap.size ≤ gb4 by rw [hg]; exact (below_size u7_3)); have n2_ := Aside0.mk hbox; clear HB; have HB := n0_; have G4 := n1_; have BK4 := n2_; clear n0_ n1_ n2_; clear hbox hg hb; (try clear c4_ f4_); have c4_ : w4.cell? ⟨gb4, 0, none⟩ = some (.slice A0 l0.length c0) := (blk_cell BK4.out 0).trans rfl; have f4_ := blk_frozen BK4.out 0) | ((with_reducible refine gate_dst (N := 6) rfl ?_); refine box_event ?hg (N := 6) ?hd (cs := #[.int .u64 a2]) (t := 33) ?hr ?_; (case hd => rfl); (case hg => rfl); (case hr => first | (go_simp; done) | (go_simp; rfl)); intro gb6 hg w6 hbox hb; have n0_ := Aside0.mk (below_step u7_3 hb); have n1_ := Aside0.mk (show w.heap.size ≤ gb6 by rw [hg]; exact (below_size u7_3)); have n2_ := Aside0.mk hbox; have m4_ := Aside0.mk (blk_below (g := gb4) (o := .cells #[.slice A0 l0.length c0] 29 (0, 0)) u7_15 hb); have N4_6 := (show gb4 ≠ gb6 by rw [hg]; exact Nat.ne_of_lt (blk_lt (g := gb4) (o := .cells #[.slice A0 l0.length c0] 29 (0, 0)) u7_15)); have N6_4 := (N4_6).symm; clear HB; have HB := n0_; have G6 := n1_; have BK6 := n2_; clear n0_ n1_ n2_; clear BK4; have BK4 := m4_; clear m4_; clear hbox hg hb; (try clear c4_ f4_); have c4_ : w6.cell? ⟨gb4, 0, none⟩ = some (.slice A0 l0.length c0) := (blk_cell BK4.out 0).trans rfl; have f4_ := blk_frozen BK4.out 0; (try clear c6_ f6_); have c6_ : w6.cell? ⟨gb6, 0, none⟩ = some (.int .u64 a2) := (blk_cell BK6.out 0).trans rfl; have f6_ := blk_frozen BK6.out 0) | ((with_reducible refine gate_dst (N := 7) rfl ?_); refine box_event ?hg (N := 7) ?hd (cs := #[.int .i64 a3]) (t := 3) ?hr ?_; (case hd => rfl); (case hg => rfl); (case hr => first | (go_simp; done) | (go_simp; rfl)); intro gb7 hg w7 hbox hb; have n0_ := Aside0.mk (below_step u7_3 hb); have n1_ := Aside0.mk (show w.heap.size ≤ gb7 by rw [hg]; exact (below_size u7_3)); have n2_ := Aside0.mk hbox; have m4_ := Aside0.mk (blk_below (g := gb4) (o := .cells #[.slice A0 l0.length c0] 29 (0, 0)) u7_15 hb); have N4_7 := (show gb4 ≠ gb7 by rw [hg]; exact Nat.ne_of_lt (blk_lt (g := gb4) (o := .cells #[.slice A0 l0.length c0] 29 (0, 0)) u7_15)); have N7_4 := (N4_7).symm; have m6_ := Aside0.mk (blk_below (g := gb6) (o := .cells #[.int .u64 a2] 33 (0, 0)) u7_17 hb); have N6_7 := (show gb6 ≠ gb7 by rw [hg]; exact Nat.ne_of_lt (blk_lt (g := gb6) (o := .cells #[.int .u64 a2] 33 (0, 0)) u7_17)); have N7_6 := (N6_7).symm; clear HB; have HB := n0_; have G7 := n1_; have BK7 := n2_; clear n0_ n1_ n2_; clear BK4; have BK4 := m4_; clear m4_; clear BK6; have BK6 := m6_; clear m6_; clear hbox hg hb; (try clear c4_ f4_); have c4_ : w7.cell? ⟨gb4, 0, none⟩ = some (.slice A0 l0.length c0) := (blk_cell BK4.out 0).trans rfl; have f4_ := blk_frozen BK4.out 0; (try clear c6_ f6_); have c6_ : w7.cell? ⟨gb6, 0, none⟩ = some (.int .u64 a2) := (blk_cell BK6.out 0).trans rfl; have f6_ := blk_frozen BK6.out 0; (try clear c7_ f7_); have c7_ : w7.cell? ⟨gb7, 0, none⟩ = some (.int .i64 a3) := (blk_cell BK7.out 0).trans rfl; have f7_ := blk_frozen BK7.out 0) | ((with_reducible refine gate_dst (N := 8) rfl ?_); refine box_event ?hg (N := 8) ?hd (cs := #[.slice none 0 0]) (t := 29) ?hr ?_; (case hd => rfl); (case hg => rfl); (case hr => first | (go_simp; done) | (go_simp; rfl)); intro gb8 hg w8 hbox hb; have n0_ := Aside0.mk (below_step u7_3 hb); have n1_ := Aside0.mk (show w.heap.size ≤ gb8 by rw [hg]; exact (below_size u7_3)); have n2_ := Aside0.mk hbox; have m4_ := Aside0.mk (blk_below (g := gb4) (o := .cells #[.slice A0 l0.length c0] 29 (0, 0)) u7_15 hb); have N4_8 := (show gb4 ≠ gb8 by rw [hg]; exact Nat.ne_of_lt (blk_lt (g := gb4) (o := .cells #[.slice A0 l0.length c0] 29 (0, 0)) u7_15)); have N8_4 := (N4_8).symm; have m6_ := Aside0.mk (blk_below (g := gb6) (o := .cells #[.int .u64 a2] 33 (0, 0)) u7_17 hb); have N6_8 := (show gb6 ≠ gb8 by rw [hg]; exact Nat.ne_of_lt (blk_lt (g := gb6) (o := .cells #[.int .u64 a2] 33 (0, 0)) u7_17)); have N8_6 := (N6_8).symm; have m7_ := Aside0.mk (blk_below (g := gb7) (o := .cells #[.int .i64 a3] 3 (0, 0)) u7_31 hb); have N7_8 := (show gb7 ≠ gb8 by rw [hg]; exact Nat.ne_of_lt (blk_lt (g := gb7) (o := .cells #[.int .i64 a3] 3 (0, 0)) u7_31)); have N8_7 := (N7_8).symm; clear HB; have HB := n0_; have G8 := n1_; have BK8 := n2_; clear n0_ n1_ n2_; clear BK4; have BK4 := m4_; clear m4_; clear BK6; have BK6 := m6_; clear m6_; clear BK7; have BK7 := m7_; clear m7_; clear hbox hg hb; (try clear c4_ f4_); have c4_ : w8.cell? ⟨gb4, 0, none⟩ = some (.slice A0 l0.length c0) := (blk_cell BK4.out 0).trans rfl; have f4_ := blk_frozen BK4.out 0; (try clear c6_ f6_); have c6_ : w8.cell? ⟨gb6, 0, none⟩ = some (.int .u64 a2) := (blk_cell BK6.out 0).trans rfl; have f6_ := blk_frozen BK6.out 0; (try clear c7_ f7_); have c7_ : w8.cell? ⟨gb7, 0, none⟩ = some (.int .i64 a3) := (blk_cell BK7.out 0).trans rfl; have f7_ := blk_frozen BK7.out 0; (try clear c8_ f8_); have c8_ : w8.cell? ⟨gb8, 0, none⟩ = some (.slice none 0 0) := (blk_cell BK8.out 0).trans rfl; have f8_ := blk_frozen BK8.out 0) | ((with_reducible refine gate_callee (f := 60) rfl ?_); refine goesL_ (some 17) rfl rfl Try.func60 (by kernel_rfl) rfl #[.agg #[.slice A0 l0.length c0], .int .u64 a1, .func (.func 67) #[] #[.pointer (some ⟨gb6, 0, none⟩), .pointer (some ⟨gb7, 0, none⟩)]] rfl u7_36 ?_; (with_reducible refine (impl_LockDebit.change k _ _ l0 a1 a2 a3 gb6 gb7 _ _ _ ?side1 ?side2 c6_ c7_ HF.out).mono ?_); (case side1 => exact Kd.C_below HR.out HB.out); (case side2 => exact HC.out); rintro e w20 ⟨v20, rfl, ho0, hb⟩; refine ⟨_, rfl, ?_⟩; have HO := Aside0.mk (Kd.R_lower ho0 HB.out.size); obtain ⟨A1, c1, ev1⟩ := Kd.R_slice HO.out; subst ev1; have n1_ := Aside0.mk (below_step HB.out hb); have m_ := Aside0.mk (blk_below (g := gb8) (o := .cells #[.slice none 0 0] 29 (0, 0)) BK8.out hb); clear HB BK8; have HB := n1_; have BK8 := m_; clear n1_ m_; clear hb ho0; (try clear c8_ f8_); have c8_ : w20.cell? ⟨gb8, 0, none⟩ = some (.slice none 0 0) := (blk_cell BK8.out 0).trans rfl; have f8_ := blk_frozen BK8.out 0))
    refine bodyPost_ret (results_ct rfl _ _ gb8 29 #[.slice A1 r1.length c1] (0, 0) _ rfl (blk_put (cs := #[.slice none 0 0]) BK8.out 0 _ rfl) Try.underlying29 rfl (by kernel_rfl)) rfl ?_
    exact ⟨_, rfl, Kd.R_mono (Kd.R_far (p := ⟨gb8, 0, none⟩) (Kd.R_types HO.out BK8.out (by decide)) (fun _ hk => hk.2) _) (fun _ _ => trivial), below_set HB.out G8.out⟩
  rw [if_pos hg] at h
  obtain ⟨y, hy, h⟩ := Option.bind_eq_some_iff.1 h
  obtain ⟨rfl, rfl⟩ : y = r1 ∧ 1 = r2 := by injection h with h; injection h with h1 h2; exact ⟨h1, h2⟩
  have HF := Aside0.mk hy
  clear h hy
  have cg := decide_eq_true hg
  go_enter Try.func41, Try.ntmps41
  go_wp2_with (first | ((with_reducible refine gate_dst (N := 4) rfl ?_); refine box_event ?hg (N := 4) ?hd (cs := #[.slice A0 l0.length c0]) (t := 29) ?hr ?_; (case hd => rfl); (case hg => rfl); (case hr => first | (go_simp; done) | (go_simp; rfl)); intro gb4 hg w4 hbox hb; have n0_ := Aside0.mk (below_step u7_3 hb); have n1_ := Aside0.mk (show w.heap.size ≤ gb4 by rw [hg]; exact (below_size u7_3)); have n2_ := Aside0.mk hbox; clear HB; have HB := n0_; have G4 := n1_; have BK4 := n2_; clear n0_ n1_ n2_; clear hbox hg hb; (try clear c4_ f4_); have c4_ : w4.cell? ⟨gb4, 0, none⟩ = some (.slice A0 l0.length c0) := (blk_cell BK4.out 0).trans rfl; have f4_ := blk_frozen BK4.out 0) | ((with_reducible refine gate_dst (N := 6) rfl ?_); refine box_event ?hg (N := 6) ?hd (cs := #[.int .u64 a2]) (t := 33) ?hr ?_; (case hd => rfl); (case hg => rfl); (case hr => first | (go_simp; done) | (go_simp; rfl)); intro gb6 hg w6 hbox hb; have n0_ := Aside0.mk (below_step u7_3 hb); have n1_ := Aside0.mk (show w.heap.size ≤ gb6 by rw [hg]; exact (below_size u7_3)); have n2_ := Aside0.mk hbox; have m4_ := Aside0.mk (blk_below (g := gb4) (o := .cells #[.slice A0 l0.length c0] 29 (0, 0)) u7_15 hb); have N4_6 := (show gb4 ≠ gb6 by rw [hg]; exact Nat.ne_of_lt (blk_lt (g := gb4) (o := .cells #[.slice A0 l0.length c0] 29 (0, 0)) u7_15)); have N6_4 := (N4_6).symm; clear HB; have HB := n0_; have G6 := n1_; have BK6 := n2_; clear n0_ n1_ n2_; clear BK4; have BK4 := m4_; clear m4_; clear hbox hg hb; (try clear c4_ f4_); have c4_ : w6.cell? ⟨gb4, 0, none⟩ = some (.slice A0 l0.length c0) := (blk_cell BK4.out 0).trans rfl; have f4_ := blk_frozen BK4.out 0; (try clear c6_ f6_); have c6_ : w6.cell? ⟨gb6, 0, none⟩ = some (.int .u64 a2) := (blk_cell BK6.out 0).trans rfl; have f6_ := blk_frozen BK6.out 0) | ((with_reducible refine gate_dst (N := 7) rfl ?_); refine box_event ?hg (N := 7) ?hd (cs := #[.int .i64 a3]) (t := 3) ?hr ?_; (case hd => rfl); (case hg => rfl); (case hr => first | (go_simp; done) | (go_simp; rfl)); intro gb7 hg w7 hbox hb; have n0_ := Aside0.mk (below_step u7_3 hb); have n1_ := Aside0.mk (show w.heap.size ≤ gb7 by rw [hg]; exact (below_size u7_3)); have n2_ := Aside0.mk hbox; have m4_ := Aside0.mk (blk_below (g := gb4) (o := .cells #[.slice A0 l0.length c0] 29 (0, 0)) u7_15 hb); have N4_7 := (show gb4 ≠ gb7 by rw [hg]; exact Nat.ne_of_lt (blk_lt (g := gb4) (o := .cells #[.slice A0 l0.length c0] 29 (0, 0)) u7_15)); have N7_4 := (N4_7).symm; have m6_ := Aside0.mk (blk_below (g := gb6) (o := .cells #[.int .u64 a2] 33 (0, 0)) u7_17 hb); have N6_7 := (show gb6 ≠ gb7 by rw [hg]; exact Nat.ne_of_lt (blk_lt (g := gb6) (o := .cells #[.int .u64 a2] 33 (0, 0)) u7_17)); have N7_6 := (N6_7).symm; clear HB; have HB := n0_; have G7 := n1_; have BK7 := n2_; clear n0_ n1_ n2_; clear BK4; have BK4 := m4_; clear m4_; clear BK6; have BK6 := m6_; clear m6_; clear hbox hg hb; (try clear c4_ f4_); have c4_ : w7.cell? ⟨gb4, 0, none⟩ = some (.slice A0 l0.length c0) := (blk_cell BK4.out 0).trans rfl; have f4_ := blk_frozen BK4.out 0; (try clear c6_ f6_); have c6_ : w7.cell? ⟨gb6, 0, none⟩ = some (.int .u64 a2) := (blk_cell BK6.out 0).trans rfl; have f6_ := blk_frozen BK6.out 0; (try clear c7_ f7_); have c7_ : w7.cell? ⟨gb7, 0, none⟩ = some (.int .i64 a3) := (blk_cell BK7.out 0).trans rfl; have f7_ := blk_frozen BK7.out 0) | ((with_reducible refine gate_dst (N := 8) rfl ?_); refine box_event ?hg (N := 8) ?hd (cs := #[.slice none 0 0]) (t := 29) ?hr ?_; (case hd => rfl); (case hg => rfl); (case hr => first | (go_simp; done) | (go_simp; rfl)); intro gb8 hg w8 hbox hb; have n0_ := Aside0.mk (below_step u7_3 hb); have n1_ := Aside0.mk (show w.heap.size ≤ gb8 by rw [hg]; exact (below_size u7_3)); have n2_ := Aside0.mk hbox; have m4_ := Aside0.mk (blk_below (g := gb4) (o := .cells #[.slice A0 l0.length c0] 29 (0, 0)) u7_15 hb); have N4_8 := (show gb4 ≠ gb8 by rw [hg]; exact Nat.ne_of_lt (blk_lt (g := gb4) (o := .cells #[.slice A0 l0.length c0] 29 (0, 0)) u7_15)); have N8_4 := (N4_8).symm; have m6_ := Aside0.mk (blk_below (g := gb6) (o := .cells #[.int .u64 a2] 33 (0, 0)) u7_17 hb); have N6_8 := (show gb6 ≠ gb8 by rw [hg]; exact Nat.ne_of_lt (blk_lt (g := gb6) (o := .cells #[.int .u64 a2] 33 (0, 0)) u7_17)); have N8_6 := (N6_8).symm; have m7_ := Aside0.mk (blk_below (g := gb7) (o := .cells #[.int .i64 a3] 3 (0, 0)) u7_31 hb); have N7_8 := (show gb7 ≠ gb8 by rw [hg]; exact Nat.ne_of_lt (blk_lt (g := gb7) (o := .cells #[.int .i64 a3] 3 (0, 0)) u7_31)); have N8_7 := (N7_8).symm; clear HB; have HB := n0_; have G8 := n1_; have BK8 := n2_; clear n0_ n1_ n2_; clear BK4; have BK4 := m4_; clear m4_; clear BK6; have BK6 := m6_; clear m6_; clear BK7; have BK7 := m7_; clear m7_; clear hbox hg hb; (try clear c4_ f4_); have c4_ : w8.cell? ⟨gb4, 0, none⟩ = some (.slice A0 l0.length c0) := (blk_cell BK4.out 0).trans rfl; have f4_ := blk_frozen BK4.out 0; (try clear c6_ f6_); have c6_ : w8.cell? ⟨gb6, 0, none⟩ = some (.int .u64 a2) := (blk_cell BK6.out 0).trans rfl; have f6_ := blk_frozen BK6.out 0; (try clear c7_ f7_); have c7_ : w8.cell? ⟨gb7, 0, none⟩ = some (.int .i64 a3) := (blk_cell BK7.out 0).trans rfl; have f7_ := blk_frozen BK7.out 0; (try clear c8_ f8_); have c8_ : w8.cell? ⟨gb8, 0, none⟩ = some (.slice none 0 0) := (blk_cell BK8.out 0).trans rfl; have f8_ := blk_frozen BK8.out 0) | ((with_reducible refine gate_callee (f := 56) rfl ?_); refine goesL_ (some 13) rfl rfl Try.func56 (by kernel_rfl) rfl #[.agg #[.slice A0 l0.length c0]] rfl u7_36 ?_; (with_reducible refine (impl_copyBook.calls _ _ l0 y _ ?side1 ?side2 HF.out).mono ?_); (case side1 => exact Kd.C_below HR.out HB.out); (case side2 => exact HC.out); rintro e w20 ⟨v20, rfl, ho0, hb⟩; refine ⟨_, rfl, ?_⟩; have HO := Aside0.mk (Kd.R_lower ho0 HB.out.size); obtain ⟨A1, c1, ev1⟩ := Kd.R_slice HO.out; subst ev1; have n1_ := Aside0.mk (below_step HB.out hb); have m_ := Aside0.mk (blk_below (g := gb8) (o := .cells #[.slice none 0 0] 29 (0, 0)) BK8.out hb); clear HB BK8; have HB := n1_; have BK8 := m_; clear n1_ m_; clear hb ho0; (try clear c8_ f8_); have c8_ : w20.cell? ⟨gb8, 0, none⟩ = some (.slice none 0 0) := (blk_cell BK8.out 0).trans rfl; have f8_ := blk_frozen BK8.out 0))
  refine bodyPost_ret (results_ct rfl _ _ gb8 29 #[.slice A1 y.length c1] (0, 0) _ rfl (blk_put (cs := #[.slice none 0 0]) BK8.out 0 _ rfl) Try.underlying29 rfl (by kernel_rfl)) rfl ?_
  exact ⟨_, rfl, Kd.R_mono (Kd.R_far (p := ⟨gb8, 0, none⟩) (Kd.R_types HO.out BK8.out (by decide)) (fun _ hk => hk.2) _) (fun _ _ => trivial), below_set HB.out G8.out⟩


/-! ### laws_big: function 44 -/
def laws_big.f (l0 : List Int) : Option (Bool) := some (decide ((l0.length : Int) > 1048576))
set_option maxHeartbeats 8000000 in
set_option maxRecDepth 100000 in
theorem laws_big.calls (A0 : Option Addr) (c0 : Nat) (l0 : List Int) (r : Bool) (w : World) (hr0 : Kd.C (Kd.int .u8) w A0 l0.length l0) (hc0 : l0.length ≤ c0) (h : laws_big.f l0 = some r) :
    Calls Try.prog 44 #[.slice A0 l0.length c0] w fun e w' => e = .returned (.bool r) ∧ Drawn0 w w' := by
  have HR0 := Aside0.mk hr0
  have HC0 := Aside0.mk hc0
  clear hr0 hc0
  have H : (some (decide ((l0.length : Int) > 1048576))) = some r := h
  clear h
  obtain rfl := Option.some.inj H
  go_enter Try.func44, Try.ntmps44
  go_wp2
  go_ret
  exact ⟨by first | rfl | (simp; done) | (simp [*]; done), (by repeat (first | exact Drawn0.refl _ | apply Drawn0.step))⟩

/-- A state of type 83 at block g of W; what its slices lead to came in by w0. -/
def IsS83 (w0 W : World) (g : Nat) (f0 : List Int) (f1 : Int) (f2 : Int) : Prop := ∃ A0 c0, W.heap[g]? = some (.cells #[.slice A0 f0.length c0, .int .i64 f1, .int .i64 f2] 83 (0, 0)) ∧ w0.heap.size ≤ g ∧ Kd.C (Kd.int .u8) w0 A0 f0.length f0
theorem IsS83.grown {w0 W : World} {g : Nat} {f0 : List Int} {f1 : Int} {f2 : Int} {W1 : World} {row : Option Nat} (h : IsS83 w0 W g f0 f1 f2) (hw : W.grownBy W1 row) (hne : some g ≠ row) : IsS83 w0 W1 g f0 f1 f2 := by
  obtain ⟨A0, c0, hb, hg, hr0⟩ := h
  exact ⟨A0, c0, blk_grown hb hw hne, hg, hr0⟩
theorem IsS83.own_neN {w0 W : World} {g : Nat} {f0 : List Int} {f1 : Int} {f2 : Int} {α : Type} {d : Kd α} {e : Nat} {base : Nat} {ok : Nat → Prop} {v : Value} {xs : List α} (h : IsS83 w0 W g f0 f1 f2) (ho : Kd.N d e W base ok v xs) (ht : e ≠ 83) : some g ≠ v.ownBlock := by
  obtain ⟨A0, c0, hb, hg, hr0⟩ := h
  exact Kd.N_ne ho hb ht
theorem IsS83.fresh {w0 W : World} {g : Nat} {f0 : List Int} {f1 : Int} {f2 : Int} (h : IsS83 w0 W g f0 f1 f2) : ∀ k, W.heap.size ≤ k → k ≠ g := by
  obtain ⟨A0, c0, hb, hg, hr0⟩ := h
  exact Kd.freshB hb
theorem IsS83.kept {w0 W : World} {g : Nat} {f0 : List Int} {f1 : Int} {f2 : Int} {W1 : World} {S : Nat → Prop} (h : IsS83 w0 W g f0 f1 f2) (hk : Kept W W1 S) (hne : ¬ S g) : IsS83 w0 W1 g f0 f1 f2 := by
  obtain ⟨A0, c0, hb, hg, hr0⟩ := h
  exact ⟨A0, c0, blk_kept hb hk hne, hg, hr0⟩
theorem IsS83.below {w0 W : World} {g : Nat} {f0 : List Int} {f1 : Int} {f2 : Int} {W1 : World} (h : IsS83 w0 W g f0 f1 f2) (hw : Below W.heap.size W W1) : IsS83 w0 W1 g f0 f1 f2 := h.grown (grown_of_below hw none) (by simp)
theorem IsS83.alloc {w0 W : World} {g : Nat} {f0 : List Int} {f1 : Int} {f2 : Int} (h : IsS83 w0 W g f0 f1 f2) (o : Obj) : IsS83 w0 (W.alloc o) g f0 f1 f2 := h.below (below_alloc (Below.refl _ _) o)
theorem IsS83.drewN {w0 W : World} {g : Nat} {f0 : List Int} {f1 : Int} {f2 : Int} (h : IsS83 w0 W g f0 f1 f2) (m : Nat) : IsS83 w0 (W.drewN m) g f0 f1 f2 := h
theorem IsS83.drew {w0 W : World} {g : Nat} {f0 : List Int} {f1 : Int} {f2 : Int} (h : IsS83 w0 W g f0 f1 f2) : IsS83 w0 W.drew g f0 f1 f2 := h
theorem IsS83.at_ {w0 W : World} {g : Nat} {f0 : List Int} {f1 : Int} {f2 : Int} {w' : World} {m : Nat} (hq : W.drewN m = w') (h : IsS83 w0 W g f0 f1 f2) : IsS83 w0 w' g f0 f1 f2 := by subst hq; exact IsS83.drewN h m
theorem IsS83.apart {w0 W : World} {g : Nat} {f0 : List Int} {f1 : Int} {f2 : Int} {α : Type} {d : Kd α} {e : Nat} {base : Nat} {ok : Nat → Prop} {v : Value} {xs : List α} (h : IsS83 w0 W g f0 f1 f2) (ho : d.R e W base ok v xs) (ht : ∀ q, q ∈ e :: d.E → q ≠ 83) : d.R e W base (fun k => ok k ∧ k ≠ g) v xs := by
  obtain ⟨A0, c0, hb, hg, hr0⟩ := h
  exact Kd.R_types ho hb ht
theorem IsS83.own_ne {w0 W : World} {g : Nat} {f0 : List Int} {f1 : Int} {f2 : Int} {α : Type} {d : Kd α} {e : Nat} {base : Nat} {ok : Nat → Prop} {v : Value} {xs : List α} (h : IsS83 w0 W g f0 f1 f2) (ho : d.R e W base ok v xs) (ht : e ≠ 83) : some g ≠ v.ownBlock := by
  obtain ⟨A0, c0, hb, hg, hr0⟩ := h
  exact Kd.R_ne ho hb ht
theorem IsS83.apartQ {w0 W : World} {g : Nat} {f0 : List Int} {f1 : Int} {f2 : Int} {α : Type} {d : Kd α} {e : Nat} {base : Nat} {ok : Nat → Prop} {v : Value} {xs : List α} (h : IsS83 w0 W g f0 f1 f2) (ho : d.Q e W base ok v xs) (ht : ∀ q, q ∈ e :: d.E → q ≠ 83) : d.Q e W base (fun k => ok k ∧ k ≠ g) v xs := by
  obtain ⟨A0, c0, hb, hg, hr0⟩ := h
  exact Kd.Q_types ho hb ht
theorem IsS83.own_neQ {w0 W : World} {g : Nat} {f0 : List Int} {f1 : Int} {f2 : Int} {α : Type} {d : Kd α} {e : Nat} {base : Nat} {ok : Nat → Prop} {v : Value} {xs : List α} (h : IsS83 w0 W g f0 f1 f2) (ho : d.Q e W base ok v xs) (ht : e ≠ 83) : some g ≠ v.ownBlock := by
  obtain ⟨A0, c0, hb, hg, hr0⟩ := h
  exact Kd.Q_ne ho hb ht
theorem IsS83.apartS {w0 W : World} {g : Nat} {f0 : List Int} {f1 : Int} {f2 : Int} {α : Type} {d : Kd α} {e : Nat} {base : Nat} {ok : Nat → Prop} {v : Value} {xs : List α} (h : IsS83 w0 W g f0 f1 f2) (ho : d.S e W base ok v xs) (ht : ∀ q, q ∈ e :: d.E → q ≠ 83) : d.S e W base (fun k => ok k ∧ k ≠ g) v xs := by
  obtain ⟨A0, c0, hb, hg, hr0⟩ := h
  exact Kd.S_types ho hb ht
theorem IsS83.own_neS {w0 W : World} {g : Nat} {f0 : List Int} {f1 : Int} {f2 : Int} {α : Type} {d : Kd α} {e : Nat} {base : Nat} {ok : Nat → Prop} {v : Value} {xs : List α} (h : IsS83 w0 W g f0 f1 f2) (ho : d.S e W base ok v xs) (ht : e ≠ 83) : some g ≠ v.ownBlock := by
  obtain ⟨A0, c0, hb, hg, hr0⟩ := h
  exact Kd.S_ne ho hb ht
theorem IsS83.lt {w0 W : World} {g : Nat} {f0 : List Int} {f1 : Int} {f2 : Int} (h : IsS83 w0 W g f0 f1 f2) : g < W.heap.size := by
  obtain ⟨A0, c0, hb, hg, hr0⟩ := h
  exact blk_lt hb
theorem IsS83.ge {w0 W : World} {g : Nat} {f0 : List Int} {f1 : Int} {f2 : Int} (h : IsS83 w0 W g f0 f1 f2) : w0.heap.size ≤ g := by
  obtain ⟨A0, c0, hb, hg, hr0⟩ := h
  exact hg
theorem IsS83.ne_blk {w0 W : World} {g : Nat} {f0 : List Int} {f1 : Int} {f2 : Int} {a : Nat} {cs : Array Value} {t : TypeId} {fr : Nat × Nat} (h : IsS83 w0 W g f0 f1 f2) (hb2 : W.heap[a]? = some (.cells cs t fr)) (ht : t ≠ 83) : g ≠ a := by
  obtain ⟨A0, c0, hb, hg, hr0⟩ := h
  rintro rfl
  rw [hb] at hb2
  injection hb2 with hb2
  injection hb2 with _ ht2
  exact ht ht2.symm
theorem IsS83.far {w0 W : World} {g : Nat} {f0 : List Int} {f1 : Int} {f2 : Int} {p : Addr} (h : IsS83 w0 W g f0 f1 f2) (hne : g ≠ p.block) (u : Value) : IsS83 w0 (W.setCell p u) g f0 f1 f2 := by
  obtain ⟨A0, c0, hb, hg, hr0⟩ := h
  exact ⟨A0, c0, blk_far hb hne u, hg, hr0⟩
theorem cellS83_0 {W : World} {g : Nat} {A0 : Option Addr} {c0 : Nat} {f0 : List Int} {f1 : Int} {f2 : Int} (h : W.heap[g]? = some (.cells #[.slice A0 f0.length c0, .int .i64 f1, .int .i64 f2] 83 (0, 0))) : W.cell? ⟨g, 0, none⟩ = some (.slice A0 f0.length c0) := (blk_cell h 0).trans rfl
theorem cellS83_1 {W : World} {g : Nat} {A0 : Option Addr} {c0 : Nat} {f0 : List Int} {f1 : Int} {f2 : Int} (h : W.heap[g]? = some (.cells #[.slice A0 f0.length c0, .int .i64 f1, .int .i64 f2] 83 (0, 0))) : W.cell? ⟨g, 1, none⟩ = some (.int .i64 f1) := (blk_cell h 1).trans rfl
theorem IsS83.set_1 {w0 W : World} {g : Nat} {f0 : List Int} {f1 : Int} {f2 : Int} (h : IsS83 w0 W g f0 f1 f2) (x : Int) : IsS83 w0 (W.setCell ⟨g, 1, none⟩ (.int .i64 x)) g f0 x f2 := by
  obtain ⟨A0, c0, hb, hg, hr0⟩ := h
  exact ⟨A0, c0, (by simpa using blk_set hb 1 (.int .i64 x)), hg, hr0⟩
theorem cellS83_2 {W : World} {g : Nat} {A0 : Option Addr} {c0 : Nat} {f0 : List Int} {f1 : Int} {f2 : Int} (h : W.heap[g]? = some (.cells #[.slice A0 f0.length c0, .int .i64 f1, .int .i64 f2] 83 (0, 0))) : W.cell? ⟨g, 2, none⟩ = some (.int .i64 f2) := (blk_cell h 2).trans rfl
theorem IsS83.set_2 {w0 W : World} {g : Nat} {f0 : List Int} {f1 : Int} {f2 : Int} (h : IsS83 w0 W g f0 f1 f2) (x : Int) : IsS83 w0 (W.setCell ⟨g, 2, none⟩ (.int .i64 x)) g f0 f1 x := by
  obtain ⟨A0, c0, hb, hg, hr0⟩ := h
  exact ⟨A0, c0, (by simpa using blk_set hb 2 (.int .i64 x)), hg, hr0⟩
theorem IsS83.new (w0 W : World) (A0 : Option Addr) (c0 : Nat) (f0 : List Int) (f1 : Int) (f2 : Int) (hB : Below w0.heap.size w0 W) (hr0 : Kd.C (Kd.int .u8) w0 A0 f0.length f0) : IsS83 w0 (W.alloc (.cells #[.slice A0 f0.length c0, .int .i64 f1, .int .i64 f2] 83)) W.heap.size f0 f1 f2 := ⟨A0, c0, by simpa using heap_alloc_new W _, hB.size, hr0⟩

/-! ### spec_l01New: function 70 -/
def spec_l01New.l0 : Nat → List Int → Int → Int → Option (List Int × Int × Int)
  | 0, _, _, _ => none
  | k + 1, x0, x3, x4 => if x4 < (x0.length : Int) then (if x4 < 4000 then (if 0 ≤ x4 then (spec_l01New.l0 k x0 (Go.bits .and .i64 (wrap64 ((wrap64 ((wrap64 (x3 * 149)) + (wrap64 (rd x0 x4)))) + 11)) 1073741823) (wrap64 (x4 + 1))) else (none)) else (some (x0, 0, x3))) else (some (x0, 0, x3))
def spec_l01New.f (k : Nat) (l0 : List Int) : Option (List Int × Int × Int) := spec_l01New.l0 k l0 (wrap64 (138138 + (l0.length : Int))) 0
theorem spec_l01New.mono_l : ∀ k, (∀ y0 y1 y2, LeO (spec_l01New.l0 k y0 y1 y2) (spec_l01New.l0 (k + 1) y0 y1 y2))
  | 0 => fun _ _ _ r h => by simp [spec_l01New.l0] at h
  | k + 1 => by
    have ih0 := spec_l01New.mono_l k
    · intro y0 y1 y2
      unfold spec_l01New.l0
      repeat' first
      | (with_reducible exact ih0 _ _ _)
      | (with_reducible exact LeO.refl _)
      | (with_reducible exact LeO.none _)
      | (with_reducible refine LeO.ite ?_ ?_)
      | (with_reducible refine LeO.bind ?_ (fun _ => ?_))
      | exact ih0 _ _ _
      | exact LeO.none _
      | refine LeO.ite ?_ ?_
      | refine LeO.bind ?_ (fun _ => ?_)
theorem spec_l01New.mono : ∀ a0 k, LeO (spec_l01New.f k a0) (spec_l01New.f (k + 1) a0) := by
  intro a0 k
  have ih0 := spec_l01New.mono_l k
  unfold spec_l01New.f
  repeat' first
      | (with_reducible exact ih0 _ _ _)
      | (with_reducible exact LeO.refl _)
      | (with_reducible exact LeO.none _)
      | (with_reducible refine LeO.ite ?_ ?_)
      | (with_reducible refine LeO.bind ?_ (fun _ => ?_))
      | exact ih0 _ _ _
      | exact LeO.none _
      | refine LeO.ite ?_ ?_
      | refine LeO.bind ?_ (fun _ => ?_)
set_option maxHeartbeats 8000000 in
set_option maxRecDepth 100000 in
theorem spec_l01New.calls (k : Nat) (A0 : Option Addr) (c0 : Nat) (l0 : List Int) (r1 : List Int) (r2 : Int) (r3 : Int) (w0 w : World) (hB : Below w0.heap.size w0 w) (hr0 : Kd.C (Kd.int .u8) w0 A0 l0.length l0) (hc0 : l0.length ≤ c0) (h : spec_l01New.f k l0 = some (r1, r2, r3)) :
    Calls Try.prog 70 #[.slice A0 l0.length c0] w fun e w' => ∃ g_ : Nat, e = .returned (.pointer (some ⟨g_, 0, none⟩)) ∧ IsS83 w0 w' g_ r1 r2 r3 ∧ Below w0.heap.size w0 w' ∧ Below w.heap.size w w' := by
  have hu83 := Try.underlying83
  have HR0 := Aside0.mk hr0
  have HC0 := Aside0.mk hc0
  clear hr0 hc0
  have HBW := Aside0.mk (Below.refl w.heap.size w)
  have HW0 := Aside0.mk hB.size
  have HB := Aside0.mk hB
  clear hB
  have H : (spec_l01New.l0 k l0 (wrap64 (138138 + (l0.length : Int))) 0) = some (r1, r2, r3) := h
  clear h
  have H' := Aside0.mk H
  clear H
  go_enter Try.func70, Try.ntmps70
  go_wp2
  go_loopg [3, 4] k (fun kq v3 v4 w' => ∃ (x3_1 : Int) (x4_1 : Int), v3 = .int .i64 x3_1 ∧ v4 = .int .i64 x4_1 ∧ Aside0 (spec_l01New.l0 kq l0 x3_1 x4_1 = some (r1, r2, r3)) ∧ Aside0 (kq ≤ k) ∧ Aside0 (Below w0.heap.size w0 w') ∧ Aside0 (Below w.heap.size w w'))
  case atStart => exact ⟨(wrap64 (138138 + (l0.length : Int))), (0), u7_35, u7_35, H', ⟨Nat.le_refl _⟩, ⟨u7_3⟩, ⟨u7_21⟩⟩
  clear H'
  obtain ⟨x3_1, x4_1, rfl, rfl, HA, HK1, HB, HBW⟩ := hrel
  cases gk with
  | zero => exact absurd HA.out (by simp [spec_l01New.l0])
  | succ k1 =>
    have H := HA.out
    clear HA
    simp only [spec_l01New.l0] at H
    by_cases c2 : x4_1 < (l0.length : Int)
    rotate_left
    · rw [if_neg c2] at H
      have c2b0 : decide (x4_1 < (l0.length : Int)) = false := decide_eq_false c2
      clear c2
      simp only [Option.some.injEq, Prod.mk.injEq] at H
      obtain ⟨rfl, rfl, rfl⟩ := H
      go_wp2_with (first | ((with_reducible refine gate_dst (N := 31) rfl ?_); refine box_event ?hg (N := 31) ?hd (cs := #[.slice A0 l0.length c0, .int .i64 0, .int .i64 x3_1]) (t := 83) ?hr ?_; (case hd => rfl); (case hg => rfl); (case hr => first | (go_simp; done) | (go_simp; rfl)); intro gb206 hg w6 hbox hb; have n0_ := Aside0.mk (below_step HBW.out hb); have n1_ := Aside0.mk (below_step u7_3 hb); have n2_ := Aside0.mk (hbox); have n3_ := Aside0.mk ((by rw [hg]; exact (below_size u7_21) : w.heap.size ≤ gb206)); have n4_ := Aside0.mk ((Nat.le_trans HW0.out (by rw [hg]; exact (below_size u7_21) : w.heap.size ≤ gb206) : w0.heap.size ≤ gb206)); clear HBW; clear HB; have HBW := n0_; have HB := n1_; have BK206 := n2_; have GW206 := n3_; have GE206 := n4_; clear n0_ n1_ n2_ n3_ n4_; clear hb hbox hg))
      go_ret
      exact ⟨_, rfl, (show IsS83 w0 _ gb206 l0 0 x3_1 from ⟨_, _, (by (with_reducible repeat (first | refine blk_drewN ?_ _ | refine blk_drew ?_ | refine blk_alloc ?_ _)); exact BK206.out), GE206.out, HR0.out⟩), (by repeat (first | (with_reducible first | exact HB.out | apply below_alloc | apply pw_below_drewN | apply below_drew1 | refine below_set ?_ GE206.out) | exact HB.out)), (by repeat (first | (with_reducible first | exact HBW.out | apply below_alloc | apply pw_below_drewN | apply below_drew1 | refine below_set ?_ GW206.out) | exact HBW.out))⟩
    rw [if_pos c2] at H
    have c2b0 : decide (x4_1 < (l0.length : Int)) = true := decide_eq_true c2
    clear c2
    by_cases c3 : x4_1 < 4000
    · rw [if_pos c3] at H
      have c3b0 : decide (x4_1 < 4000) = true := decide_eq_true c3
      clear c3
      by_cases c4 : 0 ≤ x4_1
      rotate_left
      · rw [if_neg c4] at H
        exact absurd H (by simp)
      rw [if_pos c4] at H
      have c4b0 : decide (0 ≤ x4_1) = true := decide_eq_true c4
      clear c4
      have H' := Aside0.mk H
      clear H
      have p204 : 0 ≤ (x4_1 : Int) := of_decide_eq_true (by first | (with_reducible assumption) | assumption)
      have q204 : x4_1 < (l0.length : Int) := of_decide_eq_true (by first | (with_reducible assumption) | assumption)
      obtain ⟨ad204, e204, hx204_0⟩ := Kd.at_int HR0.out x4_1 p204 q204
      cases e204
      replace hx204_0 := pw_cell_below HB.out hx204_0
      replace p204 := eq_true p204
      replace q204 := eq_true q204
      go_wp2
      go_roundg k1
      case measure => have := HK1.out; omega
      case rel => exact ⟨(Go.bits .and .i64 (wrap64 ((wrap64 ((wrap64 (x3_1 * 149)) + (wrap64 (rd l0 x4_1)))) + 11)) 1073741823), (wrap64 (x4_1 + 1)), u7_35, u7_35, H', ⟨by have := HK1.out; omega⟩, ⟨u7_3⟩, ⟨u7_21⟩⟩
    rw [if_neg c3] at H
    have c3b0 : decide (x4_1 < 4000) = false := decide_eq_false c3
    clear c3
    simp only [Option.some.injEq, Prod.mk.injEq] at H
    obtain ⟨rfl, rfl, rfl⟩ := H
    go_wp2_with (first | ((with_reducible refine gate_dst (N := 31) rfl ?_); refine box_event ?hg (N := 31) ?hd (cs := #[.slice A0 l0.length c0, .int .i64 0, .int .i64 x3_1]) (t := 83) ?hr ?_; (case hd => rfl); (case hg => rfl); (case hr => first | (go_simp; done) | (go_simp; rfl)); intro gb205 hg w5 hbox hb; have n0_ := Aside0.mk (below_step HBW.out hb); have n1_ := Aside0.mk (below_step u7_3 hb); have n2_ := Aside0.mk (hbox); have n3_ := Aside0.mk ((by rw [hg]; exact (below_size u7_21) : w.heap.size ≤ gb205)); have n4_ := Aside0.mk ((Nat.le_trans HW0.out (by rw [hg]; exact (below_size u7_21) : w.heap.size ≤ gb205) : w0.heap.size ≤ gb205)); clear HBW; clear HB; have HBW := n0_; have HB := n1_; have BK205 := n2_; have GW205 := n3_; have GE205 := n4_; clear n0_ n1_ n2_ n3_ n4_; clear hb hbox hg))
    go_ret
    exact ⟨_, rfl, (show IsS83 w0 _ gb205 l0 0 x3_1 from ⟨_, _, (by (with_reducible repeat (first | refine blk_drewN ?_ _ | refine blk_drew ?_ | refine blk_alloc ?_ _)); exact BK205.out), GE205.out, HR0.out⟩), (by repeat (first | (with_reducible first | exact HB.out | apply below_alloc | apply pw_below_drewN | apply below_drew1 | refine below_set ?_ GE205.out) | exact HB.out)), (by repeat (first | (with_reducible first | exact HBW.out | apply below_alloc | apply pw_below_drewN | apply below_drew1 | refine below_set ?_ GW205.out) | exact HBW.out))⟩

/-! ### spec_ReleaseHold: function 30 -/
def spec_ReleaseHold.f (k : Nat) (l0_0 : List (S53)) (a1 : Int) (a2 : Int) : Option ((List (S53)) × Int) := (spec_l10Of.f k l0_0 a1 a2).bind fun bt209 => (if bt209.2.2.2.2.2 = 0 then (if bt209.2.2.2.2.1 = a2 then ((spec_l10With.f k l0_0 a1 (IntKind.u64.wrap (bt209.2.1 + bt209.2.2.1)) 0 0 0).bind fun t216 => (some (t216, 0))) else ((spec_l10Copy.f k l0_0).bind fun t219 => (some (t219, 7)))) else ((spec_l10Copy.f k l0_0).bind fun t222 => (some (t222, bt209.2.2.2.2.2))))
theorem spec_ReleaseHold.mono : ∀ a0 a1 a2 k, LeO (spec_ReleaseHold.f k a0 a1 a2) (spec_ReleaseHold.f (k + 1) a0 a1 a2) := by
  intro a0 a1 a2 k
  unfold spec_ReleaseHold.f
  repeat' first
      | (with_reducible exact spec_l10Copy.mono _ _)
      | (with_reducible exact spec_l10Of.mono _ _ _ _)
      | (with_reducible exact spec_l10With.mono _ _ _ _ _ _ _)
      | (with_reducible exact LeO.refl _)
      | (with_reducible exact LeO.none _)
      | (with_reducible refine LeO.ite ?_ ?_)
      | (with_reducible refine LeO.bind ?_ (fun _ => ?_))
      | exact spec_l10Copy.mono _ _
      | exact spec_l10Of.mono _ _ _ _
      | exact spec_l10With.mono _ _ _ _ _ _ _
      | exact LeO.none _
      | refine LeO.ite ?_ ?_
      | refine LeO.bind ?_ (fun _ => ?_)
set_option maxHeartbeats 8000000 in
set_option maxRecDepth 100000 in
theorem spec_ReleaseHold.calls (k : Nat) (A0_0 : Option Addr) (c0_0 : Nat) (l0_0 : List (S53)) (a1 : Int) (a2 : Int) (r1 : List (S53)) (r2 : Int) (w : World) (hr0_0 : Kd.C k53 w A0_0 l0_0.length l0_0) (hc0_0 : l0_0.length ≤ c0_0) (h : spec_ReleaseHold.f k l0_0 a1 a2 = some (r1, r2)) :
    Calls Try.prog 30 #[.agg #[.slice A0_0 l0_0.length c0_0], .int .u64 a1, .int .i64 a2] w fun e w' => ∃ v0_ : Value, e = .returned (.tuple #[.agg #[v0_], .int .i64 r2]) ∧ Kd.R k53 53 w' w.heap.size (fun _ => True) v0_ r1 ∧ Below w.heap.size w w' := by
  have hu29 := Try.underlying29
  have hu53 := Try.underlying53
  have HR0_0 := Aside0.mk hr0_0
  have HC0_0 := Aside0.mk hc0_0
  clear hr0_0 hc0_0
  have HB := Aside0.mk (Below.refl w.heap.size w)
  have H : ((spec_l10Of.f k l0_0 a1 a2).bind fun bt209 => (if bt209.2.2.2.2.2 = 0 then (if bt209.2.2.2.2.1 = a2 then ((spec_l10With.f k l0_0 a1 (IntKind.u64.wrap (bt209.2.1 + bt209.2.2.1)) 0 0 0).bind fun t216 => (some (t216, 0))) else ((spec_l10Copy.f k l0_0).bind fun t219 => (some (t219, 7)))) else ((spec_l10Copy.f k l0_0).bind fun t222 => (some (t222, bt209.2.2.2.2.2))))) = some (r1, r2) := h
  clear h
  replace H := Option.bind_eq_some_iff.mp H
  obtain ⟨⟨t209, t210, t211, t212, t213, t214⟩, A40, H⟩ := H
  (try dsimp only at H)
  have A4 := Aside0.mk A40
  clear A40
  have H9 := Aside0.mk H
  clear H
  go_enter Try.func30, Try.ntmps30
  go_upto_if 17 with (first | ((with_reducible refine gate_dst (N := 3) rfl ?_); refine box_event ?hg (N := 3) ?hd (cs := #[.slice A0_0 l0_0.length c0_0]) (t := 29) ?hr ?_; (case hd => rfl); (case hg => rfl); (case hr => first | (go_simp; done) | (go_simp; rfl)); intro gb207 hg w5 hbox hb; have n0_ := Aside0.mk (below_step u7_3 hb); have n1_ := Aside0.mk (hbox); have n2_ := Aside0.mk ((by rw [hg]; exact (below_size u7_3) : w.heap.size ≤ gb207)); have n3_ := Aside0.mk ((by rw [hg]; exact (below_size u7_3) : w.heap.size ≤ gb207)); clear HB; have HB := n0_; have BK207 := n1_; have GW207 := n2_; have GE207 := n3_; clear n0_ n1_ n2_ n3_; clear hb hbox hg) | ((with_reducible refine gate_dst (N := 6) rfl ?_); refine box_event ?hg (N := 6) ?hd (cs := #[.slice none 0 0]) (t := 29) ?hr ?_; (case hd => rfl); (case hg => rfl); (case hr => first | (go_simp; done) | (go_simp; rfl)); intro gb208 hg w6 hbox hb; have n0_ := Aside0.mk (blk_below (g := gb207) (o := .cells #[.slice A0_0 l0_0.length c0_0] 29 (0, 0)) u7_19 hb); have n1_ := Aside0.mk (below_step u7_33 hb); have n2_ := Aside0.mk (hbox); have n3_ := Aside0.mk ((by rw [hg]; exact (below_size u7_33) : w.heap.size ≤ gb208)); have n4_ := Aside0.mk ((by rw [hg]; exact (below_size u7_33) : w.heap.size ≤ gb208)); have n5_ := Aside0.mk ((by rw [hg]; exact Nat.ne_of_lt (blk_lt (g := gb207) (o := .cells #[.slice A0_0 l0_0.length c0_0] 29 (0, 0)) u7_19) : gb207 ≠ gb208)); have n6_ := Aside0.mk ((by rw [hg]; exact Nat.ne_of_gt (blk_lt (g := gb207) (o := .cells #[.slice A0_0 l0_0.length c0_0] 29 (0, 0)) u7_19) : gb208 ≠ gb207)); clear BK207; clear HB; have BK207 := n0_; have HB := n1_; have BK208 := n2_; have GW208 := n3_; have GE208 := n4_; have NB207_208 := n5_; have NB208_207 := n6_; clear n0_ n1_ n2_ n3_ n4_ n5_ n6_; clear hb hbox hg; have hnb7 := NB207_208.out; have hnc7 := NB208_207.out; have hcz8_0 : w6.cell? ⟨gb207, 0, none⟩ = some (.slice A0_0 l0_0.length c0_0) := (blk_cell BK207.out 0).trans rfl; have hfz8_0 := blk_frozen BK207.out 0) | ((with_reducible refine gate_callee (f := 53) rfl ?_); refine goesL_ (some 14) rfl rfl Try.func53 (by kernel_rfl) rfl #[.agg #[.slice A0_0 l0_0.length c0_0], .int .u64 a1, .int .i64 a2] rfl u7_8 ?_; (with_reducible refine (spec_l10Of.calls k _ _ l0_0 a1 a2 t209 t210 t211 t212 t213 t214 _ ?side1 ?side2 A4.out).mono ?_); (case side1 => exact u7_27); (case side2 => exact HC0_0.out); rintro e w9 ⟨rfl, hb⟩; refine ⟨_, rfl, ?_⟩; have n0_ := Aside0.mk (blk_below (g := gb207) (o := .cells #[.slice A0_0 l0_0.length c0_0] 29 (0, 0)) u7_19 hb); have n1_ := Aside0.mk (blk_below (g := gb208) (o := .cells #[.slice none 0 0] 29 (0, 0)) u7_29 hb); have n2_ := Aside0.mk (below_step u7_23 hb); clear BK207; clear BK208; clear HB; have BK207 := n0_; have BK208 := n1_; have HB := n2_; clear n0_ n1_ n2_; (try clear hb); (try clear hb2); (try clear hk); (try clear hi)) | ((with_reducible refine gate_dst (N := 8) rfl ?_); refine box_event ?hg (N := 8) ?hd (cs := #[.int .u64 0, .int .u64 0, .int .u64 0, .int .u64 0, .int .i64 0]) (t := 53) ?hr ?_; (case hd => rfl); (case hg => rfl); (case hr => first | (go_simp; done) | (go_simp; rfl)); intro gb215 hg w10 hbox hb; have n0_ := Aside0.mk (blk_below (g := gb207) (o := .cells #[.slice A0_0 l0_0.length c0_0] 29 (0, 0)) u7_19 hb); have n1_ := Aside0.mk (blk_below (g := gb208) (o := .cells #[.slice none 0 0] 29 (0, 0)) u7_29 hb); have n2_ := Aside0.mk (below_step u7_23 hb); have n3_ := Aside0.mk (hbox); have n4_ := Aside0.mk ((by rw [hg]; exact (below_size u7_23) : w.heap.size ≤ gb215)); have n5_ := Aside0.mk ((by rw [hg]; exact (below_size u7_23) : w.heap.size ≤ gb215)); have n6_ := Aside0.mk ((by rw [hg]; exact Nat.ne_of_lt (blk_lt (g := gb207) (o := .cells #[.slice A0_0 l0_0.length c0_0] 29 (0, 0)) u7_19) : gb207 ≠ gb215)); have n7_ := Aside0.mk ((by rw [hg]; exact Nat.ne_of_gt (blk_lt (g := gb207) (o := .cells #[.slice A0_0 l0_0.length c0_0] 29 (0, 0)) u7_19) : gb215 ≠ gb207)); have n8_ := Aside0.mk ((by rw [hg]; exact Nat.ne_of_lt (blk_lt (g := gb208) (o := .cells #[.slice none 0 0] 29 (0, 0)) u7_29) : gb208 ≠ gb215)); have n9_ := Aside0.mk ((by rw [hg]; exact Nat.ne_of_gt (blk_lt (g := gb208) (o := .cells #[.slice none 0 0] 29 (0, 0)) u7_29) : gb215 ≠ gb208)); clear BK207; clear BK208; clear HB; have BK207 := n0_; have BK208 := n1_; have HB := n2_; have BK215 := n3_; have GW215 := n4_; have GE215 := n5_; have NB207_215 := n6_; have NB215_207 := n7_; have NB208_215 := n8_; have NB215_208 := n9_; clear n0_ n1_ n2_ n3_ n4_ n5_ n6_ n7_ n8_ n9_; clear hb hbox hg; have hnb11 := NB215_207.out; have hnc11 := NB207_215.out; have hnb12 := NB215_208.out; have hnc12 := NB208_215.out; have hcz13_0 : w10.cell? ⟨gb215, 0, none⟩ = some (.int .u64 0) := (blk_cell BK215.out 0).trans rfl; have hcz13_1 : w10.cell? ⟨gb215, 1, none⟩ = some (.int .u64 0) := (blk_cell BK215.out 1).trans rfl; have hcz13_2 : w10.cell? ⟨gb215, 2, none⟩ = some (.int .u64 0) := (blk_cell BK215.out 2).trans rfl; have hcz13_3 : w10.cell? ⟨gb215, 3, none⟩ = some (.int .u64 0) := (blk_cell BK215.out 3).trans rfl; have hcz13_4 : w10.cell? ⟨gb215, 4, none⟩ = some (.int .i64 0) := (blk_cell BK215.out 4).trans rfl; have hfz13_0 := blk_frozen BK215.out 0; have hfz13_1 := blk_frozen BK215.out 1; have hfz13_2 := blk_frozen BK215.out 2; have hfz13_3 := blk_frozen BK215.out 3; have hfz13_4 := blk_frozen BK215.out 4))
  have H := H9.out
  clear H9
  by_cases c14 : t214 = 0
  rotate_left
  · rw [if_neg c14] at H
    have c14b0 : (t214 == 0) = false := beq_eq_false_iff_ne.mpr c14
    have c14b1 : (t214 != 0) = true := bne_iff_ne.mpr c14
    (first | rw [c14b0] | (simp only [i64_w, i32_w]; rw [c14b0]) | skip)
    replace H := Option.bind_eq_some_iff.mp H
    obtain ⟨t222, A340, H⟩ := H
    replace H : (some (t222, t214)) = some (r1, r2) := H
    have A34 := Aside0.mk A340
    clear A340
    simp only [Option.some.injEq, Prod.mk.injEq] at H
    obtain ⟨rfl, rfl⟩ := H
    have hnb35 := NB207_208.out
    have hnc35 := NB208_207.out
    have hnb36 := NB207_215.out
    have hnc36 := NB215_207.out
    have hcz37_0 : w10.cell? ⟨gb207, 0, none⟩ = some (.slice A0_0 l0_0.length c0_0) := (blk_cell BK207.out 0).trans rfl
    have hfz37_0 := blk_frozen BK207.out 0
    go_wp2_with (first | ((with_reducible refine gate_callee (f := 54) rfl ?_); refine goesL_ (some 21) rfl rfl Try.func54 (by kernel_rfl) rfl #[.agg #[.slice A0_0 l0_0.length c0_0]] rfl u7_8 ?_; (with_reducible refine (spec_l10Copy.calls k _ _ l0_0 t222 _ ?side1 ?side2 A34.out).mono ?_); (case side1 => exact (by exact Kd.C_below HR0_0.out u7_5)); (case side2 => exact HC0_0.out); rintro e w38 ⟨v223, rfl, ho0, hb⟩; refine ⟨_, rfl, ?_⟩; have n0_ := Aside0.mk (Kd.R_lower (Kd.R_newB ho0 (g := gb215) (o := .cells #[.int .u64 t209, .int .u64 t210, .int .u64 t211, .int .u64 t212, .int .i64 t213] 53 (0, 0)) u7_1) (below_size u7_5)); have n1_ := Aside0.mk (blk_below (g := gb207) (o := .cells #[.slice A0_0 l0_0.length c0_0] 29 (0, 0)) u7_11 hb); have n2_ := Aside0.mk (blk_below (g := gb208) (o := .cells #[.slice none 0 0] 29 (0, 0)) u7_12 hb); have n3_ := Aside0.mk (blk_below (g := gb215) (o := .cells #[.int .u64 t209, .int .u64 t210, .int .u64 t211, .int .u64 t212, .int .i64 t213] 53 (0, 0)) u7_1 hb); have n4_ := Aside0.mk (below_step u7_5 hb); clear BK207; clear BK208; clear BK215; clear HB; have HO224 := n0_; have BK207 := n1_; have BK208 := n2_; have BK215 := n3_; have HB := n4_; clear n0_ n1_ n2_ n3_ n4_; (try clear hb); (try clear hb2); (try clear hk); (try clear hi); (try clear ho0); obtain ⟨Ao39, co39, eo39⟩ := Kd.R_slice HO224.out; subst eo39; have hnb40 := NB208_215.out; have hnc40 := NB215_208.out; have hcz41_0 : w38.cell? ⟨gb208, 0, none⟩ = some (.slice none 0 0) := (blk_cell BK208.out 0).trans rfl; have hfz41_0 := blk_frozen BK208.out 0))
    refine bodyPost_ret (results_ct rfl _ _ gb208 29 #[.slice Ao39 t222.length co39] (0, 0) _ rfl u7_25 Try.underlying29 rfl (by kernel_rfl)) rfl ?_
    exact ⟨_, by first | rfl | (simp [errW_none, errW_some] <;> rfl) | (simp [*, errW_none, errW_some] <;> rfl), (by (with_reducible repeat (first | apply Kd.R_alloc | apply Kd.R_drewN | apply Kd.R_drew)); exact Kd.R_mono (Kd.R_far (p := ⟨gb208, 0, none⟩) (Kd.R_types HO224.out BK208.out (by decide)) (fun _ hk => hk.2) (.slice Ao39 t222.length co39)) (fun _ hk => trivial)), u7_5⟩
  rw [if_pos c14] at H
  have c14b0 : (t214 == 0) = true := beq_iff_eq.mpr c14
  have c14b1 : (t214 != 0) = false := bne_eq_false_iff_eq.mpr c14
  clear c14
  (first | rw [c14b0] | (simp only [i64_w, i32_w]; rw [c14b0]) | skip)
  by_cases c15 : t213 = a2
  rotate_left
  · rw [if_neg c15] at H
    have c15b0 : (t213 == a2) = false := beq_eq_false_iff_ne.mpr c15
    have c15b1 : (t213 != a2) = true := bne_iff_ne.mpr c15
    replace H := Option.bind_eq_some_iff.mp H
    obtain ⟨t219, A250, H⟩ := H
    replace H : (some (t219, 7)) = some (r1, r2) := H
    have A25 := Aside0.mk A250
    clear A250
    simp only [Option.some.injEq, Prod.mk.injEq] at H
    obtain ⟨rfl, rfl⟩ := H
    have hnb26 := NB215_207.out
    have hnc26 := NB207_215.out
    have hnb27 := NB215_208.out
    have hnc27 := NB208_215.out
    have hcz28_0 : w10.cell? ⟨gb215, 0, none⟩ = some (.int .u64 0) := (blk_cell BK215.out 0).trans rfl
    have hcz28_1 : w10.cell? ⟨gb215, 1, none⟩ = some (.int .u64 0) := (blk_cell BK215.out 1).trans rfl
    have hcz28_2 : w10.cell? ⟨gb215, 2, none⟩ = some (.int .u64 0) := (blk_cell BK215.out 2).trans rfl
    have hcz28_3 : w10.cell? ⟨gb215, 3, none⟩ = some (.int .u64 0) := (blk_cell BK215.out 3).trans rfl
    have hcz28_4 : w10.cell? ⟨gb215, 4, none⟩ = some (.int .i64 0) := (blk_cell BK215.out 4).trans rfl
    have hfz28_0 := blk_frozen BK215.out 0
    have hfz28_1 := blk_frozen BK215.out 1
    have hfz28_2 := blk_frozen BK215.out 2
    have hfz28_3 := blk_frozen BK215.out 3
    have hfz28_4 := blk_frozen BK215.out 4
    have hnb29 := NB207_208.out
    have hnc29 := NB208_207.out
    have hcz30_0 : w10.cell? ⟨gb207, 0, none⟩ = some (.slice A0_0 l0_0.length c0_0) := (blk_cell BK207.out 0).trans rfl
    have hfz30_0 := blk_frozen BK207.out 0
    go_wp2_with (first | ((with_reducible refine gate_callee (f := 54) rfl ?_); refine goesL_ (some 29) rfl rfl Try.func54 (by kernel_rfl) rfl #[.agg #[.slice A0_0 l0_0.length c0_0]] rfl u7_8 ?_; (with_reducible refine (spec_l10Copy.calls k _ _ l0_0 t219 _ ?side1 ?side2 A25.out).mono ?_); (case side1 => exact (by exact Kd.C_below HR0_0.out u7_5)); (case side2 => exact HC0_0.out); rintro e w31 ⟨v220, rfl, ho0, hb⟩; refine ⟨_, rfl, ?_⟩; have n0_ := Aside0.mk (Kd.R_lower (Kd.R_newB ho0 (g := gb215) (o := .cells #[.int .u64 t209, .int .u64 t210, .int .u64 t211, .int .u64 t212, .int .i64 t213] 53 (0, 0)) u7_1) (below_size u7_5)); have n1_ := Aside0.mk (blk_below (g := gb207) (o := .cells #[.slice A0_0 l0_0.length c0_0] 29 (0, 0)) u7_11 hb); have n2_ := Aside0.mk (blk_below (g := gb208) (o := .cells #[.slice none 0 0] 29 (0, 0)) u7_12 hb); have n3_ := Aside0.mk (blk_below (g := gb215) (o := .cells #[.int .u64 t209, .int .u64 t210, .int .u64 t211, .int .u64 t212, .int .i64 t213] 53 (0, 0)) u7_1 hb); have n4_ := Aside0.mk (below_step u7_5 hb); clear BK207; clear BK208; clear BK215; clear HB; have HO221 := n0_; have BK207 := n1_; have BK208 := n2_; have BK215 := n3_; have HB := n4_; clear n0_ n1_ n2_ n3_ n4_; (try clear hb); (try clear hb2); (try clear hk); (try clear hi); (try clear ho0); obtain ⟨Ao32, co32, eo32⟩ := Kd.R_slice HO221.out; subst eo32; have hcz33_0 : w31.cell? ⟨gb208, 0, none⟩ = some (.slice none 0 0) := (blk_cell BK208.out 0).trans rfl; have hfz33_0 := blk_frozen BK208.out 0))
    refine bodyPost_ret (results_ct rfl _ _ gb208 29 #[.slice Ao32 t219.length co32] (0, 0) _ rfl u7_25 Try.underlying29 rfl (by kernel_rfl)) rfl ?_
    exact ⟨_, by first | rfl | (simp [errW_none, errW_some] <;> rfl) | (simp [*, errW_none, errW_some] <;> rfl), (by (with_reducible repeat (first | apply Kd.R_alloc | apply Kd.R_drewN | apply Kd.R_drew)); exact Kd.R_mono (Kd.R_far (p := ⟨gb208, 0, none⟩) (Kd.R_types HO221.out BK208.out (by decide)) (fun _ hk => hk.2) (.slice Ao32 t219.length co32)) (fun _ hk => trivial)), u7_5⟩
  rw [if_pos c15] at H
  have c15b0 : (t213 == a2) = true := beq_iff_eq.mpr c15
  have c15b1 : (t213 != a2) = false := bne_eq_false_iff_eq.mpr c15
  clear c15
  replace H := Option.bind_eq_some_iff.mp H
  obtain ⟨t216, A160, H⟩ := H
  replace H : (some (t216, 0)) = some (r1, r2) := H
  have A16 := Aside0.mk A160
  clear A160
  simp only [Option.some.injEq, Prod.mk.injEq] at H
  obtain ⟨rfl, rfl⟩ := H
  have hnb17 := NB215_207.out
  have hnc17 := NB207_215.out
  have hnb18 := NB215_208.out
  have hnc18 := NB208_215.out
  have hcz19_0 : w10.cell? ⟨gb215, 0, none⟩ = some (.int .u64 0) := (blk_cell BK215.out 0).trans rfl
  have hcz19_1 : w10.cell? ⟨gb215, 1, none⟩ = some (.int .u64 0) := (blk_cell BK215.out 1).trans rfl
  have hcz19_2 : w10.cell? ⟨gb215, 2, none⟩ = some (.int .u64 0) := (blk_cell BK215.out 2).trans rfl
  have hcz19_3 : w10.cell? ⟨gb215, 3, none⟩ = some (.int .u64 0) := (blk_cell BK215.out 3).trans rfl
  have hcz19_4 : w10.cell? ⟨gb215, 4, none⟩ = some (.int .i64 0) := (blk_cell BK215.out 4).trans rfl
  have hfz19_0 := blk_frozen BK215.out 0
  have hfz19_1 := blk_frozen BK215.out 1
  have hfz19_2 := blk_frozen BK215.out 2
  have hfz19_3 := blk_frozen BK215.out 3
  have hfz19_4 := blk_frozen BK215.out 4
  have hnb20 := NB207_208.out
  have hnc20 := NB208_207.out
  have hcz21_0 : w10.cell? ⟨gb207, 0, none⟩ = some (.slice A0_0 l0_0.length c0_0) := (blk_cell BK207.out 0).trans rfl
  have hfz21_0 := blk_frozen BK207.out 0
  go_wp2_with (first | ((with_reducible refine gate_callee (f := 55) rfl ?_); refine goesL_ (some 38) rfl rfl Try.func55 (by kernel_rfl) rfl #[.agg #[.slice A0_0 l0_0.length c0_0], .agg #[.int .u64 a1, .int .u64 (IntKind.u64.wrap (t210 + t211)), .int .u64 0, .int .u64 0, .int .i64 0]] rfl u7_8 ?_; (with_reducible refine (spec_l10With.calls k _ _ l0_0 a1 (IntKind.u64.wrap (t210 + t211)) 0 0 0 t216 _ ?side1 ?side2 A16.out).mono ?_); (case side1 => exact (by exact Kd.C_below HR0_0.out u7_5)); (case side2 => exact HC0_0.out); rintro e w22 ⟨v217, rfl, ho0, hb⟩; refine ⟨_, rfl, ?_⟩; have n0_ := Aside0.mk (Kd.R_lower (Kd.R_newB ho0 (g := gb215) (o := .cells #[.int .u64 t209, .int .u64 t210, .int .u64 t211, .int .u64 t212, .int .i64 t213] 53 (0, 0)) u7_1) (below_size u7_5)); have n1_ := Aside0.mk (blk_below (g := gb207) (o := .cells #[.slice A0_0 l0_0.length c0_0] 29 (0, 0)) u7_11 hb); have n2_ := Aside0.mk (blk_below (g := gb208) (o := .cells #[.slice none 0 0] 29 (0, 0)) u7_12 hb); have n3_ := Aside0.mk (blk_below (g := gb215) (o := .cells #[.int .u64 t209, .int .u64 t210, .int .u64 t211, .int .u64 t212, .int .i64 t213] 53 (0, 0)) u7_1 hb); have n4_ := Aside0.mk (below_step u7_5 hb); clear BK207; clear BK208; clear BK215; clear HB; have HO218 := n0_; have BK207 := n1_; have BK208 := n2_; have BK215 := n3_; have HB := n4_; clear n0_ n1_ n2_ n3_ n4_; (try clear hb); (try clear hb2); (try clear hk); (try clear hi); (try clear ho0); obtain ⟨Ao23, co23, eo23⟩ := Kd.R_slice HO218.out; subst eo23; have hcz24_0 : w22.cell? ⟨gb208, 0, none⟩ = some (.slice none 0 0) := (blk_cell BK208.out 0).trans rfl; have hfz24_0 := blk_frozen BK208.out 0))
  refine bodyPost_ret (results_ct rfl _ _ gb208 29 #[.slice Ao23 t216.length co23] (0, 0) _ rfl u7_25 Try.underlying29 rfl (by kernel_rfl)) rfl ?_
  exact ⟨_, by first | rfl | (simp [errW_none, errW_some] <;> rfl) | (simp [*, errW_none, errW_some] <;> rfl), (by (with_reducible repeat (first | apply Kd.R_alloc | apply Kd.R_drewN | apply Kd.R_drew)); exact Kd.R_mono (Kd.R_far (p := ⟨gb208, 0, none⟩) (Kd.R_types HO218.out BK208.out (by decide)) (fun _ hk => hk.2) (.slice Ao23 t216.length co23)) (fun _ hk => trivial)), u7_5⟩

/-! ### spec_SettleHold: function 32 -/
def spec_SettleHold.f (k : Nat) (l0_0 : List (S53)) (a1 : Int) (a2 : Int) : Option ((List (S53)) × Int) := (spec_l10Of.f k l0_0 a1 a2).bind fun bt227 => (if bt227.2.2.2.2.2 = 0 then (if bt227.2.2.2.2.1 = a2 then ((spec_l10With.f k l0_0 a1 (IntKind.u64.wrap (bt227.2.1 + bt227.2.2.2.1)) 0 0 0).bind fun t234 => (some (t234, 0))) else ((spec_l10Copy.f k l0_0).bind fun t237 => (some (t237, 7)))) else ((spec_l10Copy.f k l0_0).bind fun t240 => (some (t240, bt227.2.2.2.2.2))))
theorem spec_SettleHold.mono : ∀ a0 a1 a2 k, LeO (spec_SettleHold.f k a0 a1 a2) (spec_SettleHold.f (k + 1) a0 a1 a2) := by
  intro a0 a1 a2 k
  unfold spec_SettleHold.f
  repeat' first
      | (with_reducible exact spec_l10Copy.mono _ _)
      | (with_reducible exact spec_l10Of.mono _ _ _ _)
      | (with_reducible exact spec_l10With.mono _ _ _ _ _ _ _)
      | (with_reducible exact LeO.refl _)
      | (with_reducible exact LeO.none _)
      | (with_reducible refine LeO.ite ?_ ?_)
      | (with_reducible refine LeO.bind ?_ (fun _ => ?_))
      | exact spec_l10Copy.mono _ _
      | exact spec_l10Of.mono _ _ _ _
      | exact spec_l10With.mono _ _ _ _ _ _ _
      | exact LeO.none _
      | refine LeO.ite ?_ ?_
      | refine LeO.bind ?_ (fun _ => ?_)
set_option maxHeartbeats 8000000 in
set_option maxRecDepth 100000 in
theorem spec_SettleHold.calls (k : Nat) (A0_0 : Option Addr) (c0_0 : Nat) (l0_0 : List (S53)) (a1 : Int) (a2 : Int) (r1 : List (S53)) (r2 : Int) (w : World) (hr0_0 : Kd.C k53 w A0_0 l0_0.length l0_0) (hc0_0 : l0_0.length ≤ c0_0) (h : spec_SettleHold.f k l0_0 a1 a2 = some (r1, r2)) :
    Calls Try.prog 32 #[.agg #[.slice A0_0 l0_0.length c0_0], .int .u64 a1, .int .i64 a2] w fun e w' => ∃ v0_ : Value, e = .returned (.tuple #[.agg #[v0_], .int .i64 r2]) ∧ Kd.R k53 53 w' w.heap.size (fun _ => True) v0_ r1 ∧ Below w.heap.size w w' := by
  have hu29 := Try.underlying29
  have hu53 := Try.underlying53
  have HR0_0 := Aside0.mk hr0_0
  have HC0_0 := Aside0.mk hc0_0
  clear hr0_0 hc0_0
  have HB := Aside0.mk (Below.refl w.heap.size w)
  have H : ((spec_l10Of.f k l0_0 a1 a2).bind fun bt227 => (if bt227.2.2.2.2.2 = 0 then (if bt227.2.2.2.2.1 = a2 then ((spec_l10With.f k l0_0 a1 (IntKind.u64.wrap (bt227.2.1 + bt227.2.2.2.1)) 0 0 0).bind fun t234 => (some (t234, 0))) else ((spec_l10Copy.f k l0_0).bind fun t237 => (some (t237, 7)))) else ((spec_l10Copy.f k l0_0).bind fun t240 => (some (t240, bt227.2.2.2.2.2))))) = some (r1, r2) := h
  clear h
  replace H := Option.bind_eq_some_iff.mp H
  obtain ⟨⟨t227, t228, t229, t230, t231, t232⟩, A40, H⟩ := H
  (try dsimp only at H)
  have A4 := Aside0.mk A40
  clear A40
  have H9 := Aside0.mk H
  clear H
  go_enter Try.func32, Try.ntmps32
  go_upto_if 17 with (first | ((with_reducible refine gate_dst (N := 3) rfl ?_); refine box_event ?hg (N := 3) ?hd (cs := #[.slice A0_0 l0_0.length c0_0]) (t := 29) ?hr ?_; (case hd => rfl); (case hg => rfl); (case hr => first | (go_simp; done) | (go_simp; rfl)); intro gb225 hg w5 hbox hb; have n0_ := Aside0.mk (below_step u7_3 hb); have n1_ := Aside0.mk (hbox); have n2_ := Aside0.mk ((by rw [hg]; exact (below_size u7_3) : w.heap.size ≤ gb225)); have n3_ := Aside0.mk ((by rw [hg]; exact (below_size u7_3) : w.heap.size ≤ gb225)); clear HB; have HB := n0_; have BK225 := n1_; have GW225 := n2_; have GE225 := n3_; clear n0_ n1_ n2_ n3_; clear hb hbox hg) | ((with_reducible refine gate_dst (N := 6) rfl ?_); refine box_event ?hg (N := 6) ?hd (cs := #[.slice none 0 0]) (t := 29) ?hr ?_; (case hd => rfl); (case hg => rfl); (case hr => first | (go_simp; done) | (go_simp; rfl)); intro gb226 hg w6 hbox hb; have n0_ := Aside0.mk (blk_below (g := gb225) (o := .cells #[.slice A0_0 l0_0.length c0_0] 29 (0, 0)) u7_20 hb); have n1_ := Aside0.mk (below_step u7_34 hb); have n2_ := Aside0.mk (hbox); have n3_ := Aside0.mk ((by rw [hg]; exact (below_size u7_34) : w.heap.size ≤ gb226)); have n4_ := Aside0.mk ((by rw [hg]; exact (below_size u7_34) : w.heap.size ≤ gb226)); have n5_ := Aside0.mk ((by rw [hg]; exact Nat.ne_of_lt (blk_lt (g := gb225) (o := .cells #[.slice A0_0 l0_0.length c0_0] 29 (0, 0)) u7_20) : gb225 ≠ gb226)); have n6_ := Aside0.mk ((by rw [hg]; exact Nat.ne_of_gt (blk_lt (g := gb225) (o := .cells #[.slice A0_0 l0_0.length c0_0] 29 (0, 0)) u7_20) : gb226 ≠ gb225)); clear BK225; clear HB; have BK225 := n0_; have HB := n1_; have BK226 := n2_; have GW226 := n3_; have GE226 := n4_; have NB225_226 := n5_; have NB226_225 := n6_; clear n0_ n1_ n2_ n3_ n4_ n5_ n6_; clear hb hbox hg; have hnb7 := NB225_226.out; have hnc7 := NB226_225.out; have hcz8_0 : w6.cell? ⟨gb225, 0, none⟩ = some (.slice A0_0 l0_0.length c0_0) := (blk_cell BK225.out 0).trans rfl; have hfz8_0 := blk_frozen BK225.out 0) | ((with_reducible refine gate_callee (f := 53) rfl ?_); refine goesL_ (some 14) rfl rfl Try.func53 (by kernel_rfl) rfl #[.agg #[.slice A0_0 l0_0.length c0_0], .int .u64 a1, .int .i64 a2] rfl u7_8 ?_; (with_reducible refine (spec_l10Of.calls k _ _ l0_0 a1 a2 t227 t228 t229 t230 t231 t232 _ ?side1 ?side2 A4.out).mono ?_); (case side1 => exact u7_27); (case side2 => exact HC0_0.out); rintro e w9 ⟨rfl, hb⟩; refine ⟨_, rfl, ?_⟩; have n0_ := Aside0.mk (blk_below (g := gb225) (o := .cells #[.slice A0_0 l0_0.length c0_0] 29 (0, 0)) u7_20 hb); have n1_ := Aside0.mk (blk_below (g := gb226) (o := .cells #[.slice none 0 0] 29 (0, 0)) u7_30 hb); have n2_ := Aside0.mk (below_step u7_24 hb); clear BK225; clear BK226; clear HB; have BK225 := n0_; have BK226 := n1_; have HB := n2_; clear n0_ n1_ n2_; (try clear hb); (try clear hb2); (try clear hk); (try clear hi)) | ((with_reducible refine gate_dst (N := 8) rfl ?_); refine box_event ?hg (N := 8) ?hd (cs := #[.int .u64 0, .int .u64 0, .int .u64 0, .int .u64 0, .int .i64 0]) (t := 53) ?hr ?_; (case hd => rfl); (case hg => rfl); (case hr => first | (go_simp; done) | (go_simp; rfl)); intro gb233 hg w10 hbox hb; have n0_ := Aside0.mk (blk_below (g := gb225) (o := .cells #[.slice A0_0 l0_0.length c0_0] 29 (0, 0)) u7_20 hb); have n1_ := Aside0.mk (blk_below (g := gb226) (o := .cells #[.slice none 0 0] 29 (0, 0)) u7_30 hb); have n2_ := Aside0.mk (below_step u7_24 hb); have n3_ := Aside0.mk (hbox); have n4_ := Aside0.mk ((by rw [hg]; exact (below_size u7_24) : w.heap.size ≤ gb233)); have n5_ := Aside0.mk ((by rw [hg]; exact (below_size u7_24) : w.heap.size ≤ gb233)); have n6_ := Aside0.mk ((by rw [hg]; exact Nat.ne_of_lt (blk_lt (g := gb225) (o := .cells #[.slice A0_0 l0_0.length c0_0] 29 (0, 0)) u7_20) : gb225 ≠ gb233)); have n7_ := Aside0.mk ((by rw [hg]; exact Nat.ne_of_gt (blk_lt (g := gb225) (o := .cells #[.slice A0_0 l0_0.length c0_0] 29 (0, 0)) u7_20) : gb233 ≠ gb225)); have n8_ := Aside0.mk ((by rw [hg]; exact Nat.ne_of_lt (blk_lt (g := gb226) (o := .cells #[.slice none 0 0] 29 (0, 0)) u7_30) : gb226 ≠ gb233)); have n9_ := Aside0.mk ((by rw [hg]; exact Nat.ne_of_gt (blk_lt (g := gb226) (o := .cells #[.slice none 0 0] 29 (0, 0)) u7_30) : gb233 ≠ gb226)); clear BK225; clear BK226; clear HB; have BK225 := n0_; have BK226 := n1_; have HB := n2_; have BK233 := n3_; have GW233 := n4_; have GE233 := n5_; have NB225_233 := n6_; have NB233_225 := n7_; have NB226_233 := n8_; have NB233_226 := n9_; clear n0_ n1_ n2_ n3_ n4_ n5_ n6_ n7_ n8_ n9_; clear hb hbox hg; have hnb11 := NB233_225.out; have hnc11 := NB225_233.out; have hnb12 := NB233_226.out; have hnc12 := NB226_233.out; have hcz13_0 : w10.cell? ⟨gb233, 0, none⟩ = some (.int .u64 0) := (blk_cell BK233.out 0).trans rfl; have hcz13_1 : w10.cell? ⟨gb233, 1, none⟩ = some (.int .u64 0) := (blk_cell BK233.out 1).trans rfl; have hcz13_2 : w10.cell? ⟨gb233, 2, none⟩ = some (.int .u64 0) := (blk_cell BK233.out 2).trans rfl; have hcz13_3 : w10.cell? ⟨gb233, 3, none⟩ = some (.int .u64 0) := (blk_cell BK233.out 3).trans rfl; have hcz13_4 : w10.cell? ⟨gb233, 4, none⟩ = some (.int .i64 0) := (blk_cell BK233.out 4).trans rfl; have hfz13_0 := blk_frozen BK233.out 0; have hfz13_1 := blk_frozen BK233.out 1; have hfz13_2 := blk_frozen BK233.out 2; have hfz13_3 := blk_frozen BK233.out 3; have hfz13_4 := blk_frozen BK233.out 4))
  have H := H9.out
  clear H9
  by_cases c14 : t232 = 0
  rotate_left
  · rw [if_neg c14] at H
    have c14b0 : (t232 == 0) = false := beq_eq_false_iff_ne.mpr c14
    have c14b1 : (t232 != 0) = true := bne_iff_ne.mpr c14
    (first | rw [c14b0] | (simp only [i64_w, i32_w]; rw [c14b0]) | skip)
    replace H := Option.bind_eq_some_iff.mp H
    obtain ⟨t240, A340, H⟩ := H
    replace H : (some (t240, t232)) = some (r1, r2) := H
    have A34 := Aside0.mk A340
    clear A340
    simp only [Option.some.injEq, Prod.mk.injEq] at H
    obtain ⟨rfl, rfl⟩ := H
    have hnb35 := NB225_226.out
    have hnc35 := NB226_225.out
    have hnb36 := NB225_233.out
    have hnc36 := NB233_225.out
    have hcz37_0 : w10.cell? ⟨gb225, 0, none⟩ = some (.slice A0_0 l0_0.length c0_0) := (blk_cell BK225.out 0).trans rfl
    have hfz37_0 := blk_frozen BK225.out 0
    go_wp2_with (first | ((with_reducible refine gate_callee (f := 54) rfl ?_); refine goesL_ (some 21) rfl rfl Try.func54 (by kernel_rfl) rfl #[.agg #[.slice A0_0 l0_0.length c0_0]] rfl u7_8 ?_; (with_reducible refine (spec_l10Copy.calls k _ _ l0_0 t240 _ ?side1 ?side2 A34.out).mono ?_); (case side1 => exact (by exact Kd.C_below HR0_0.out u7_6)); (case side2 => exact HC0_0.out); rintro e w38 ⟨v241, rfl, ho0, hb⟩; refine ⟨_, rfl, ?_⟩; have n0_ := Aside0.mk (Kd.R_lower (Kd.R_newB ho0 (g := gb233) (o := .cells #[.int .u64 t227, .int .u64 t228, .int .u64 t229, .int .u64 t230, .int .i64 t231] 53 (0, 0)) u7_2) (below_size u7_6)); have n1_ := Aside0.mk (blk_below (g := gb225) (o := .cells #[.slice A0_0 l0_0.length c0_0] 29 (0, 0)) u7_13 hb); have n2_ := Aside0.mk (blk_below (g := gb226) (o := .cells #[.slice none 0 0] 29 (0, 0)) u7_14 hb); have n3_ := Aside0.mk (blk_below (g := gb233) (o := .cells #[.int .u64 t227, .int .u64 t228, .int .u64 t229, .int .u64 t230, .int .i64 t231] 53 (0, 0)) u7_2 hb); have n4_ := Aside0.mk (below_step u7_6 hb); clear BK225; clear BK226; clear BK233; clear HB; have HO242 := n0_; have BK225 := n1_; have BK226 := n2_; have BK233 := n3_; have HB := n4_; clear n0_ n1_ n2_ n3_ n4_; (try clear hb); (try clear hb2); (try clear hk); (try clear hi); (try clear ho0); obtain ⟨Ao39, co39, eo39⟩ := Kd.R_slice HO242.out; subst eo39; have hnb40 := NB226_233.out; have hnc40 := NB233_226.out; have hcz41_0 : w38.cell? ⟨gb226, 0, none⟩ = some (.slice none 0 0) := (blk_cell BK226.out 0).trans rfl; have hfz41_0 := blk_frozen BK226.out 0))
    refine bodyPost_ret (results_ct rfl _ _ gb226 29 #[.slice Ao39 t240.length co39] (0, 0) _ rfl u7_26 Try.underlying29 rfl (by kernel_rfl)) rfl ?_
    exact ⟨_, by first | rfl | (simp [errW_none, errW_some] <;> rfl) | (simp [*, errW_none, errW_some] <;> rfl), (by (with_reducible repeat (first | apply Kd.R_alloc | apply Kd.R_drewN | apply Kd.R_drew)); exact Kd.R_mono (Kd.R_far (p := ⟨gb226, 0, none⟩) (Kd.R_types HO242.out BK226.out (by decide)) (fun _ hk => hk.2) (.slice Ao39 t240.length co39)) (fun _ hk => trivial)), u7_6⟩
  rw [if_pos c14] at H
  have c14b0 : (t232 == 0) = true := beq_iff_eq.mpr c14
  have c14b1 : (t232 != 0) = false := bne_eq_false_iff_eq.mpr c14
  clear c14
  (first | rw [c14b0] | (simp only [i64_w, i32_w]; rw [c14b0]) | skip)
  by_cases c15 : t231 = a2
  rotate_left
  · rw [if_neg c15] at H
    have c15b0 : (t231 == a2) = false := beq_eq_false_iff_ne.mpr c15
    have c15b1 : (t231 != a2) = true := bne_iff_ne.mpr c15
    replace H := Option.bind_eq_some_iff.mp H
    obtain ⟨t237, A250, H⟩ := H
    replace H : (some (t237, 7)) = some (r1, r2) := H
    have A25 := Aside0.mk A250
    clear A250
    simp only [Option.some.injEq, Prod.mk.injEq] at H
    obtain ⟨rfl, rfl⟩ := H
    have hnb26 := NB233_225.out
    have hnc26 := NB225_233.out
    have hnb27 := NB233_226.out
    have hnc27 := NB226_233.out
    have hcz28_0 : w10.cell? ⟨gb233, 0, none⟩ = some (.int .u64 0) := (blk_cell BK233.out 0).trans rfl
    have hcz28_1 : w10.cell? ⟨gb233, 1, none⟩ = some (.int .u64 0) := (blk_cell BK233.out 1).trans rfl
    have hcz28_2 : w10.cell? ⟨gb233, 2, none⟩ = some (.int .u64 0) := (blk_cell BK233.out 2).trans rfl
    have hcz28_3 : w10.cell? ⟨gb233, 3, none⟩ = some (.int .u64 0) := (blk_cell BK233.out 3).trans rfl
    have hcz28_4 : w10.cell? ⟨gb233, 4, none⟩ = some (.int .i64 0) := (blk_cell BK233.out 4).trans rfl
    have hfz28_0 := blk_frozen BK233.out 0
    have hfz28_1 := blk_frozen BK233.out 1
    have hfz28_2 := blk_frozen BK233.out 2
    have hfz28_3 := blk_frozen BK233.out 3
    have hfz28_4 := blk_frozen BK233.out 4
    have hnb29 := NB225_226.out
    have hnc29 := NB226_225.out
    have hcz30_0 : w10.cell? ⟨gb225, 0, none⟩ = some (.slice A0_0 l0_0.length c0_0) := (blk_cell BK225.out 0).trans rfl
    have hfz30_0 := blk_frozen BK225.out 0
    go_wp2_with (first | ((with_reducible refine gate_callee (f := 54) rfl ?_); refine goesL_ (some 29) rfl rfl Try.func54 (by kernel_rfl) rfl #[.agg #[.slice A0_0 l0_0.length c0_0]] rfl u7_8 ?_; (with_reducible refine (spec_l10Copy.calls k _ _ l0_0 t237 _ ?side1 ?side2 A25.out).mono ?_); (case side1 => exact (by exact Kd.C_below HR0_0.out u7_6)); (case side2 => exact HC0_0.out); rintro e w31 ⟨v238, rfl, ho0, hb⟩; refine ⟨_, rfl, ?_⟩; have n0_ := Aside0.mk (Kd.R_lower (Kd.R_newB ho0 (g := gb233) (o := .cells #[.int .u64 t227, .int .u64 t228, .int .u64 t229, .int .u64 t230, .int .i64 t231] 53 (0, 0)) u7_2) (below_size u7_6)); have n1_ := Aside0.mk (blk_below (g := gb225) (o := .cells #[.slice A0_0 l0_0.length c0_0] 29 (0, 0)) u7_13 hb); have n2_ := Aside0.mk (blk_below (g := gb226) (o := .cells #[.slice none 0 0] 29 (0, 0)) u7_14 hb); have n3_ := Aside0.mk (blk_below (g := gb233) (o := .cells #[.int .u64 t227, .int .u64 t228, .int .u64 t229, .int .u64 t230, .int .i64 t231] 53 (0, 0)) u7_2 hb); have n4_ := Aside0.mk (below_step u7_6 hb); clear BK225; clear BK226; clear BK233; clear HB; have HO239 := n0_; have BK225 := n1_; have BK226 := n2_; have BK233 := n3_; have HB := n4_; clear n0_ n1_ n2_ n3_ n4_; (try clear hb); (try clear hb2); (try clear hk); (try clear hi); (try clear ho0); obtain ⟨Ao32, co32, eo32⟩ := Kd.R_slice HO239.out; subst eo32; have hcz33_0 : w31.cell? ⟨gb226, 0, none⟩ = some (.slice none 0 0) := (blk_cell BK226.out 0).trans rfl; have hfz33_0 := blk_frozen BK226.out 0))
    refine bodyPost_ret (results_ct rfl _ _ gb226 29 #[.slice Ao32 t237.length co32] (0, 0) _ rfl u7_26 Try.underlying29 rfl (by kernel_rfl)) rfl ?_
    exact ⟨_, by first | rfl | (simp [errW_none, errW_some] <;> rfl) | (simp [*, errW_none, errW_some] <;> rfl), (by (with_reducible repeat (first | apply Kd.R_alloc | apply Kd.R_drewN | apply Kd.R_drew)); exact Kd.R_mono (Kd.R_far (p := ⟨gb226, 0, none⟩) (Kd.R_types HO239.out BK226.out (by decide)) (fun _ hk => hk.2) (.slice Ao32 t237.length co32)) (fun _ hk => trivial)), u7_6⟩
  rw [if_pos c15] at H
  have c15b0 : (t231 == a2) = true := beq_iff_eq.mpr c15
  have c15b1 : (t231 != a2) = false := bne_eq_false_iff_eq.mpr c15
  clear c15
  replace H := Option.bind_eq_some_iff.mp H
  obtain ⟨t234, A160, H⟩ := H
  replace H : (some (t234, 0)) = some (r1, r2) := H
  have A16 := Aside0.mk A160
  clear A160
  simp only [Option.some.injEq, Prod.mk.injEq] at H
  obtain ⟨rfl, rfl⟩ := H
  have hnb17 := NB233_225.out
  have hnc17 := NB225_233.out
  have hnb18 := NB233_226.out
  have hnc18 := NB226_233.out
  have hcz19_0 : w10.cell? ⟨gb233, 0, none⟩ = some (.int .u64 0) := (blk_cell BK233.out 0).trans rfl
  have hcz19_1 : w10.cell? ⟨gb233, 1, none⟩ = some (.int .u64 0) := (blk_cell BK233.out 1).trans rfl
  have hcz19_2 : w10.cell? ⟨gb233, 2, none⟩ = some (.int .u64 0) := (blk_cell BK233.out 2).trans rfl
  have hcz19_3 : w10.cell? ⟨gb233, 3, none⟩ = some (.int .u64 0) := (blk_cell BK233.out 3).trans rfl
  have hcz19_4 : w10.cell? ⟨gb233, 4, none⟩ = some (.int .i64 0) := (blk_cell BK233.out 4).trans rfl
  have hfz19_0 := blk_frozen BK233.out 0
  have hfz19_1 := blk_frozen BK233.out 1
  have hfz19_2 := blk_frozen BK233.out 2
  have hfz19_3 := blk_frozen BK233.out 3
  have hfz19_4 := blk_frozen BK233.out 4
  have hnb20 := NB225_226.out
  have hnc20 := NB226_225.out
  have hcz21_0 : w10.cell? ⟨gb225, 0, none⟩ = some (.slice A0_0 l0_0.length c0_0) := (blk_cell BK225.out 0).trans rfl
  have hfz21_0 := blk_frozen BK225.out 0
  go_wp2_with (first | ((with_reducible refine gate_callee (f := 55) rfl ?_); refine goesL_ (some 38) rfl rfl Try.func55 (by kernel_rfl) rfl #[.agg #[.slice A0_0 l0_0.length c0_0], .agg #[.int .u64 a1, .int .u64 (IntKind.u64.wrap (t228 + t230)), .int .u64 0, .int .u64 0, .int .i64 0]] rfl u7_8 ?_; (with_reducible refine (spec_l10With.calls k _ _ l0_0 a1 (IntKind.u64.wrap (t228 + t230)) 0 0 0 t234 _ ?side1 ?side2 A16.out).mono ?_); (case side1 => exact (by exact Kd.C_below HR0_0.out u7_6)); (case side2 => exact HC0_0.out); rintro e w22 ⟨v235, rfl, ho0, hb⟩; refine ⟨_, rfl, ?_⟩; have n0_ := Aside0.mk (Kd.R_lower (Kd.R_newB ho0 (g := gb233) (o := .cells #[.int .u64 t227, .int .u64 t228, .int .u64 t229, .int .u64 t230, .int .i64 t231] 53 (0, 0)) u7_2) (below_size u7_6)); have n1_ := Aside0.mk (blk_below (g := gb225) (o := .cells #[.slice A0_0 l0_0.length c0_0] 29 (0, 0)) u7_13 hb); have n2_ := Aside0.mk (blk_below (g := gb226) (o := .cells #[.slice none 0 0] 29 (0, 0)) u7_14 hb); have n3_ := Aside0.mk (blk_below (g := gb233) (o := .cells #[.int .u64 t227, .int .u64 t228, .int .u64 t229, .int .u64 t230, .int .i64 t231] 53 (0, 0)) u7_2 hb); have n4_ := Aside0.mk (below_step u7_6 hb); clear BK225; clear BK226; clear BK233; clear HB; have HO236 := n0_; have BK225 := n1_; have BK226 := n2_; have BK233 := n3_; have HB := n4_; clear n0_ n1_ n2_ n3_ n4_; (try clear hb); (try clear hb2); (try clear hk); (try clear hi); (try clear ho0); obtain ⟨Ao23, co23, eo23⟩ := Kd.R_slice HO236.out; subst eo23; have hcz24_0 : w22.cell? ⟨gb226, 0, none⟩ = some (.slice none 0 0) := (blk_cell BK226.out 0).trans rfl; have hfz24_0 := blk_frozen BK226.out 0))
  refine bodyPost_ret (results_ct rfl _ _ gb226 29 #[.slice Ao23 t234.length co23] (0, 0) _ rfl u7_26 Try.underlying29 rfl (by kernel_rfl)) rfl ?_
  exact ⟨_, by first | rfl | (simp [errW_none, errW_some] <;> rfl) | (simp [*, errW_none, errW_some] <;> rfl), (by (with_reducible repeat (first | apply Kd.R_alloc | apply Kd.R_drewN | apply Kd.R_drew)); exact Kd.R_mono (Kd.R_far (p := ⟨gb226, 0, none⟩) (Kd.R_types HO236.out BK226.out (by decide)) (fun _ hk => hk.2) (.slice Ao23 t234.length co23)) (fun _ hk => trivial)), u7_6⟩

end Go.Proofs.Ytdbfjakhkclggaa.QFnHolds
