-- Printed by the session's own program wip/prx.py.
import Derived.Test.YtkcadcoohmofcaaQFnExactNewNodex0
import Derived.Test.YtkcadcoohmofcaaQFnExactNewNodex1
import Derived.Test.YtkcadcoohmofcaaQFnExactNewNodex2
namespace Go.Proofs.Ytkcadcoohmofcaa.QFnExactNewNode
open Go.RowKit Go.Proofs.YtkcadcoohmofcaaW.PrintWords Go.Proofs.YtkcadcoohmofcaaW.PrintLast Go.Proofs.YtkcadcoohmofcaaW.PrintMore
attribute [local go_sem] max2_int min2_int max_two min_two max_three min_three max_four min_four Go.Proofs.Ytkcadcoohmofcaa.Set.isSome_setCell   -- for this text's walks alone
set_option linter.unusedVariables false
set_option linter.unusedSimpArgs false

-- squeezed
theorem u3_0 {P : Prop} (h : P := by repeat (first | (with_reducible first | exact HB.out | apply below_alloc | apply pw_below_drewN | apply below_drew1) | exact HB.out)) : P := h
theorem u3_1 {P : Prop} (h : P := by (with_reducible repeat (first | apply Kd.R_alloc | apply Kd.R_drewN | apply Kd.R_drew)); exact (Kd.R_mono (Kd.R_far (p := ⟨gb164, 9, none⟩) (Kd.R_far (p := ⟨gb164, 8, none⟩) (Kd.R_far (p := ⟨gb164, 7, none⟩) (Kd.R_far (p := ⟨gb164, 6, none⟩) (Kd.R_far (p := ⟨gb164, 5, none⟩) (Kd.R_far (p := ⟨gb164, 4, none⟩) (Kd.R_far (p := ⟨gb164, 3, none⟩) (Kd.R_far (p := ⟨gb164, 2, none⟩) (Kd.R_far (p := ⟨gb164, 1, none⟩) (Kd.R_far (p := ⟨gb164, 0, none⟩) (Kd.R_types HO160.out BK164.out (by decide)) (fun _ hk => hk.2) (.int .i64 t148)) (fun _ hk => hk.2) (.int .i64 t149)) (fun _ hk => hk.2) (.int .i64 t150)) (fun _ hk => hk.2) (.int .i64 t151)) (fun _ hk => hk.2) (.int .i64 t152)) (fun _ hk => hk.2) (.int .i64 t153)) (fun _ hk => hk.2) (.int .i64 t154)) (fun _ hk => hk.2) (.slice Ao20 t155.length co20)) (fun _ hk => hk.2) (.slice Ao21 t158.length co21)) (fun _ hk => hk.2) (.slice Ao22 t161.length co22)) (fun _ h_ => h_.1))) : P := h
theorem u3_2 {P : Prop} (h : P := by (with_reducible repeat (first | apply Kd.R_alloc | apply Kd.R_drewN | apply Kd.R_drew)); exact (Kd.R_mono (Kd.R_far (p := ⟨gb164, 9, none⟩) (Kd.R_far (p := ⟨gb164, 8, none⟩) (Kd.R_far (p := ⟨gb164, 7, none⟩) (Kd.R_far (p := ⟨gb164, 6, none⟩) (Kd.R_far (p := ⟨gb164, 5, none⟩) (Kd.R_far (p := ⟨gb164, 4, none⟩) (Kd.R_far (p := ⟨gb164, 3, none⟩) (Kd.R_far (p := ⟨gb164, 2, none⟩) (Kd.R_far (p := ⟨gb164, 1, none⟩) (Kd.R_far (p := ⟨gb164, 0, none⟩) (Kd.R_types HO163.out BK164.out (by decide)) (fun _ hk => hk.2) (.int .i64 t148)) (fun _ hk => hk.2) (.int .i64 t149)) (fun _ hk => hk.2) (.int .i64 t150)) (fun _ hk => hk.2) (.int .i64 t151)) (fun _ hk => hk.2) (.int .i64 t152)) (fun _ hk => hk.2) (.int .i64 t153)) (fun _ hk => hk.2) (.int .i64 t154)) (fun _ hk => hk.2) (.slice Ao20 t155.length co20)) (fun _ hk => hk.2) (.slice Ao21 t158.length co21)) (fun _ hk => hk.2) (.slice Ao22 t161.length co22)) (fun _ h_ => h_.1))) : P := h
theorem u3_3 {P : Prop} (h : P := by (try simp only [List.map_toArray, List.map_cons, List.map_nil]); first | done | rfl | (simp only [List.length_drop, List.length_take]; rfl)) : P := h
theorem u3_4 {P : Prop} (h : P := by repeat (first | (with_reducible first | exact HB.out | apply below_alloc | apply pw_below_drewN | apply below_drew1 | refine below_set ?_ GE164.out | refine below_set ?_ GE181.out) | exact HB.out)) : P := h
theorem u3_5 {P : Prop} (h : P := by (with_reducible repeat (first | refine blk_drewN ?_ _ | refine blk_drew ?_ | refine blk_alloc ?_ _)); exact BK164.out) : P := h
theorem u3_6 {P : Prop} (h : P := by repeat (first | (with_reducible first | exact HB.out | apply below_alloc | apply pw_below_drewN | apply below_drew1 | refine below_set ?_ GE164.out) | exact HB.out)) : P := h
theorem u3_7 {P : Prop} (h : P := by (with_reducible repeat (first | apply Kd.R_alloc | apply Kd.R_drewN | apply Kd.R_drew)); exact (Kd.R_mono (Kd.R_far (p := ⟨gb164, 9, none⟩) (Kd.R_far (p := ⟨gb164, 8, none⟩) (Kd.R_far (p := ⟨gb164, 7, none⟩) (Kd.R_far (p := ⟨gb164, 6, none⟩) (Kd.R_far (p := ⟨gb164, 5, none⟩) (Kd.R_far (p := ⟨gb164, 4, none⟩) (Kd.R_far (p := ⟨gb164, 3, none⟩) (Kd.R_far (p := ⟨gb164, 2, none⟩) (Kd.R_far (p := ⟨gb164, 1, none⟩) (Kd.R_far (p := ⟨gb164, 0, none⟩) (Kd.R_types HO157.out BK164.out (by decide)) (fun _ hk => hk.2) (.int .i64 t148)) (fun _ hk => hk.2) (.int .i64 t149)) (fun _ hk => hk.2) (.int .i64 t150)) (fun _ hk => hk.2) (.int .i64 t151)) (fun _ hk => hk.2) (.int .i64 t152)) (fun _ hk => hk.2) (.int .i64 t153)) (fun _ hk => hk.2) (.int .i64 t154)) (fun _ hk => hk.2) (.slice Ao20 t155.length co20)) (fun _ hk => hk.2) (.slice Ao21 t158.length co21)) (fun _ hk => hk.2) (.slice Ao22 t161.length co22)) (fun _ h_ => h_.1))) : P := h
theorem u3_8 {P : Prop} (h : P := by (with_reducible repeat (first | apply Kd.R_alloc | apply Kd.R_drewN | apply Kd.R_drew)); exact (Kd.R_mono (Kd.R_far (p := ⟨gb181, 9, none⟩) (Kd.R_far (p := ⟨gb181, 8, none⟩) (Kd.R_far (p := ⟨gb181, 7, none⟩) (Kd.R_far (p := ⟨gb181, 6, none⟩) (Kd.R_far (p := ⟨gb181, 5, none⟩) (Kd.R_far (p := ⟨gb181, 4, none⟩) (Kd.R_far (p := ⟨gb181, 3, none⟩) (Kd.R_far (p := ⟨gb181, 2, none⟩) (Kd.R_far (p := ⟨gb181, 1, none⟩) (Kd.R_far (p := ⟨gb181, 0, none⟩) (Kd.R_types HO174.out BK181.out (by decide)) (fun _ hk => hk.2) (.int .i64 t165)) (fun _ hk => hk.2) (.int .i64 t166)) (fun _ hk => hk.2) (.int .i64 t167)) (fun _ hk => hk.2) (.int .i64 t168)) (fun _ hk => hk.2) (.int .i64 t169)) (fun _ hk => hk.2) (.int .i64 t170)) (fun _ hk => hk.2) (.int .i64 t171)) (fun _ hk => hk.2) (.slice Ao27 t172.length co27)) (fun _ hk => hk.2) (.slice Ao28 t175.length co28)) (fun _ hk => hk.2) (.slice Ao29 t178.length co29)) (fun _ h_ => h_.1))) : P := h
theorem u3_9 {P : Prop} (h : P := by (with_reducible repeat (first | apply Kd.R_alloc | apply Kd.R_drewN | apply Kd.R_drew)); exact (Kd.R_mono (Kd.R_far (p := ⟨gb181, 9, none⟩) (Kd.R_far (p := ⟨gb181, 8, none⟩) (Kd.R_far (p := ⟨gb181, 7, none⟩) (Kd.R_far (p := ⟨gb181, 6, none⟩) (Kd.R_far (p := ⟨gb181, 5, none⟩) (Kd.R_far (p := ⟨gb181, 4, none⟩) (Kd.R_far (p := ⟨gb181, 3, none⟩) (Kd.R_far (p := ⟨gb181, 2, none⟩) (Kd.R_far (p := ⟨gb181, 1, none⟩) (Kd.R_far (p := ⟨gb181, 0, none⟩) (Kd.R_types HO177.out BK181.out (by decide)) (fun _ hk => hk.2) (.int .i64 t165)) (fun _ hk => hk.2) (.int .i64 t166)) (fun _ hk => hk.2) (.int .i64 t167)) (fun _ hk => hk.2) (.int .i64 t168)) (fun _ hk => hk.2) (.int .i64 t169)) (fun _ hk => hk.2) (.int .i64 t170)) (fun _ hk => hk.2) (.int .i64 t171)) (fun _ hk => hk.2) (.slice Ao27 t172.length co27)) (fun _ hk => hk.2) (.slice Ao28 t175.length co28)) (fun _ hk => hk.2) (.slice Ao29 t178.length co29)) (fun _ h_ => h_.1))) : P := h
theorem u3_10 {P : Prop} (h : P := by (with_reducible repeat (first | apply Kd.R_alloc | apply Kd.R_drewN | apply Kd.R_drew)); exact (Kd.R_mono (Kd.R_far (p := ⟨gb181, 9, none⟩) (Kd.R_far (p := ⟨gb181, 8, none⟩) (Kd.R_far (p := ⟨gb181, 7, none⟩) (Kd.R_far (p := ⟨gb181, 6, none⟩) (Kd.R_far (p := ⟨gb181, 5, none⟩) (Kd.R_far (p := ⟨gb181, 4, none⟩) (Kd.R_far (p := ⟨gb181, 3, none⟩) (Kd.R_far (p := ⟨gb181, 2, none⟩) (Kd.R_far (p := ⟨gb181, 1, none⟩) (Kd.R_far (p := ⟨gb181, 0, none⟩) (Kd.R_types HO180.out BK181.out (by decide)) (fun _ hk => hk.2) (.int .i64 t165)) (fun _ hk => hk.2) (.int .i64 t166)) (fun _ hk => hk.2) (.int .i64 t167)) (fun _ hk => hk.2) (.int .i64 t168)) (fun _ hk => hk.2) (.int .i64 t169)) (fun _ hk => hk.2) (.int .i64 t170)) (fun _ hk => hk.2) (.int .i64 t171)) (fun _ hk => hk.2) (.slice Ao27 t172.length co27)) (fun _ hk => hk.2) (.slice Ao28 t175.length co28)) (fun _ hk => hk.2) (.slice Ao29 t178.length co29)) (fun _ h_ => h_.1))) : P := h
theorem u3_11 {P : Prop} (h : P := by (with_reducible repeat (first | apply Kd.R_alloc | apply Kd.R_drewN | apply Kd.R_drew)); exact (Kd.R_mono (Kd.R_far (p := ⟨gb181, 9, none⟩) (Kd.R_far (p := ⟨gb181, 8, none⟩) (Kd.R_far (p := ⟨gb181, 7, none⟩) (Kd.R_far (p := ⟨gb181, 6, none⟩) (Kd.R_far (p := ⟨gb181, 5, none⟩) (Kd.R_far (p := ⟨gb181, 4, none⟩) (Kd.R_far (p := ⟨gb181, 3, none⟩) (Kd.R_far (p := ⟨gb181, 2, none⟩) (Kd.R_far (p := ⟨gb181, 1, none⟩) (Kd.R_far (p := ⟨gb181, 0, none⟩) (Kd.R_types HO157.out BK181.out (by decide)) (fun _ hk => hk.2) (.int .i64 t165)) (fun _ hk => hk.2) (.int .i64 t166)) (fun _ hk => hk.2) (.int .i64 t167)) (fun _ hk => hk.2) (.int .i64 t168)) (fun _ hk => hk.2) (.int .i64 t169)) (fun _ hk => hk.2) (.int .i64 t170)) (fun _ hk => hk.2) (.int .i64 t171)) (fun _ hk => hk.2) (.slice Ao27 t172.length co27)) (fun _ hk => hk.2) (.slice Ao28 t175.length co28)) (fun _ hk => hk.2) (.slice Ao29 t178.length co29)) (fun _ h_ => h_.1))) : P := h
theorem u3_12 {P : Prop} (h : P := by (with_reducible repeat (first | apply Kd.R_alloc | apply Kd.R_drewN | apply Kd.R_drew)); exact (Kd.R_mono (Kd.R_far (p := ⟨gb181, 9, none⟩) (Kd.R_far (p := ⟨gb181, 8, none⟩) (Kd.R_far (p := ⟨gb181, 7, none⟩) (Kd.R_far (p := ⟨gb181, 6, none⟩) (Kd.R_far (p := ⟨gb181, 5, none⟩) (Kd.R_far (p := ⟨gb181, 4, none⟩) (Kd.R_far (p := ⟨gb181, 3, none⟩) (Kd.R_far (p := ⟨gb181, 2, none⟩) (Kd.R_far (p := ⟨gb181, 1, none⟩) (Kd.R_far (p := ⟨gb181, 0, none⟩) (Kd.R_types HO160.out BK181.out (by decide)) (fun _ hk => hk.2) (.int .i64 t165)) (fun _ hk => hk.2) (.int .i64 t166)) (fun _ hk => hk.2) (.int .i64 t167)) (fun _ hk => hk.2) (.int .i64 t168)) (fun _ hk => hk.2) (.int .i64 t169)) (fun _ hk => hk.2) (.int .i64 t170)) (fun _ hk => hk.2) (.int .i64 t171)) (fun _ hk => hk.2) (.slice Ao27 t172.length co27)) (fun _ hk => hk.2) (.slice Ao28 t175.length co28)) (fun _ hk => hk.2) (.slice Ao29 t178.length co29)) (fun _ h_ => h_.1))) : P := h
theorem u3_13 {P : Prop} (h : P := by (with_reducible repeat (first | apply Kd.R_alloc | apply Kd.R_drewN | apply Kd.R_drew)); exact (Kd.R_mono (Kd.R_far (p := ⟨gb181, 9, none⟩) (Kd.R_far (p := ⟨gb181, 8, none⟩) (Kd.R_far (p := ⟨gb181, 7, none⟩) (Kd.R_far (p := ⟨gb181, 6, none⟩) (Kd.R_far (p := ⟨gb181, 5, none⟩) (Kd.R_far (p := ⟨gb181, 4, none⟩) (Kd.R_far (p := ⟨gb181, 3, none⟩) (Kd.R_far (p := ⟨gb181, 2, none⟩) (Kd.R_far (p := ⟨gb181, 1, none⟩) (Kd.R_far (p := ⟨gb181, 0, none⟩) (Kd.R_types HO163.out BK181.out (by decide)) (fun _ hk => hk.2) (.int .i64 t165)) (fun _ hk => hk.2) (.int .i64 t166)) (fun _ hk => hk.2) (.int .i64 t167)) (fun _ hk => hk.2) (.int .i64 t168)) (fun _ hk => hk.2) (.int .i64 t169)) (fun _ hk => hk.2) (.int .i64 t170)) (fun _ hk => hk.2) (.int .i64 t171)) (fun _ hk => hk.2) (.slice Ao27 t172.length co27)) (fun _ hk => hk.2) (.slice Ao28 t175.length co28)) (fun _ hk => hk.2) (.slice Ao29 t178.length co29)) (fun _ h_ => h_.1))) : P := h
theorem u3_14 {P : Prop} (h : P := by (with_reducible repeat (first | apply Kd.R_alloc | apply Kd.R_drewN | apply Kd.R_drew)); exact (Kd.R_mono (Kd.R_far (p := ⟨gb204, 9, none⟩) (Kd.R_far (p := ⟨gb204, 8, none⟩) (Kd.R_far (p := ⟨gb204, 7, none⟩) (Kd.R_far (p := ⟨gb204, 6, none⟩) (Kd.R_far (p := ⟨gb204, 5, none⟩) (Kd.R_far (p := ⟨gb204, 4, none⟩) (Kd.R_far (p := ⟨gb204, 3, none⟩) (Kd.R_far (p := ⟨gb204, 2, none⟩) (Kd.R_far (p := ⟨gb204, 1, none⟩) (Kd.R_far (p := ⟨gb204, 0, none⟩) (Kd.R_types HO197.out BK204.out (by decide)) (fun _ hk => hk.2) (.int .i64 t188)) (fun _ hk => hk.2) (.int .i64 t189)) (fun _ hk => hk.2) (.int .i64 t190)) (fun _ hk => hk.2) (.int .i64 t191)) (fun _ hk => hk.2) (.int .i64 t192)) (fun _ hk => hk.2) (.int .i64 t193)) (fun _ hk => hk.2) (.int .i64 t194)) (fun _ hk => hk.2) (.slice Ao41 t195.length co41)) (fun _ hk => hk.2) (.slice Ao42 t198.length co42)) (fun _ hk => hk.2) (.slice Ao43 t201.length co43)) (fun _ h_ => h_.1))) : P := h
theorem u3_15 {P : Prop} (h : P := by (with_reducible repeat (first | apply Kd.R_alloc | apply Kd.R_drewN | apply Kd.R_drew)); exact (Kd.R_mono (Kd.R_far (p := ⟨gb204, 9, none⟩) (Kd.R_far (p := ⟨gb204, 8, none⟩) (Kd.R_far (p := ⟨gb204, 7, none⟩) (Kd.R_far (p := ⟨gb204, 6, none⟩) (Kd.R_far (p := ⟨gb204, 5, none⟩) (Kd.R_far (p := ⟨gb204, 4, none⟩) (Kd.R_far (p := ⟨gb204, 3, none⟩) (Kd.R_far (p := ⟨gb204, 2, none⟩) (Kd.R_far (p := ⟨gb204, 1, none⟩) (Kd.R_far (p := ⟨gb204, 0, none⟩) (Kd.R_types HO200.out BK204.out (by decide)) (fun _ hk => hk.2) (.int .i64 t188)) (fun _ hk => hk.2) (.int .i64 t189)) (fun _ hk => hk.2) (.int .i64 t190)) (fun _ hk => hk.2) (.int .i64 t191)) (fun _ hk => hk.2) (.int .i64 t192)) (fun _ hk => hk.2) (.int .i64 t193)) (fun _ hk => hk.2) (.int .i64 t194)) (fun _ hk => hk.2) (.slice Ao41 t195.length co41)) (fun _ hk => hk.2) (.slice Ao42 t198.length co42)) (fun _ hk => hk.2) (.slice Ao43 t201.length co43)) (fun _ h_ => h_.1))) : P := h
theorem u3_16 {P : Prop} (h : P := by (with_reducible repeat (first | apply Kd.R_alloc | apply Kd.R_drewN | apply Kd.R_drew)); exact (Kd.R_mono (Kd.R_far (p := ⟨gb204, 9, none⟩) (Kd.R_far (p := ⟨gb204, 8, none⟩) (Kd.R_far (p := ⟨gb204, 7, none⟩) (Kd.R_far (p := ⟨gb204, 6, none⟩) (Kd.R_far (p := ⟨gb204, 5, none⟩) (Kd.R_far (p := ⟨gb204, 4, none⟩) (Kd.R_far (p := ⟨gb204, 3, none⟩) (Kd.R_far (p := ⟨gb204, 2, none⟩) (Kd.R_far (p := ⟨gb204, 1, none⟩) (Kd.R_far (p := ⟨gb204, 0, none⟩) (Kd.R_types HO203.out BK204.out (by decide)) (fun _ hk => hk.2) (.int .i64 t188)) (fun _ hk => hk.2) (.int .i64 t189)) (fun _ hk => hk.2) (.int .i64 t190)) (fun _ hk => hk.2) (.int .i64 t191)) (fun _ hk => hk.2) (.int .i64 t192)) (fun _ hk => hk.2) (.int .i64 t193)) (fun _ hk => hk.2) (.int .i64 t194)) (fun _ hk => hk.2) (.slice Ao41 t195.length co41)) (fun _ hk => hk.2) (.slice Ao42 t198.length co42)) (fun _ hk => hk.2) (.slice Ao43 t201.length co43)) (fun _ h_ => h_.1))) : P := h
theorem u3_17 {P : Prop} (h : P := by (with_reducible repeat (first | apply Kd.R_alloc | apply Kd.R_drewN | apply Kd.R_drew)); exact (Kd.R_mono (Kd.R_far (p := ⟨gb204, 9, none⟩) (Kd.R_far (p := ⟨gb204, 8, none⟩) (Kd.R_far (p := ⟨gb204, 7, none⟩) (Kd.R_far (p := ⟨gb204, 6, none⟩) (Kd.R_far (p := ⟨gb204, 5, none⟩) (Kd.R_far (p := ⟨gb204, 4, none⟩) (Kd.R_far (p := ⟨gb204, 3, none⟩) (Kd.R_far (p := ⟨gb204, 2, none⟩) (Kd.R_far (p := ⟨gb204, 1, none⟩) (Kd.R_far (p := ⟨gb204, 0, none⟩) (Kd.R_types HO157.out BK204.out (by decide)) (fun _ hk => hk.2) (.int .i64 t188)) (fun _ hk => hk.2) (.int .i64 t189)) (fun _ hk => hk.2) (.int .i64 t190)) (fun _ hk => hk.2) (.int .i64 t191)) (fun _ hk => hk.2) (.int .i64 t192)) (fun _ hk => hk.2) (.int .i64 t193)) (fun _ hk => hk.2) (.int .i64 t194)) (fun _ hk => hk.2) (.slice Ao41 t195.length co41)) (fun _ hk => hk.2) (.slice Ao42 t198.length co42)) (fun _ hk => hk.2) (.slice Ao43 t201.length co43)) (fun _ h_ => h_.1))) : P := h
theorem u3_18 {P : Prop} (h : P := by (with_reducible repeat (first | apply Kd.R_alloc | apply Kd.R_drewN | apply Kd.R_drew)); exact (Kd.R_mono (Kd.R_far (p := ⟨gb204, 9, none⟩) (Kd.R_far (p := ⟨gb204, 8, none⟩) (Kd.R_far (p := ⟨gb204, 7, none⟩) (Kd.R_far (p := ⟨gb204, 6, none⟩) (Kd.R_far (p := ⟨gb204, 5, none⟩) (Kd.R_far (p := ⟨gb204, 4, none⟩) (Kd.R_far (p := ⟨gb204, 3, none⟩) (Kd.R_far (p := ⟨gb204, 2, none⟩) (Kd.R_far (p := ⟨gb204, 1, none⟩) (Kd.R_far (p := ⟨gb204, 0, none⟩) (Kd.R_types HO160.out BK204.out (by decide)) (fun _ hk => hk.2) (.int .i64 t188)) (fun _ hk => hk.2) (.int .i64 t189)) (fun _ hk => hk.2) (.int .i64 t190)) (fun _ hk => hk.2) (.int .i64 t191)) (fun _ hk => hk.2) (.int .i64 t192)) (fun _ hk => hk.2) (.int .i64 t193)) (fun _ hk => hk.2) (.int .i64 t194)) (fun _ hk => hk.2) (.slice Ao41 t195.length co41)) (fun _ hk => hk.2) (.slice Ao42 t198.length co42)) (fun _ hk => hk.2) (.slice Ao43 t201.length co43)) (fun _ h_ => h_.1))) : P := h
theorem u3_19 {P : Prop} (h : P := by (with_reducible repeat (first | apply Kd.R_alloc | apply Kd.R_drewN | apply Kd.R_drew)); exact (Kd.R_mono (Kd.R_far (p := ⟨gb204, 9, none⟩) (Kd.R_far (p := ⟨gb204, 8, none⟩) (Kd.R_far (p := ⟨gb204, 7, none⟩) (Kd.R_far (p := ⟨gb204, 6, none⟩) (Kd.R_far (p := ⟨gb204, 5, none⟩) (Kd.R_far (p := ⟨gb204, 4, none⟩) (Kd.R_far (p := ⟨gb204, 3, none⟩) (Kd.R_far (p := ⟨gb204, 2, none⟩) (Kd.R_far (p := ⟨gb204, 1, none⟩) (Kd.R_far (p := ⟨gb204, 0, none⟩) (Kd.R_types HO163.out BK204.out (by decide)) (fun _ hk => hk.2) (.int .i64 t188)) (fun _ hk => hk.2) (.int .i64 t189)) (fun _ hk => hk.2) (.int .i64 t190)) (fun _ hk => hk.2) (.int .i64 t191)) (fun _ hk => hk.2) (.int .i64 t192)) (fun _ hk => hk.2) (.int .i64 t193)) (fun _ hk => hk.2) (.int .i64 t194)) (fun _ hk => hk.2) (.slice Ao41 t195.length co41)) (fun _ hk => hk.2) (.slice Ao42 t198.length co42)) (fun _ hk => hk.2) (.slice Ao43 t201.length co43)) (fun _ h_ => h_.1))) : P := h
theorem u3_20 {P : Prop} (h : P := by (with_reducible repeat (first | apply Kd.R_alloc | apply Kd.R_drewN | apply Kd.R_drew)); exact HO160.out) : P := h
theorem u3_21 {P : Prop} (h : P := by (with_reducible repeat (first | apply Kd.R_alloc | apply Kd.R_drewN | apply Kd.R_drew)); exact HO163.out) : P := h
theorem u3_22 {P : Prop} (h : P := by (with_reducible repeat (first | refine blk_drewN ?_ _ | refine blk_drew ?_ | refine blk_alloc ?_ _)); exact BK181.out) : P := h
theorem u3_23 {P : Prop} (h : P := by repeat (first | (with_reducible first | exact HB.out | apply below_alloc | apply pw_below_drewN | apply below_drew1 | refine below_set ?_ GE144.out) | exact HB.out)) : P := h
theorem u3_24 {P : Prop} (h : P := by (with_reducible repeat (first | apply Kd.R_alloc | apply Kd.R_drewN | apply Kd.R_drew)); exact HO157.out) : P := h
theorem u3_25 {P : Prop} (h : P := by (with_reducible repeat (first | apply Kd.R_alloc | apply Kd.R_drewN | apply Kd.R_drew)); exact HO177.out) : P := h
theorem u3_26 {P : Prop} (h : P := by (with_reducible repeat (first | apply Kd.R_alloc | apply Kd.R_drewN | apply Kd.R_drew)); exact HO180.out) : P := h
theorem u3_27 {P : Prop} (h : P := by (with_reducible repeat (first | apply Kd.R_alloc | apply Kd.R_drewN | apply Kd.R_drew)); exact HO174.out) : P := h
theorem u3_28 {P : Prop} (h : P := by repeat (first | (with_reducible first | exact HK.out | apply Kept.alloc | apply Kept.drewN | apply Kept.drew | refine Kept.setCell ?_ (.inr GW131.out) _) | exact HK.out)) : P := h
theorem u3_29 {P : Prop} (h : P := by repeat (first | (with_reducible first | exact HB.out | apply below_alloc | apply pw_below_drewN | apply below_drew1 | refine below_set ?_ GE131.out) | exact HB.out)) : P := h
theorem u3_30 {P : Prop} (h : P := by repeat (first | (with_reducible first | exact HB.out | apply below_alloc | apply pw_below_drewN | apply below_drew1 | refine below_set ?_ GE164.out | refine below_set ?_ GE181.out | refine below_set ?_ GE204.out) | exact HB.out)) : P := h
theorem u3_31 {P : Prop} (h : P := by (try simp only [List.map_toArray, List.map_cons, List.map_nil]); first | done | (rw [show t184.length = t172.length from (Kd.R_reads' HO174.out).1.symm, show t185.length = t175.length from (Kd.R_reads' HO177.out).1.symm, show t186.length = t178.length from (Kd.R_reads' HO180.out).1.symm] <;> rfl) | rfl | (simp only [List.length_drop, List.length_take]; rfl)) : P := h
theorem u3_32 {P : Prop} (h : P := by repeat (first | (with_reducible first | exact HB.out | apply below_alloc | apply pw_below_drewN | apply below_drew1 | refine below_set ?_ GE142.out) | exact HB.out)) : P := h
theorem u3_33 {P : Prop} (h : P := by first | rfl | (simp; done) | (simp [*]; done)) : P := h
theorem u3_34 {P : Prop} (h : P := by (with_reducible repeat (first | refine blk_drewN ?_ _ | refine blk_drew ?_ | refine blk_alloc ?_ _)); exact BK131.out) : P := h
theorem u3_35 {P : Prop} (h : P := by first | (with_reducible assumption) | assumption) : P := h
theorem u3_36 {P : Prop} (h : P := by repeat (first | exact (Kd.R_reads' HO174.out).2.2 | (with_reducible refine Kd.C_alloc ?_ _) | (with_reducible refine Kd.C_drewN ?_ _) | (with_reducible refine Kd.C_drew ?_))) : P := h
theorem u3_37 {P : Prop} (h : P := by repeat (first | exact (Kd.R_reads' HO177.out).2.2 | (with_reducible refine Kd.C_alloc ?_ _) | (with_reducible refine Kd.C_drewN ?_ _) | (with_reducible refine Kd.C_drew ?_))) : P := h
theorem u3_38 {P : Prop} (h : P := by repeat (first | exact (Kd.R_reads' HO180.out).2.2 | (with_reducible refine Kd.C_alloc ?_ _) | (with_reducible refine Kd.C_drewN ?_ _) | (with_reducible refine Kd.C_drew ?_))) : P := h
theorem u3_39 {P : Prop} (h : P := by repeat (first | exact Drawn0.refl _ | apply Drawn0.step)) : P := h
theorem u3_40 {P : Prop} (h : P := by rw [show t184.length = t172.length from (Kd.R_reads' HO174.out).1.symm]; exact (Kd.R_reads' HO174.out).2.1) : P := h
theorem u3_41 {P : Prop} (h : P := by rw [show t185.length = t175.length from (Kd.R_reads' HO177.out).1.symm]; exact (Kd.R_reads' HO177.out).2.1) : P := h
theorem u3_42 {P : Prop} (h : P := by rw [show t186.length = t178.length from (Kd.R_reads' HO180.out).1.symm]; exact (Kd.R_reads' HO180.out).2.1) : P := h
theorem u3_43 {P : Prop} (h : P := by (with_reducible repeat (first | apply Kd.R_alloc | apply Kd.R_drewN | apply Kd.R_drew)); exact HO0_7.out) : P := h
theorem u3_44 {P : Prop} (h : P := by (with_reducible repeat (first | apply Kd.R_alloc | apply Kd.R_drewN | apply Kd.R_drew)); exact HO197.out) : P := h
theorem u3_45 {P : Prop} (h : P := by (with_reducible repeat (first | apply Kd.R_alloc | apply Kd.R_drewN | apply Kd.R_drew)); exact HO200.out) : P := h
theorem u3_46 {P : Prop} (h : P := by (with_reducible repeat (first | apply Kd.R_alloc | apply Kd.R_drewN | apply Kd.R_drew)); exact HO203.out) : P := h
/-! ### laws_markNode: function 23 -/
def laws_markNode.f (k : Nat) (a0_0 : Int) (a0_1 : Int) (a0_2 : Int) (a0_3 : Int) (a0_4 : Int) (a0_5 : Int) (a0_6 : Int) (l0_7 : List (S85)) (l0_8 : List Int) (l0_9 : List Int) (a1 : Int) : Option (Int × (List (S85)) × List Int × List Int) := (laws_markRLog.f k a0_5 a0_6 l0_7 a1).bind fun bt132 => ((laws_markIntS.f k l0_8 bt132.1).bind fun bt134 => ((laws_markIntS.f k l0_9 bt134.1).bind fun bt136 => (some (bt136.1, bt132.2, bt134.2, bt136.2))))
theorem laws_markNode.mono : ∀ a0 a1 a2 a3 a4 a5 a6 a7 a8 a9 a10 k, LeO (laws_markNode.f k a0 a1 a2 a3 a4 a5 a6 a7 a8 a9 a10) (laws_markNode.f (k + 1) a0 a1 a2 a3 a4 a5 a6 a7 a8 a9 a10) := by
  intro a0 a1 a2 a3 a4 a5 a6 a7 a8 a9 a10 k
  unfold laws_markNode.f
  repeat' first
      | (with_reducible exact laws_markIntS.mono _ _ _)
      | (with_reducible exact laws_markRLog.mono _ _ _ _ _)
      | (with_reducible exact LeO.refl _)
      | (with_reducible exact LeO.none _)
      | (with_reducible refine LeO.ite ?_ ?_)
      | (with_reducible refine LeO.bind ?_ (fun _ => ?_))
      | exact laws_markIntS.mono _ _ _
      | exact laws_markRLog.mono _ _ _ _ _
      | exact LeO.none _
      | refine LeO.ite ?_ ?_
      | refine LeO.bind ?_ (fun _ => ?_)
set_option maxHeartbeats 8000000 in
set_option maxRecDepth 100000 in
theorem laws_markNode.calls (k : Nat) (a0_0 : Int) (a0_1 : Int) (a0_2 : Int) (a0_3 : Int) (a0_4 : Int) (a0_5 : Int) (a0_6 : Int) (P0_7_ : Nat → Prop) (u9000_ : Value) (l0_7 : List (S85)) (P0_8_ : Nat → Prop) (u9001_ : Value) (l0_8 : List Int) (P0_9_ : Nat → Prop) (u9002_ : Value) (l0_9 : List Int) (a1 : Int) (r1 : Int) (r2 : List (S85)) (r3 : List Int) (r4 : List Int) (w0 w : World) (hB : Below w0.heap.size w0 w) (ho0_7 : Kd.R k85 85 w w0.heap.size P0_7_ u9000_ l0_7) (ho0_8 : Kd.R (Kd.int .i64) 3 w w0.heap.size P0_8_ u9001_ l0_8) (hp0_8_0_9 : ∀ k_, P0_8_ k_ → ¬ P0_9_ k_) (ho0_9 : Kd.R (Kd.int .i64) 3 w w0.heap.size P0_9_ u9002_ l0_9) (hp0_9_0_8 : ∀ k_, P0_9_ k_ → ¬ P0_8_ k_) (h : laws_markNode.f k a0_0 a0_1 a0_2 a0_3 a0_4 a0_5 a0_6 l0_7 l0_8 l0_9 a1 = some (r1, r2, r3, r4)) :
    Calls Try.prog 23 #[.agg #[.int .i64 a0_0, .int .i64 a0_1, .int .i64 a0_2, .int .i64 a0_3, .int .i64 a0_4, .int .i64 a0_5, .int .i64 a0_6, u9000_, u9001_, u9002_], .int .i64 a1] w fun e w' => e = .returned (.int .i64 r1) ∧ Kd.R k85 85 w' w0.heap.size (fun k_ => ((P0_7_ k_ ∨ P0_8_ k_ ∨ P0_9_ k_) ∨ w.heap.size ≤ k_)) u9000_ r2 ∧ Kd.R (Kd.int .i64) 3 w' w0.heap.size (fun k_ => ((P0_7_ k_ ∨ P0_8_ k_ ∨ P0_9_ k_) ∨ w.heap.size ≤ k_)) u9001_ r3 ∧ Kd.R (Kd.int .i64) 3 w' w0.heap.size (fun k_ => ((P0_7_ k_ ∨ P0_8_ k_ ∨ P0_9_ k_) ∨ w.heap.size ≤ k_)) u9002_ r4 ∧ Below w0.heap.size w0 w' ∧ Kept w w' (fun k_ => P0_7_ k_ ∨ P0_8_ k_ ∨ P0_9_ k_) := by
  have hu37 := Try.underlying37
  have hu34 := Try.underlying34
  have HO0_7 := Aside0.mk (show Kd.R k85 85 w w0.heap.size (fun k_ => ((P0_7_ k_ ∨ P0_8_ k_ ∨ P0_9_ k_) ∨ w.heap.size ≤ k_)) u9000_ l0_7 from Kd.R_mono ho0_7 (fun k_ hk => (.inl (.inl hk))))
  have HO0_8 := Aside0.mk (show Kd.R (Kd.int .i64) 3 w w0.heap.size (fun k_ => ((P0_7_ k_ ∨ P0_8_ k_ ∨ P0_9_ k_) ∨ w.heap.size ≤ k_) ∧ some k_ ≠ (u9002_ : Value).ownBlock) u9001_ l0_8 from Kd.R_mono ho0_8 (fun k_ hk => ⟨(.inl (.inr (.inl hk))), fun e_ => hp0_8_0_9 k_ hk (ho0_9.1 k_ e_.symm)⟩))
  have HO0_9 := Aside0.mk (show Kd.R (Kd.int .i64) 3 w w0.heap.size (fun k_ => ((P0_7_ k_ ∨ P0_8_ k_ ∨ P0_9_ k_) ∨ w.heap.size ≤ k_) ∧ some k_ ≠ (u9001_ : Value).ownBlock) u9002_ l0_9 from Kd.R_mono ho0_9 (fun k_ hk => ⟨(.inl (.inr (.inr hk))), fun e_ => hp0_9_0_8 k_ hk (ho0_8.1 k_ e_.symm)⟩))
  have HK := Aside0.mk (Kept.refl w (fun k_ => P0_7_ k_ ∨ P0_8_ k_ ∨ P0_9_ k_))
  have HW0 := Aside0.mk hB.size
  have HB := Aside0.mk hB
  clear hB
  have H : ((laws_markRLog.f k a0_5 a0_6 l0_7 a1).bind fun bt132 => ((laws_markIntS.f k l0_8 bt132.1).bind fun bt134 => ((laws_markIntS.f k l0_9 bt134.1).bind fun bt136 => (some (bt136.1, bt132.2, bt134.2, bt136.2))))) = some (r1, r2, r3, r4) := h
  clear h
  replace H := Option.bind_eq_some_iff.mp H
  obtain ⟨⟨t132, t133⟩, A30, H⟩ := H
  (try dsimp only at H)
  have A3 := Aside0.mk A30
  clear A30
  replace H := Option.bind_eq_some_iff.mp H
  obtain ⟨⟨t134, t135⟩, A40, H⟩ := H
  (try dsimp only at H)
  have A4 := Aside0.mk A40
  clear A40
  replace H := Option.bind_eq_some_iff.mp H
  obtain ⟨⟨t136, t137⟩, A50, H⟩ := H
  replace H : (some (t136, t133, t135, t137)) = some (r1, r2, r3, r4) := H
  have A5 := Aside0.mk A50
  clear A50
  simp only [Option.some.injEq, Prod.mk.injEq] at H
  obtain ⟨rfl, rfl, rfl, rfl⟩ := H
  obtain ⟨Ao6, co6, eo6⟩ := Kd.R_slice HO0_7.out
  subst eo6
  obtain ⟨Ao7, co7, eo7⟩ := Kd.R_slice HO0_8.out
  subst eo7
  obtain ⟨Ao8, co8, eo8⟩ := Kd.R_slice HO0_9.out
  subst eo8
  go_enter Try.func23, Try.ntmps23
  go_wp2_with (first | ((with_reducible refine gate_dst (N := 2) rfl ?_); refine box_event ?hg (N := 2) ?hd (cs := #[.int .i64 a0_0, .int .i64 a0_1, .int .i64 a0_2, .int .i64 a0_3, .int .i64 a0_4, .int .i64 a0_5, .int .i64 a0_6, .slice Ao6 l0_7.length co6, .slice Ao7 l0_8.length co7, .slice Ao8 l0_9.length co8]) (t := 37) ?hr ?_; (case hd => rfl); (case hg => rfl); (case hr => first | (go_simp; done) | (go_simp; rfl)); intro gb131 hg w9 hbox hb; have n0_ := Aside0.mk (Kd.R_below u3_43 hb); have n1_ := Aside0.mk (Kd.R_below (by (with_reducible repeat (first | apply Kd.R_alloc | apply Kd.R_drewN | apply Kd.R_drew)); exact HO0_8.out) hb); have n2_ := Aside0.mk (Kd.R_below (by (with_reducible repeat (first | apply Kd.R_alloc | apply Kd.R_drewN | apply Kd.R_drew)); exact HO0_9.out) hb); have n3_ := Aside0.mk (Kept.below (S := (fun k_ => P0_7_ k_ ∨ P0_8_ k_ ∨ P0_9_ k_)) (by repeat (first | (with_reducible first | exact HK.out | apply Kept.alloc | apply Kept.drewN | apply Kept.drew) | exact HK.out)) hb); have n4_ := Aside0.mk (below_step u3_0 hb); have n5_ := Aside0.mk (hbox); have n6_ := Aside0.mk ((by rw [hg]; exact (by first | exact HK.out.1 | exact (show Kept w _ (fun k_ => P0_7_ k_ ∨ P0_8_ k_ ∨ P0_9_ k_) from by repeat (first | (with_reducible first | exact HK.out | apply Kept.alloc | apply Kept.drewN | apply Kept.drew) | exact HK.out)).1) : w.heap.size ≤ gb131)); have n7_ := Aside0.mk ((by rw [hg]; exact (below_size u3_0) : w0.heap.size ≤ gb131)); clear HO0_7; clear HO0_8; clear HO0_9; clear HK; clear HB; have HO0_7 := n0_; have HO0_8 := n1_; have HO0_9 := n2_; have HK := n3_; have HB := n4_; have BK131 := n5_; have GW131 := n6_; have GE131 := n7_; clear n0_ n1_ n2_ n3_ n4_ n5_ n6_ n7_; clear hb hbox hg; have hcz10_0 : w9.cell? ⟨gb131, 0, none⟩ = some (.int .i64 a0_0) := (blk_cell BK131.out 0).trans rfl; have hcz10_1 : w9.cell? ⟨gb131, 1, none⟩ = some (.int .i64 a0_1) := (blk_cell BK131.out 1).trans rfl; have hcz10_2 : w9.cell? ⟨gb131, 2, none⟩ = some (.int .i64 a0_2) := (blk_cell BK131.out 2).trans rfl; have hcz10_3 : w9.cell? ⟨gb131, 3, none⟩ = some (.int .i64 a0_3) := (blk_cell BK131.out 3).trans rfl; have hcz10_4 : w9.cell? ⟨gb131, 4, none⟩ = some (.int .i64 a0_4) := (blk_cell BK131.out 4).trans rfl; have hcz10_5 : w9.cell? ⟨gb131, 5, none⟩ = some (.int .i64 a0_5) := (blk_cell BK131.out 5).trans rfl; have hcz10_6 : w9.cell? ⟨gb131, 6, none⟩ = some (.int .i64 a0_6) := (blk_cell BK131.out 6).trans rfl; have hcz10_7 : w9.cell? ⟨gb131, 7, none⟩ = some (.slice Ao6 l0_7.length co6) := (blk_cell BK131.out 7).trans rfl; have hcz10_8 : w9.cell? ⟨gb131, 8, none⟩ = some (.slice Ao7 l0_8.length co7) := (blk_cell BK131.out 8).trans rfl; have hcz10_9 : w9.cell? ⟨gb131, 9, none⟩ = some (.slice Ao8 l0_9.length co8) := (blk_cell BK131.out 9).trans rfl; have hfz10_0 := blk_frozen BK131.out 0; have hfz10_1 := blk_frozen BK131.out 1; have hfz10_2 := blk_frozen BK131.out 2; have hfz10_3 := blk_frozen BK131.out 3; have hfz10_4 := blk_frozen BK131.out 4; have hfz10_5 := blk_frozen BK131.out 5; have hfz10_6 := blk_frozen BK131.out 6; have hfz10_7 := blk_frozen BK131.out 7; have hfz10_8 := blk_frozen BK131.out 8; have hfz10_9 := blk_frozen BK131.out 9) | ((with_reducible refine gate_callee (f := 68) rfl ?_); refine goesL_ (some 8) rfl rfl Try.func68 (by kernel_rfl) rfl #[.agg #[.int .i64 a0_5, .int .i64 a0_6, .slice Ao6 l0_7.length co6], .int .i64 a1] rfl u3_3 ?_; (with_reducible refine (laws_markRLog.calls k a0_5 a0_6 (fun k_ => some k_ = (.slice Ao6 l0_7.length co6 : Value).ownBlock) (.slice Ao6 l0_7.length co6) l0_7 a1 t132 t133 w0 _ ?side1 ?side2 A3.out).mono ?_); (case side1 => exact u3_29); (case side2 => exact Kd.R_tight rfl HO0_7.out); rintro e w11 ⟨rfl, hy0, hb, hkp⟩; refine ⟨_, rfl, ?_⟩; have n0_ := Aside0.mk (Kd.R_reok rfl hy0 (fun k_ e_ => HO0_7.out.1 k_ e_)); have n1_ := Aside0.mk (Kd.R_mono (ok' := fun k_ => ((P0_7_ k_ ∨ P0_8_ k_ ∨ P0_9_ k_) ∨ w.heap.size ≤ k_) ∧ some k_ ≠ (.slice Ao8 l0_9.length co8 : Value).ownBlock) (Kd.R_keptB ((Kd.R_apart' HO0_8.out (Kd.R_typed HO0_7.out) (by decide))) hkp (fun k_ hk_ hs_ => (hk_.2) hs_)) (fun k_ hk_ => ⟨hk_.1.1.1, hk_.1.1.2⟩)); have n2_ := Aside0.mk (Kd.R_mono (ok' := fun k_ => ((P0_7_ k_ ∨ P0_8_ k_ ∨ P0_9_ k_) ∨ w.heap.size ≤ k_) ∧ some k_ ≠ (.slice Ao7 l0_8.length co7 : Value).ownBlock) (Kd.R_keptB ((Kd.R_apart' HO0_9.out (Kd.R_typed HO0_7.out) (by decide))) hkp (fun k_ hk_ hs_ => (hk_.2) hs_)) (fun k_ hk_ => ⟨hk_.1.1.1, hk_.1.1.2⟩)); have n3_ := Aside0.mk (blk_kept u3_34 hkp (fun hs_ => (fun e_ => (Kd.R_ne HO0_7.out BK131.out (by decide)) e_) hs_)); have n4_ := Aside0.mk (Kept.then_ (S := (fun k_ => P0_7_ k_ ∨ P0_8_ k_ ∨ P0_9_ k_)) u3_28 hkp (fun k_ hs_ => (fun e_ => (HO0_7.out.1 k_ e_.symm)) hs_)); have n5_ := Aside0.mk (hb); clear HO0_7; clear HO0_8; clear HO0_9; clear BK131; clear HK; clear HB; have HO0_7 := n0_; have HO0_8 := n1_; have HO0_9 := n2_; have BK131 := n3_; have HK := n4_; have HB := n5_; clear n0_ n1_ n2_ n3_ n4_ n5_; (try clear hb); (try clear hkp); (try clear hy0); have hcz12_0 : w11.cell? ⟨gb131, 0, none⟩ = some (.int .i64 a0_0) := (blk_cell BK131.out 0).trans rfl; have hcz12_1 : w11.cell? ⟨gb131, 1, none⟩ = some (.int .i64 a0_1) := (blk_cell BK131.out 1).trans rfl; have hcz12_2 : w11.cell? ⟨gb131, 2, none⟩ = some (.int .i64 a0_2) := (blk_cell BK131.out 2).trans rfl; have hcz12_3 : w11.cell? ⟨gb131, 3, none⟩ = some (.int .i64 a0_3) := (blk_cell BK131.out 3).trans rfl; have hcz12_4 : w11.cell? ⟨gb131, 4, none⟩ = some (.int .i64 a0_4) := (blk_cell BK131.out 4).trans rfl; have hcz12_5 : w11.cell? ⟨gb131, 5, none⟩ = some (.int .i64 a0_5) := (blk_cell BK131.out 5).trans rfl; have hcz12_6 : w11.cell? ⟨gb131, 6, none⟩ = some (.int .i64 a0_6) := (blk_cell BK131.out 6).trans rfl; have hcz12_7 : w11.cell? ⟨gb131, 7, none⟩ = some (.slice Ao6 l0_7.length co6) := (blk_cell BK131.out 7).trans rfl; have hcz12_8 : w11.cell? ⟨gb131, 8, none⟩ = some (.slice Ao7 l0_8.length co7) := (blk_cell BK131.out 8).trans rfl; have hcz12_9 : w11.cell? ⟨gb131, 9, none⟩ = some (.slice Ao8 l0_9.length co8) := (blk_cell BK131.out 9).trans rfl; have hfz12_0 := blk_frozen BK131.out 0; have hfz12_1 := blk_frozen BK131.out 1; have hfz12_2 := blk_frozen BK131.out 2; have hfz12_3 := blk_frozen BK131.out 3; have hfz12_4 := blk_frozen BK131.out 4; have hfz12_5 := blk_frozen BK131.out 5; have hfz12_6 := blk_frozen BK131.out 6; have hfz12_7 := blk_frozen BK131.out 7; have hfz12_8 := blk_frozen BK131.out 8; have hfz12_9 := blk_frozen BK131.out 9) | ((with_reducible refine gate_callee (f := 54) rfl ?_); refine goesL_ (some 12) rfl rfl Try.func54 (by kernel_rfl) rfl #[.slice Ao7 l0_8.length co7, .int .i64 t132] rfl u3_3 ?_; (with_reducible refine (laws_markIntS.calls k (fun k_ => some k_ = (.slice Ao7 l0_8.length co7 : Value).ownBlock) (.slice Ao7 l0_8.length co7) l0_8 t132 t134 t135 w0 _ ?side1 ?side2 A4.out).mono ?_); (case side1 => exact u3_29); (case side2 => exact Kd.R_tight rfl HO0_8.out); rintro e w13 ⟨rfl, hy0, hb, hkp⟩; refine ⟨_, rfl, ?_⟩; have n0_ := Aside0.mk (Kd.R_mono (ok' := fun k_ => ((P0_7_ k_ ∨ P0_8_ k_ ∨ P0_9_ k_) ∨ w.heap.size ≤ k_)) (Kd.R_keptB ((Kd.R_apart' HO0_7.out (Kd.R_typed HO0_8.out) (by decide))) hkp (fun k_ hk_ hs_ => (hk_.2) hs_)) (fun k_ hk_ => hk_.1.1)); have n1_ := Aside0.mk (Kd.R_reok rfl hy0 (fun k_ e_ => HO0_8.out.1 k_ e_)); have n2_ := Aside0.mk (Kd.R_mono (ok' := fun k_ => ((P0_7_ k_ ∨ P0_8_ k_ ∨ P0_9_ k_) ∨ w.heap.size ≤ k_) ∧ some k_ ≠ (.slice Ao7 l0_8.length co7 : Value).ownBlock) (Kd.R_keptB (HO0_9.out) hkp (fun k_ hk_ hs_ => (hk_.2) hs_)) (fun k_ hk_ => ⟨hk_.1.1, hk_.1.2⟩)); have n3_ := Aside0.mk (blk_kept u3_34 hkp (fun hs_ => (fun e_ => (Kd.R_ne HO0_8.out BK131.out (by decide)) e_) hs_)); have n4_ := Aside0.mk (Kept.then_ (S := (fun k_ => P0_7_ k_ ∨ P0_8_ k_ ∨ P0_9_ k_)) u3_28 hkp (fun k_ hs_ => (fun e_ => (HO0_8.out.1 k_ e_.symm).1) hs_)); have n5_ := Aside0.mk (hb); clear HO0_7; clear HO0_8; clear HO0_9; clear BK131; clear HK; clear HB; have HO0_7 := n0_; have HO0_8 := n1_; have HO0_9 := n2_; have BK131 := n3_; have HK := n4_; have HB := n5_; clear n0_ n1_ n2_ n3_ n4_ n5_; (try clear hb); (try clear hkp); (try clear hy0); have hcz14_0 : w13.cell? ⟨gb131, 0, none⟩ = some (.int .i64 a0_0) := (blk_cell BK131.out 0).trans rfl; have hcz14_1 : w13.cell? ⟨gb131, 1, none⟩ = some (.int .i64 a0_1) := (blk_cell BK131.out 1).trans rfl; have hcz14_2 : w13.cell? ⟨gb131, 2, none⟩ = some (.int .i64 a0_2) := (blk_cell BK131.out 2).trans rfl; have hcz14_3 : w13.cell? ⟨gb131, 3, none⟩ = some (.int .i64 a0_3) := (blk_cell BK131.out 3).trans rfl; have hcz14_4 : w13.cell? ⟨gb131, 4, none⟩ = some (.int .i64 a0_4) := (blk_cell BK131.out 4).trans rfl; have hcz14_5 : w13.cell? ⟨gb131, 5, none⟩ = some (.int .i64 a0_5) := (blk_cell BK131.out 5).trans rfl; have hcz14_6 : w13.cell? ⟨gb131, 6, none⟩ = some (.int .i64 a0_6) := (blk_cell BK131.out 6).trans rfl; have hcz14_7 : w13.cell? ⟨gb131, 7, none⟩ = some (.slice Ao6 l0_7.length co6) := (blk_cell BK131.out 7).trans rfl; have hcz14_8 : w13.cell? ⟨gb131, 8, none⟩ = some (.slice Ao7 l0_8.length co7) := (blk_cell BK131.out 8).trans rfl; have hcz14_9 : w13.cell? ⟨gb131, 9, none⟩ = some (.slice Ao8 l0_9.length co8) := (blk_cell BK131.out 9).trans rfl; have hfz14_0 := blk_frozen BK131.out 0; have hfz14_1 := blk_frozen BK131.out 1; have hfz14_2 := blk_frozen BK131.out 2; have hfz14_3 := blk_frozen BK131.out 3; have hfz14_4 := blk_frozen BK131.out 4; have hfz14_5 := blk_frozen BK131.out 5; have hfz14_6 := blk_frozen BK131.out 6; have hfz14_7 := blk_frozen BK131.out 7; have hfz14_8 := blk_frozen BK131.out 8; have hfz14_9 := blk_frozen BK131.out 9) | ((with_reducible refine gate_callee (f := 54) rfl ?_); refine goesL_ (some 16) rfl rfl Try.func54 (by kernel_rfl) rfl #[.slice Ao8 l0_9.length co8, .int .i64 t134] rfl u3_3 ?_; (with_reducible refine (laws_markIntS.calls k (fun k_ => some k_ = (.slice Ao8 l0_9.length co8 : Value).ownBlock) (.slice Ao8 l0_9.length co8) l0_9 t134 t136 t137 w0 _ ?side1 ?side2 A5.out).mono ?_); (case side1 => exact u3_29); (case side2 => exact Kd.R_tight rfl HO0_9.out); rintro e w15 ⟨rfl, hy0, hb, hkp⟩; refine ⟨_, rfl, ?_⟩; have n0_ := Aside0.mk (Kd.R_mono (ok' := fun k_ => ((P0_7_ k_ ∨ P0_8_ k_ ∨ P0_9_ k_) ∨ w.heap.size ≤ k_)) (Kd.R_keptB ((Kd.R_apart' HO0_7.out (Kd.R_typed HO0_9.out) (by decide))) hkp (fun k_ hk_ hs_ => (hk_.2) hs_)) (fun k_ hk_ => hk_.1.1)); have n1_ := Aside0.mk (Kd.R_mono (ok' := fun k_ => ((P0_7_ k_ ∨ P0_8_ k_ ∨ P0_9_ k_) ∨ w.heap.size ≤ k_) ∧ some k_ ≠ (.slice Ao8 l0_9.length co8 : Value).ownBlock) (Kd.R_keptB (HO0_8.out) hkp (fun k_ hk_ hs_ => (hk_.2) hs_)) (fun k_ hk_ => ⟨hk_.1.1, hk_.1.2⟩)); have n2_ := Aside0.mk (Kd.R_reok rfl hy0 (fun k_ e_ => HO0_9.out.1 k_ e_)); have n3_ := Aside0.mk (blk_kept u3_34 hkp (fun hs_ => (fun e_ => (Kd.R_ne HO0_9.out BK131.out (by decide)) e_) hs_)); have n4_ := Aside0.mk (Kept.then_ (S := (fun k_ => P0_7_ k_ ∨ P0_8_ k_ ∨ P0_9_ k_)) u3_28 hkp (fun k_ hs_ => (fun e_ => (HO0_9.out.1 k_ e_.symm).1) hs_)); have n5_ := Aside0.mk (hb); clear HO0_7; clear HO0_8; clear HO0_9; clear BK131; clear HK; clear HB; have HO0_7 := n0_; have HO0_8 := n1_; have HO0_9 := n2_; have BK131 := n3_; have HK := n4_; have HB := n5_; clear n0_ n1_ n2_ n3_ n4_ n5_; (try clear hb); (try clear hkp); (try clear hy0)))
  go_ret
  exact ⟨by first | rfl | (simp [errW_none, errW_some] <;> rfl) | (simp [*, errW_none, errW_some] <;> rfl), u3_43, (by (with_reducible repeat (first | apply Kd.R_alloc | apply Kd.R_drewN | apply Kd.R_drew)); exact Kd.R_mono HO0_8.out (fun _ hk => hk.1)), (by (with_reducible repeat (first | apply Kd.R_alloc | apply Kd.R_drewN | apply Kd.R_drew)); exact Kd.R_mono HO0_9.out (fun _ hk => hk.1)), u3_29, u3_28⟩

/-! ### laws_heldIntS: function 55 -/
def laws_heldIntS.l0 : Nat → List Int → Int → Int → Option (Int)
  | 0, _, _, _ => none
  | k + 1, x0, x1, x5 => if x5 < (x0.length : Int) then (if 0 ≤ x5 then (if (rd x0 x5) = x1 then (laws_heldIntS.l0 k x0 (wrap64 (x1 + 1)) (wrap64 (x5 + 1))) else (some (-1))) else (none)) else (some x1)
def laws_heldIntS.f (k : Nat) (l0 : List Int) (a1 : Int) : Option (Int) := laws_heldIntS.l0 k l0 a1 0
theorem laws_heldIntS.mono_l : ∀ k, (∀ y0 y1 y2, LeO (laws_heldIntS.l0 k y0 y1 y2) (laws_heldIntS.l0 (k + 1) y0 y1 y2))
  | 0 => fun _ _ _ r h => by simp [laws_heldIntS.l0] at h
  | k + 1 => by
    have ih0 := laws_heldIntS.mono_l k
    · intro y0 y1 y2
      unfold laws_heldIntS.l0
      repeat' first
      | (with_reducible exact ih0 _ _ _)
      | (with_reducible exact LeO.refl _)
      | (with_reducible exact LeO.none _)
      | (with_reducible refine LeO.ite ?_ ?_)
      | (with_reducible refine LeO.bind ?_ (fun _ => ?_))
      | exact ih0 _ _ _
      | exact LeO.none _
      | refine LeO.ite ?_ ?_
      | refine LeO.bind ?_ (fun _ => ?_)
theorem laws_heldIntS.mono : ∀ a0 a1 k, LeO (laws_heldIntS.f k a0 a1) (laws_heldIntS.f (k + 1) a0 a1) := by
  intro a0 a1 k
  have ih0 := laws_heldIntS.mono_l k
  unfold laws_heldIntS.f
  repeat' first
      | (with_reducible exact ih0 _ _ _)
      | (with_reducible exact LeO.refl _)
      | (with_reducible exact LeO.none _)
      | (with_reducible refine LeO.ite ?_ ?_)
      | (with_reducible refine LeO.bind ?_ (fun _ => ?_))
      | exact ih0 _ _ _
      | exact LeO.none _
      | refine LeO.ite ?_ ?_
      | refine LeO.bind ?_ (fun _ => ?_)
set_option maxHeartbeats 8000000 in
set_option maxRecDepth 100000 in
theorem laws_heldIntS.calls (k : Nat) (A0 : Option Addr) (c0 : Nat) (l0 : List Int) (a1 : Int) (r : Int) (w : World) (hr0 : Kd.C (Kd.int .i64) w A0 l0.length l0) (hc0 : l0.length ≤ c0) (h : laws_heldIntS.f k l0 a1 = some r) :
    Calls Try.prog 55 #[.slice A0 l0.length c0, .int .i64 a1] w fun e w' => e = .returned (.int .i64 r) ∧ Drawn0 w w' := by
  have HR0 := Aside0.mk hr0
  have HC0 := Aside0.mk hc0
  clear hr0 hc0
  have H : (laws_heldIntS.l0 k l0 a1 0) = some r := h
  clear h
  have H' := Aside0.mk H
  clear H
  go_enter Try.func55, Try.ntmps55
  go_wp2
  go_loopg [1, 5] k (fun kq v1 v5 w' => ∃ (x1_1 : Int) (x5_1 : Int), v1 = .int .i64 x1_1 ∧ v5 = .int .i64 x5_1 ∧ Aside0 (laws_heldIntS.l0 kq l0 x1_1 x5_1 = some r) ∧ Aside0 (kq ≤ k) ∧ Drawn0 w w')
  case atStart => exact ⟨(a1), (0), u3_33, u3_33, H', ⟨Nat.le_refl _⟩, u3_39⟩
  clear H'
  try clear p2
  obtain ⟨x1_1, x5_1, rfl, rfl, HA, HK1, ⟨m1, rfl⟩⟩ := hrel
  cases gk with
  | zero => exact absurd HA.out (by simp [laws_heldIntS.l0])
  | succ k1 =>
    have H := HA.out
    clear HA
    simp only [laws_heldIntS.l0] at H
    by_cases c3 : x5_1 < (l0.length : Int)
    rotate_left
    · rw [if_neg c3] at H
      have c3b0 : decide (x5_1 < (l0.length : Int)) = false := decide_eq_false c3
      clear c3
      obtain rfl := Option.some.inj H
      go_wp2
      go_ret
      exact ⟨by first | rfl | (simp; done) | (simp [*]; done), u3_39⟩
    rw [if_pos c3] at H
    have c3b0 : decide (x5_1 < (l0.length : Int)) = true := decide_eq_true c3
    clear c3
    by_cases c4 : 0 ≤ x5_1
    rotate_left
    · rw [if_neg c4] at H
      exact absurd H (by simp)
    rw [if_pos c4] at H
    have c4b0 : decide (0 ≤ x5_1) = true := decide_eq_true c4
    clear c4
    have H9 := Aside0.mk H
    clear H
    have p138 : 0 ≤ (x5_1 : Int) := of_decide_eq_true u3_35
    have q138 : x5_1 < (l0.length : Int) := of_decide_eq_true u3_35
    obtain ⟨ad138, e138, hx138_0⟩ := Kd.at_int HR0.out x5_1 p138 q138
    cases e138
    replace p138 := eq_true p138
    replace q138 := eq_true q138
    go_upto_if 17 with (fail)
    have H := H9.out
    clear H9
    by_cases c5 : (rd l0 x5_1) = x1_1
    rotate_left
    · rw [if_neg c5] at H
      have c5b0 : ((rd l0 x5_1) == x1_1) = false := beq_eq_false_iff_ne.mpr c5
      have c5b1 : ((rd l0 x5_1) != x1_1) = true := bne_iff_ne.mpr c5
      (first | rw [c5b0] | (simp only [i64_w, i32_w]; rw [c5b0]) | skip)
      obtain rfl := Option.some.inj H
      go_wp2
      go_ret
      exact ⟨by first | rfl | (simp; done) | (simp [*]; done), u3_39⟩
    rw [if_pos c5] at H
    have c5b0 : ((rd l0 x5_1) == x1_1) = true := beq_iff_eq.mpr c5
    have c5b1 : ((rd l0 x5_1) != x1_1) = false := bne_eq_false_iff_eq.mpr c5
    clear c5
    (first | rw [c5b0] | (simp only [i64_w, i32_w]; rw [c5b0]) | skip)
    have H' := Aside0.mk H
    clear H
    go_wp2
    go_roundg k1
    case measure => have := HK1.out; omega
    case rel => exact ⟨(wrap64 (x1_1 + 1)), (wrap64 (x5_1 + 1)), u3_33, u3_33, H', ⟨by have := HK1.out; omega⟩, u3_39⟩

/-! ### laws_heldEntryS: function 60 -/
def laws_heldEntryS.l0 : Nat → List (S85) → Int → Int → Option (Int)
  | 0, _, _, _ => none
  | k + 1, x0, x1, x5 => if x5 < (x0.length : Int) then (if 0 ≤ x5 then (if ((rd_T85 x0 x5).f0) = x1 then ((laws_markText.f k (wrap64 (x1 + 1))).bind fun t141 => (if ((rd_T85 x0 x5).f1).toList = t141.toList then (laws_heldEntryS.l0 k x0 (wrap64 ((wrap64 (x1 + 1)) + 1)) (wrap64 (x5 + 1))) else (some (-1)))) else (some (-1))) else (none)) else (some x1)
def laws_heldEntryS.f (k : Nat) (l0 : List (S85)) (a1 : Int) : Option (Int) := laws_heldEntryS.l0 k l0 a1 0
theorem laws_heldEntryS.mono_l : ∀ k, (∀ y0 y1 y2, LeO (laws_heldEntryS.l0 k y0 y1 y2) (laws_heldEntryS.l0 (k + 1) y0 y1 y2))
  | 0 => fun _ _ _ r h => by simp [laws_heldEntryS.l0] at h
  | k + 1 => by
    have ih0 := laws_heldEntryS.mono_l k
    · intro y0 y1 y2
      unfold laws_heldEntryS.l0
      repeat' first
      | (with_reducible exact ih0 _ _ _)
      | (with_reducible exact laws_markText.mono _ _)
      | (with_reducible exact LeO.refl _)
      | (with_reducible exact LeO.none _)
      | (with_reducible refine LeO.ite ?_ ?_)
      | (with_reducible refine LeO.bind ?_ (fun _ => ?_))
      | exact ih0 _ _ _
      | exact laws_markText.mono _ _
      | exact LeO.none _
      | refine LeO.ite ?_ ?_
      | refine LeO.bind ?_ (fun _ => ?_)
theorem laws_heldEntryS.mono : ∀ a0 a1 k, LeO (laws_heldEntryS.f k a0 a1) (laws_heldEntryS.f (k + 1) a0 a1) := by
  intro a0 a1 k
  have ih0 := laws_heldEntryS.mono_l k
  unfold laws_heldEntryS.f
  repeat' first
      | (with_reducible exact ih0 _ _ _)
      | (with_reducible exact laws_markText.mono _ _)
      | (with_reducible exact LeO.refl _)
      | (with_reducible exact LeO.none _)
      | (with_reducible refine LeO.ite ?_ ?_)
      | (with_reducible refine LeO.bind ?_ (fun _ => ?_))
      | exact ih0 _ _ _
      | exact laws_markText.mono _ _
      | exact LeO.none _
      | refine LeO.ite ?_ ?_
      | refine LeO.bind ?_ (fun _ => ?_)
def laws_heldEntryS.T7 : Bool × List (List Nat × List Nat) := (true, [([], []), ([], []), ([0, 1], [0, 1]), ([2], [2]), ([3], [3]), ([], []), ([5], [5]), ([4, 6], [4, 6])])
def laws_heldEntryS.B7 : List Nat := [0, 0, 3, 7, 15, 0, 32, 127]
theorem laws_heldEntryS.tab7 : rtab .any (opsOf Try.f60 7) = laws_heldEntryS.T7 := by kernel_rfl
theorem laws_heldEntryS.bits7 : waitsOk laws_heldEntryS.T7.2 laws_heldEntryS.B7 = true := by kernel_rfl
set_option maxHeartbeats 8000000 in
set_option maxRecDepth 100000 in
theorem laws_heldEntryS.calls (k : Nat) (A0 : Option Addr) (c0 : Nat) (l0 : List (S85)) (a1 : Int) (r : Int) (w : World) (hr0 : Kd.C k85 w A0 l0.length l0) (hc0 : l0.length ≤ c0) (h : laws_heldEntryS.f k l0 a1 = some r) :
    Calls Try.prog 60 #[.slice A0 l0.length c0, .int .i64 a1] w fun e w' => e = .returned (.int .i64 r) ∧ Below w.heap.size w w' := by
  have HR0 := Aside0.mk hr0
  have HC0 := Aside0.mk hc0
  clear hr0 hc0
  have HB := Aside0.mk (Below.refl w.heap.size w)
  have H : (laws_heldEntryS.l0 k l0 a1 0) = some r := h
  clear h
  have H' := Aside0.mk H
  clear H
  go_enter Try.func60, Try.ntmps60
  go_wp2
  go_loopg [1, 5] k (fun kq v1 v5 w' => ∃ (x1_1 : Int) (x5_1 : Int), v1 = .int .i64 x1_1 ∧ v5 = .int .i64 x5_1 ∧ Aside0 (laws_heldEntryS.l0 kq l0 x1_1 x5_1 = some r) ∧ Aside0 (kq ≤ k) ∧ Aside0 (Below w.heap.size w w'))
  case atStart => exact ⟨(a1), (0), u3_33, u3_33, H', ⟨Nat.le_refl _⟩, ⟨u3_0⟩⟩
  clear H'
  try clear p2
  obtain ⟨x1_1, x5_1, rfl, rfl, HA, HK1, HB⟩ := hrel
  cases gk with
  | zero => exact absurd HA.out (by simp [laws_heldEntryS.l0])
  | succ k1 =>
    have H := HA.out
    clear HA
    simp only [laws_heldEntryS.l0] at H
    by_cases c3 : x5_1 < (l0.length : Int)
    rotate_left
    · rw [if_neg c3] at H
      have c3b0 : decide (x5_1 < (l0.length : Int)) = false := decide_eq_false c3
      clear c3
      obtain rfl := Option.some.inj H
      go_wp2
      go_ret
      exact ⟨by first | rfl | (simp [errW_none, errW_some] <;> rfl) | (simp [*, errW_none, errW_some] <;> rfl), u3_0⟩
    rw [if_pos c3] at H
    have c3b0 : decide (x5_1 < (l0.length : Int)) = true := decide_eq_true c3
    clear c3
    by_cases c4 : 0 ≤ x5_1
    rotate_left
    · rw [if_neg c4] at H
      exact absurd H (by simp)
    rw [if_pos c4] at H
    have c4b0 : decide (0 ≤ x5_1) = true := decide_eq_true c4
    clear c4
    have H9 := Aside0.mk H
    clear H
    have p139 : 0 ≤ (x5_1 : Int) := of_decide_eq_true u3_35
    have q139 : x5_1 < (l0.length : Int) := of_decide_eq_true u3_35
    obtain ⟨ad139, e139, hx139_0, hx139_1⟩ := at_T85 HR0.out x5_1 p139 q139
    cases e139
    replace hx139_0 := (HB.out.cell (World.block_lt_of_cell? w _ hx139_0)).trans hx139_0
    replace hx139_1 := (HB.out.cell (World.block_lt_of_cell? w _ hx139_1)).trans hx139_1
    replace p139 := eq_true p139
    replace q139 := eq_true q139
    go_upto_if 18 with (fail)
    have H := H9.out
    clear H9
    by_cases c5 : ((rd_T85 l0 x5_1).f0) = x1_1
    rotate_left
    · rw [if_neg c5] at H
      have c5b0 : (((rd_T85 l0 x5_1).f0) == x1_1) = false := beq_eq_false_iff_ne.mpr c5
      have c5b1 : (((rd_T85 l0 x5_1).f0) != x1_1) = true := bne_iff_ne.mpr c5
      (first | rw [c5b0] | (simp only [i64_w, i32_w]; rw [c5b0]) | skip)
      obtain rfl := Option.some.inj H
      go_wp2
      go_ret
      exact ⟨by first | rfl | (simp [errW_none, errW_some] <;> rfl) | (simp [*, errW_none, errW_some] <;> rfl), u3_0⟩
    rw [if_pos c5] at H
    have c5b0 : (((rd_T85 l0 x5_1).f0) == x1_1) = true := beq_iff_eq.mpr c5
    have c5b1 : (((rd_T85 l0 x5_1).f0) != x1_1) = false := bne_eq_false_iff_eq.mpr c5
    clear c5
    (first | rw [c5b0] | (simp only [i64_w, i32_w]; rw [c5b0]) | skip)
    replace H := Option.bind_eq_some_iff.mp H
    obtain ⟨t141, A60, H⟩ := H
    have A6 := Aside0.mk A60
    clear A60
    have H9 := Aside0.mk H
    clear H
    try go_wp2
    have n0_ := Aside0.mk (below_drew1 HB.out)
    clear HB
    have HB := n0_
    clear n0_
    have p140 : 0 ≤ (x5_1 : Int) := of_decide_eq_true u3_35
    have q140 : x5_1 < (l0.length : Int) := of_decide_eq_true u3_35
    obtain ⟨ad140, e140, hx140_0, hx140_1⟩ := at_T85 HR0.out x5_1 p140 q140
    have hw140_1 := hx140_1
    have hw140_0 := hx140_0
    obtain rfl : ad139 = ad140 := (by injection e140)
    replace hx140_0 := (HB.out.cell (World.block_lt_of_cell? w _ hx140_0)).trans hx140_0
    replace hx140_1 := (HB.out.cell (World.block_lt_of_cell? w _ hx140_1)).trans hx140_1
    replace p140 := eq_true p140
    replace q140 := eq_true q140
    refine start_ (n := 8) (S := fun w' => w'.cell? (ad139.add ((x5_1).toNat * 2)) = some (.int .i64 ((rd_T85 l0 x5_1).f0)) ∧ w'.cell? ⟨(ad139.add ((x5_1).toNat * 2)).block, (ad139.add ((x5_1).toNat * 2)).off + 1, none⟩ = some (.string ((rd_T85 l0 x5_1).f1))) (ds := []) #[false, false, false, false, false, false, false, false] (by kernel_rfl) rfl rfl ⟨((HB.out.cell (World.block_lt_of_cell? w _ hw140_0)).trans hw140_0), ((HB.out.cell (World.block_lt_of_cell? w _ hw140_1)).trans hw140_1)⟩ (fun hHeld => ?_); refine with_tabW laws_heldEntryS.tab7 laws_heldEntryS.bits7 (fun HT_ HW_ => ?_)
    generalize wr.drew = w7 at HB hx140_0 hx140_1 hHeld ⊢
    refine pure_ (i := 0) (N := some 21) (v := ?_) (a' := ?_) #[true, false, false, false, false, false, false, false] rfl rfl (any_of HT_.out (by kernel_rfl)) (fun _ _ _ h => h) (Or.inl ⟨by rfl, ?_⟩) ?_ ?_
    rotate_left
    · intro w'
      go_simp
      with_reducible rfl
    rotate_left
    · simp only [Act.put, List.setIfInBounds_toArray, List.set_cons_zero, List.set_cons_succ, i64_w, i32_w]
      rfl
    refine pure_ (i := 1) (N := some 22) (v := ?_) (a' := ?_) #[true, true, false, false, false, false, false, false] rfl rfl (any_of HT_.out (by kernel_rfl)) (fun _ _ _ h => h) (Or.inl ⟨by rfl, ?_⟩) ?_ ?_
    rotate_left
    · intro w'
      go_simp
      with_reducible rfl
    rotate_left
    · simp only [Act.put, List.setIfInBounds_toArray, List.set_cons_zero, List.set_cons_succ, i64_w, i32_w]
      rfl
    refine pure_ (i := 2) (N := some 23) (v := ?_) (a' := ?_) #[true, true, true, false, false, false, false, false] rfl rfl (any_of HT_.out (by kernel_rfl)) (fun _ _ _ h => h) (Or.inl ⟨by rfl, ?_⟩) ?_ ?_
    rotate_left
    · intro w'
      go_simp
      with_reducible rfl
    rotate_left
    · simp only [Act.put, List.setIfInBounds_toArray, List.set_cons_zero, List.set_cons_succ, i64_w, i32_w]
      rfl
    refine pure_ (i := 3) (N := some 24) (v := ?_) (a' := ?_) #[true, true, true, true, false, false, false, false] rfl rfl (any_of HT_.out (by kernel_rfl)) (fun _ _ _ h => h) (Or.inl ⟨by rfl, ?_⟩) ?_ ?_
    rotate_left
    · intro w'
      go_simp
      with_reducible rfl
    rotate_left
    · simp only [Act.put, List.setIfInBounds_toArray, List.set_cons_zero, List.set_cons_succ, i64_w, i32_w]
      rfl
    refine pure_ (i := 5) (N := some 26) (v := ?_) (a' := ?_) #[true, true, true, true, false, true, false, false] rfl rfl (any_of HT_.out (by kernel_rfl)) (fun _ _ _ h => h) (Or.inl ⟨by rfl, ?_⟩) ?_ ?_
    rotate_left
    · intro w'
      go_simp
      with_reducible rfl
    rotate_left
    · simp only [Act.put, List.setIfInBounds_toArray, List.set_cons_zero, List.set_cons_succ, i64_w, i32_w]
      rfl
    refine take_ (i := 4) (N := some 25) (v := ?_) (a' := ?_) #[true, true, true, true, true, true, false, false] rfl rfl (take_ofW HT_.out HW_.out (by kernel_rfl)) (fun _ _ _ h => h) (Or.inl ⟨by rfl, ?_⟩) hHeld ?_ ?_
    rotate_left
    · rintro w' ⟨s0, s1⟩
      go_simp
      with_reducible rfl
    rotate_left
    · simp only [Act.put, List.setIfInBounds_toArray, List.set_cons_zero, List.set_cons_succ, i64_w, i32_w]
      rfl
    refine one_ (i := 6) (N := some 27) #[true, true, true, true, true, true, true, false] rfl rfl (one_of HT_.out (by kernel_rfl)) (by decide) (fun K hK => ?_)
    refine goes_ Try.func106 (by kernel_rfl) rfl #[.int .i64 (wrap64 (x1_1 + 1))] (by rfl) rfl rfl u3_3 ?_
    with_reducible refine (laws_markText.calls k1 (wrap64 (x1_1 + 1)) t141 _ A6.out).mono ?_
    rintro e w8 ⟨rfl, hb⟩
    refine ⟨_, rfl, ?_⟩
    have n0_ := Aside0.mk (below_step u3_0 hb)
    clear HB
    have HB := n0_
    clear n0_
    (try clear hb)
    (try clear hb2)
    (try clear hk)
    (try clear hi)
    refine hK.out _ _ ⟨((HB.out.cell (World.block_lt_of_cell? w _ hw140_0)).trans hw140_0), ((HB.out.cell (World.block_lt_of_cell? w _ hw140_1)).trans hw140_1)⟩ (fun hHeld => ?_)
    clear hK K
    refine norm_ (a' := ?_) ?_ ?_
    rotate_left
    · show Act.put _ (some 27) _ = _
      simp only [Act.put, List.setIfInBounds_toArray, List.set_cons_zero, List.set_cons_succ, i64_w, i32_w]
      rfl
    refine pure_ (i := 7) (N := some 28) (v := ?_) (a' := ?_) #[true, true, true, true, true, true, true, true] rfl rfl (any_of HT_.out (by kernel_rfl)) (fun _ _ _ h => h) (Or.inl ⟨by rfl, ?_⟩) ?_ ?_
    rotate_left
    · intro w'
      go_simp
      with_reducible rfl
    rotate_left
    · simp only [Act.put, List.setIfInBounds_toArray, List.set_cons_zero, List.set_cons_succ, i64_w, i32_w]
      rfl
    refine done_ (done_of HT_.out (by kernel_rfl)) ?_
    go_upto_if 28 with (fail)
    have H := H9.out
    clear H9
    by_cases c9 : ((rd_T85 l0 x5_1).f1).toList = t141.toList
    rotate_left
    · rw [if_neg c9] at H
      have c9b0 : (((rd_T85 l0 x5_1).f1).toList == t141.toList) = false := beq_eq_false_iff_ne.mpr c9
      have c9b1 : (((rd_T85 l0 x5_1).f1).toList != t141.toList) = true := bne_iff_ne.mpr c9
      (first | rw [c9b0] | (simp only [i64_w, i32_w]; rw [c9b0]) | skip)
      obtain rfl := Option.some.inj H
      go_wp2
      go_ret
      exact ⟨by first | rfl | (simp [errW_none, errW_some] <;> rfl) | (simp [*, errW_none, errW_some] <;> rfl), u3_0⟩
    rw [if_pos c9] at H
    have c9b0 : (((rd_T85 l0 x5_1).f1).toList == t141.toList) = true := beq_iff_eq.mpr c9
    have c9b1 : (((rd_T85 l0 x5_1).f1).toList != t141.toList) = false := bne_eq_false_iff_eq.mpr c9
    clear c9
    (first | rw [c9b0] | (simp only [i64_w, i32_w]; rw [c9b0]) | skip)
    have H' := Aside0.mk H
    clear H
    go_wp2
    go_roundg k1
    case measure => have := HK1.out; omega
    case rel => exact ⟨(wrap64 ((wrap64 (x1_1 + 1)) + 1)), (wrap64 (x5_1 + 1)), u3_33, u3_33, H', ⟨by have := HK1.out; omega⟩, ⟨u3_0⟩⟩

/-! ### laws_heldRLog: function 69 -/
def laws_heldRLog.f (k : Nat) (a0_0 : Int) (a0_1 : Int) (l0_2 : List (S85)) (a1 : Int) : Option (Int) := (laws_heldEntryS.f k l0_2 a1).bind fun t143 => (if t143 < 0 then (some (-1)) else (some t143))
theorem laws_heldRLog.mono : ∀ a0 a1 a2 a3 k, LeO (laws_heldRLog.f k a0 a1 a2 a3) (laws_heldRLog.f (k + 1) a0 a1 a2 a3) := by
  intro a0 a1 a2 a3 k
  unfold laws_heldRLog.f
  repeat' first
      | (with_reducible exact laws_heldEntryS.mono _ _ _)
      | (with_reducible exact LeO.refl _)
      | (with_reducible exact LeO.none _)
      | (with_reducible refine LeO.ite ?_ ?_)
      | (with_reducible refine LeO.bind ?_ (fun _ => ?_))
      | exact laws_heldEntryS.mono _ _ _
      | exact LeO.none _
      | refine LeO.ite ?_ ?_
      | refine LeO.bind ?_ (fun _ => ?_)
set_option maxHeartbeats 8000000 in
set_option maxRecDepth 100000 in
theorem laws_heldRLog.calls (k : Nat) (a0_0 : Int) (a0_1 : Int) (A0_2 : Option Addr) (c0_2 : Nat) (l0_2 : List (S85)) (a1 : Int) (r : Int) (w : World) (hr0_2 : Kd.C k85 w A0_2 l0_2.length l0_2) (hc0_2 : l0_2.length ≤ c0_2) (h : laws_heldRLog.f k a0_0 a0_1 l0_2 a1 = some r) :
    Calls Try.prog 69 #[.agg #[.int .i64 a0_0, .int .i64 a0_1, .slice A0_2 l0_2.length c0_2], .int .i64 a1] w fun e w' => e = .returned (.int .i64 r) ∧ Below w.heap.size w w' := by
  have hu34 := Try.underlying34
  have HR0_2 := Aside0.mk hr0_2
  have HC0_2 := Aside0.mk hc0_2
  clear hr0_2 hc0_2
  have HB := Aside0.mk (Below.refl w.heap.size w)
  have H : ((laws_heldEntryS.f k l0_2 a1).bind fun t143 => (if t143 < 0 then (some (-1)) else (some t143))) = some r := h
  clear h
  replace H := Option.bind_eq_some_iff.mp H
  obtain ⟨t143, A30, H⟩ := H
  replace H : (if t143 < 0 then (some (-1)) else (some t143)) = some r := H
  have A3 := Aside0.mk A30
  clear A30
  have H9 := Aside0.mk H
  clear H
  go_enter Try.func69, Try.ntmps69
  go_upto_if 10 with (first | ((with_reducible refine gate_dst (N := 2) rfl ?_); refine box_event ?hg (N := 2) ?hd (cs := #[.int .i64 a0_0, .int .i64 a0_1, .slice A0_2 l0_2.length c0_2]) (t := 34) ?hr ?_; (case hd => rfl); (case hg => rfl); (case hr => first | (go_simp; done) | (go_simp; rfl)); intro gb142 hg w4 hbox hb; have n0_ := Aside0.mk (below_step u3_0 hb); have n1_ := Aside0.mk (hbox); have n2_ := Aside0.mk ((by rw [hg]; exact (below_size u3_0) : w.heap.size ≤ gb142)); have n3_ := Aside0.mk ((by rw [hg]; exact (below_size u3_0) : w.heap.size ≤ gb142)); clear HB; have HB := n0_; have BK142 := n1_; have GW142 := n2_; have GE142 := n3_; clear n0_ n1_ n2_ n3_; clear hb hbox hg; have hcz5_0 : w4.cell? ⟨gb142, 0, none⟩ = some (.int .i64 a0_0) := (blk_cell BK142.out 0).trans rfl; have hcz5_1 : w4.cell? ⟨gb142, 1, none⟩ = some (.int .i64 a0_1) := (blk_cell BK142.out 1).trans rfl; have hcz5_2 : w4.cell? ⟨gb142, 2, none⟩ = some (.slice A0_2 l0_2.length c0_2) := (blk_cell BK142.out 2).trans rfl; have hfz5_0 := blk_frozen BK142.out 0; have hfz5_1 := blk_frozen BK142.out 1; have hfz5_2 := blk_frozen BK142.out 2) | ((with_reducible refine gate_callee (f := 60) rfl ?_); refine goesL_ (some 8) rfl rfl Try.func60 (by kernel_rfl) rfl #[.slice A0_2 l0_2.length c0_2, .int .i64 a1] rfl u3_3 ?_; (with_reducible refine (laws_heldEntryS.calls k _ _ l0_2 a1 t143 _ ?side1 ?side2 A3.out).mono ?_); (case side1 => exact (by repeat (first | exact (Kd.C_below HR0_2.out HB.out) | (with_reducible refine Kd.C_alloc ?_ _) | (with_reducible refine Kd.C_drewN ?_ _) | (with_reducible refine Kd.C_drew ?_)))); (case side2 => exact HC0_2.out); rintro e w6 ⟨rfl, hb⟩; refine ⟨_, rfl, ?_⟩; have n0_ := Aside0.mk (blk_below (g := gb142) (o := .cells #[.int .i64 a0_0, .int .i64 a0_1, .slice A0_2 l0_2.length c0_2] 34 (0, 0)) (by (with_reducible repeat (first | refine blk_drewN ?_ _ | refine blk_drew ?_ | refine blk_alloc ?_ _)); exact BK142.out) hb); have n1_ := Aside0.mk (below_step u3_32 hb); clear BK142; clear HB; have BK142 := n0_; have HB := n1_; clear n0_ n1_; (try clear hb); (try clear hb2); (try clear hk); (try clear hi)))
  have H := H9.out
  clear H9
  by_cases c7 : t143 < 0
  · rw [if_pos c7] at H
    have c7b0 : decide (t143 < 0) = true := decide_eq_true c7
    clear c7
    (first | rw [c7b0] | (simp only [i64_w, i32_w]; rw [c7b0]) | skip)
    obtain rfl := Option.some.inj H
    go_wp2
    go_ret
    exact ⟨by first | rfl | (simp [errW_none, errW_some] <;> rfl) | (simp [*, errW_none, errW_some] <;> rfl), u3_32⟩
  rw [if_neg c7] at H
  have c7b0 : decide (t143 < 0) = false := decide_eq_false c7
  clear c7
  (first | rw [c7b0] | (simp only [i64_w, i32_w]; rw [c7b0]) | skip)
  obtain rfl := Option.some.inj H
  go_wp2
  go_ret
  exact ⟨by first | rfl | (simp [errW_none, errW_some] <;> rfl) | (simp [*, errW_none, errW_some] <;> rfl), u3_32⟩

/-! ### laws_heldNode: function 24 -/
def laws_heldNode.f (k : Nat) (a0_0 : Int) (a0_1 : Int) (a0_2 : Int) (a0_3 : Int) (a0_4 : Int) (a0_5 : Int) (a0_6 : Int) (l0_7 : List (S85)) (l0_8 : List Int) (l0_9 : List Int) (a1 : Int) : Option (Int) := (laws_heldRLog.f k a0_5 a0_6 l0_7 a1).bind fun t145 => (if t145 < 0 then (some (-1)) else ((laws_heldIntS.f k l0_8 t145).bind fun t146 => (if t146 < 0 then (some (-1)) else ((laws_heldIntS.f k l0_9 t146).bind fun t147 => (if t147 < 0 then (some (-1)) else (some t147))))))
theorem laws_heldNode.mono : ∀ a0 a1 a2 a3 a4 a5 a6 a7 a8 a9 a10 k, LeO (laws_heldNode.f k a0 a1 a2 a3 a4 a5 a6 a7 a8 a9 a10) (laws_heldNode.f (k + 1) a0 a1 a2 a3 a4 a5 a6 a7 a8 a9 a10) := by
  intro a0 a1 a2 a3 a4 a5 a6 a7 a8 a9 a10 k
  unfold laws_heldNode.f
  repeat' first
      | (with_reducible exact laws_heldIntS.mono _ _ _)
      | (with_reducible exact laws_heldRLog.mono _ _ _ _ _)
      | (with_reducible exact LeO.refl _)
      | (with_reducible exact LeO.none _)
      | (with_reducible refine LeO.ite ?_ ?_)
      | (with_reducible refine LeO.bind ?_ (fun _ => ?_))
      | exact laws_heldIntS.mono _ _ _
      | exact laws_heldRLog.mono _ _ _ _ _
      | exact LeO.none _
      | refine LeO.ite ?_ ?_
      | refine LeO.bind ?_ (fun _ => ?_)
set_option maxHeartbeats 8000000 in
set_option maxRecDepth 100000 in
theorem laws_heldNode.calls (k : Nat) (a0_0 : Int) (a0_1 : Int) (a0_2 : Int) (a0_3 : Int) (a0_4 : Int) (a0_5 : Int) (a0_6 : Int) (A0_7 : Option Addr) (c0_7 : Nat) (l0_7 : List (S85)) (A0_8 : Option Addr) (c0_8 : Nat) (l0_8 : List Int) (A0_9 : Option Addr) (c0_9 : Nat) (l0_9 : List Int) (a1 : Int) (r : Int) (w : World) (hr0_7 : Kd.C k85 w A0_7 l0_7.length l0_7) (hc0_7 : l0_7.length ≤ c0_7) (hr0_8 : Kd.C (Kd.int .i64) w A0_8 l0_8.length l0_8) (hc0_8 : l0_8.length ≤ c0_8) (hr0_9 : Kd.C (Kd.int .i64) w A0_9 l0_9.length l0_9) (hc0_9 : l0_9.length ≤ c0_9) (h : laws_heldNode.f k a0_0 a0_1 a0_2 a0_3 a0_4 a0_5 a0_6 l0_7 l0_8 l0_9 a1 = some r) :
    Calls Try.prog 24 #[.agg #[.int .i64 a0_0, .int .i64 a0_1, .int .i64 a0_2, .int .i64 a0_3, .int .i64 a0_4, .int .i64 a0_5, .int .i64 a0_6, .slice A0_7 l0_7.length c0_7, .slice A0_8 l0_8.length c0_8, .slice A0_9 l0_9.length c0_9], .int .i64 a1] w fun e w' => e = .returned (.int .i64 r) ∧ Below w.heap.size w w' := by
  have hu37 := Try.underlying37
  have hu34 := Try.underlying34
  have HR0_7 := Aside0.mk hr0_7
  have HC0_7 := Aside0.mk hc0_7
  clear hr0_7 hc0_7
  have HR0_8 := Aside0.mk hr0_8
  have HC0_8 := Aside0.mk hc0_8
  clear hr0_8 hc0_8
  have HR0_9 := Aside0.mk hr0_9
  have HC0_9 := Aside0.mk hc0_9
  clear hr0_9 hc0_9
  have HB := Aside0.mk (Below.refl w.heap.size w)
  have H : ((laws_heldRLog.f k a0_5 a0_6 l0_7 a1).bind fun t145 => (if t145 < 0 then (some (-1)) else ((laws_heldIntS.f k l0_8 t145).bind fun t146 => (if t146 < 0 then (some (-1)) else ((laws_heldIntS.f k l0_9 t146).bind fun t147 => (if t147 < 0 then (some (-1)) else (some t147))))))) = some r := h
  clear h
  replace H := Option.bind_eq_some_iff.mp H
  obtain ⟨t145, A30, H⟩ := H
  have A3 := Aside0.mk A30
  clear A30
  have H9 := Aside0.mk H
  clear H
  go_enter Try.func24, Try.ntmps24
  go_upto_if 10 with (first | ((with_reducible refine gate_dst (N := 2) rfl ?_); refine box_event ?hg (N := 2) ?hd (cs := #[.int .i64 a0_0, .int .i64 a0_1, .int .i64 a0_2, .int .i64 a0_3, .int .i64 a0_4, .int .i64 a0_5, .int .i64 a0_6, .slice A0_7 l0_7.length c0_7, .slice A0_8 l0_8.length c0_8, .slice A0_9 l0_9.length c0_9]) (t := 37) ?hr ?_; (case hd => rfl); (case hg => rfl); (case hr => first | (go_simp; done) | (go_simp; rfl)); intro gb144 hg w4 hbox hb; have n0_ := Aside0.mk (below_step u3_0 hb); have n1_ := Aside0.mk (hbox); have n2_ := Aside0.mk ((by rw [hg]; exact (below_size u3_0) : w.heap.size ≤ gb144)); have n3_ := Aside0.mk ((by rw [hg]; exact (below_size u3_0) : w.heap.size ≤ gb144)); clear HB; have HB := n0_; have BK144 := n1_; have GW144 := n2_; have GE144 := n3_; clear n0_ n1_ n2_ n3_; clear hb hbox hg; have hcz5_0 : w4.cell? ⟨gb144, 0, none⟩ = some (.int .i64 a0_0) := (blk_cell BK144.out 0).trans rfl; have hcz5_1 : w4.cell? ⟨gb144, 1, none⟩ = some (.int .i64 a0_1) := (blk_cell BK144.out 1).trans rfl; have hcz5_2 : w4.cell? ⟨gb144, 2, none⟩ = some (.int .i64 a0_2) := (blk_cell BK144.out 2).trans rfl; have hcz5_3 : w4.cell? ⟨gb144, 3, none⟩ = some (.int .i64 a0_3) := (blk_cell BK144.out 3).trans rfl; have hcz5_4 : w4.cell? ⟨gb144, 4, none⟩ = some (.int .i64 a0_4) := (blk_cell BK144.out 4).trans rfl; have hcz5_5 : w4.cell? ⟨gb144, 5, none⟩ = some (.int .i64 a0_5) := (blk_cell BK144.out 5).trans rfl; have hcz5_6 : w4.cell? ⟨gb144, 6, none⟩ = some (.int .i64 a0_6) := (blk_cell BK144.out 6).trans rfl; have hcz5_7 : w4.cell? ⟨gb144, 7, none⟩ = some (.slice A0_7 l0_7.length c0_7) := (blk_cell BK144.out 7).trans rfl; have hcz5_8 : w4.cell? ⟨gb144, 8, none⟩ = some (.slice A0_8 l0_8.length c0_8) := (blk_cell BK144.out 8).trans rfl; have hcz5_9 : w4.cell? ⟨gb144, 9, none⟩ = some (.slice A0_9 l0_9.length c0_9) := (blk_cell BK144.out 9).trans rfl; have hfz5_0 := blk_frozen BK144.out 0; have hfz5_1 := blk_frozen BK144.out 1; have hfz5_2 := blk_frozen BK144.out 2; have hfz5_3 := blk_frozen BK144.out 3; have hfz5_4 := blk_frozen BK144.out 4; have hfz5_5 := blk_frozen BK144.out 5; have hfz5_6 := blk_frozen BK144.out 6; have hfz5_7 := blk_frozen BK144.out 7; have hfz5_8 := blk_frozen BK144.out 8; have hfz5_9 := blk_frozen BK144.out 9) | ((with_reducible refine gate_callee (f := 69) rfl ?_); refine goesL_ (some 8) rfl rfl Try.func69 (by kernel_rfl) rfl #[.agg #[.int .i64 a0_5, .int .i64 a0_6, .slice A0_7 l0_7.length c0_7], .int .i64 a1] rfl u3_3 ?_; (with_reducible refine (laws_heldRLog.calls k a0_5 a0_6 _ _ l0_7 a1 t145 _ ?side1 ?side2 A3.out).mono ?_); (case side1 => exact (by repeat (first | exact (Kd.C_below HR0_7.out HB.out) | (with_reducible refine Kd.C_alloc ?_ _) | (with_reducible refine Kd.C_drewN ?_ _) | (with_reducible refine Kd.C_drew ?_)))); (case side2 => exact HC0_7.out); rintro e w6 ⟨rfl, hb⟩; refine ⟨_, rfl, ?_⟩; have n0_ := Aside0.mk (blk_below (g := gb144) (o := .cells #[.int .i64 a0_0, .int .i64 a0_1, .int .i64 a0_2, .int .i64 a0_3, .int .i64 a0_4, .int .i64 a0_5, .int .i64 a0_6, .slice A0_7 l0_7.length c0_7, .slice A0_8 l0_8.length c0_8, .slice A0_9 l0_9.length c0_9] 37 (0, 0)) (by (with_reducible repeat (first | refine blk_drewN ?_ _ | refine blk_drew ?_ | refine blk_alloc ?_ _)); exact BK144.out) hb); have n1_ := Aside0.mk (below_step u3_23 hb); clear BK144; clear HB; have BK144 := n0_; have HB := n1_; clear n0_ n1_; (try clear hb); (try clear hb2); (try clear hk); (try clear hi)))
  have H := H9.out
  clear H9
  by_cases c7 : t145 < 0
  · rw [if_pos c7] at H
    have c7b0 : decide (t145 < 0) = true := decide_eq_true c7
    clear c7
    (first | rw [c7b0] | (simp only [i64_w, i32_w]; rw [c7b0]) | skip)
    obtain rfl := Option.some.inj H
    go_wp2
    go_ret
    exact ⟨by first | rfl | (simp [errW_none, errW_some] <;> rfl) | (simp [*, errW_none, errW_some] <;> rfl), u3_23⟩
  rw [if_neg c7] at H
  have c7b0 : decide (t145 < 0) = false := decide_eq_false c7
  clear c7
  (first | rw [c7b0] | (simp only [i64_w, i32_w]; rw [c7b0]) | skip)
  replace H := Option.bind_eq_some_iff.mp H
  obtain ⟨t146, A80, H⟩ := H
  have A8 := Aside0.mk A80
  clear A80
  have H9 := Aside0.mk H
  clear H
  have hcz9_0 : w6.cell? ⟨gb144, 0, none⟩ = some (.int .i64 a0_0) := (blk_cell BK144.out 0).trans rfl
  have hcz9_1 : w6.cell? ⟨gb144, 1, none⟩ = some (.int .i64 a0_1) := (blk_cell BK144.out 1).trans rfl
  have hcz9_2 : w6.cell? ⟨gb144, 2, none⟩ = some (.int .i64 a0_2) := (blk_cell BK144.out 2).trans rfl
  have hcz9_3 : w6.cell? ⟨gb144, 3, none⟩ = some (.int .i64 a0_3) := (blk_cell BK144.out 3).trans rfl
  have hcz9_4 : w6.cell? ⟨gb144, 4, none⟩ = some (.int .i64 a0_4) := (blk_cell BK144.out 4).trans rfl
  have hcz9_5 : w6.cell? ⟨gb144, 5, none⟩ = some (.int .i64 a0_5) := (blk_cell BK144.out 5).trans rfl
  have hcz9_6 : w6.cell? ⟨gb144, 6, none⟩ = some (.int .i64 a0_6) := (blk_cell BK144.out 6).trans rfl
  have hcz9_7 : w6.cell? ⟨gb144, 7, none⟩ = some (.slice A0_7 l0_7.length c0_7) := (blk_cell BK144.out 7).trans rfl
  have hcz9_8 : w6.cell? ⟨gb144, 8, none⟩ = some (.slice A0_8 l0_8.length c0_8) := (blk_cell BK144.out 8).trans rfl
  have hcz9_9 : w6.cell? ⟨gb144, 9, none⟩ = some (.slice A0_9 l0_9.length c0_9) := (blk_cell BK144.out 9).trans rfl
  have hfz9_0 := blk_frozen BK144.out 0
  have hfz9_1 := blk_frozen BK144.out 1
  have hfz9_2 := blk_frozen BK144.out 2
  have hfz9_3 := blk_frozen BK144.out 3
  have hfz9_4 := blk_frozen BK144.out 4
  have hfz9_5 := blk_frozen BK144.out 5
  have hfz9_6 := blk_frozen BK144.out 6
  have hfz9_7 := blk_frozen BK144.out 7
  have hfz9_8 := blk_frozen BK144.out 8
  have hfz9_9 := blk_frozen BK144.out 9
  go_upto_if 16 with (first | ((with_reducible refine gate_callee (f := 55) rfl ?_); refine goesL_ (some 14) rfl rfl Try.func55 (by kernel_rfl) rfl #[.slice A0_8 l0_8.length c0_8, .int .i64 t145] rfl u3_3 ?_; (with_reducible refine (laws_heldIntS.calls k _ _ l0_8 t145 t146 _ ?side1 ?side2 A8.out).mono ?_); (case side1 => exact (by repeat (first | exact (Kd.C_below HR0_8.out HB.out) | (with_reducible refine Kd.C_alloc ?_ _) | (with_reducible refine Kd.C_drewN ?_ _) | (with_reducible refine Kd.C_drew ?_)))); (case side2 => exact HC0_8.out); rintro e w' ⟨rfl, ⟨nd, rfl⟩⟩; refine ⟨_, rfl, ?_⟩))
  have H := H9.out
  clear H9
  by_cases c10 : t146 < 0
  · rw [if_pos c10] at H
    have c10b0 : decide (t146 < 0) = true := decide_eq_true c10
    clear c10
    (first | rw [c10b0] | (simp only [i64_w, i32_w]; rw [c10b0]) | skip)
    obtain rfl := Option.some.inj H
    go_wp2
    go_ret
    exact ⟨by first | rfl | (simp [errW_none, errW_some] <;> rfl) | (simp [*, errW_none, errW_some] <;> rfl), u3_23⟩
  rw [if_neg c10] at H
  have c10b0 : decide (t146 < 0) = false := decide_eq_false c10
  clear c10
  (first | rw [c10b0] | (simp only [i64_w, i32_w]; rw [c10b0]) | skip)
  replace H := Option.bind_eq_some_iff.mp H
  obtain ⟨t147, A110, H⟩ := H
  replace H : (if t147 < 0 then (some (-1)) else (some t147)) = some r := H
  have A11 := Aside0.mk A110
  clear A110
  have H9 := Aside0.mk H
  clear H
  have hcz12_0 : w6.cell? ⟨gb144, 0, none⟩ = some (.int .i64 a0_0) := (blk_cell BK144.out 0).trans rfl
  have hcz12_1 : w6.cell? ⟨gb144, 1, none⟩ = some (.int .i64 a0_1) := (blk_cell BK144.out 1).trans rfl
  have hcz12_2 : w6.cell? ⟨gb144, 2, none⟩ = some (.int .i64 a0_2) := (blk_cell BK144.out 2).trans rfl
  have hcz12_3 : w6.cell? ⟨gb144, 3, none⟩ = some (.int .i64 a0_3) := (blk_cell BK144.out 3).trans rfl
  have hcz12_4 : w6.cell? ⟨gb144, 4, none⟩ = some (.int .i64 a0_4) := (blk_cell BK144.out 4).trans rfl
  have hcz12_5 : w6.cell? ⟨gb144, 5, none⟩ = some (.int .i64 a0_5) := (blk_cell BK144.out 5).trans rfl
  have hcz12_6 : w6.cell? ⟨gb144, 6, none⟩ = some (.int .i64 a0_6) := (blk_cell BK144.out 6).trans rfl
  have hcz12_7 : w6.cell? ⟨gb144, 7, none⟩ = some (.slice A0_7 l0_7.length c0_7) := (blk_cell BK144.out 7).trans rfl
  have hcz12_8 : w6.cell? ⟨gb144, 8, none⟩ = some (.slice A0_8 l0_8.length c0_8) := (blk_cell BK144.out 8).trans rfl
  have hcz12_9 : w6.cell? ⟨gb144, 9, none⟩ = some (.slice A0_9 l0_9.length c0_9) := (blk_cell BK144.out 9).trans rfl
  have hfz12_0 := blk_frozen BK144.out 0
  have hfz12_1 := blk_frozen BK144.out 1
  have hfz12_2 := blk_frozen BK144.out 2
  have hfz12_3 := blk_frozen BK144.out 3
  have hfz12_4 := blk_frozen BK144.out 4
  have hfz12_5 := blk_frozen BK144.out 5
  have hfz12_6 := blk_frozen BK144.out 6
  have hfz12_7 := blk_frozen BK144.out 7
  have hfz12_8 := blk_frozen BK144.out 8
  have hfz12_9 := blk_frozen BK144.out 9
  go_upto_if 22 with (first | ((with_reducible refine gate_callee (f := 55) rfl ?_); refine goesL_ (some 20) rfl rfl Try.func55 (by kernel_rfl) rfl #[.slice A0_9 l0_9.length c0_9, .int .i64 t146] rfl u3_3 ?_; (with_reducible refine (laws_heldIntS.calls k _ _ l0_9 t146 t147 _ ?side1 ?side2 A11.out).mono ?_); (case side1 => exact (by repeat (first | exact (Kd.C_below HR0_9.out HB.out) | (with_reducible refine Kd.C_alloc ?_ _) | (with_reducible refine Kd.C_drewN ?_ _) | (with_reducible refine Kd.C_drew ?_)))); (case side2 => exact HC0_9.out); rintro e w' ⟨rfl, ⟨nd, rfl⟩⟩; refine ⟨_, rfl, ?_⟩))
  have H := H9.out
  clear H9
  by_cases c13 : t147 < 0
  · rw [if_pos c13] at H
    have c13b0 : decide (t147 < 0) = true := decide_eq_true c13
    clear c13
    (first | rw [c13b0] | (simp only [i64_w, i32_w]; rw [c13b0]) | skip)
    obtain rfl := Option.some.inj H
    go_wp2
    go_ret
    exact ⟨by first | rfl | (simp [errW_none, errW_some] <;> rfl) | (simp [*, errW_none, errW_some] <;> rfl), u3_23⟩
  rw [if_neg c13] at H
  have c13b0 : decide (t147 < 0) = false := decide_eq_false c13
  clear c13
  (first | rw [c13b0] | (simp only [i64_w, i32_w]; rw [c13b0]) | skip)
  obtain rfl := Option.some.inj H
  go_wp2
  go_ret
  exact ⟨by first | rfl | (simp [errW_none, errW_some] <;> rfl) | (simp [*, errW_none, errW_some] <;> rfl), u3_23⟩

/-! ### laws_FnExactNewNode: function 4 -/
def laws_FnExactNewNode.f (k : Nat) (a0 : Int) (a1 : Int) : Option (Bool) := (spec_NewNode.f a0 a1).bind fun bt148 => ((impl_NewNode.f a0 a1).bind fun bt165 => ((laws_eqNode.f k bt165.1 bt165.2.1 bt165.2.2.1 bt165.2.2.2.1 bt165.2.2.2.2.1 bt165.2.2.2.2.2.1 bt165.2.2.2.2.2.2.1 bt165.2.2.2.2.2.2.2.1 bt165.2.2.2.2.2.2.2.2.1 bt165.2.2.2.2.2.2.2.2.2 bt148.1 bt148.2.1 bt148.2.2.1 bt148.2.2.2.1 bt148.2.2.2.2.1 bt148.2.2.2.2.2.1 bt148.2.2.2.2.2.2.1 bt148.2.2.2.2.2.2.2.1 bt148.2.2.2.2.2.2.2.2.1 bt148.2.2.2.2.2.2.2.2.2).bind fun t182 => (if t182 = true then ((laws_markNode.f k bt165.1 bt165.2.1 bt165.2.2.1 bt165.2.2.2.1 bt165.2.2.2.2.1 bt165.2.2.2.2.2.1 bt165.2.2.2.2.2.2.1 bt165.2.2.2.2.2.2.2.1 bt165.2.2.2.2.2.2.2.2.1 bt165.2.2.2.2.2.2.2.2.2 1).bind fun bt183 => ((laws_heldNode.f k bt165.1 bt165.2.1 bt165.2.2.1 bt165.2.2.2.1 bt165.2.2.2.2.1 bt165.2.2.2.2.2.1 bt165.2.2.2.2.2.2.1 bt183.2.1 bt183.2.2.1 bt183.2.2.2 1).bind fun t187 => (if t187 < 0 then (some false) else (if t187 = bt183.1 then ((impl_NewNode.f a0 a1).bind fun bt188 => ((laws_eqNode.f k bt188.1 bt188.2.1 bt188.2.2.1 bt188.2.2.2.1 bt188.2.2.2.2.1 bt188.2.2.2.2.2.1 bt188.2.2.2.2.2.2.1 bt188.2.2.2.2.2.2.2.1 bt188.2.2.2.2.2.2.2.2.1 bt188.2.2.2.2.2.2.2.2.2 bt148.1 bt148.2.1 bt148.2.2.1 bt148.2.2.2.1 bt148.2.2.2.2.1 bt148.2.2.2.2.2.1 bt148.2.2.2.2.2.2.1 bt148.2.2.2.2.2.2.2.1 bt148.2.2.2.2.2.2.2.2.1 bt148.2.2.2.2.2.2.2.2.2).bind fun t205 => (if t205 = true then ((laws_heldNode.f k bt165.1 bt165.2.1 bt165.2.2.1 bt165.2.2.2.1 bt165.2.2.2.2.1 bt165.2.2.2.2.2.1 bt165.2.2.2.2.2.2.1 bt183.2.1 bt183.2.2.1 bt183.2.2.2 1).bind fun t206 => (if t206 < 0 then (some false) else (if t206 = bt183.1 then (some true) else (some false)))) else (some false)))) else (some false))))) else (some false))))
theorem laws_FnExactNewNode.mono : ∀ a0 a1 k, LeO (laws_FnExactNewNode.f k a0 a1) (laws_FnExactNewNode.f (k + 1) a0 a1) := by
  intro a0 a1 k
  unfold laws_FnExactNewNode.f
  repeat' first
      | (with_reducible exact laws_eqNode.mono _ _ _ _ _ _ _ _ _ _ _ _ _ _ _ _ _ _ _ _ _)
      | (with_reducible exact laws_heldNode.mono _ _ _ _ _ _ _ _ _ _ _ _)
      | (with_reducible exact laws_markNode.mono _ _ _ _ _ _ _ _ _ _ _ _)
      | (with_reducible exact LeO.refl _)
      | (with_reducible exact LeO.none _)
      | (with_reducible refine LeO.ite ?_ ?_)
      | (with_reducible refine LeO.bind ?_ (fun _ => ?_))
      | exact laws_eqNode.mono _ _ _ _ _ _ _ _ _ _ _ _ _ _ _ _ _ _ _ _ _
      | exact laws_heldNode.mono _ _ _ _ _ _ _ _ _ _ _ _
      | exact laws_markNode.mono _ _ _ _ _ _ _ _ _ _ _ _
      | exact LeO.none _
      | refine LeO.ite ?_ ?_
      | refine LeO.bind ?_ (fun _ => ?_)
set_option maxHeartbeats 8000000 in
set_option maxRecDepth 100000 in
theorem laws_FnExactNewNode.calls (k : Nat) (a0 : Int) (a1 : Int) (r : Bool) (w : World) (h : laws_FnExactNewNode.f k a0 a1 = some r) (hr_ : Aside0 (r = true)) :
    Calls Try.prog 4 #[.int .i64 a0, .int .i64 a1] w fun e w' => e = .returned (.bool r) ∧ Below w.heap.size w w' := by
  have hu37 := Try.underlying37
  have HB := Aside0.mk (Below.refl w.heap.size w)
  have H : ((spec_NewNode.f a0 a1).bind fun bt148 => ((impl_NewNode.f a0 a1).bind fun bt165 => ((laws_eqNode.f k bt165.1 bt165.2.1 bt165.2.2.1 bt165.2.2.2.1 bt165.2.2.2.2.1 bt165.2.2.2.2.2.1 bt165.2.2.2.2.2.2.1 bt165.2.2.2.2.2.2.2.1 bt165.2.2.2.2.2.2.2.2.1 bt165.2.2.2.2.2.2.2.2.2 bt148.1 bt148.2.1 bt148.2.2.1 bt148.2.2.2.1 bt148.2.2.2.2.1 bt148.2.2.2.2.2.1 bt148.2.2.2.2.2.2.1 bt148.2.2.2.2.2.2.2.1 bt148.2.2.2.2.2.2.2.2.1 bt148.2.2.2.2.2.2.2.2.2).bind fun t182 => (if t182 = true then ((laws_markNode.f k bt165.1 bt165.2.1 bt165.2.2.1 bt165.2.2.2.1 bt165.2.2.2.2.1 bt165.2.2.2.2.2.1 bt165.2.2.2.2.2.2.1 bt165.2.2.2.2.2.2.2.1 bt165.2.2.2.2.2.2.2.2.1 bt165.2.2.2.2.2.2.2.2.2 1).bind fun bt183 => ((laws_heldNode.f k bt165.1 bt165.2.1 bt165.2.2.1 bt165.2.2.2.1 bt165.2.2.2.2.1 bt165.2.2.2.2.2.1 bt165.2.2.2.2.2.2.1 bt183.2.1 bt183.2.2.1 bt183.2.2.2 1).bind fun t187 => (if t187 < 0 then (some false) else (if t187 = bt183.1 then ((impl_NewNode.f a0 a1).bind fun bt188 => ((laws_eqNode.f k bt188.1 bt188.2.1 bt188.2.2.1 bt188.2.2.2.1 bt188.2.2.2.2.1 bt188.2.2.2.2.2.1 bt188.2.2.2.2.2.2.1 bt188.2.2.2.2.2.2.2.1 bt188.2.2.2.2.2.2.2.2.1 bt188.2.2.2.2.2.2.2.2.2 bt148.1 bt148.2.1 bt148.2.2.1 bt148.2.2.2.1 bt148.2.2.2.2.1 bt148.2.2.2.2.2.1 bt148.2.2.2.2.2.2.1 bt148.2.2.2.2.2.2.2.1 bt148.2.2.2.2.2.2.2.2.1 bt148.2.2.2.2.2.2.2.2.2).bind fun t205 => (if t205 = true then ((laws_heldNode.f k bt165.1 bt165.2.1 bt165.2.2.1 bt165.2.2.2.1 bt165.2.2.2.2.1 bt165.2.2.2.2.2.1 bt165.2.2.2.2.2.2.1 bt183.2.1 bt183.2.2.1 bt183.2.2.2 1).bind fun t206 => (if t206 < 0 then (some false) else (if t206 = bt183.1 then (some true) else (some false)))) else (some false)))) else (some false))))) else (some false))))) = some r := h
  clear h
  replace H := Option.bind_eq_some_iff.mp H
  obtain ⟨⟨t148, t149, t150, t151, t152, t153, t154, t155, t158, t161⟩, A30, H⟩ := H
  (try dsimp only at H)
  have A3 := Aside0.mk A30
  clear A30
  replace H := Option.bind_eq_some_iff.mp H
  obtain ⟨⟨t165, t166, t167, t168, t169, t170, t171, t172, t175, t178⟩, A40, H⟩ := H
  (try dsimp only at H)
  have A4 := Aside0.mk A40
  clear A40
  replace H := Option.bind_eq_some_iff.mp H
  obtain ⟨t182, A50, H⟩ := H
  have A5 := Aside0.mk A50
  clear A50
  by_cases c6 : t182 = true
  rotate_left
  · replace c6 := Bool.eq_false_iff.mpr c6
    subst c6
    rw [if_neg (show ¬ (false = true) by decide)] at H
    exact absurd ((Option.some.inj H).trans hr_.out) (by decide)
  subst c6
  rw [if_pos rfl] at H
  replace H := Option.bind_eq_some_iff.mp H
  obtain ⟨⟨t183, t184, t185, t186⟩, A70, H⟩ := H
  (try dsimp only at H)
  have A7 := Aside0.mk A70
  clear A70
  replace H := Option.bind_eq_some_iff.mp H
  obtain ⟨t187, A80, H⟩ := H
  have A8 := Aside0.mk A80
  clear A80
  by_cases c9 : t187 < 0
  · rw [if_pos c9] at H
    have c9b0 : decide (t187 < 0) = true := decide_eq_true c9
    clear c9
    exact absurd ((Option.some.inj H).trans hr_.out) (by decide)
  rw [if_neg c9] at H
  have c9b0 : decide (t187 < 0) = false := decide_eq_false c9
  clear c9
  by_cases c10 : t187 = t183
  rotate_left
  · rw [if_neg c10] at H
    have c10b0 : (t187 == t183) = false := beq_eq_false_iff_ne.mpr c10
    have c10b1 : (t187 != t183) = true := bne_iff_ne.mpr c10
    exact absurd ((Option.some.inj H).trans hr_.out) (by decide)
  rw [if_pos c10] at H
  have c10b0 : (t187 == t183) = true := beq_iff_eq.mpr c10
  have c10b1 : (t187 != t183) = false := bne_eq_false_iff_eq.mpr c10
  clear c10
  replace H := Option.bind_eq_some_iff.mp H
  obtain ⟨⟨t188, t189, t190, t191, t192, t193, t194, t195, t198, t201⟩, A110, H⟩ := H
  (try dsimp only at H)
  have A11 := Aside0.mk A110
  clear A110
  replace H := Option.bind_eq_some_iff.mp H
  obtain ⟨t205, A120, H⟩ := H
  have A12 := Aside0.mk A120
  clear A120
  by_cases c13 : t205 = true
  rotate_left
  · replace c13 := Bool.eq_false_iff.mpr c13
    subst c13
    rw [if_neg (show ¬ (false = true) by decide)] at H
    exact absurd ((Option.some.inj H).trans hr_.out) (by decide)
  subst c13
  rw [if_pos rfl] at H
  replace H := Option.bind_eq_some_iff.mp H
  obtain ⟨t206, A140, H⟩ := H
  replace H : (if t206 < 0 then (some false) else (if t206 = t183 then (some true) else (some false))) = some r := H
  have A14 := Aside0.mk A140
  clear A140
  by_cases c15 : t206 < 0
  · rw [if_pos c15] at H
    have c15b0 : decide (t206 < 0) = true := decide_eq_true c15
    clear c15
    exact absurd ((Option.some.inj H).trans hr_.out) (by decide)
  rw [if_neg c15] at H
  have c15b0 : decide (t206 < 0) = false := decide_eq_false c15
  clear c15
  by_cases c16 : t206 = t183
  rotate_left
  · rw [if_neg c16] at H
    have c16b0 : (t206 == t183) = false := beq_eq_false_iff_ne.mpr c16
    have c16b1 : (t206 != t183) = true := bne_iff_ne.mpr c16
    exact absurd ((Option.some.inj H).trans hr_.out) (by decide)
  rw [if_pos c16] at H
  have c16b0 : (t206 == t183) = true := beq_iff_eq.mpr c16
  have c16b1 : (t206 != t183) = false := bne_eq_false_iff_eq.mpr c16
  clear c16
  obtain rfl := Option.some.inj H
  go_enter Try.func4, Try.ntmps4
  go_wp2_with (first | ((with_reducible refine gate_callee (f := 20) rfl ?_); refine goesL_ (some 12) rfl rfl Try.func20 (by kernel_rfl) rfl #[.int .i64 a0, .int .i64 a1] rfl u3_3 ?_; (with_reducible refine (spec_NewNode.calls a0 a1 t148 t149 t150 t151 t152 t153 t154 t155 t158 t161 _ A3.out).mono ?_); rintro e w17 ⟨v156, v159, v162, rfl, ho0, ho1, ho2, hb⟩; refine ⟨_, rfl, ?_⟩; have n0_ := Aside0.mk (Kd.R_lower ho0 (below_size u3_0)); have n1_ := Aside0.mk (Kd.R_lower ho1 (below_size u3_0)); have n2_ := Aside0.mk (Kd.R_lower ho2 (below_size u3_0)); have n3_ := Aside0.mk (below_step u3_0 hb); clear HB; have HO157 := n0_; have HO160 := n1_; have HO163 := n2_; have HB := n3_; clear n0_ n1_ n2_ n3_; (try clear hb); (try clear hb2); (try clear hk); (try clear hi); (try clear ho0); (try clear ho1); (try clear ho2)) | ((with_reducible refine gate_dst (N := 5) rfl ?_); refine box_event ?hg (N := 5) ?hd (cs := #[.int .i64 0, .int .i64 0, .int .i64 0, .int .i64 0, .int .i64 0, .int .i64 0, .int .i64 0, .slice none 0 0, .slice none 0 0, .slice none 0 0]) (t := 37) ?hr ?_; (case hd => rfl); (case hg => rfl); (case hr => first | (go_simp; done) | (go_simp; rfl)); intro gb164 hg w18 hbox hb; have n0_ := Aside0.mk (Kd.R_below u3_24 hb); have n1_ := Aside0.mk (Kd.R_below u3_20 hb); have n2_ := Aside0.mk (Kd.R_below u3_21 hb); have n3_ := Aside0.mk (below_step u3_0 hb); have n4_ := Aside0.mk (hbox); have n5_ := Aside0.mk ((by rw [hg]; exact (below_size u3_0) : w.heap.size ≤ gb164)); have n6_ := Aside0.mk ((by rw [hg]; exact (below_size u3_0) : w.heap.size ≤ gb164)); clear HO157; clear HO160; clear HO163; clear HB; have HO157 := n0_; have HO160 := n1_; have HO163 := n2_; have HB := n3_; have BK164 := n4_; have GW164 := n5_; have GE164 := n6_; clear n0_ n1_ n2_ n3_ n4_ n5_ n6_; clear hb hbox hg; have hcz19_0 : w18.cell? ⟨gb164, 0, none⟩ = some (.int .i64 0) := (blk_cell BK164.out 0).trans rfl; have hcz19_1 : w18.cell? ⟨gb164, 1, none⟩ = some (.int .i64 0) := (blk_cell BK164.out 1).trans rfl; have hcz19_2 : w18.cell? ⟨gb164, 2, none⟩ = some (.int .i64 0) := (blk_cell BK164.out 2).trans rfl; have hcz19_3 : w18.cell? ⟨gb164, 3, none⟩ = some (.int .i64 0) := (blk_cell BK164.out 3).trans rfl; have hcz19_4 : w18.cell? ⟨gb164, 4, none⟩ = some (.int .i64 0) := (blk_cell BK164.out 4).trans rfl; have hcz19_5 : w18.cell? ⟨gb164, 5, none⟩ = some (.int .i64 0) := (blk_cell BK164.out 5).trans rfl; have hcz19_6 : w18.cell? ⟨gb164, 6, none⟩ = some (.int .i64 0) := (blk_cell BK164.out 6).trans rfl; have hcz19_7 : w18.cell? ⟨gb164, 7, none⟩ = some (.slice none 0 0) := (blk_cell BK164.out 7).trans rfl; have hcz19_8 : w18.cell? ⟨gb164, 8, none⟩ = some (.slice none 0 0) := (blk_cell BK164.out 8).trans rfl; have hcz19_9 : w18.cell? ⟨gb164, 9, none⟩ = some (.slice none 0 0) := (blk_cell BK164.out 9).trans rfl; have hfz19_0 := blk_frozen BK164.out 0; have hfz19_1 := blk_frozen BK164.out 1; have hfz19_2 := blk_frozen BK164.out 2; have hfz19_3 := blk_frozen BK164.out 3; have hfz19_4 := blk_frozen BK164.out 4; have hfz19_5 := blk_frozen BK164.out 5; have hfz19_6 := blk_frozen BK164.out 6; have hfz19_7 := blk_frozen BK164.out 7; have hfz19_8 := blk_frozen BK164.out 8; have hfz19_9 := blk_frozen BK164.out 9; obtain ⟨Ao20, co20, eo20⟩ := Kd.R_slice HO157.out; subst eo20; obtain ⟨Ao21, co21, eo21⟩ := Kd.R_slice HO160.out; subst eo21; obtain ⟨Ao22, co22, eo22⟩ := Kd.R_slice HO163.out; subst eo22) | ((with_reducible refine gate_callee (f := 21) rfl ?_); refine goesL_ (some 15) rfl rfl Try.func21 (by kernel_rfl) rfl #[.int .i64 a0, .int .i64 a1] rfl u3_3 ?_; (with_reducible refine (impl_NewNode.calls a0 a1 t165 t166 t167 t168 t169 t170 t171 t172 t175 t178 _ A4.out).mono ?_); rintro e w23 ⟨v173, v176, v179, rfl, ho0, ho1, ho2, hb⟩; refine ⟨_, rfl, ?_⟩; have n0_ := Aside0.mk (Kd.R_elder' u3_7 (Kd.R_base ho0) hb); have n1_ := Aside0.mk (Kd.R_mono (Kd.R_told (Kd.R_told (Kd.R_old u3_1 hb) (Kd.R_base ho1)) (Kd.R_base ho2)) (fun _ h_ => h_.1)); have n2_ := Aside0.mk (Kd.R_mono (Kd.R_told (Kd.R_told (Kd.R_old u3_2 hb) (Kd.R_base ho1)) (Kd.R_base ho2)) (fun _ h_ => h_.1)); have n3_ := Aside0.mk (Kd.R_lower (Kd.R_new' ho0 (Kd.R_lt u3_7)) (below_size u3_6)); have n4_ := Aside0.mk (Kd.R_lower (Kd.R_new' (Kd.R_new' ho1 (Kd.R_lt u3_1)) (Kd.R_lt u3_2)) (below_size u3_6)); have n5_ := Aside0.mk (Kd.R_lower (Kd.R_new' (Kd.R_new' ho2 (Kd.R_lt u3_1)) (Kd.R_lt u3_2)) (below_size u3_6)); have n6_ := Aside0.mk (blk_below (g := gb164) (o := .cells #[.int .i64 t148, .int .i64 t149, .int .i64 t150, .int .i64 t151, .int .i64 t152, .int .i64 t153, .int .i64 t154, .slice Ao20 t155.length co20, .slice Ao21 t158.length co21, .slice Ao22 t161.length co22] 37 (0, 0)) (by (with_reducible repeat (first | refine blk_drewN ?_ _ | refine blk_drew ?_ | refine blk_alloc ?_ _)); refine blk_put (cs := #[.int .i64 t148, .int .i64 t149, .int .i64 t150, .int .i64 t151, .int .i64 t152, .int .i64 t153, .int .i64 t154, .slice Ao20 t155.length co20, .slice Ao21 t158.length co21, .slice none 0 0]) ?_ 9 _ rfl; (with_reducible repeat (first | refine blk_drewN ?_ _ | refine blk_drew ?_ | refine blk_alloc ?_ _)); refine blk_put (cs := #[.int .i64 t148, .int .i64 t149, .int .i64 t150, .int .i64 t151, .int .i64 t152, .int .i64 t153, .int .i64 t154, .slice Ao20 t155.length co20, .slice none 0 0, .slice none 0 0]) ?_ 8 _ rfl; (with_reducible repeat (first | refine blk_drewN ?_ _ | refine blk_drew ?_ | refine blk_alloc ?_ _)); refine blk_put (cs := #[.int .i64 t148, .int .i64 t149, .int .i64 t150, .int .i64 t151, .int .i64 t152, .int .i64 t153, .int .i64 t154, .slice none 0 0, .slice none 0 0, .slice none 0 0]) ?_ 7 _ rfl; (with_reducible repeat (first | refine blk_drewN ?_ _ | refine blk_drew ?_ | refine blk_alloc ?_ _)); refine blk_put (cs := #[.int .i64 t148, .int .i64 t149, .int .i64 t150, .int .i64 t151, .int .i64 t152, .int .i64 t153, .int .i64 0, .slice none 0 0, .slice none 0 0, .slice none 0 0]) ?_ 6 _ rfl; (with_reducible repeat (first | refine blk_drewN ?_ _ | refine blk_drew ?_ | refine blk_alloc ?_ _)); refine blk_put (cs := #[.int .i64 t148, .int .i64 t149, .int .i64 t150, .int .i64 t151, .int .i64 t152, .int .i64 0, .int .i64 0, .slice none 0 0, .slice none 0 0, .slice none 0 0]) ?_ 5 _ rfl; (with_reducible repeat (first | refine blk_drewN ?_ _ | refine blk_drew ?_ | refine blk_alloc ?_ _)); refine blk_put (cs := #[.int .i64 t148, .int .i64 t149, .int .i64 t150, .int .i64 t151, .int .i64 0, .int .i64 0, .int .i64 0, .slice none 0 0, .slice none 0 0, .slice none 0 0]) ?_ 4 _ rfl; (with_reducible repeat (first | refine blk_drewN ?_ _ | refine blk_drew ?_ | refine blk_alloc ?_ _)); refine blk_put (cs := #[.int .i64 t148, .int .i64 t149, .int .i64 t150, .int .i64 0, .int .i64 0, .int .i64 0, .int .i64 0, .slice none 0 0, .slice none 0 0, .slice none 0 0]) ?_ 3 _ rfl; (with_reducible repeat (first | refine blk_drewN ?_ _ | refine blk_drew ?_ | refine blk_alloc ?_ _)); refine blk_put (cs := #[.int .i64 t148, .int .i64 t149, .int .i64 0, .int .i64 0, .int .i64 0, .int .i64 0, .int .i64 0, .slice none 0 0, .slice none 0 0, .slice none 0 0]) ?_ 2 _ rfl; (with_reducible repeat (first | refine blk_drewN ?_ _ | refine blk_drew ?_ | refine blk_alloc ?_ _)); refine blk_put (cs := #[.int .i64 t148, .int .i64 0, .int .i64 0, .int .i64 0, .int .i64 0, .int .i64 0, .int .i64 0, .slice none 0 0, .slice none 0 0, .slice none 0 0]) ?_ 1 _ rfl; (with_reducible repeat (first | refine blk_drewN ?_ _ | refine blk_drew ?_ | refine blk_alloc ?_ _)); refine blk_put (cs := #[.int .i64 0, .int .i64 0, .int .i64 0, .int .i64 0, .int .i64 0, .int .i64 0, .int .i64 0, .slice none 0 0, .slice none 0 0, .slice none 0 0]) ?_ 0 _ rfl; (with_reducible repeat (first | refine blk_drewN ?_ _ | refine blk_drew ?_ | refine blk_alloc ?_ _)); exact BK164.out) hb); have n7_ := Aside0.mk (below_step u3_6 hb); clear HO157; clear HO160; clear HO163; clear BK164; clear HB; have HO157 := n0_; have HO160 := n1_; have HO163 := n2_; have HO174 := n3_; have HO177 := n4_; have HO180 := n5_; have BK164 := n6_; have HB := n7_; clear n0_ n1_ n2_ n3_ n4_ n5_ n6_ n7_; (try clear hb); (try clear hb2); (try clear hk); (try clear hi); (try clear ho0); (try clear ho1); (try clear ho2)) | ((with_reducible refine gate_dst (N := 6) rfl ?_); refine box_event ?hg (N := 6) ?hd (cs := #[.int .i64 0, .int .i64 0, .int .i64 0, .int .i64 0, .int .i64 0, .int .i64 0, .int .i64 0, .slice none 0 0, .slice none 0 0, .slice none 0 0]) (t := 37) ?hr ?_; (case hd => rfl); (case hg => rfl); (case hr => first | (go_simp; done) | (go_simp; rfl)); intro gb181 hg w24 hbox hb; have n0_ := Aside0.mk (Kd.R_below u3_24 hb); have n1_ := Aside0.mk (Kd.R_below u3_20 hb); have n2_ := Aside0.mk (Kd.R_below u3_21 hb); have n3_ := Aside0.mk (Kd.R_below u3_27 hb); have n4_ := Aside0.mk (Kd.R_below u3_25 hb); have n5_ := Aside0.mk (Kd.R_below u3_26 hb); have n6_ := Aside0.mk (blk_below (g := gb164) (o := .cells #[.int .i64 t148, .int .i64 t149, .int .i64 t150, .int .i64 t151, .int .i64 t152, .int .i64 t153, .int .i64 t154, .slice Ao20 t155.length co20, .slice Ao21 t158.length co21, .slice Ao22 t161.length co22] 37 (0, 0)) u3_5 hb); have n7_ := Aside0.mk (below_step u3_6 hb); have n8_ := Aside0.mk (hbox); have n9_ := Aside0.mk ((by rw [hg]; exact (below_size u3_6) : w.heap.size ≤ gb181)); have n10_ := Aside0.mk ((by rw [hg]; exact (below_size u3_6) : w.heap.size ≤ gb181)); have n11_ := Aside0.mk ((by rw [hg]; exact Nat.ne_of_lt (blk_lt (g := gb164) (o := .cells #[.int .i64 t148, .int .i64 t149, .int .i64 t150, .int .i64 t151, .int .i64 t152, .int .i64 t153, .int .i64 t154, .slice Ao20 t155.length co20, .slice Ao21 t158.length co21, .slice Ao22 t161.length co22] 37 (0, 0)) u3_5) : gb164 ≠ gb181)); have n12_ := Aside0.mk ((by rw [hg]; exact Nat.ne_of_gt (blk_lt (g := gb164) (o := .cells #[.int .i64 t148, .int .i64 t149, .int .i64 t150, .int .i64 t151, .int .i64 t152, .int .i64 t153, .int .i64 t154, .slice Ao20 t155.length co20, .slice Ao21 t158.length co21, .slice Ao22 t161.length co22] 37 (0, 0)) u3_5) : gb181 ≠ gb164)); clear HO157; clear HO160; clear HO163; clear HO174; clear HO177; clear HO180; clear BK164; clear HB; have HO157 := n0_; have HO160 := n1_; have HO163 := n2_; have HO174 := n3_; have HO177 := n4_; have HO180 := n5_; have BK164 := n6_; have HB := n7_; have BK181 := n8_; have GW181 := n9_; have GE181 := n10_; have NB164_181 := n11_; have NB181_164 := n12_; clear n0_ n1_ n2_ n3_ n4_ n5_ n6_ n7_ n8_ n9_ n10_ n11_ n12_; clear hb hbox hg; have hnb25 := NB181_164.out; have hnc25 := NB164_181.out; have hcz26_0 : w24.cell? ⟨gb181, 0, none⟩ = some (.int .i64 0) := (blk_cell BK181.out 0).trans rfl; have hcz26_1 : w24.cell? ⟨gb181, 1, none⟩ = some (.int .i64 0) := (blk_cell BK181.out 1).trans rfl; have hcz26_2 : w24.cell? ⟨gb181, 2, none⟩ = some (.int .i64 0) := (blk_cell BK181.out 2).trans rfl; have hcz26_3 : w24.cell? ⟨gb181, 3, none⟩ = some (.int .i64 0) := (blk_cell BK181.out 3).trans rfl; have hcz26_4 : w24.cell? ⟨gb181, 4, none⟩ = some (.int .i64 0) := (blk_cell BK181.out 4).trans rfl; have hcz26_5 : w24.cell? ⟨gb181, 5, none⟩ = some (.int .i64 0) := (blk_cell BK181.out 5).trans rfl; have hcz26_6 : w24.cell? ⟨gb181, 6, none⟩ = some (.int .i64 0) := (blk_cell BK181.out 6).trans rfl; have hcz26_7 : w24.cell? ⟨gb181, 7, none⟩ = some (.slice none 0 0) := (blk_cell BK181.out 7).trans rfl; have hcz26_8 : w24.cell? ⟨gb181, 8, none⟩ = some (.slice none 0 0) := (blk_cell BK181.out 8).trans rfl; have hcz26_9 : w24.cell? ⟨gb181, 9, none⟩ = some (.slice none 0 0) := (blk_cell BK181.out 9).trans rfl; have hfz26_0 := blk_frozen BK181.out 0; have hfz26_1 := blk_frozen BK181.out 1; have hfz26_2 := blk_frozen BK181.out 2; have hfz26_3 := blk_frozen BK181.out 3; have hfz26_4 := blk_frozen BK181.out 4; have hfz26_5 := blk_frozen BK181.out 5; have hfz26_6 := blk_frozen BK181.out 6; have hfz26_7 := blk_frozen BK181.out 7; have hfz26_8 := blk_frozen BK181.out 8; have hfz26_9 := blk_frozen BK181.out 9; obtain ⟨Ao27, co27, eo27⟩ := Kd.R_slice HO174.out; subst eo27; obtain ⟨Ao28, co28, eo28⟩ := Kd.R_slice HO177.out; subst eo28; obtain ⟨Ao29, co29, eo29⟩ := Kd.R_slice HO180.out; subst eo29; have hcz30_0 : w24.cell? ⟨gb164, 0, none⟩ = some (.int .i64 t148) := (blk_cell BK164.out 0).trans rfl; have hcz30_1 : w24.cell? ⟨gb164, 1, none⟩ = some (.int .i64 t149) := (blk_cell BK164.out 1).trans rfl; have hcz30_2 : w24.cell? ⟨gb164, 2, none⟩ = some (.int .i64 t150) := (blk_cell BK164.out 2).trans rfl; have hcz30_3 : w24.cell? ⟨gb164, 3, none⟩ = some (.int .i64 t151) := (blk_cell BK164.out 3).trans rfl; have hcz30_4 : w24.cell? ⟨gb164, 4, none⟩ = some (.int .i64 t152) := (blk_cell BK164.out 4).trans rfl; have hcz30_5 : w24.cell? ⟨gb164, 5, none⟩ = some (.int .i64 t153) := (blk_cell BK164.out 5).trans rfl; have hcz30_6 : w24.cell? ⟨gb164, 6, none⟩ = some (.int .i64 t154) := (blk_cell BK164.out 6).trans rfl; have hcz30_7 : w24.cell? ⟨gb164, 7, none⟩ = some (.slice Ao20 t155.length co20) := (blk_cell BK164.out 7).trans rfl; have hcz30_8 : w24.cell? ⟨gb164, 8, none⟩ = some (.slice Ao21 t158.length co21) := (blk_cell BK164.out 8).trans rfl; have hcz30_9 : w24.cell? ⟨gb164, 9, none⟩ = some (.slice Ao22 t161.length co22) := (blk_cell BK164.out 9).trans rfl; have hfz30_0 := blk_frozen BK164.out 0; have hfz30_1 := blk_frozen BK164.out 1; have hfz30_2 := blk_frozen BK164.out 2; have hfz30_3 := blk_frozen BK164.out 3; have hfz30_4 := blk_frozen BK164.out 4; have hfz30_5 := blk_frozen BK164.out 5; have hfz30_6 := blk_frozen BK164.out 6; have hfz30_7 := blk_frozen BK164.out 7; have hfz30_8 := blk_frozen BK164.out 8; have hfz30_9 := blk_frozen BK164.out 9) | ((with_reducible refine gate_callee (f := 22) rfl ?_); refine goesL_ (some 18) rfl rfl Try.func22 (by kernel_rfl) rfl #[.agg #[.int .i64 t165, .int .i64 t166, .int .i64 t167, .int .i64 t168, .int .i64 t169, .int .i64 t170, .int .i64 t171, .slice Ao27 t172.length co27, .slice Ao28 t175.length co28, .slice Ao29 t178.length co29], .agg #[.int .i64 t148, .int .i64 t149, .int .i64 t150, .int .i64 t151, .int .i64 t152, .int .i64 t153, .int .i64 t154, .slice Ao20 t155.length co20, .slice Ao21 t158.length co21, .slice Ao22 t161.length co22]] rfl u3_3 ?_; (with_reducible refine (laws_eqNode.calls k t165 t166 t167 t168 t169 t170 t171 _ _ t172 _ _ t175 _ _ t178 t148 t149 t150 t151 t152 t153 t154 _ _ t155 _ _ t158 _ _ t161 true _ ?side1 ?side2 ?side3 ?side4 ?side5 ?side6 ?side7 ?side8 ?side9 ?side10 ?side11 ?side12 A5.out).mono ?_); (case side1 => exact (by refine (Kd.R_reads' (e := 85) (base := w.heap.size) (ok := fun k_ => (True ∧ some k_ ≠ (.slice Ao20 t155.length co20 : Value).ownBlock)) (n := t172.length) (c := co27) ?_).2.2; exact u3_8)); (case side2 => exact (Kd.R_reads' HO174.out).2.1); (case side3 => exact (by refine (Kd.R_reads' (e := 3) (base := w.heap.size) (ok := fun k_ => ((some k_ ≠ (.slice Ao29 t178.length co29 : Value).ownBlock ∧ some k_ ≠ (.slice Ao21 t158.length co21 : Value).ownBlock) ∧ some k_ ≠ (.slice Ao22 t161.length co22 : Value).ownBlock)) (n := t175.length) (c := co28) ?_).2.2; exact u3_9)); (case side4 => exact (Kd.R_reads' HO177.out).2.1); (case side5 => exact (by refine (Kd.R_reads' (e := 3) (base := w.heap.size) (ok := fun k_ => ((some k_ ≠ (.slice Ao28 t175.length co28 : Value).ownBlock ∧ some k_ ≠ (.slice Ao21 t158.length co21 : Value).ownBlock) ∧ some k_ ≠ (.slice Ao22 t161.length co22 : Value).ownBlock)) (n := t178.length) (c := co29) ?_).2.2; exact u3_10)); (case side6 => exact (Kd.R_reads' HO180.out).2.1); (case side7 => exact (by refine (Kd.R_reads' (e := 85) (base := w.heap.size) (ok := fun k_ => (True ∧ some k_ ≠ (.slice Ao27 t172.length co27 : Value).ownBlock)) (n := t155.length) (c := co20) ?_).2.2; exact u3_11)); (case side8 => exact (Kd.R_reads' HO157.out).2.1); (case side9 => exact (by refine (Kd.R_reads' (e := 3) (base := w.heap.size) (ok := fun k_ => ((some k_ ≠ (.slice Ao22 t161.length co22 : Value).ownBlock ∧ some k_ ≠ (.slice Ao28 t175.length co28 : Value).ownBlock) ∧ some k_ ≠ (.slice Ao29 t178.length co29 : Value).ownBlock)) (n := t158.length) (c := co21) ?_).2.2; exact u3_12)); (case side10 => exact (Kd.R_reads' HO160.out).2.1); (case side11 => exact (by refine (Kd.R_reads' (e := 3) (base := w.heap.size) (ok := fun k_ => ((some k_ ≠ (.slice Ao21 t158.length co21 : Value).ownBlock ∧ some k_ ≠ (.slice Ao28 t175.length co28 : Value).ownBlock) ∧ some k_ ≠ (.slice Ao29 t178.length co29 : Value).ownBlock)) (n := t161.length) (c := co22) ?_).2.2; exact u3_13)); (case side12 => exact (Kd.R_reads' HO163.out).2.1); rintro e w31 ⟨rfl, hb⟩; refine ⟨_, rfl, ?_⟩; have n0_ := Aside0.mk (Kd.R_below u3_11 hb); have n1_ := Aside0.mk (Kd.R_below u3_12 hb); have n2_ := Aside0.mk (Kd.R_below u3_13 hb); have n3_ := Aside0.mk (Kd.R_below u3_8 hb); have n4_ := Aside0.mk (Kd.R_below u3_9 hb); have n5_ := Aside0.mk (Kd.R_below u3_10 hb); have n6_ := Aside0.mk (blk_below (g := gb164) (o := .cells #[.int .i64 t148, .int .i64 t149, .int .i64 t150, .int .i64 t151, .int .i64 t152, .int .i64 t153, .int .i64 t154, .slice Ao20 t155.length co20, .slice Ao21 t158.length co21, .slice Ao22 t161.length co22] 37 (0, 0)) (by (with_reducible repeat (first | refine blk_drewN ?_ _ | refine blk_drew ?_ | refine blk_alloc ?_ _)); refine blk_far ?_ NB164_181.out _; (with_reducible repeat (first | refine blk_drewN ?_ _ | refine blk_drew ?_ | refine blk_alloc ?_ _)); refine blk_far ?_ NB164_181.out _; (with_reducible repeat (first | refine blk_drewN ?_ _ | refine blk_drew ?_ | refine blk_alloc ?_ _)); refine blk_far ?_ NB164_181.out _; (with_reducible repeat (first | refine blk_drewN ?_ _ | refine blk_drew ?_ | refine blk_alloc ?_ _)); refine blk_far ?_ NB164_181.out _; (with_reducible repeat (first | refine blk_drewN ?_ _ | refine blk_drew ?_ | refine blk_alloc ?_ _)); refine blk_far ?_ NB164_181.out _; (with_reducible repeat (first | refine blk_drewN ?_ _ | refine blk_drew ?_ | refine blk_alloc ?_ _)); refine blk_far ?_ NB164_181.out _; (with_reducible repeat (first | refine blk_drewN ?_ _ | refine blk_drew ?_ | refine blk_alloc ?_ _)); refine blk_far ?_ NB164_181.out _; (with_reducible repeat (first | refine blk_drewN ?_ _ | refine blk_drew ?_ | refine blk_alloc ?_ _)); refine blk_far ?_ NB164_181.out _; (with_reducible repeat (first | refine blk_drewN ?_ _ | refine blk_drew ?_ | refine blk_alloc ?_ _)); refine blk_far ?_ NB164_181.out _; (with_reducible repeat (first | refine blk_drewN ?_ _ | refine blk_drew ?_ | refine blk_alloc ?_ _)); refine blk_far ?_ NB164_181.out _; (with_reducible repeat (first | refine blk_drewN ?_ _ | refine blk_drew ?_ | refine blk_alloc ?_ _)); exact BK164.out) hb); have n7_ := Aside0.mk (blk_below (g := gb181) (o := .cells #[.int .i64 t165, .int .i64 t166, .int .i64 t167, .int .i64 t168, .int .i64 t169, .int .i64 t170, .int .i64 t171, .slice Ao27 t172.length co27, .slice Ao28 t175.length co28, .slice Ao29 t178.length co29] 37 (0, 0)) (by (with_reducible repeat (first | refine blk_drewN ?_ _ | refine blk_drew ?_ | refine blk_alloc ?_ _)); refine blk_put (cs := #[.int .i64 t165, .int .i64 t166, .int .i64 t167, .int .i64 t168, .int .i64 t169, .int .i64 t170, .int .i64 t171, .slice Ao27 t172.length co27, .slice Ao28 t175.length co28, .slice none 0 0]) ?_ 9 _ rfl; (with_reducible repeat (first | refine blk_drewN ?_ _ | refine blk_drew ?_ | refine blk_alloc ?_ _)); refine blk_put (cs := #[.int .i64 t165, .int .i64 t166, .int .i64 t167, .int .i64 t168, .int .i64 t169, .int .i64 t170, .int .i64 t171, .slice Ao27 t172.length co27, .slice none 0 0, .slice none 0 0]) ?_ 8 _ rfl; (with_reducible repeat (first | refine blk_drewN ?_ _ | refine blk_drew ?_ | refine blk_alloc ?_ _)); refine blk_put (cs := #[.int .i64 t165, .int .i64 t166, .int .i64 t167, .int .i64 t168, .int .i64 t169, .int .i64 t170, .int .i64 t171, .slice none 0 0, .slice none 0 0, .slice none 0 0]) ?_ 7 _ rfl; (with_reducible repeat (first | refine blk_drewN ?_ _ | refine blk_drew ?_ | refine blk_alloc ?_ _)); refine blk_put (cs := #[.int .i64 t165, .int .i64 t166, .int .i64 t167, .int .i64 t168, .int .i64 t169, .int .i64 t170, .int .i64 0, .slice none 0 0, .slice none 0 0, .slice none 0 0]) ?_ 6 _ rfl; (with_reducible repeat (first | refine blk_drewN ?_ _ | refine blk_drew ?_ | refine blk_alloc ?_ _)); refine blk_put (cs := #[.int .i64 t165, .int .i64 t166, .int .i64 t167, .int .i64 t168, .int .i64 t169, .int .i64 0, .int .i64 0, .slice none 0 0, .slice none 0 0, .slice none 0 0]) ?_ 5 _ rfl; (with_reducible repeat (first | refine blk_drewN ?_ _ | refine blk_drew ?_ | refine blk_alloc ?_ _)); refine blk_put (cs := #[.int .i64 t165, .int .i64 t166, .int .i64 t167, .int .i64 t168, .int .i64 0, .int .i64 0, .int .i64 0, .slice none 0 0, .slice none 0 0, .slice none 0 0]) ?_ 4 _ rfl; (with_reducible repeat (first | refine blk_drewN ?_ _ | refine blk_drew ?_ | refine blk_alloc ?_ _)); refine blk_put (cs := #[.int .i64 t165, .int .i64 t166, .int .i64 t167, .int .i64 0, .int .i64 0, .int .i64 0, .int .i64 0, .slice none 0 0, .slice none 0 0, .slice none 0 0]) ?_ 3 _ rfl; (with_reducible repeat (first | refine blk_drewN ?_ _ | refine blk_drew ?_ | refine blk_alloc ?_ _)); refine blk_put (cs := #[.int .i64 t165, .int .i64 t166, .int .i64 0, .int .i64 0, .int .i64 0, .int .i64 0, .int .i64 0, .slice none 0 0, .slice none 0 0, .slice none 0 0]) ?_ 2 _ rfl; (with_reducible repeat (first | refine blk_drewN ?_ _ | refine blk_drew ?_ | refine blk_alloc ?_ _)); refine blk_put (cs := #[.int .i64 t165, .int .i64 0, .int .i64 0, .int .i64 0, .int .i64 0, .int .i64 0, .int .i64 0, .slice none 0 0, .slice none 0 0, .slice none 0 0]) ?_ 1 _ rfl; (with_reducible repeat (first | refine blk_drewN ?_ _ | refine blk_drew ?_ | refine blk_alloc ?_ _)); refine blk_put (cs := #[.int .i64 0, .int .i64 0, .int .i64 0, .int .i64 0, .int .i64 0, .int .i64 0, .int .i64 0, .slice none 0 0, .slice none 0 0, .slice none 0 0]) ?_ 0 _ rfl; (with_reducible repeat (first | refine blk_drewN ?_ _ | refine blk_drew ?_ | refine blk_alloc ?_ _)); exact BK181.out) hb); have n8_ := Aside0.mk (below_step u3_4 hb); clear HO157; clear HO160; clear HO163; clear HO174; clear HO177; clear HO180; clear BK164; clear BK181; clear HB; have HO157 := n0_; have HO160 := n1_; have HO163 := n2_; have HO174 := n3_; have HO177 := n4_; have HO180 := n5_; have BK164 := n6_; have BK181 := n7_; have HB := n8_; clear n0_ n1_ n2_ n3_ n4_ n5_ n6_ n7_ n8_; (try clear hb); (try clear hb2); (try clear hk); (try clear hi); have hcz32_0 : w31.cell? ⟨gb181, 0, none⟩ = some (.int .i64 t165) := (blk_cell BK181.out 0).trans rfl; have hcz32_1 : w31.cell? ⟨gb181, 1, none⟩ = some (.int .i64 t166) := (blk_cell BK181.out 1).trans rfl; have hcz32_2 : w31.cell? ⟨gb181, 2, none⟩ = some (.int .i64 t167) := (blk_cell BK181.out 2).trans rfl; have hcz32_3 : w31.cell? ⟨gb181, 3, none⟩ = some (.int .i64 t168) := (blk_cell BK181.out 3).trans rfl; have hcz32_4 : w31.cell? ⟨gb181, 4, none⟩ = some (.int .i64 t169) := (blk_cell BK181.out 4).trans rfl; have hcz32_5 : w31.cell? ⟨gb181, 5, none⟩ = some (.int .i64 t170) := (blk_cell BK181.out 5).trans rfl; have hcz32_6 : w31.cell? ⟨gb181, 6, none⟩ = some (.int .i64 t171) := (blk_cell BK181.out 6).trans rfl; have hcz32_7 : w31.cell? ⟨gb181, 7, none⟩ = some (.slice Ao27 t172.length co27) := (blk_cell BK181.out 7).trans rfl; have hcz32_8 : w31.cell? ⟨gb181, 8, none⟩ = some (.slice Ao28 t175.length co28) := (blk_cell BK181.out 8).trans rfl; have hcz32_9 : w31.cell? ⟨gb181, 9, none⟩ = some (.slice Ao29 t178.length co29) := (blk_cell BK181.out 9).trans rfl; have hfz32_0 := blk_frozen BK181.out 0; have hfz32_1 := blk_frozen BK181.out 1; have hfz32_2 := blk_frozen BK181.out 2; have hfz32_3 := blk_frozen BK181.out 3; have hfz32_4 := blk_frozen BK181.out 4; have hfz32_5 := blk_frozen BK181.out 5; have hfz32_6 := blk_frozen BK181.out 6; have hfz32_7 := blk_frozen BK181.out 7; have hfz32_8 := blk_frozen BK181.out 8; have hfz32_9 := blk_frozen BK181.out 9) | ((with_reducible refine gate_callee (f := 23) rfl ?_); refine goesL_ (some 22) rfl rfl Try.func23 (by kernel_rfl) rfl #[.agg #[.int .i64 t165, .int .i64 t166, .int .i64 t167, .int .i64 t168, .int .i64 t169, .int .i64 t170, .int .i64 t171, .slice Ao27 t172.length co27, .slice Ao28 t175.length co28, .slice Ao29 t178.length co29], .int .i64 1] rfl u3_3 ?_; (with_reducible refine (laws_markNode.calls k t165 t166 t167 t168 t169 t170 t171 (fun k_ => some k_ = (.slice Ao27 t172.length co27 : Value).ownBlock) (.slice Ao27 t172.length co27) t172 (fun k_ => some k_ = (.slice Ao28 t175.length co28 : Value).ownBlock) (.slice Ao28 t175.length co28) t175 (fun k_ => some k_ = (.slice Ao29 t178.length co29 : Value).ownBlock) (.slice Ao29 t178.length co29) t178 1 t183 t184 t185 t186 w _ ?side1 ?side2 ?side3 ?side4 ?side5 ?side6 A7.out).mono ?_); (case side1 => exact u3_4); (case side2 => exact Kd.R_tight rfl HO174.out); (case side3 => exact Kd.R_tight rfl HO177.out); (case side4 => exact fun k_ e_ => (HO177.out.1 k_ e_.symm).1.1); (case side5 => exact Kd.R_tight rfl HO180.out); (case side6 => exact fun k_ e_ => (HO180.out.1 k_ e_.symm).1.1); rintro e w33 ⟨rfl, hy0, hy1, hy2, hb, hkp⟩; refine ⟨_, rfl, ?_⟩; have n0_ := Aside0.mk (Kd.R_mono (ok' := fun k_ => some k_ ≠ (.slice Ao27 t172.length co27 : Value).ownBlock) (Kd.R_keptB ((Kd.R_apart' (Kd.R_apart' HO157.out (Kd.R_typed HO177.out) (by decide)) (Kd.R_typed HO180.out) (by decide))) hkp (fun k_ hk_ hs_ => Or.elim hs_ (fun e_ => (hk_.1.1.2) e_) (fun e_ => Or.elim e_ (fun e_ => (hk_.1.2) e_) (fun e_ => (hk_.2) e_)))) (fun k_ hk_ => hk_.1.1.1.2)); have n1_ := Aside0.mk (Kd.R_mono (ok' := fun k_ => some k_ ≠ (.slice Ao22 t161.length co22 : Value).ownBlock ∧ some k_ ≠ (.slice Ao28 t175.length co28 : Value).ownBlock ∧ some k_ ≠ (.slice Ao29 t178.length co29 : Value).ownBlock) (Kd.R_keptB ((Kd.R_apart' HO160.out (Kd.R_typed HO174.out) (by decide))) hkp (fun k_ hk_ hs_ => Or.elim hs_ (fun e_ => (hk_.2) e_) (fun e_ => Or.elim e_ (fun e_ => (hk_.1.1.2) e_) (fun e_ => (hk_.1.2) e_)))) (fun k_ hk_ => ⟨hk_.1.1.1.1, hk_.1.1.1.2, hk_.1.1.2⟩)); have n2_ := Aside0.mk (Kd.R_mono (ok' := fun k_ => some k_ ≠ (.slice Ao21 t158.length co21 : Value).ownBlock ∧ some k_ ≠ (.slice Ao28 t175.length co28 : Value).ownBlock ∧ some k_ ≠ (.slice Ao29 t178.length co29 : Value).ownBlock) (Kd.R_keptB ((Kd.R_apart' HO163.out (Kd.R_typed HO174.out) (by decide))) hkp (fun k_ hk_ hs_ => Or.elim hs_ (fun e_ => (hk_.2) e_) (fun e_ => Or.elim e_ (fun e_ => (hk_.1.1.2) e_) (fun e_ => (hk_.1.2) e_)))) (fun k_ hk_ => ⟨hk_.1.1.1.1, hk_.1.1.1.2, hk_.1.1.2⟩)); have n3_ := Aside0.mk (blk_kept u3_5 hkp (fun hs_ => Or.elim hs_ (fun e_ => (fun e_ => (Kd.R_ne HO174.out BK164.out (by decide)) e_) e_) (fun e_ => Or.elim e_ (fun e_ => (fun e_ => (Kd.R_ne HO177.out BK164.out (by decide)) e_) e_) (fun e_ => (fun e_ => (Kd.R_ne HO180.out BK164.out (by decide)) e_) e_)))); have n4_ := Aside0.mk (Kd.R_reok rfl hy0 (fun k_ e_ => HO174.out.1 k_ e_)); have n5_ := Aside0.mk (Kd.R_reok rfl hy1 (fun k_ e_ => HO177.out.1 k_ e_)); have n6_ := Aside0.mk (Kd.R_reok rfl hy2 (fun k_ e_ => HO180.out.1 k_ e_)); have n7_ := Aside0.mk (blk_kept u3_22 hkp (fun hs_ => Or.elim hs_ (fun e_ => (fun e_ => (Kd.R_ne HO174.out BK181.out (by decide)) e_) e_) (fun e_ => Or.elim e_ (fun e_ => (fun e_ => (Kd.R_ne HO177.out BK181.out (by decide)) e_) e_) (fun e_ => (fun e_ => (Kd.R_ne HO180.out BK181.out (by decide)) e_) e_)))); have n8_ := Aside0.mk (hb); clear HO157; clear HO160; clear HO163; clear BK164; clear HO174; clear HO177; clear HO180; clear BK181; clear HB; have HO157 := n0_; have HO160 := n1_; have HO163 := n2_; have BK164 := n3_; have HO174 := n4_; have HO177 := n5_; have HO180 := n6_; have BK181 := n7_; have HB := n8_; clear n0_ n1_ n2_ n3_ n4_ n5_ n6_ n7_ n8_; (try clear hb); (try clear hkp); (try clear hy0); (try clear hy1); (try clear hy2); have hcz34_0 : w33.cell? ⟨gb181, 0, none⟩ = some (.int .i64 t165) := (blk_cell BK181.out 0).trans rfl; have hcz34_1 : w33.cell? ⟨gb181, 1, none⟩ = some (.int .i64 t166) := (blk_cell BK181.out 1).trans rfl; have hcz34_2 : w33.cell? ⟨gb181, 2, none⟩ = some (.int .i64 t167) := (blk_cell BK181.out 2).trans rfl; have hcz34_3 : w33.cell? ⟨gb181, 3, none⟩ = some (.int .i64 t168) := (blk_cell BK181.out 3).trans rfl; have hcz34_4 : w33.cell? ⟨gb181, 4, none⟩ = some (.int .i64 t169) := (blk_cell BK181.out 4).trans rfl; have hcz34_5 : w33.cell? ⟨gb181, 5, none⟩ = some (.int .i64 t170) := (blk_cell BK181.out 5).trans rfl; have hcz34_6 : w33.cell? ⟨gb181, 6, none⟩ = some (.int .i64 t171) := (blk_cell BK181.out 6).trans rfl; have hcz34_7 : w33.cell? ⟨gb181, 7, none⟩ = some (.slice Ao27 t172.length co27) := (blk_cell BK181.out 7).trans rfl; have hcz34_8 : w33.cell? ⟨gb181, 8, none⟩ = some (.slice Ao28 t175.length co28) := (blk_cell BK181.out 8).trans rfl; have hcz34_9 : w33.cell? ⟨gb181, 9, none⟩ = some (.slice Ao29 t178.length co29) := (blk_cell BK181.out 9).trans rfl; have hfz34_0 := blk_frozen BK181.out 0; have hfz34_1 := blk_frozen BK181.out 1; have hfz34_2 := blk_frozen BK181.out 2; have hfz34_3 := blk_frozen BK181.out 3; have hfz34_4 := blk_frozen BK181.out 4; have hfz34_5 := blk_frozen BK181.out 5; have hfz34_6 := blk_frozen BK181.out 6; have hfz34_7 := blk_frozen BK181.out 7; have hfz34_8 := blk_frozen BK181.out 8; have hfz34_9 := blk_frozen BK181.out 9) | ((with_reducible refine gate_callee (f := 24) rfl ?_); refine goesL_ (some 25) rfl rfl Try.func24 (by kernel_rfl) rfl #[.agg #[.int .i64 t165, .int .i64 t166, .int .i64 t167, .int .i64 t168, .int .i64 t169, .int .i64 t170, .int .i64 t171, .slice Ao27 t184.length co27, .slice Ao28 t185.length co28, .slice Ao29 t186.length co29], .int .i64 1] rfl u3_31 ?_; (with_reducible refine (laws_heldNode.calls k t165 t166 t167 t168 t169 t170 t171 _ _ t184 _ _ t185 _ _ t186 1 t187 _ ?side1 ?side2 ?side3 ?side4 ?side5 ?side6 A8.out).mono ?_); (case side1 => exact u3_36); (case side2 => exact u3_40); (case side3 => exact u3_37); (case side4 => exact u3_41); (case side5 => exact u3_38); (case side6 => exact u3_42); rintro e w35 ⟨rfl, hb⟩; refine ⟨_, rfl, ?_⟩; have n0_ := Aside0.mk (Kd.R_below u3_24 hb); have n1_ := Aside0.mk (Kd.R_below u3_20 hb); have n2_ := Aside0.mk (Kd.R_below u3_21 hb); have n3_ := Aside0.mk (Kd.R_below u3_27 hb); have n4_ := Aside0.mk (Kd.R_below u3_25 hb); have n5_ := Aside0.mk (Kd.R_below u3_26 hb); have n6_ := Aside0.mk (blk_below (g := gb164) (o := .cells #[.int .i64 t148, .int .i64 t149, .int .i64 t150, .int .i64 t151, .int .i64 t152, .int .i64 t153, .int .i64 t154, .slice Ao20 t155.length co20, .slice Ao21 t158.length co21, .slice Ao22 t161.length co22] 37 (0, 0)) u3_5 hb); have n7_ := Aside0.mk (blk_below (g := gb181) (o := .cells #[.int .i64 t165, .int .i64 t166, .int .i64 t167, .int .i64 t168, .int .i64 t169, .int .i64 t170, .int .i64 t171, .slice Ao27 t172.length co27, .slice Ao28 t175.length co28, .slice Ao29 t178.length co29] 37 (0, 0)) u3_22 hb); have n8_ := Aside0.mk (below_step u3_4 hb); clear HO157; clear HO160; clear HO163; clear HO174; clear HO177; clear HO180; clear BK164; clear BK181; clear HB; have HO157 := n0_; have HO160 := n1_; have HO163 := n2_; have HO174 := n3_; have HO177 := n4_; have HO180 := n5_; have BK164 := n6_; have BK181 := n7_; have HB := n8_; clear n0_ n1_ n2_ n3_ n4_ n5_ n6_ n7_ n8_; (try clear hb); (try clear hb2); (try clear hk); (try clear hi)) | ((with_reducible refine gate_callee (f := 21) rfl ?_); refine goesL_ (some 33) rfl rfl Try.func21 (by kernel_rfl) rfl #[.int .i64 a0, .int .i64 a1] rfl u3_3 ?_; (with_reducible refine (impl_NewNode.calls a0 a1 t188 t189 t190 t191 t192 t193 t194 t195 t198 t201 _ A11.out).mono ?_); rintro e w36 ⟨v196, v199, v202, rfl, ho0, ho1, ho2, hb⟩; refine ⟨_, rfl, ?_⟩; have n0_ := Aside0.mk (Kd.R_elder' u3_24 (Kd.R_base ho0) hb); have n1_ := Aside0.mk (Kd.R_mono (Kd.R_told (Kd.R_told (Kd.R_old u3_20 hb) (Kd.R_base ho1)) (Kd.R_base ho2)) (fun _ h_ => h_.1)); have n2_ := Aside0.mk (Kd.R_mono (Kd.R_told (Kd.R_told (Kd.R_old u3_21 hb) (Kd.R_base ho1)) (Kd.R_base ho2)) (fun _ h_ => h_.1)); have n3_ := Aside0.mk (Kd.R_elder' u3_27 (Kd.R_base ho0) hb); have n4_ := Aside0.mk (Kd.R_mono (Kd.R_told (Kd.R_told (Kd.R_old u3_25 hb) (Kd.R_base ho1)) (Kd.R_base ho2)) (fun _ h_ => h_.1)); have n5_ := Aside0.mk (Kd.R_mono (Kd.R_told (Kd.R_told (Kd.R_old u3_26 hb) (Kd.R_base ho1)) (Kd.R_base ho2)) (fun _ h_ => h_.1)); have n6_ := Aside0.mk (Kd.R_lower (Kd.R_new' (Kd.R_new' ho0 (Kd.R_lt u3_24)) (Kd.R_lt u3_27)) (below_size u3_4)); have n7_ := Aside0.mk (Kd.R_lower (Kd.R_new' (Kd.R_new' (Kd.R_new' (Kd.R_new' ho1 (Kd.R_lt u3_20)) (Kd.R_lt u3_21)) (Kd.R_lt u3_25)) (Kd.R_lt u3_26)) (below_size u3_4)); have n8_ := Aside0.mk (Kd.R_lower (Kd.R_new' (Kd.R_new' (Kd.R_new' (Kd.R_new' ho2 (Kd.R_lt u3_20)) (Kd.R_lt u3_21)) (Kd.R_lt u3_25)) (Kd.R_lt u3_26)) (below_size u3_4)); have n9_ := Aside0.mk (blk_below (g := gb164) (o := .cells #[.int .i64 t148, .int .i64 t149, .int .i64 t150, .int .i64 t151, .int .i64 t152, .int .i64 t153, .int .i64 t154, .slice Ao20 t155.length co20, .slice Ao21 t158.length co21, .slice Ao22 t161.length co22] 37 (0, 0)) u3_5 hb); have n10_ := Aside0.mk (blk_below (g := gb181) (o := .cells #[.int .i64 t165, .int .i64 t166, .int .i64 t167, .int .i64 t168, .int .i64 t169, .int .i64 t170, .int .i64 t171, .slice Ao27 t172.length co27, .slice Ao28 t175.length co28, .slice Ao29 t178.length co29] 37 (0, 0)) u3_22 hb); have n11_ := Aside0.mk (below_step u3_4 hb); clear HO157; clear HO160; clear HO163; clear HO174; clear HO177; clear HO180; clear BK164; clear BK181; clear HB; have HO157 := n0_; have HO160 := n1_; have HO163 := n2_; have HO174 := n3_; have HO177 := n4_; have HO180 := n5_; have HO197 := n6_; have HO200 := n7_; have HO203 := n8_; have BK164 := n9_; have BK181 := n10_; have HB := n11_; clear n0_ n1_ n2_ n3_ n4_ n5_ n6_ n7_ n8_ n9_ n10_ n11_; (try clear hb); (try clear hb2); (try clear hk); (try clear hi); (try clear ho0); (try clear ho1); (try clear ho2)) | ((with_reducible refine gate_dst (N := 9) rfl ?_); refine box_event ?hg (N := 9) ?hd (cs := #[.int .i64 0, .int .i64 0, .int .i64 0, .int .i64 0, .int .i64 0, .int .i64 0, .int .i64 0, .slice none 0 0, .slice none 0 0, .slice none 0 0]) (t := 37) ?hr ?_; (case hd => rfl); (case hg => rfl); (case hr => first | (go_simp; done) | (go_simp; rfl)); intro gb204 hg w37 hbox hb; have n0_ := Aside0.mk (Kd.R_below u3_24 hb); have n1_ := Aside0.mk (Kd.R_below u3_20 hb); have n2_ := Aside0.mk (Kd.R_below u3_21 hb); have n3_ := Aside0.mk (Kd.R_below u3_27 hb); have n4_ := Aside0.mk (Kd.R_below u3_25 hb); have n5_ := Aside0.mk (Kd.R_below u3_26 hb); have n6_ := Aside0.mk (Kd.R_below u3_44 hb); have n7_ := Aside0.mk (Kd.R_below u3_45 hb); have n8_ := Aside0.mk (Kd.R_below u3_46 hb); have n9_ := Aside0.mk (blk_below (g := gb164) (o := .cells #[.int .i64 t148, .int .i64 t149, .int .i64 t150, .int .i64 t151, .int .i64 t152, .int .i64 t153, .int .i64 t154, .slice Ao20 t155.length co20, .slice Ao21 t158.length co21, .slice Ao22 t161.length co22] 37 (0, 0)) u3_5 hb); have n10_ := Aside0.mk (blk_below (g := gb181) (o := .cells #[.int .i64 t165, .int .i64 t166, .int .i64 t167, .int .i64 t168, .int .i64 t169, .int .i64 t170, .int .i64 t171, .slice Ao27 t172.length co27, .slice Ao28 t175.length co28, .slice Ao29 t178.length co29] 37 (0, 0)) u3_22 hb); have n11_ := Aside0.mk (below_step u3_4 hb); have n12_ := Aside0.mk (hbox); have n13_ := Aside0.mk ((by rw [hg]; exact (below_size u3_4) : w.heap.size ≤ gb204)); have n14_ := Aside0.mk ((by rw [hg]; exact (below_size u3_4) : w.heap.size ≤ gb204)); have n15_ := Aside0.mk ((by rw [hg]; exact Nat.ne_of_lt (blk_lt (g := gb164) (o := .cells #[.int .i64 t148, .int .i64 t149, .int .i64 t150, .int .i64 t151, .int .i64 t152, .int .i64 t153, .int .i64 t154, .slice Ao20 t155.length co20, .slice Ao21 t158.length co21, .slice Ao22 t161.length co22] 37 (0, 0)) u3_5) : gb164 ≠ gb204)); have n16_ := Aside0.mk ((by rw [hg]; exact Nat.ne_of_gt (blk_lt (g := gb164) (o := .cells #[.int .i64 t148, .int .i64 t149, .int .i64 t150, .int .i64 t151, .int .i64 t152, .int .i64 t153, .int .i64 t154, .slice Ao20 t155.length co20, .slice Ao21 t158.length co21, .slice Ao22 t161.length co22] 37 (0, 0)) u3_5) : gb204 ≠ gb164)); have n17_ := Aside0.mk ((by rw [hg]; exact Nat.ne_of_lt (blk_lt (g := gb181) (o := .cells #[.int .i64 t165, .int .i64 t166, .int .i64 t167, .int .i64 t168, .int .i64 t169, .int .i64 t170, .int .i64 t171, .slice Ao27 t172.length co27, .slice Ao28 t175.length co28, .slice Ao29 t178.length co29] 37 (0, 0)) u3_22) : gb181 ≠ gb204)); have n18_ := Aside0.mk ((by rw [hg]; exact Nat.ne_of_gt (blk_lt (g := gb181) (o := .cells #[.int .i64 t165, .int .i64 t166, .int .i64 t167, .int .i64 t168, .int .i64 t169, .int .i64 t170, .int .i64 t171, .slice Ao27 t172.length co27, .slice Ao28 t175.length co28, .slice Ao29 t178.length co29] 37 (0, 0)) u3_22) : gb204 ≠ gb181)); clear HO157; clear HO160; clear HO163; clear HO174; clear HO177; clear HO180; clear HO197; clear HO200; clear HO203; clear BK164; clear BK181; clear HB; have HO157 := n0_; have HO160 := n1_; have HO163 := n2_; have HO174 := n3_; have HO177 := n4_; have HO180 := n5_; have HO197 := n6_; have HO200 := n7_; have HO203 := n8_; have BK164 := n9_; have BK181 := n10_; have HB := n11_; have BK204 := n12_; have GW204 := n13_; have GE204 := n14_; have NB164_204 := n15_; have NB204_164 := n16_; have NB181_204 := n17_; have NB204_181 := n18_; clear n0_ n1_ n2_ n3_ n4_ n5_ n6_ n7_ n8_ n9_ n10_ n11_ n12_ n13_ n14_ n15_ n16_ n17_ n18_; clear hb hbox hg; have hnb38 := NB204_164.out; have hnc38 := NB164_204.out; have hnb39 := NB204_181.out; have hnc39 := NB181_204.out; have hcz40_0 : w37.cell? ⟨gb204, 0, none⟩ = some (.int .i64 0) := (blk_cell BK204.out 0).trans rfl; have hcz40_1 : w37.cell? ⟨gb204, 1, none⟩ = some (.int .i64 0) := (blk_cell BK204.out 1).trans rfl; have hcz40_2 : w37.cell? ⟨gb204, 2, none⟩ = some (.int .i64 0) := (blk_cell BK204.out 2).trans rfl; have hcz40_3 : w37.cell? ⟨gb204, 3, none⟩ = some (.int .i64 0) := (blk_cell BK204.out 3).trans rfl; have hcz40_4 : w37.cell? ⟨gb204, 4, none⟩ = some (.int .i64 0) := (blk_cell BK204.out 4).trans rfl; have hcz40_5 : w37.cell? ⟨gb204, 5, none⟩ = some (.int .i64 0) := (blk_cell BK204.out 5).trans rfl; have hcz40_6 : w37.cell? ⟨gb204, 6, none⟩ = some (.int .i64 0) := (blk_cell BK204.out 6).trans rfl; have hcz40_7 : w37.cell? ⟨gb204, 7, none⟩ = some (.slice none 0 0) := (blk_cell BK204.out 7).trans rfl; have hcz40_8 : w37.cell? ⟨gb204, 8, none⟩ = some (.slice none 0 0) := (blk_cell BK204.out 8).trans rfl; have hcz40_9 : w37.cell? ⟨gb204, 9, none⟩ = some (.slice none 0 0) := (blk_cell BK204.out 9).trans rfl; have hfz40_0 := blk_frozen BK204.out 0; have hfz40_1 := blk_frozen BK204.out 1; have hfz40_2 := blk_frozen BK204.out 2; have hfz40_3 := blk_frozen BK204.out 3; have hfz40_4 := blk_frozen BK204.out 4; have hfz40_5 := blk_frozen BK204.out 5; have hfz40_6 := blk_frozen BK204.out 6; have hfz40_7 := blk_frozen BK204.out 7; have hfz40_8 := blk_frozen BK204.out 8; have hfz40_9 := blk_frozen BK204.out 9; obtain ⟨Ao41, co41, eo41⟩ := Kd.R_slice HO197.out; subst eo41; obtain ⟨Ao42, co42, eo42⟩ := Kd.R_slice HO200.out; subst eo42; obtain ⟨Ao43, co43, eo43⟩ := Kd.R_slice HO203.out; subst eo43; have hcz44_0 : w37.cell? ⟨gb164, 0, none⟩ = some (.int .i64 t148) := (blk_cell BK164.out 0).trans rfl; have hcz44_1 : w37.cell? ⟨gb164, 1, none⟩ = some (.int .i64 t149) := (blk_cell BK164.out 1).trans rfl; have hcz44_2 : w37.cell? ⟨gb164, 2, none⟩ = some (.int .i64 t150) := (blk_cell BK164.out 2).trans rfl; have hcz44_3 : w37.cell? ⟨gb164, 3, none⟩ = some (.int .i64 t151) := (blk_cell BK164.out 3).trans rfl; have hcz44_4 : w37.cell? ⟨gb164, 4, none⟩ = some (.int .i64 t152) := (blk_cell BK164.out 4).trans rfl; have hcz44_5 : w37.cell? ⟨gb164, 5, none⟩ = some (.int .i64 t153) := (blk_cell BK164.out 5).trans rfl; have hcz44_6 : w37.cell? ⟨gb164, 6, none⟩ = some (.int .i64 t154) := (blk_cell BK164.out 6).trans rfl; have hcz44_7 : w37.cell? ⟨gb164, 7, none⟩ = some (.slice Ao20 t155.length co20) := (blk_cell BK164.out 7).trans rfl; have hcz44_8 : w37.cell? ⟨gb164, 8, none⟩ = some (.slice Ao21 t158.length co21) := (blk_cell BK164.out 8).trans rfl; have hcz44_9 : w37.cell? ⟨gb164, 9, none⟩ = some (.slice Ao22 t161.length co22) := (blk_cell BK164.out 9).trans rfl; have hfz44_0 := blk_frozen BK164.out 0; have hfz44_1 := blk_frozen BK164.out 1; have hfz44_2 := blk_frozen BK164.out 2; have hfz44_3 := blk_frozen BK164.out 3; have hfz44_4 := blk_frozen BK164.out 4; have hfz44_5 := blk_frozen BK164.out 5; have hfz44_6 := blk_frozen BK164.out 6; have hfz44_7 := blk_frozen BK164.out 7; have hfz44_8 := blk_frozen BK164.out 8; have hfz44_9 := blk_frozen BK164.out 9) | ((with_reducible refine gate_callee (f := 22) rfl ?_); refine goesL_ (some 36) rfl rfl Try.func22 (by kernel_rfl) rfl #[.agg #[.int .i64 t188, .int .i64 t189, .int .i64 t190, .int .i64 t191, .int .i64 t192, .int .i64 t193, .int .i64 t194, .slice Ao41 t195.length co41, .slice Ao42 t198.length co42, .slice Ao43 t201.length co43], .agg #[.int .i64 t148, .int .i64 t149, .int .i64 t150, .int .i64 t151, .int .i64 t152, .int .i64 t153, .int .i64 t154, .slice Ao20 t155.length co20, .slice Ao21 t158.length co21, .slice Ao22 t161.length co22]] rfl u3_3 ?_; (with_reducible refine (laws_eqNode.calls k t188 t189 t190 t191 t192 t193 t194 _ _ t195 _ _ t198 _ _ t201 t148 t149 t150 t151 t152 t153 t154 _ _ t155 _ _ t158 _ _ t161 true _ ?side1 ?side2 ?side3 ?side4 ?side5 ?side6 ?side7 ?side8 ?side9 ?side10 ?side11 ?side12 A12.out).mono ?_); (case side1 => exact (by refine (Kd.R_reads' (e := 85) (base := w.heap.size) (ok := fun k_ => ((True ∧ some k_ ≠ (.slice Ao20 t155.length co20 : Value).ownBlock) ∧ some k_ ≠ (.slice Ao27 t172.length co27 : Value).ownBlock)) (n := t195.length) (c := co41) ?_).2.2; exact u3_14)); (case side2 => exact (Kd.R_reads' HO197.out).2.1); (case side3 => exact (by refine (Kd.R_reads' (e := 3) (base := w.heap.size) (ok := fun k_ => ((((some k_ ≠ (.slice Ao43 t201.length co43 : Value).ownBlock ∧ some k_ ≠ (.slice Ao21 t158.length co21 : Value).ownBlock) ∧ some k_ ≠ (.slice Ao22 t161.length co22 : Value).ownBlock) ∧ some k_ ≠ (.slice Ao28 t175.length co28 : Value).ownBlock) ∧ some k_ ≠ (.slice Ao29 t178.length co29 : Value).ownBlock)) (n := t198.length) (c := co42) ?_).2.2; exact u3_15)); (case side4 => exact (Kd.R_reads' HO200.out).2.1); (case side5 => exact (by refine (Kd.R_reads' (e := 3) (base := w.heap.size) (ok := fun k_ => ((((some k_ ≠ (.slice Ao42 t198.length co42 : Value).ownBlock ∧ some k_ ≠ (.slice Ao21 t158.length co21 : Value).ownBlock) ∧ some k_ ≠ (.slice Ao22 t161.length co22 : Value).ownBlock) ∧ some k_ ≠ (.slice Ao28 t175.length co28 : Value).ownBlock) ∧ some k_ ≠ (.slice Ao29 t178.length co29 : Value).ownBlock)) (n := t201.length) (c := co43) ?_).2.2; exact u3_16)); (case side6 => exact (Kd.R_reads' HO203.out).2.1); (case side7 => exact (by refine (Kd.R_reads' (e := 85) (base := w.heap.size) (ok := fun k_ => (some k_ ≠ (.slice Ao27 t172.length co27 : Value).ownBlock ∧ some k_ ≠ (.slice Ao41 t195.length co41 : Value).ownBlock)) (n := t155.length) (c := co20) ?_).2.2; exact u3_17)); (case side8 => exact (Kd.R_reads' HO157.out).2.1); (case side9 => exact (by refine (Kd.R_reads' (e := 3) (base := w.heap.size) (ok := fun k_ => (((some k_ ≠ (.slice Ao22 t161.length co22 : Value).ownBlock ∧ (some k_ ≠ (.slice Ao28 t175.length co28 : Value).ownBlock ∧ some k_ ≠ (.slice Ao29 t178.length co29 : Value).ownBlock)) ∧ some k_ ≠ (.slice Ao42 t198.length co42 : Value).ownBlock) ∧ some k_ ≠ (.slice Ao43 t201.length co43 : Value).ownBlock)) (n := t158.length) (c := co21) ?_).2.2; exact u3_18)); (case side10 => exact (Kd.R_reads' HO160.out).2.1); (case side11 => exact (by refine (Kd.R_reads' (e := 3) (base := w.heap.size) (ok := fun k_ => (((some k_ ≠ (.slice Ao21 t158.length co21 : Value).ownBlock ∧ (some k_ ≠ (.slice Ao28 t175.length co28 : Value).ownBlock ∧ some k_ ≠ (.slice Ao29 t178.length co29 : Value).ownBlock)) ∧ some k_ ≠ (.slice Ao42 t198.length co42 : Value).ownBlock) ∧ some k_ ≠ (.slice Ao43 t201.length co43 : Value).ownBlock)) (n := t161.length) (c := co22) ?_).2.2; exact u3_19)); (case side12 => exact (Kd.R_reads' HO163.out).2.1); rintro e w45 ⟨rfl, hb⟩; refine ⟨_, rfl, ?_⟩; have n0_ := Aside0.mk (Kd.R_below u3_17 hb); have n1_ := Aside0.mk (Kd.R_below u3_18 hb); have n2_ := Aside0.mk (Kd.R_below u3_19 hb); have n3_ := Aside0.mk (Kd.R_below (by (with_reducible repeat (first | apply Kd.R_alloc | apply Kd.R_drewN | apply Kd.R_drew)); exact (Kd.R_mono (Kd.R_far (p := ⟨gb204, 9, none⟩) (Kd.R_far (p := ⟨gb204, 8, none⟩) (Kd.R_far (p := ⟨gb204, 7, none⟩) (Kd.R_far (p := ⟨gb204, 6, none⟩) (Kd.R_far (p := ⟨gb204, 5, none⟩) (Kd.R_far (p := ⟨gb204, 4, none⟩) (Kd.R_far (p := ⟨gb204, 3, none⟩) (Kd.R_far (p := ⟨gb204, 2, none⟩) (Kd.R_far (p := ⟨gb204, 1, none⟩) (Kd.R_far (p := ⟨gb204, 0, none⟩) (Kd.R_types HO174.out BK204.out (by decide)) (fun _ hk => hk.2) (.int .i64 t188)) (fun _ hk => hk.2) (.int .i64 t189)) (fun _ hk => hk.2) (.int .i64 t190)) (fun _ hk => hk.2) (.int .i64 t191)) (fun _ hk => hk.2) (.int .i64 t192)) (fun _ hk => hk.2) (.int .i64 t193)) (fun _ hk => hk.2) (.int .i64 t194)) (fun _ hk => hk.2) (.slice Ao41 t195.length co41)) (fun _ hk => hk.2) (.slice Ao42 t198.length co42)) (fun _ hk => hk.2) (.slice Ao43 t201.length co43)) (fun _ h_ => h_.1))) hb); have n4_ := Aside0.mk (Kd.R_below (by (with_reducible repeat (first | apply Kd.R_alloc | apply Kd.R_drewN | apply Kd.R_drew)); exact (Kd.R_mono (Kd.R_far (p := ⟨gb204, 9, none⟩) (Kd.R_far (p := ⟨gb204, 8, none⟩) (Kd.R_far (p := ⟨gb204, 7, none⟩) (Kd.R_far (p := ⟨gb204, 6, none⟩) (Kd.R_far (p := ⟨gb204, 5, none⟩) (Kd.R_far (p := ⟨gb204, 4, none⟩) (Kd.R_far (p := ⟨gb204, 3, none⟩) (Kd.R_far (p := ⟨gb204, 2, none⟩) (Kd.R_far (p := ⟨gb204, 1, none⟩) (Kd.R_far (p := ⟨gb204, 0, none⟩) (Kd.R_types HO177.out BK204.out (by decide)) (fun _ hk => hk.2) (.int .i64 t188)) (fun _ hk => hk.2) (.int .i64 t189)) (fun _ hk => hk.2) (.int .i64 t190)) (fun _ hk => hk.2) (.int .i64 t191)) (fun _ hk => hk.2) (.int .i64 t192)) (fun _ hk => hk.2) (.int .i64 t193)) (fun _ hk => hk.2) (.int .i64 t194)) (fun _ hk => hk.2) (.slice Ao41 t195.length co41)) (fun _ hk => hk.2) (.slice Ao42 t198.length co42)) (fun _ hk => hk.2) (.slice Ao43 t201.length co43)) (fun _ h_ => h_.1))) hb); have n5_ := Aside0.mk (Kd.R_below (by (with_reducible repeat (first | apply Kd.R_alloc | apply Kd.R_drewN | apply Kd.R_drew)); exact (Kd.R_mono (Kd.R_far (p := ⟨gb204, 9, none⟩) (Kd.R_far (p := ⟨gb204, 8, none⟩) (Kd.R_far (p := ⟨gb204, 7, none⟩) (Kd.R_far (p := ⟨gb204, 6, none⟩) (Kd.R_far (p := ⟨gb204, 5, none⟩) (Kd.R_far (p := ⟨gb204, 4, none⟩) (Kd.R_far (p := ⟨gb204, 3, none⟩) (Kd.R_far (p := ⟨gb204, 2, none⟩) (Kd.R_far (p := ⟨gb204, 1, none⟩) (Kd.R_far (p := ⟨gb204, 0, none⟩) (Kd.R_types HO180.out BK204.out (by decide)) (fun _ hk => hk.2) (.int .i64 t188)) (fun _ hk => hk.2) (.int .i64 t189)) (fun _ hk => hk.2) (.int .i64 t190)) (fun _ hk => hk.2) (.int .i64 t191)) (fun _ hk => hk.2) (.int .i64 t192)) (fun _ hk => hk.2) (.int .i64 t193)) (fun _ hk => hk.2) (.int .i64 t194)) (fun _ hk => hk.2) (.slice Ao41 t195.length co41)) (fun _ hk => hk.2) (.slice Ao42 t198.length co42)) (fun _ hk => hk.2) (.slice Ao43 t201.length co43)) (fun _ h_ => h_.1))) hb); have n6_ := Aside0.mk (Kd.R_below u3_14 hb); have n7_ := Aside0.mk (Kd.R_below u3_15 hb); have n8_ := Aside0.mk (Kd.R_below u3_16 hb); have n9_ := Aside0.mk (blk_below (g := gb164) (o := .cells #[.int .i64 t148, .int .i64 t149, .int .i64 t150, .int .i64 t151, .int .i64 t152, .int .i64 t153, .int .i64 t154, .slice Ao20 t155.length co20, .slice Ao21 t158.length co21, .slice Ao22 t161.length co22] 37 (0, 0)) (by (with_reducible repeat (first | refine blk_drewN ?_ _ | refine blk_drew ?_ | refine blk_alloc ?_ _)); refine blk_far ?_ NB164_204.out _; (with_reducible repeat (first | refine blk_drewN ?_ _ | refine blk_drew ?_ | refine blk_alloc ?_ _)); refine blk_far ?_ NB164_204.out _; (with_reducible repeat (first | refine blk_drewN ?_ _ | refine blk_drew ?_ | refine blk_alloc ?_ _)); refine blk_far ?_ NB164_204.out _; (with_reducible repeat (first | refine blk_drewN ?_ _ | refine blk_drew ?_ | refine blk_alloc ?_ _)); refine blk_far ?_ NB164_204.out _; (with_reducible repeat (first | refine blk_drewN ?_ _ | refine blk_drew ?_ | refine blk_alloc ?_ _)); refine blk_far ?_ NB164_204.out _; (with_reducible repeat (first | refine blk_drewN ?_ _ | refine blk_drew ?_ | refine blk_alloc ?_ _)); refine blk_far ?_ NB164_204.out _; (with_reducible repeat (first | refine blk_drewN ?_ _ | refine blk_drew ?_ | refine blk_alloc ?_ _)); refine blk_far ?_ NB164_204.out _; (with_reducible repeat (first | refine blk_drewN ?_ _ | refine blk_drew ?_ | refine blk_alloc ?_ _)); refine blk_far ?_ NB164_204.out _; (with_reducible repeat (first | refine blk_drewN ?_ _ | refine blk_drew ?_ | refine blk_alloc ?_ _)); refine blk_far ?_ NB164_204.out _; (with_reducible repeat (first | refine blk_drewN ?_ _ | refine blk_drew ?_ | refine blk_alloc ?_ _)); refine blk_far ?_ NB164_204.out _; (with_reducible repeat (first | refine blk_drewN ?_ _ | refine blk_drew ?_ | refine blk_alloc ?_ _)); exact BK164.out) hb); have n10_ := Aside0.mk (blk_below (g := gb181) (o := .cells #[.int .i64 t165, .int .i64 t166, .int .i64 t167, .int .i64 t168, .int .i64 t169, .int .i64 t170, .int .i64 t171, .slice Ao27 t172.length co27, .slice Ao28 t175.length co28, .slice Ao29 t178.length co29] 37 (0, 0)) (by (with_reducible repeat (first | refine blk_drewN ?_ _ | refine blk_drew ?_ | refine blk_alloc ?_ _)); refine blk_far ?_ NB181_204.out _; (with_reducible repeat (first | refine blk_drewN ?_ _ | refine blk_drew ?_ | refine blk_alloc ?_ _)); refine blk_far ?_ NB181_204.out _; (with_reducible repeat (first | refine blk_drewN ?_ _ | refine blk_drew ?_ | refine blk_alloc ?_ _)); refine blk_far ?_ NB181_204.out _; (with_reducible repeat (first | refine blk_drewN ?_ _ | refine blk_drew ?_ | refine blk_alloc ?_ _)); refine blk_far ?_ NB181_204.out _; (with_reducible repeat (first | refine blk_drewN ?_ _ | refine blk_drew ?_ | refine blk_alloc ?_ _)); refine blk_far ?_ NB181_204.out _; (with_reducible repeat (first | refine blk_drewN ?_ _ | refine blk_drew ?_ | refine blk_alloc ?_ _)); refine blk_far ?_ NB181_204.out _; (with_reducible repeat (first | refine blk_drewN ?_ _ | refine blk_drew ?_ | refine blk_alloc ?_ _)); refine blk_far ?_ NB181_204.out _; (with_reducible repeat (first | refine blk_drewN ?_ _ | refine blk_drew ?_ | refine blk_alloc ?_ _)); refine blk_far ?_ NB181_204.out _; (with_reducible repeat (first | refine blk_drewN ?_ _ | refine blk_drew ?_ | refine blk_alloc ?_ _)); refine blk_far ?_ NB181_204.out _; (with_reducible repeat (first | refine blk_drewN ?_ _ | refine blk_drew ?_ | refine blk_alloc ?_ _)); refine blk_far ?_ NB181_204.out _; (with_reducible repeat (first | refine blk_drewN ?_ _ | refine blk_drew ?_ | refine blk_alloc ?_ _)); exact BK181.out) hb); have n11_ := Aside0.mk (blk_below (g := gb204) (o := .cells #[.int .i64 t188, .int .i64 t189, .int .i64 t190, .int .i64 t191, .int .i64 t192, .int .i64 t193, .int .i64 t194, .slice Ao41 t195.length co41, .slice Ao42 t198.length co42, .slice Ao43 t201.length co43] 37 (0, 0)) (by (with_reducible repeat (first | refine blk_drewN ?_ _ | refine blk_drew ?_ | refine blk_alloc ?_ _)); refine blk_put (cs := #[.int .i64 t188, .int .i64 t189, .int .i64 t190, .int .i64 t191, .int .i64 t192, .int .i64 t193, .int .i64 t194, .slice Ao41 t195.length co41, .slice Ao42 t198.length co42, .slice none 0 0]) ?_ 9 _ rfl; (with_reducible repeat (first | refine blk_drewN ?_ _ | refine blk_drew ?_ | refine blk_alloc ?_ _)); refine blk_put (cs := #[.int .i64 t188, .int .i64 t189, .int .i64 t190, .int .i64 t191, .int .i64 t192, .int .i64 t193, .int .i64 t194, .slice Ao41 t195.length co41, .slice none 0 0, .slice none 0 0]) ?_ 8 _ rfl; (with_reducible repeat (first | refine blk_drewN ?_ _ | refine blk_drew ?_ | refine blk_alloc ?_ _)); refine blk_put (cs := #[.int .i64 t188, .int .i64 t189, .int .i64 t190, .int .i64 t191, .int .i64 t192, .int .i64 t193, .int .i64 t194, .slice none 0 0, .slice none 0 0, .slice none 0 0]) ?_ 7 _ rfl; (with_reducible repeat (first | refine blk_drewN ?_ _ | refine blk_drew ?_ | refine blk_alloc ?_ _)); refine blk_put (cs := #[.int .i64 t188, .int .i64 t189, .int .i64 t190, .int .i64 t191, .int .i64 t192, .int .i64 t193, .int .i64 0, .slice none 0 0, .slice none 0 0, .slice none 0 0]) ?_ 6 _ rfl; (with_reducible repeat (first | refine blk_drewN ?_ _ | refine blk_drew ?_ | refine blk_alloc ?_ _)); refine blk_put (cs := #[.int .i64 t188, .int .i64 t189, .int .i64 t190, .int .i64 t191, .int .i64 t192, .int .i64 0, .int .i64 0, .slice none 0 0, .slice none 0 0, .slice none 0 0]) ?_ 5 _ rfl; (with_reducible repeat (first | refine blk_drewN ?_ _ | refine blk_drew ?_ | refine blk_alloc ?_ _)); refine blk_put (cs := #[.int .i64 t188, .int .i64 t189, .int .i64 t190, .int .i64 t191, .int .i64 0, .int .i64 0, .int .i64 0, .slice none 0 0, .slice none 0 0, .slice none 0 0]) ?_ 4 _ rfl; (with_reducible repeat (first | refine blk_drewN ?_ _ | refine blk_drew ?_ | refine blk_alloc ?_ _)); refine blk_put (cs := #[.int .i64 t188, .int .i64 t189, .int .i64 t190, .int .i64 0, .int .i64 0, .int .i64 0, .int .i64 0, .slice none 0 0, .slice none 0 0, .slice none 0 0]) ?_ 3 _ rfl; (with_reducible repeat (first | refine blk_drewN ?_ _ | refine blk_drew ?_ | refine blk_alloc ?_ _)); refine blk_put (cs := #[.int .i64 t188, .int .i64 t189, .int .i64 0, .int .i64 0, .int .i64 0, .int .i64 0, .int .i64 0, .slice none 0 0, .slice none 0 0, .slice none 0 0]) ?_ 2 _ rfl; (with_reducible repeat (first | refine blk_drewN ?_ _ | refine blk_drew ?_ | refine blk_alloc ?_ _)); refine blk_put (cs := #[.int .i64 t188, .int .i64 0, .int .i64 0, .int .i64 0, .int .i64 0, .int .i64 0, .int .i64 0, .slice none 0 0, .slice none 0 0, .slice none 0 0]) ?_ 1 _ rfl; (with_reducible repeat (first | refine blk_drewN ?_ _ | refine blk_drew ?_ | refine blk_alloc ?_ _)); refine blk_put (cs := #[.int .i64 0, .int .i64 0, .int .i64 0, .int .i64 0, .int .i64 0, .int .i64 0, .int .i64 0, .slice none 0 0, .slice none 0 0, .slice none 0 0]) ?_ 0 _ rfl; (with_reducible repeat (first | refine blk_drewN ?_ _ | refine blk_drew ?_ | refine blk_alloc ?_ _)); exact BK204.out) hb); have n12_ := Aside0.mk (below_step u3_30 hb); clear HO157; clear HO160; clear HO163; clear HO174; clear HO177; clear HO180; clear HO197; clear HO200; clear HO203; clear BK164; clear BK181; clear BK204; clear HB; have HO157 := n0_; have HO160 := n1_; have HO163 := n2_; have HO174 := n3_; have HO177 := n4_; have HO180 := n5_; have HO197 := n6_; have HO200 := n7_; have HO203 := n8_; have BK164 := n9_; have BK181 := n10_; have BK204 := n11_; have HB := n12_; clear n0_ n1_ n2_ n3_ n4_ n5_ n6_ n7_ n8_ n9_ n10_ n11_ n12_; (try clear hb); (try clear hb2); (try clear hk); (try clear hi); have hcz46_0 : w45.cell? ⟨gb181, 0, none⟩ = some (.int .i64 t165) := (blk_cell BK181.out 0).trans rfl; have hcz46_1 : w45.cell? ⟨gb181, 1, none⟩ = some (.int .i64 t166) := (blk_cell BK181.out 1).trans rfl; have hcz46_2 : w45.cell? ⟨gb181, 2, none⟩ = some (.int .i64 t167) := (blk_cell BK181.out 2).trans rfl; have hcz46_3 : w45.cell? ⟨gb181, 3, none⟩ = some (.int .i64 t168) := (blk_cell BK181.out 3).trans rfl; have hcz46_4 : w45.cell? ⟨gb181, 4, none⟩ = some (.int .i64 t169) := (blk_cell BK181.out 4).trans rfl; have hcz46_5 : w45.cell? ⟨gb181, 5, none⟩ = some (.int .i64 t170) := (blk_cell BK181.out 5).trans rfl; have hcz46_6 : w45.cell? ⟨gb181, 6, none⟩ = some (.int .i64 t171) := (blk_cell BK181.out 6).trans rfl; have hcz46_7 : w45.cell? ⟨gb181, 7, none⟩ = some (.slice Ao27 t172.length co27) := (blk_cell BK181.out 7).trans rfl; have hcz46_8 : w45.cell? ⟨gb181, 8, none⟩ = some (.slice Ao28 t175.length co28) := (blk_cell BK181.out 8).trans rfl; have hcz46_9 : w45.cell? ⟨gb181, 9, none⟩ = some (.slice Ao29 t178.length co29) := (blk_cell BK181.out 9).trans rfl; have hfz46_0 := blk_frozen BK181.out 0; have hfz46_1 := blk_frozen BK181.out 1; have hfz46_2 := blk_frozen BK181.out 2; have hfz46_3 := blk_frozen BK181.out 3; have hfz46_4 := blk_frozen BK181.out 4; have hfz46_5 := blk_frozen BK181.out 5; have hfz46_6 := blk_frozen BK181.out 6; have hfz46_7 := blk_frozen BK181.out 7; have hfz46_8 := blk_frozen BK181.out 8; have hfz46_9 := blk_frozen BK181.out 9) | ((with_reducible refine gate_callee (f := 24) rfl ?_); refine goesL_ (some 40) rfl rfl Try.func24 (by kernel_rfl) rfl #[.agg #[.int .i64 t165, .int .i64 t166, .int .i64 t167, .int .i64 t168, .int .i64 t169, .int .i64 t170, .int .i64 t171, .slice Ao27 t184.length co27, .slice Ao28 t185.length co28, .slice Ao29 t186.length co29], .int .i64 1] rfl u3_31 ?_; (with_reducible refine (laws_heldNode.calls k t165 t166 t167 t168 t169 t170 t171 _ _ t184 _ _ t185 _ _ t186 1 t206 _ ?side1 ?side2 ?side3 ?side4 ?side5 ?side6 A14.out).mono ?_); (case side1 => exact u3_36); (case side2 => exact u3_40); (case side3 => exact u3_37); (case side4 => exact u3_41); (case side5 => exact u3_38); (case side6 => exact u3_42); rintro e w47 ⟨rfl, hb⟩; refine ⟨_, rfl, ?_⟩; have n0_ := Aside0.mk (Kd.R_below u3_24 hb); have n1_ := Aside0.mk (Kd.R_below u3_20 hb); have n2_ := Aside0.mk (Kd.R_below u3_21 hb); have n3_ := Aside0.mk (Kd.R_below u3_27 hb); have n4_ := Aside0.mk (Kd.R_below u3_25 hb); have n5_ := Aside0.mk (Kd.R_below u3_26 hb); have n6_ := Aside0.mk (Kd.R_below u3_44 hb); have n7_ := Aside0.mk (Kd.R_below u3_45 hb); have n8_ := Aside0.mk (Kd.R_below u3_46 hb); have n9_ := Aside0.mk (blk_below (g := gb164) (o := .cells #[.int .i64 t148, .int .i64 t149, .int .i64 t150, .int .i64 t151, .int .i64 t152, .int .i64 t153, .int .i64 t154, .slice Ao20 t155.length co20, .slice Ao21 t158.length co21, .slice Ao22 t161.length co22] 37 (0, 0)) u3_5 hb); have n10_ := Aside0.mk (blk_below (g := gb181) (o := .cells #[.int .i64 t165, .int .i64 t166, .int .i64 t167, .int .i64 t168, .int .i64 t169, .int .i64 t170, .int .i64 t171, .slice Ao27 t172.length co27, .slice Ao28 t175.length co28, .slice Ao29 t178.length co29] 37 (0, 0)) u3_22 hb); have n11_ := Aside0.mk (blk_below (g := gb204) (o := .cells #[.int .i64 t188, .int .i64 t189, .int .i64 t190, .int .i64 t191, .int .i64 t192, .int .i64 t193, .int .i64 t194, .slice Ao41 t195.length co41, .slice Ao42 t198.length co42, .slice Ao43 t201.length co43] 37 (0, 0)) (by (with_reducible repeat (first | refine blk_drewN ?_ _ | refine blk_drew ?_ | refine blk_alloc ?_ _)); exact BK204.out) hb); have n12_ := Aside0.mk (below_step u3_30 hb); clear HO157; clear HO160; clear HO163; clear HO174; clear HO177; clear HO180; clear HO197; clear HO200; clear HO203; clear BK164; clear BK181; clear BK204; clear HB; have HO157 := n0_; have HO160 := n1_; have HO163 := n2_; have HO174 := n3_; have HO177 := n4_; have HO180 := n5_; have HO197 := n6_; have HO200 := n7_; have HO203 := n8_; have BK164 := n9_; have BK181 := n10_; have BK204 := n11_; have HB := n12_; clear n0_ n1_ n2_ n3_ n4_ n5_ n6_ n7_ n8_ n9_ n10_ n11_ n12_; (try clear hb); (try clear hb2); (try clear hk); (try clear hi)))
  go_ret
  exact ⟨by first | rfl | (simp [errW_none, errW_some] <;> rfl) | (simp [*, errW_none, errW_some] <;> rfl), u3_30⟩

/-- THE ONE PURE STATEMENT of laws_FnExactNewNode: yours. -/
def laws_FnExactNewNode.Pure : Prop := ∀ (a0 : Int) (a1 : Int), (Lit.int .i64 a0).wf = true → (Lit.int .i64 a1).wf = true → ∃ k, laws_FnExactNewNode.f k a0 a1 = some true
theorem laws_FnExactNewNode.walk (P : laws_FnExactNewNode.Pure) (a0 : Int) (a1 : Int) (w : World) (w0 : (Lit.int .i64 a0).wf = true) (w1 : (Lit.int .i64 a1).wf = true) :
    Calls Try.prog 4 #[.int .i64 a0, .int .i64 a1] w fun e w' => e = .returned (.bool true) ∧ Below w.heap.size w w' := by
  obtain ⟨k, h⟩ := P a0 a1 w0 w1
  refine (laws_FnExactNewNode.calls k a0 a1 true w h ⟨rfl⟩).mono ?_
  rintro e w' ⟨rfl, hd⟩
  exact ⟨rfl, hd⟩

end Go.Proofs.Ytkcadcoohmofcaa.QFnExactNewNode
