-- Printed by the session's own program wip/prx.py.
import Derived.Test.YtjdpifafijcpbaaDoorSqFnExactOnceEach
import Derived.Test.YtjdpifafijcpbaaDoorQFnExactOnceEachx0
import Derived.Test.YtjdpifafijcpbaaDoorQFnExactOnceEachx2
import Derived.Test.YtjdpifafijcpbaaDoorQFnExactOnceEachx3
import Derived.Test.YtjdpifafijcpbaaDoorQFnExactOnceEachx5
namespace Go.Proofs.YtjdpifafijcpbaaDoor.QFnExactOnceEach
open Go.RowKit Go.Proofs.YtjdpifafijcpbaaDoorW.PrintWords Go.Proofs.YtjdpifafijcpbaaDoorW.PrintLast Go.Proofs.YtjdpifafijcpbaaDoorW.PrintMore Go.Proofs.YtjdpifafijcpbaaDoor.SqFnExactOnceEach
attribute [local go_sem] max2_int min2_int max_two min_two max_three min_three max_four min_four Go.Proofs.YtjdpifafijcpbaaDoor.Set.isSome_setCell
set_option linter.unusedVariables false
set_option linter.unusedSimpArgs false

-- squeezed
theorem u6_1 {P : Prop} (h : P := by (with_reducible repeat (first | apply Kd.R_alloc | apply Kd.R_drewN | apply Kd.R_drew)); exact (Kd.R_mono (Kd.R_mono (Kd.R_far (p := ⟨gb217, 2, none⟩) (Kd.R_far (p := ⟨gb217, 1, none⟩) (Kd.R_far (p := ⟨gb217, 0, none⟩) (Kd.R_far (p := ⟨gb231, 2, none⟩) (Kd.R_far (p := ⟨gb231, 1, none⟩) (Kd.R_far (p := ⟨gb231, 0, none⟩) (Kd.R_types (Kd.R_types HO_7.out BK231.out (by decide)) BK217.out (by decide)) (fun _ hk => hk.1.2) (.int .i64 t225)) (fun _ hk => hk.1.2) (.int .i64 t226)) (fun _ hk => hk.1.2) (.slice Ao55 t227.length co55)) (fun _ hk => hk.2) (.int .i64 t225)) (fun _ hk => hk.2) (.int .i64 t226)) (fun _ hk => hk.2) (.slice Ao55 t227.length co55)) (fun _ h_ => h_.1)) (fun _ h_ => h_.1))) : P := h
theorem u6_2 {P : Prop} (h : P := by (with_reducible repeat (first | refine blk_drewN ?_ _ | refine blk_drew ?_ | refine blk_alloc ?_ _)); exact BK204.out) : P := h
theorem u6_4 {P : Prop} (h : P := by (with_reducible repeat (first | refine blk_drewN ?_ _ | refine blk_drew ?_ | refine blk_alloc ?_ _)); refine blk_put (cs := #[.int .i64 t225, .int .i64 t226, .slice Ao44 x218002_2.length co44]) ?_ 2 _ rfl; (with_reducible repeat (first | refine blk_drewN ?_ _ | refine blk_drew ?_ | refine blk_alloc ?_ _)); refine blk_put (cs := #[.int .i64 t225, .int .i64 x218001_2, .slice Ao44 x218002_2.length co44]) ?_ 1 _ rfl; (with_reducible repeat (first | refine blk_drewN ?_ _ | refine blk_drew ?_ | refine blk_alloc ?_ _)); refine blk_put (cs := #[.int .i64 x218000_2, .int .i64 x218001_2, .slice Ao44 x218002_2.length co44]) ?_ 0 _ rfl; (with_reducible repeat (first | refine blk_drewN ?_ _ | refine blk_drew ?_ | refine blk_alloc ?_ _)); refine blk_far ?_ NB217_231.out _; (with_reducible repeat (first | refine blk_drewN ?_ _ | refine blk_drew ?_ | refine blk_alloc ?_ _)); refine blk_far ?_ NB217_231.out _; (with_reducible repeat (first | refine blk_drewN ?_ _ | refine blk_drew ?_ | refine blk_alloc ?_ _)); refine blk_far ?_ NB217_231.out _; (with_reducible repeat (first | refine blk_drewN ?_ _ | refine blk_drew ?_ | refine blk_alloc ?_ _)); exact BK217.out) : P := h
theorem u6_5 {P : Prop} (h : P := by (with_reducible repeat (first | refine blk_drewN ?_ _ | refine blk_drew ?_ | refine blk_alloc ?_ _)); exact BK205.out) : P := h
theorem u6_6 {P : Prop} (h : P := by (with_reducible repeat (first | refine blk_drewN ?_ _ | refine blk_drew ?_ | refine blk_alloc ?_ _)); refine blk_far ?_ NB231_217.out _; (with_reducible repeat (first | refine blk_drewN ?_ _ | refine blk_drew ?_ | refine blk_alloc ?_ _)); refine blk_far ?_ NB231_217.out _; (with_reducible repeat (first | refine blk_drewN ?_ _ | refine blk_drew ?_ | refine blk_alloc ?_ _)); refine blk_far ?_ NB231_217.out _; (with_reducible repeat (first | refine blk_drewN ?_ _ | refine blk_drew ?_ | refine blk_alloc ?_ _)); refine blk_put (cs := #[.int .i64 t225, .int .i64 t226, .slice none 0 0]) ?_ 2 _ rfl; (with_reducible repeat (first | refine blk_drewN ?_ _ | refine blk_drew ?_ | refine blk_alloc ?_ _)); refine blk_put (cs := #[.int .i64 t225, .int .i64 0, .slice none 0 0]) ?_ 1 _ rfl; (with_reducible repeat (first | refine blk_drewN ?_ _ | refine blk_drew ?_ | refine blk_alloc ?_ _)); refine blk_put (cs := #[.int .i64 0, .int .i64 0, .slice none 0 0]) ?_ 0 _ rfl; (with_reducible repeat (first | refine blk_drewN ?_ _ | refine blk_drew ?_ | refine blk_alloc ?_ _)); exact BK231.out) : P := h
theorem u6_8 {P : Prop} (h : P := by (with_reducible repeat (first | refine blk_drewN ?_ _ | refine blk_drew ?_ | refine blk_alloc ?_ _)); refine blk_far ?_ NB204_217.out _; (with_reducible repeat (first | refine blk_drewN ?_ _ | refine blk_drew ?_ | refine blk_alloc ?_ _)); refine blk_far ?_ NB204_217.out _; (with_reducible repeat (first | refine blk_drewN ?_ _ | refine blk_drew ?_ | refine blk_alloc ?_ _)); refine blk_far ?_ NB204_217.out _; (with_reducible repeat (first | refine blk_drewN ?_ _ | refine blk_drew ?_ | refine blk_alloc ?_ _)); refine blk_far ?_ NB204_231.out _; (with_reducible repeat (first | refine blk_drewN ?_ _ | refine blk_drew ?_ | refine blk_alloc ?_ _)); refine blk_far ?_ NB204_231.out _; (with_reducible repeat (first | refine blk_drewN ?_ _ | refine blk_drew ?_ | refine blk_alloc ?_ _)); refine blk_far ?_ NB204_231.out _; (with_reducible repeat (first | refine blk_drewN ?_ _ | refine blk_drew ?_ | refine blk_alloc ?_ _)); exact BK204.out) : P := h
theorem u6_9 {P : Prop} (h : P := by (with_reducible repeat (first | refine blk_drewN ?_ _ | refine blk_drew ?_ | refine blk_alloc ?_ _)); refine blk_far ?_ NB205_217.out _; (with_reducible repeat (first | refine blk_drewN ?_ _ | refine blk_drew ?_ | refine blk_alloc ?_ _)); refine blk_far ?_ NB205_217.out _; (with_reducible repeat (first | refine blk_drewN ?_ _ | refine blk_drew ?_ | refine blk_alloc ?_ _)); refine blk_far ?_ NB205_217.out _; (with_reducible repeat (first | refine blk_drewN ?_ _ | refine blk_drew ?_ | refine blk_alloc ?_ _)); refine blk_far ?_ NB205_231.out _; (with_reducible repeat (first | refine blk_drewN ?_ _ | refine blk_drew ?_ | refine blk_alloc ?_ _)); refine blk_far ?_ NB205_231.out _; (with_reducible repeat (first | refine blk_drewN ?_ _ | refine blk_drew ?_ | refine blk_alloc ?_ _)); refine blk_far ?_ NB205_231.out _; (with_reducible repeat (first | refine blk_drewN ?_ _ | refine blk_drew ?_ | refine blk_alloc ?_ _)); exact BK205.out) : P := h
theorem u6_10 {P : Prop} (h : P := by (with_reducible repeat (first | refine blk_drewN ?_ _ | refine blk_drew ?_ | refine blk_alloc ?_ _)); refine blk_far ?_ NB222_217.out _; (with_reducible repeat (first | refine blk_drewN ?_ _ | refine blk_drew ?_ | refine blk_alloc ?_ _)); refine blk_far ?_ NB222_217.out _; (with_reducible repeat (first | refine blk_drewN ?_ _ | refine blk_drew ?_ | refine blk_alloc ?_ _)); refine blk_far ?_ NB222_217.out _; (with_reducible repeat (first | refine blk_drewN ?_ _ | refine blk_drew ?_ | refine blk_alloc ?_ _)); refine blk_far ?_ NB222_231.out _; (with_reducible repeat (first | refine blk_drewN ?_ _ | refine blk_drew ?_ | refine blk_alloc ?_ _)); refine blk_far ?_ NB222_231.out _; (with_reducible repeat (first | refine blk_drewN ?_ _ | refine blk_drew ?_ | refine blk_alloc ?_ _)); refine blk_far ?_ NB222_231.out _; (with_reducible repeat (first | refine blk_drewN ?_ _ | refine blk_drew ?_ | refine blk_alloc ?_ _)); exact BK222.out) : P := h
theorem u6_11 {P : Prop} (h : P := by (with_reducible repeat (first | apply Kd.R_alloc | apply Kd.R_drewN | apply Kd.R_drew)); exact (Kd.R_mono (Kd.R_mono (Kd.R_far (p := ⟨gb217, 2, none⟩) (Kd.R_far (p := ⟨gb217, 1, none⟩) (Kd.R_far (p := ⟨gb217, 0, none⟩) (Kd.R_far (p := ⟨gb231, 2, none⟩) (Kd.R_far (p := ⟨gb231, 1, none⟩) (Kd.R_far (p := ⟨gb231, 0, none⟩) (Kd.R_types (Kd.R_types HO_218002.out BK231.out (by decide)) BK217.out (by decide)) (fun _ hk => hk.1.2) (.int .i64 t225)) (fun _ hk => hk.1.2) (.int .i64 t226)) (fun _ hk => hk.1.2) (.slice Ao55 t227.length co55)) (fun _ hk => hk.2) (.int .i64 t225)) (fun _ hk => hk.2) (.int .i64 t226)) (fun _ hk => hk.2) (.slice Ao55 t227.length co55)) (fun _ h_ => h_.1)) (fun _ h_ => h_.1))) : P := h
theorem u6_12 {P : Prop} (h : P := by (with_reducible repeat (first | apply Kd.R_alloc | apply Kd.R_drewN | apply Kd.R_drew)); exact (Kd.R_mono (Kd.R_mono (Kd.R_far (p := ⟨gb217, 2, none⟩) (Kd.R_far (p := ⟨gb217, 1, none⟩) (Kd.R_far (p := ⟨gb217, 0, none⟩) (Kd.R_far (p := ⟨gb231, 2, none⟩) (Kd.R_far (p := ⟨gb231, 1, none⟩) (Kd.R_far (p := ⟨gb231, 0, none⟩) (Kd.R_types (Kd.R_types HO229.out BK231.out (by decide)) BK217.out (by decide)) (fun _ hk => hk.1.2) (.int .i64 t225)) (fun _ hk => hk.1.2) (.int .i64 t226)) (fun _ hk => hk.1.2) (.slice Ao55 t227.length co55)) (fun _ hk => hk.2) (.int .i64 t225)) (fun _ hk => hk.2) (.int .i64 t226)) (fun _ hk => hk.2) (.slice Ao55 t227.length co55)) (fun _ h_ => h_.1)) (fun _ h_ => h_.1))) : P := h
theorem u6_15 {P : Prop} (h : P := by (with_reducible repeat (first | refine blk_drewN ?_ _ | refine blk_drew ?_ | refine blk_alloc ?_ _)); exact BK217.out) : P := h
theorem u6_18 {P : Prop} (h : P := by (with_reducible repeat (first | apply Kd.R_alloc | apply Kd.R_drewN | apply Kd.R_drew)); exact Kd.R_mono (Kd.R_far (p := ⟨gb217, 2, none⟩) (Kd.R_far (p := ⟨gb217, 1, none⟩) (Kd.R_far (p := ⟨gb217, 0, none⟩) (Kd.R_far (p := ⟨gb231, 2, none⟩) (Kd.R_far (p := ⟨gb231, 1, none⟩) (Kd.R_far (p := ⟨gb231, 0, none⟩) (Kd.R_types (Kd.R_types HO_7.out BK231.out (by decide)) BK217.out (by decide)) (fun _ hk => hk.1.2) (.int .i64 t225)) (fun _ hk => hk.1.2) (.int .i64 t226)) (fun _ hk => hk.1.2) (.slice Ao55 t227.length co55)) (fun _ hk => hk.2) (.int .i64 t225)) (fun _ hk => hk.2) (.int .i64 t226)) (fun _ hk => hk.2) (.slice Ao55 t227.length co55)) (fun _ hk => trivial)) : P := h
theorem u6_19 {P : Prop} (h : P := by (with_reducible repeat (first | refine blk_drewN ?_ _ | refine blk_drew ?_ | refine blk_alloc ?_ _)); exact BK242.out) : P := h
theorem u6_20 {P : Prop} (h : P := by (with_reducible repeat (first | refine blk_drewN ?_ _ | refine blk_drew ?_ | refine blk_alloc ?_ _)); exact BK254.out) : P := h
theorem u6_21 {P : Prop} (h : P := by (with_reducible repeat (first | refine blk_drewN ?_ _ | refine blk_drew ?_ | refine blk_alloc ?_ _)); exact BK260.out) : P := h
theorem u6_26 {P : Prop} (h : P := by (with_reducible repeat (first | refine blk_drewN ?_ _ | refine blk_drew ?_ | refine blk_alloc ?_ _)); exact BK222.out) : P := h
theorem u6_27 {P : Prop} (h : P := by (with_reducible repeat (first | apply Kd.R_alloc | apply Kd.R_drewN | apply Kd.R_drew)); exact (Kd.R_mono (Kd.R_far (p := ⟨gb222, 2, none⟩) (Kd.R_far (p := ⟨gb222, 1, none⟩) (Kd.R_far (p := ⟨gb222, 0, none⟩) (Kd.R_types HO_218002.out BK222.out (by decide)) (fun _ hk => hk.2) (.int .i64 ((rd_T50 l1 x8_2).f0))) (fun _ hk => hk.2) (.int .i64 ((rd_T50 l1 x8_2).f1))) (fun _ hk => hk.2) (.string ((rd_T50 l1 x8_2).f2))) (fun _ h_ => h_.1))) : P := h
theorem u6_28 {P : Prop} (h : P := by (with_reducible repeat (first | apply Kd.R_alloc | apply Kd.R_drewN | apply Kd.R_drew)); exact HO_218002.out) : P := h
theorem u6_37 {P : Prop} (h : P := by (with_reducible repeat (first | apply Kd.R_alloc | apply Kd.R_drewN | apply Kd.R_drew)); exact Kd.R_mono HO229.out (fun _ hk => trivial)) : P := h
theorem u6_38 {P : Prop} (h : P := by (with_reducible repeat (first | refine blk_drewN ?_ _ | refine blk_drew ?_ | refine blk_alloc ?_ _)); exact BK243.out) : P := h
theorem u6_39 {P : Prop} (h : P := by (with_reducible repeat (first | refine blk_drewN ?_ _ | refine blk_drew ?_ | refine blk_alloc ?_ _)); exact BK255.out) : P := h
theorem u6_40 {P : Prop} (h : P := by (with_reducible repeat (first | refine blk_drewN ?_ _ | refine blk_drew ?_ | refine blk_alloc ?_ _)); exact BK261.out) : P := h
theorem u6_41 {P : Prop} (h : P := by (with_reducible repeat (first | apply Kd.R_alloc | apply Kd.R_drewN | apply Kd.R_drew)); exact HO216.out) : P := h
theorem u6_42 {P : Prop} (h : P := by (with_reducible repeat (first | apply Kd.R_alloc | apply Kd.R_drewN | apply Kd.R_drew)); exact HO229.out) : P := h
theorem u6_43 {P : Prop} (h : P := by have := HJ2.out; have := HK2.out; omega) : P := h
/-! ### spec_l01Num: function 31 -/
def spec_l01Num.l0 : Nat → Int → ByteArray → Bool → Option (ByteArray)
 | 0, _, _, _ => none
 | k + 1, x0, x3, x4 => if x0 = 0 then (if x4 = true then (if 1 + x3.size ≤ 9223372036854775807 then (some ((⟨#[45]⟩ : ByteArray) ++ x3)) else (none)) else (some x3)) else (if (Int.tmod x0 10) < 0 then ((some (([(wrap64 (48 + (wrap64 (-(Int.tmod x0 10))))) % 256] : List Int) : List Int)).bind fun y198 => (if (strOfNums y198).size + x3.size ≤ 9223372036854775807 then (spec_l01Num.l0 k (wrap64 (Int.tdiv x0 10)) ((strOfNums y198) ++ x3) x4) else (none))) else ((some (([(wrap64 (48 + (Int.tmod x0 10))) % 256] : List Int) : List Int)).bind fun y201 => (if (strOfNums y201).size + x3.size ≤ 9223372036854775807 then (spec_l01Num.l0 k (wrap64 (Int.tdiv x0 10)) ((strOfNums y201) ++ x3) x4) else (none))))
def spec_l01Num.f (k : Nat) (a0 : Int) : Option (ByteArray) := if a0 = 0 then (some (⟨#[48]⟩ : ByteArray)) else (spec_l01Num.l0 k a0 (⟨#[]⟩ : ByteArray) (decide (a0 < 0)))
theorem spec_l01Num.mono_l : ∀ k, (∀ y0 y1 y2, LeO (spec_l01Num.l0 k y0 y1 y2) (spec_l01Num.l0 (k + 1) y0 y1 y2))
 | 0 => fun _ _ _ r h => by simp [spec_l01Num.l0] at h
 | k + 1 => by
   have ih0 := spec_l01Num.mono_l k
   · intro y0 y1 y2
     unfold spec_l01Num.l0
     repeat' first
     | (with_reducible exact ih0 _ _ _)
     | (with_reducible exact LeO.refl _)
     | (with_reducible exact LeO.none _)
     | (with_reducible refine LeO.ite ?_ ?_)
     | (with_reducible refine LeO.bind ?_ (fun _ => ?_))
     | exact ih0 _ _ _
     | exact LeO.none _
     | refine LeO.ite ?_ ?_
     | refine LeO.bind ?_ (fun _ => ?_)
theorem spec_l01Num.mono : ∀ a0 k, LeO (spec_l01Num.f k a0) (spec_l01Num.f (k + 1) a0) := by
 intro a0 k
 have ih0 := spec_l01Num.mono_l k
 unfold spec_l01Num.f
 repeat' first
     | (with_reducible exact ih0 _ _ _)
     | (with_reducible exact LeO.refl _)
     | (with_reducible exact LeO.none _)
     | (with_reducible refine LeO.ite ?_ ?_)
     | (with_reducible refine LeO.bind ?_ (fun _ => ?_))
     | exact ih0 _ _ _
     | exact LeO.none _
     | refine LeO.ite ?_ ?_
     | refine LeO.bind ?_ (fun _ => ?_)
set_option maxHeartbeats 8000000 in
set_option maxRecDepth 100000 in
theorem spec_l01Num.calls (k : Nat) (a0 : Int) (r : ByteArray) (w : World) (h : spec_l01Num.f k a0 = some r) :
   Calls Tryd.prog 31 #[.int .i64 a0] w fun e w' => e = .returned (.string r) ∧ Below w.heap.size w w' := by
 have HB := am (Below.refl w.heap.size w)
 have H : (if a0 = 0 then (some (⟨#[48]⟩ : ByteArray)) else (spec_l01Num.l0 k a0 (⟨#[]⟩ : ByteArray) (decide (a0 < 0)))) = some r := h
 clear h
 by_cases c2 : a0 = 0
 · rw [if_pos c2] at H
   have c2b0 : (a0 == 0) = true := beq_iff_eq.mpr c2
   have c2b1 : (a0 != 0) = false := bne_eq_false_iff_eq.mpr c2
   clear c2
   obtain rfl := sj H
   go_enter Tryd.func31, Tryd.ntmps31
   go_wp2
   go_ret
   exact ⟨er, q1⟩
 rw [if_neg c2] at H
 have c2b0 : (a0 == 0) = false := beq_eq_false_iff_ne.mpr c2
 have c2b1 : (a0 != 0) = true := bne_iff_ne.mpr c2
 have H' := am H
 clear H
 go_enter Tryd.func31, Tryd.ntmps31
 go_wp2
 go_loopg [0, 3] k (fun kq v0 v3 w' => ∃ (x0_1 : Int) (x3_1 : ByteArray), v0 = .int .i64 x0_1 ∧ v3 = .string x3_1 ∧ Aside0 (spec_l01Num.l0 kq x0_1 x3_1 (decide (a0 < 0)) = some r) ∧ Aside0 (kq ≤ k) ∧ Aside0 (Below w.heap.size w w'))
 case atStart => exact ⟨(a0), ((⟨#[]⟩ : ByteArray)), q2, q2, H', ⟨Nat.le_refl _⟩, ⟨q1⟩⟩
 clear H'
 try clear c2
 try clear c2b0
 try clear c2b1
 obtain ⟨x0_1, x3_1, rfl, rfl, HA, HK1, HB⟩ := hrel
 cases gk with
 | zero => exact absurd HA.out (by simp [spec_l01Num.l0])
 | succ k1 =>
   have H := HA.out
   clear HA
   simp only [spec_l01Num.l0] at H
   by_cases c3 : x0_1 = 0
   · rw [if_pos c3] at H
     have c3b0 : (x0_1 == 0) = true := beq_iff_eq.mpr c3
     have c3b1 : (x0_1 != 0) = false := bne_eq_false_iff_eq.mpr c3
     clear c3
     by_cases c4 : (decide (a0 < 0)) = true
     rotate_left
     · rw [if_neg c4] at H
       have c4b0 : (decide (a0 < 0)) = false := by simpa using c4
       have c4c : ¬ (a0 < 0) := of_decide_eq_false c4b0
       clear c4
       obtain rfl := sj H
       go_wp2
       go_ret
       exact ⟨er, q1⟩
     rw [if_pos c4] at H
     have c4b0 : (decide (a0 < 0)) = true := c4
     have c4c : (a0 < 0) := of_decide_eq_true c4b0
     clear c4
     by_cases c5 : 1 + x3_1.size ≤ 9223372036854775807
     rotate_left
     · rw [if_neg c5] at H
       exact absurd H (by simp)
     rw [if_pos c5] at H
     have c5b0 := eq_true c5
     have c5b1 : decide (1 + x3_1.size ≤ 9223372036854775807) = true := decide_eq_true c5
     try have c5b2 : (9223372036854775807 < 1 + x3_1.size) = False := eq_false (Nat.not_lt.2 c5)
     obtain rfl := sj H
     go_wp2
     go_ret
     exact ⟨er, q1⟩
   rw [if_neg c3] at H
   have c3b0 : (x0_1 == 0) = false := beq_eq_false_iff_ne.mpr c3
   have c3b1 : (x0_1 != 0) = true := bne_iff_ne.mpr c3
   by_cases c6 : (Int.tmod x0_1 10) < 0
   rotate_left
   · rw [if_neg c6] at H
     have c6b0 : decide ((Int.tmod x0_1 10) < 0) = false := decide_eq_false c6
     clear c6
     obtain ⟨y201, hy201⟩ : ∃ y_ : List Int, y_ = (([(wrap64 (48 + (Int.tmod x0_1 10))) % 256] : List Int)) := ⟨_, rfl⟩
     replace H : (if (strOfNums y201).size + x3_1.size ≤ 9223372036854775807 then (spec_l01Num.l0 k1 (wrap64 (Int.tdiv x0_1 10)) ((strOfNums y201) ++ x3_1) (decide (a0 < 0))) else (none)) = some r := by first | (rw [hy201]; with_reducible exact H) | (have H2_ := (Option.bind_some _ _).symm.trans H; rw [hy201]; with_reducible exact H2_) | (have H2_ := (Option.bind_some _ _).symm.trans H; with_reducible exact H2_) | with_reducible exact H | (rw [hy201]; exact H) | exact H
     have Ny201 := am hy201
     clear hy201
     by_cases c11 : (strOfNums y201).size + x3_1.size ≤ 9223372036854775807
     rotate_left
     · rw [if_neg c11] at H
       exact absurd H (by simp)
     rw [if_pos c11] at H
     have c11b0 := eq_true c11
     have c11b1 : decide ((strOfNums y201).size + x3_1.size ≤ 9223372036854775807) = true := decide_eq_true c11
     try have c11b2 : (9223372036854775807 < (strOfNums y201).size + x3_1.size) = False := eq_false (Nat.not_lt.2 c11)
     have H' := am H
     clear H
     go_wp2_with (first | ((with_reducible refine gate_dst (N := 21) rfl ?_); refine Kd.R_lit (Kd.int .u8) _ 5 ?hg (N := 21) ?hd (xs := ([(wrap64 (48 + (Int.tmod x0_1 10))) % 256] : List Int)) (inner := [.int .u8 ((wrap64 (48 + (Int.tmod x0_1 10))) % 256)]) (ok := fun _ => True) (okp := fun _ => True) ?hr ?hp (fun _ hk => hk) trivial (Below.refl _ _) (Nat.le_refl _) (by simp) ?_; (case hd => rfl); (case hg => rfl); (case hr => first | (go_simp; done) | (go_simp; rfl)); (case hp => exact (Reps.one (show Kd.M (Kd.int .u8) _ _ _ ((wrap64 (48 + (Int.tmod x0_1 10))) % 256) [.int .u8 ((wrap64 (48 + (Int.tmod x0_1 10))) % 256)] from rfl) (Reps.none _ _))); intro v202 w12 ho13 hb hg_ hnew_; clear hg_ hnew_; (first | rw [← Ny201.out] at ho13 | (simp only [Int.reduceToNat] at ho13; rw [← Ny201.out] at ho13)); have HO203 := am (Kd.R_lower ho13 (below_size q1)); replace HB := am (below_step q1 hb); clear hb ho13; have hcv14 := own_string (P := Tryd.prog) Tryd.underlying44 Tryd.underlying5 Tryd.underlying9 (Kd.own_of_R HO203.out)))
     go_roundg k1
     case measure => have := HK1.out; omega
     case rel => exact ⟨(wrap64 (Int.tdiv x0_1 10)), ((strOfNums y201) ++ x3_1), q2, q2, H', ⟨by have := HK1.out; omega⟩, ⟨q1⟩⟩
   rw [if_pos c6] at H
   have c6b0 : decide ((Int.tmod x0_1 10) < 0) = true := decide_eq_true c6
   clear c6
   obtain ⟨y198, hy198⟩ : ∃ y_ : List Int, y_ = (([(wrap64 (48 + (wrap64 (-(Int.tmod x0_1 10))))) % 256] : List Int)) := ⟨_, rfl⟩
   replace H : (if (strOfNums y198).size + x3_1.size ≤ 9223372036854775807 then (spec_l01Num.l0 k1 (wrap64 (Int.tdiv x0_1 10)) ((strOfNums y198) ++ x3_1) (decide (a0 < 0))) else (none)) = some r := by first | (rw [hy198]; with_reducible exact H) | (have H2_ := (Option.bind_some _ _).symm.trans H; rw [hy198]; with_reducible exact H2_) | (have H2_ := (Option.bind_some _ _).symm.trans H; with_reducible exact H2_) | with_reducible exact H | (rw [hy198]; exact H) | exact H
   have Ny198 := am hy198
   clear hy198
   by_cases c7 : (strOfNums y198).size + x3_1.size ≤ 9223372036854775807
   rotate_left
   · rw [if_neg c7] at H
     exact absurd H (by simp)
   rw [if_pos c7] at H
   have c7b0 := eq_true c7
   have c7b1 : decide ((strOfNums y198).size + x3_1.size ≤ 9223372036854775807) = true := decide_eq_true c7
   try have c7b2 : (9223372036854775807 < (strOfNums y198).size + x3_1.size) = False := eq_false (Nat.not_lt.2 c7)
   have H' := am H
   clear H
   go_wp2_with (first | ((with_reducible refine gate_dst (N := 21) rfl ?_); refine Kd.R_lit (Kd.int .u8) _ 5 ?hg (N := 21) ?hd (xs := ([(wrap64 (48 + (wrap64 (-(Int.tmod x0_1 10))))) % 256] : List Int)) (inner := [.int .u8 ((wrap64 (48 + (wrap64 (-(Int.tmod x0_1 10))))) % 256)]) (ok := fun _ => True) (okp := fun _ => True) ?hr ?hp (fun _ hk => hk) trivial (Below.refl _ _) (Nat.le_refl _) (by simp) ?_; (case hd => rfl); (case hg => rfl); (case hr => first | (go_simp; done) | (go_simp; rfl)); (case hp => exact (Reps.one (show Kd.M (Kd.int .u8) _ _ _ ((wrap64 (48 + (wrap64 (-(Int.tmod x0_1 10))))) % 256) [.int .u8 ((wrap64 (48 + (wrap64 (-(Int.tmod x0_1 10))))) % 256)] from rfl) (Reps.none _ _))); intro v199 w8 ho9 hb hg_ hnew_; clear hg_ hnew_; (first | rw [← Ny198.out] at ho9 | (simp only [Int.reduceToNat] at ho9; rw [← Ny198.out] at ho9)); have HO200 := am (Kd.R_lower ho9 (below_size q1)); replace HB := am (below_step q1 hb); clear hb ho9; have hcv10 := own_string (P := Tryd.prog) Tryd.underlying44 Tryd.underlying5 Tryd.underlying9 (Kd.own_of_R HO200.out)))
   go_roundg k1
   case measure => have := HK1.out; omega
   case rel => exact ⟨(wrap64 (Int.tdiv x0_1 10)), ((strOfNums y198) ++ x3_1), q2, q2, H', ⟨by have := HK1.out; omega⟩, ⟨q1⟩⟩

/-! ### spec_OnceEach: function 8 -/
mutual
def spec_OnceEach.j0 : Nat → List (S50) → Bool → Int → Int → List (S54) → Option (Int × Int × (List (S54)) × List ByteArray)
 | 0, _, _, _, _, _ => none
 | k + 1, x1, x21, x205000, x205001, x205002 => if x21 = true then ((spec_l09Copy.f k x205000 x205001 x205002).bind fun bt207 => (some (bt207.1, bt207.2.1, bt207.2.2, ([] : List ByteArray)))) else ((spec_l09Copy.f k x205000 x205001 x205002).bind fun bt212 => (spec_OnceEach.l0 k x1 (([] : List ByteArray)) 0 bt212.1 bt212.2.1 bt212.2.2))
def spec_OnceEach.l0 : Nat → List (S50) → List ByteArray → Int → Int → Int → List (S54) → Option (Int × Int × (List (S54)) × List ByteArray)
 | 0, _, _, _, _, _, _ => none
 | k + 1, x1, x7, x8, x218000, x218001, x218002 => if x8 < (x1.length : Int) then (if 0 ≤ x8 then ((spec_Look.f k x218000 x218001 x218002 ((rd_T50 x1 x8).f0) ((rd_T50 x1 x8).f1)).bind fun bt223 => ((spec_Keep.f k x218000 x218001 x218002 ((rd_T50 x1 x8).f0) ((rd_T50 x1 x8).f1) ((rd_T50 x1 x8).f2)).bind fun bt225 => (if bt225.2.2.2 = true then (if x7.length < 8796093022208 then (spec_OnceEach.l0 k x1 (x7 ++ [(rd_T50 x1 x8).f2]) (wrap64 (x8 + 1)) bt225.1 bt225.2.1 bt225.2.2.1) else (none)) else (if bt223.1 = 1 then (if x7.length < 8796093022208 then (spec_OnceEach.l0 k x1 (x7 ++ [bt223.2]) (wrap64 (x8 + 1)) bt225.1 bt225.2.1 bt225.2.2.1) else (none)) else ((spec_l01Num.f k bt223.1).bind fun t238 => (if 1 + t238.size ≤ 9223372036854775807 then (if x7.length < 8796093022208 then (spec_OnceEach.l0 k x1 (x7 ++ [(⟨#[33]⟩ : ByteArray) ++ t238]) (wrap64 (x8 + 1)) bt225.1 bt225.2.1 bt225.2.2.1) else (none)) else (none))))))) else (none)) else (some (x218000, x218001, x218002, x7))
end
def spec_OnceEach.f (k : Nat) (a0_0 : Int) (a0_1 : Int) (l0_2 : List (S54)) (l1 : List (S50)) : Option (Int × Int × (List (S54)) × List ByteArray) := (spec_SessionsOk.f k a0_0 a0_1 l0_2).bind fun t206 => (if t206 = true then (spec_OnceEach.j0 k l1 (decide ((l1.length : Int) > 200)) a0_0 a0_1 l0_2) else (spec_OnceEach.j0 k l1 true a0_0 a0_1 l0_2))
theorem spec_OnceEach.mono_l : ∀ k, (∀ y0 y1 y2 y3 y4, LeO (spec_OnceEach.j0 k y0 y1 y2 y3 y4) (spec_OnceEach.j0 (k + 1) y0 y1 y2 y3 y4)) ∧ (∀ y0 y1 y2 y3 y4 y5, LeO (spec_OnceEach.l0 k y0 y1 y2 y3 y4 y5) (spec_OnceEach.l0 (k + 1) y0 y1 y2 y3 y4 y5))
 | 0 => ⟨fun _ _ _ _ _ r h => by simp [spec_OnceEach.j0] at h, fun _ _ _ _ _ _ r h => by simp [spec_OnceEach.l0] at h⟩
 | k + 1 => by
   obtain ⟨ih0, ih1⟩ := spec_OnceEach.mono_l k
   refine ⟨?_, ?_⟩ <;> intros <;> (first | unfold spec_OnceEach.j0 | unfold spec_OnceEach.l0) <;> repeat' first
   | (with_reducible exact ih0 _ _ _ _ _)
   | (with_reducible exact ih1 _ _ _ _ _ _)
   | (with_reducible exact spec_Keep.mono _ _ _ _ _ _ _)
   | (with_reducible exact spec_Look.mono _ _ _ _ _ _)
   | (with_reducible exact spec_SessionsOk.mono _ _ _ _)
   | (with_reducible exact spec_l01Num.mono _ _)
   | (with_reducible exact spec_l09Copy.mono _ _ _ _)
   | (with_reducible exact LeO.refl _)
   | (with_reducible exact LeO.none _)
   | (with_reducible refine LeO.ite ?_ ?_)
   | (with_reducible refine LeO.bind ?_ (fun _ => ?_))
   | exact ih0 _ _ _ _ _
   | exact ih1 _ _ _ _ _ _
   | exact spec_Keep.mono _ _ _ _ _ _ _
   | exact spec_Look.mono _ _ _ _ _ _
   | exact spec_SessionsOk.mono _ _ _ _
   | exact spec_l01Num.mono _ _
   | exact spec_l09Copy.mono _ _ _ _
   | exact LeO.none _
   | refine LeO.ite ?_ ?_
   | refine LeO.bind ?_ (fun _ => ?_)
theorem spec_OnceEach.mono : ∀ a0 a1 a2 a3 k, LeO (spec_OnceEach.f k a0 a1 a2 a3) (spec_OnceEach.f (k + 1) a0 a1 a2 a3) := by
 intro a0 a1 a2 a3 k
 obtain ⟨ih0, ih1⟩ := spec_OnceEach.mono_l k
 unfold spec_OnceEach.f
 repeat' first
     | (with_reducible exact ih0 _ _ _ _ _)
     | (with_reducible exact ih1 _ _ _ _ _ _)
     | (with_reducible exact spec_Keep.mono _ _ _ _ _ _ _)
     | (with_reducible exact spec_Look.mono _ _ _ _ _ _)
     | (with_reducible exact spec_SessionsOk.mono _ _ _ _)
     | (with_reducible exact spec_l01Num.mono _ _)
     | (with_reducible exact spec_l09Copy.mono _ _ _ _)
     | (with_reducible exact LeO.refl _)
     | (with_reducible exact LeO.none _)
     | (with_reducible refine LeO.ite ?_ ?_)
     | (with_reducible refine LeO.bind ?_ (fun _ => ?_))
     | exact ih0 _ _ _ _ _
     | exact ih1 _ _ _ _ _ _
     | exact spec_Keep.mono _ _ _ _ _ _ _
     | exact spec_Look.mono _ _ _ _ _ _
     | exact spec_SessionsOk.mono _ _ _ _
     | exact spec_l01Num.mono _ _
     | exact spec_l09Copy.mono _ _ _ _
     | exact LeO.none _
     | refine LeO.ite ?_ ?_
     | refine LeO.bind ?_ (fun _ => ?_)
set_option maxHeartbeats 8000000 in
set_option maxRecDepth 100000 in
theorem spec_OnceEach.calls (k : Nat) (a0_0 : Int) (a0_1 : Int) (A0_2 : Option Addr) (c0_2 : Nat) (l0_2 : List (S54)) (A1 : Option Addr) (c1 : Nat) (l1 : List (S50)) (r1 : Int) (r2 : Int) (r3 : List (S54)) (r4 : List ByteArray) (w : World) (hr0_2 : Kd.C k54 w A0_2 l0_2.length l0_2) (hc0_2 : l0_2.length ≤ c0_2) (hr1 : Kd.C k50 w A1 l1.length l1) (hc1 : l1.length ≤ c1) (h : spec_OnceEach.f k a0_0 a0_1 l0_2 l1 = some (r1, r2, r3, r4)) :
   Calls Tryd.prog 8 #[.agg #[.int .i64 a0_0, .int .i64 a0_1, .slice A0_2 l0_2.length c0_2], .slice A1 l1.length c1] w fun e w' => ∃ v2_ v3_ : Value, e = .returned (.tuple #[.agg #[.int .i64 r1, .int .i64 r2, v2_], v3_]) ∧ Kd.R k54 54 w' w.heap.size (fun _ => True) v2_ r3 ∧ Kd.R Kd.string 9 w' w.heap.size (fun _ => True) v3_ r4 ∧ Below w.heap.size w w' := by
 have hu30 := Tryd.underlying30
 have hu50 := Tryd.underlying50
 have HR0_2 := am hr0_2
 have HC0_2 := am hc0_2
 clear hr0_2 hc0_2
 have HR1 := am hr1
 have HC1 := am hc1
 clear hr1 hc1
 have HB := am (Below.refl w.heap.size w)
 have H : ((spec_SessionsOk.f k a0_0 a0_1 l0_2).bind fun t206 => (if t206 = true then (spec_OnceEach.j0 k l1 (decide ((l1.length : Int) > 200)) a0_0 a0_1 l0_2) else (spec_OnceEach.j0 k l1 true a0_0 a0_1 l0_2))) = some (r1, r2, r3, r4) := h
 clear h
 have HC3 := am H
 clear H
 go_enter Tryd.func8, Tryd.ntmps8
 go_upto_region 1 with (first | ((with_reducible refine gate_dst (N := 2) rfl ?_); (try (refine gate_guard (by rfl) ?_; dsimp only)); refine box_event ?hg (N := 2) ?hd (cs := #[.int .i64 a0_0, .int .i64 a0_1, .slice A0_2 l0_2.length c0_2]) (t := 30) ?hr ?_; (case hd => rfl); (case hg => rfl); (case hr => first | (go_simp; done) | (go_simp; rfl)); intro gb204 hg w4 hbox hb; have BK204 := am (hbox); have GW204 := am ((by rw [hg]; exact (below_size q1) : w.heap.size ≤ gb204)); have GE204 := am ((by rw [hg]; exact (below_size q1) : w.heap.size ≤ gb204)); replace HB := am (below_step q1 hb); clear hb hbox hg) | ((with_reducible refine gate_dst (N := 4) rfl ?_); (try (refine gate_guard (by rfl) ?_; dsimp only)); refine box_event ?hg (N := 4) ?hd (cs := #[.int .i64 0, .int .i64 0, .slice none 0 0]) (t := 30) ?hr ?_; (case hd => rfl); (case hg => rfl); (case hr => first | (go_simp; done) | (go_simp; rfl)); intro gb205 hg w5 hbox hb; have BK205 := am (hbox); have GW205 := am ((by rw [hg]; exact (below_size q1) : w.heap.size ≤ gb205)); have GE205 := am ((by rw [hg]; exact (below_size q1) : w.heap.size ≤ gb205)); replace HB := am (below_step q1 hb); have NB204_205 := am ((by rw [hg]; exact Nat.ne_of_lt (blk_lt (g := gb204) (o := .cells #[.int .i64 a0_0, .int .i64 a0_1, .slice A0_2 l0_2.length c0_2] 30 (0, 0)) u6_2) : gb204 ≠ gb205)); have NB205_204 := am ((by rw [hg]; exact Nat.ne_of_gt (blk_lt (g := gb204) (o := .cells #[.int .i64 a0_0, .int .i64 a0_1, .slice A0_2 l0_2.length c0_2] 30 (0, 0)) u6_2) : gb205 ≠ gb204)); replace BK204 := am (blk_below (g := gb204) (o := .cells #[.int .i64 a0_0, .int .i64 a0_1, .slice A0_2 l0_2.length c0_2] 30 (0, 0)) u6_2 hb); clear hb hbox hg))
 (try simp only [Act.put, la, lb, lc])
 go_cut [21] (fun v21 wc => ∃ (kq : Nat) (x21_2 : Bool), v21 = .bool x21_2 ∧ Aside0 (spec_OnceEach.j0 kq l1 x21_2 a0_0 a0_1 l0_2 = some (r1, r2, r3, r4)) ∧ Aside0 (kq ≤ k) ∧ Aside0 (wc.heap[gb204]? = some (.cells #[.int .i64 a0_0, .int .i64 a0_1, (.slice A0_2 l0_2.length c0_2)] 30 (0, 0))) ∧ Aside0 (wc.heap[gb205]? = some (.cells #[.int .i64 0, .int .i64 0, (.slice none 0 0)] 30 (0, 0))) ∧ Aside0 (Below w.heap.size w wc))
 case first =>
   have H := HC3.out
   clear HC3
   replace H := Option.bind_eq_some_iff.mp H
   obtain ⟨t206, A60, H⟩ := H
   have A6 := am A60
   clear A60
   by_cases c7 : t206 = true
   · subst c7
     rw [if_pos rfl] at H
     have H' := am H
     clear H
     have hnb8 := NB204_205.out
     have hnc8 := NB205_204.out
     obtain ⟨hcz9_0, hcz9_1, hcz9_2, hfz9_0, hfz9_1, hfz9_2⟩ := bc3f w5 BK204.out
     go_wp2_with (first | ((with_reducible refine gate_callee (f := 27) rfl ?_); refine goesL_ (some 15) rfl rfl Tryd.func27 kr rfl #[.agg #[.int .i64 a0_0, .int .i64 a0_1, .slice A0_2 l0_2.length c0_2]] rfl q3 ?_; (with_reducible refine (spec_SessionsOk.calls k a0_0 a0_1 _ _ l0_2 true _ ?side1 ?side2 A6.out).mono ?_); (case side1 => exact q5); (case side2 => exact HC0_2.out); rintro e w10 ⟨rfl, hb⟩; refine ⟨_, rfl, ?_⟩; replace BK204 := am (blk_below (g := gb204) (o := .cells #[.int .i64 a0_0, .int .i64 a0_1, .slice A0_2 l0_2.length c0_2] 30 (0, 0)) u6_2 hb); replace BK205 := am (blk_below (g := gb205) (o := .cells #[.int .i64 0, .int .i64 0, .slice none 0 0] 30 (0, 0)) u6_5 hb); replace HB := am (below_step q1 hb); (try clear hb); (try clear hb2); (try clear hk); (try clear hi)))
     go_meet
     case rel => exact ⟨_, (decide ((l1.length : Int) > 200)), q2, H', ⟨by first | omega | exact Nat.le_refl _⟩, ⟨u6_2⟩, ⟨u6_5⟩, ⟨q1⟩⟩
   replace c7 := Bool.eq_false_iff.mpr c7
   subst c7
   rw [nf] at H
   have H' := am H
   clear H
   have hnb11 := NB204_205.out
   have hnc11 := NB205_204.out
   obtain ⟨hcz12_0, hcz12_1, hcz12_2, hfz12_0, hfz12_1, hfz12_2⟩ := bc3f w5 BK204.out
   go_wp2_with (first | ((with_reducible refine gate_callee (f := 27) rfl ?_); refine goesL_ (some 15) rfl rfl Tryd.func27 kr rfl #[.agg #[.int .i64 a0_0, .int .i64 a0_1, .slice A0_2 l0_2.length c0_2]] rfl q3 ?_; (with_reducible refine (spec_SessionsOk.calls k a0_0 a0_1 _ _ l0_2 false _ ?side1 ?side2 A6.out).mono ?_); (case side1 => exact q5); (case side2 => exact HC0_2.out); rintro e w13 ⟨rfl, hb⟩; refine ⟨_, rfl, ?_⟩; replace BK204 := am (blk_below (g := gb204) (o := .cells #[.int .i64 a0_0, .int .i64 a0_1, .slice A0_2 l0_2.length c0_2] 30 (0, 0)) u6_2 hb); replace BK205 := am (blk_below (g := gb205) (o := .cells #[.int .i64 0, .int .i64 0, .slice none 0 0] 30 (0, 0)) u6_5 hb); replace HB := am (below_step q1 hb); (try clear hb); (try clear hb2); (try clear hk); (try clear hi)))
   go_meet
   case rel => exact ⟨_, (true), q2, H', ⟨by first | omega | exact Nat.le_refl _⟩, ⟨u6_2⟩, ⟨u6_5⟩, ⟨q1⟩⟩
 clear HC3
 try clear c1
 obtain ⟨kq, x21_2, rfl, HA, HJ2, BK204, BK205, HB⟩ := hcut
 cases kq with
 | zero => exact absurd HA.out (by simp [spec_OnceEach.j0])
 | succ kj2 =>
   have H := HA.out
   clear HA
   simp only [spec_OnceEach.j0] at H
   by_cases c14 : x21_2 = true
   · subst c14
     rw [if_pos rfl] at H
     replace H := Option.bind_eq_some_iff.mp H
     obtain ⟨⟨t207, t208, t209⟩, A150, H⟩ := H
     replace H : (some (t207, t208, t209, ([] : List ByteArray))) = some (r1, r2, r3, r4) := H
     have A15 := am A150
     clear A150
     simp only [Option.some.injEq, Prod.mk.injEq] at H
     obtain ⟨rfl, rfl, rfl, rfl⟩ := H
     have hnb16 := NB204_205.out
     have hnc16 := NB205_204.out
     obtain ⟨hcz17_0, hcz17_1, hcz17_2, hfz17_0, hfz17_1, hfz17_2⟩ := bc3f wc BK204.out
     go_wp2_with (first | ((with_reducible refine gate_callee (f := 28) rfl ?_); refine goesL_ (some 23) rfl rfl Tryd.func28 kr rfl #[.agg #[.int .i64 a0_0, .int .i64 a0_1, .slice A0_2 l0_2.length c0_2]] rfl q3 ?_; (with_reducible refine (spec_l09Copy.calls kj2 a0_0 a0_1 _ _ l0_2 t207 t208 t209 _ ?side1 ?side2 A15.out).mono ?_); (case side1 => exact q5); (case side2 => exact HC0_2.out); rintro e w18 ⟨v210, rfl, ho0, hb⟩; refine ⟨_, rfl, ?_⟩; have HO211 := am (Kd.R_lower ho0 (below_size q1)); replace BK204 := am (blk_below (g := gb204) (o := .cells #[.int .i64 a0_0, .int .i64 a0_1, .slice A0_2 l0_2.length c0_2] 30 (0, 0)) u6_2 hb); replace BK205 := am (blk_below (g := gb205) (o := .cells #[.int .i64 0, .int .i64 0, .slice none 0 0] 30 (0, 0)) u6_5 hb); replace HB := am (below_step q1 hb); (try clear hb); (try clear hb2); (try clear hk); (try clear hi); (try clear ho0); obtain ⟨hcz19_0, hcz19_1, hcz19_2, hfz19_0, hfz19_1, hfz19_2⟩ := bc3f w18 BK205.out; obtain ⟨Ao20, co20, eo20⟩ := Kd.R_slice HO211.out; subst eo20))
     refine bodyPost_ret (results_ct rfl _ _ gb205 30 #[.int .i64 t207, .int .i64 t208, .slice Ao20 t209.length co20] (0, 0) _ rfl (by (with_reducible repeat (first | refine blk_drewN ?_ _ | refine blk_drew ?_ | refine blk_alloc ?_ _)); refine blk_put (cs := #[.int .i64 t207, .int .i64 t208, .slice none 0 0]) ?_ 2 _ rfl; (with_reducible repeat (first | refine blk_drewN ?_ _ | refine blk_drew ?_ | refine blk_alloc ?_ _)); refine blk_put (cs := #[.int .i64 t207, .int .i64 0, .slice none 0 0]) ?_ 1 _ rfl; (with_reducible repeat (first | refine blk_drewN ?_ _ | refine blk_drew ?_ | refine blk_alloc ?_ _)); refine blk_put (cs := #[.int .i64 0, .int .i64 0, .slice none 0 0]) ?_ 0 _ rfl; (with_reducible repeat (first | refine blk_drewN ?_ _ | refine blk_drew ?_ | refine blk_alloc ?_ _)); exact BK205.out) Tryd.underlying30 rfl kr) rfl ?_
     exact ⟨_, _, er, (by (with_reducible repeat (first | apply Kd.R_alloc | apply Kd.R_drewN | apply Kd.R_drew)); exact Kd.R_mono (Kd.R_far (p := ⟨gb205, 2, none⟩) (Kd.R_far (p := ⟨gb205, 1, none⟩) (Kd.R_far (p := ⟨gb205, 0, none⟩) (Kd.R_types HO211.out BK205.out (by decide)) (fun _ hk => hk.2) (.int .i64 t207)) (fun _ hk => hk.2) (.int .i64 t208)) (fun _ hk => hk.2) (.slice Ao20 t209.length co20)) (fun _ hk => trivial)), (by first | exact Kd.R_nil _ _ _ _ _ | exact Kd.N_nil _ _ _ _ _ | exact Kd.V_nil _ _ _ _ _ | exact Kd.Q_nil _ _ _ _ _ | exact Kd.S_nil _ _ _ _ _), q1⟩
   replace c14 := Bool.eq_false_iff.mpr c14
   subst c14
   rw [nf] at H
   replace H := Option.bind_eq_some_iff.mp H
   obtain ⟨⟨t212, t213, t214⟩, A210, H⟩ := H
   replace H : (spec_OnceEach.l0 kj2 l1 (([] : List ByteArray)) 0 t212 t213 t214) = some (r1, r2, r3, r4) := H
   have A21 := am A210
   clear A210
   obtain ⟨y218, hy218⟩ : ∃ y_ : List ByteArray, y_ = (([] : List ByteArray)) := ⟨_, rfl⟩
   replace H : (spec_OnceEach.l0 kj2 l1 y218 0 t212 t213 t214) = some (r1, r2, r3, r4) := by first | (rw [hy218]; with_reducible exact H) | (have H2_ := (Option.bind_some _ _).symm.trans H; rw [hy218]; with_reducible exact H2_) | (have H2_ := (Option.bind_some _ _).symm.trans H; with_reducible exact H2_) | with_reducible exact H | (rw [hy218]; exact H) | exact H
   have Ny218 := am hy218
   clear hy218
   have H' := am H
   clear H
   have hnb22 := NB204_205.out
   have hnc22 := NB205_204.out
   obtain ⟨hcz23_0, hcz23_1, hcz23_2, hfz23_0, hfz23_1, hfz23_2⟩ := bc3f wc BK204.out
   go_wp2_with (first | ((with_reducible refine gate_callee (f := 28) rfl ?_); refine goesL_ (some 25) rfl rfl Tryd.func28 kr rfl #[.agg #[.int .i64 a0_0, .int .i64 a0_1, .slice A0_2 l0_2.length c0_2]] rfl q3 ?_; (with_reducible refine (spec_l09Copy.calls kj2 a0_0 a0_1 _ _ l0_2 t212 t213 t214 _ ?side1 ?side2 A21.out).mono ?_); (case side1 => exact q5); (case side2 => exact HC0_2.out); rintro e w24 ⟨v215, rfl, ho0, hb⟩; refine ⟨_, rfl, ?_⟩; have HO216 := am (Kd.R_lower ho0 (below_size q1)); replace BK204 := am (blk_below (g := gb204) (o := .cells #[.int .i64 a0_0, .int .i64 a0_1, .slice A0_2 l0_2.length c0_2] 30 (0, 0)) u6_2 hb); replace BK205 := am (blk_below (g := gb205) (o := .cells #[.int .i64 0, .int .i64 0, .slice none 0 0] 30 (0, 0)) u6_5 hb); replace HB := am (below_step q1 hb); (try clear hb); (try clear hb2); (try clear hk); (try clear hi); (try clear ho0)) | ((with_reducible refine gate_dst (N := 6) rfl ?_); (try (refine gate_guard (by rfl) ?_; dsimp only)); refine box_event ?hg (N := 6) ?hd (cs := #[.int .i64 0, .int .i64 0, .slice none 0 0]) (t := 30) ?hr ?_; (case hd => rfl); (case hg => rfl); (case hr => first | (go_simp; done) | (go_simp; rfl)); intro gb217 hg w25 hbox hb; replace HO216 := am (Kd.R_below u6_41 hb); have BK217 := am (hbox); have GW217 := am ((by rw [hg]; exact (below_size q1) : w.heap.size ≤ gb217)); have GE217 := am ((by rw [hg]; exact (below_size q1) : w.heap.size ≤ gb217)); replace HB := am (below_step q1 hb); have NB204_217 := am ((by rw [hg]; exact Nat.ne_of_lt (blk_lt (g := gb204) (o := .cells #[.int .i64 a0_0, .int .i64 a0_1, .slice A0_2 l0_2.length c0_2] 30 (0, 0)) u6_2) : gb204 ≠ gb217)); have NB217_204 := am ((by rw [hg]; exact Nat.ne_of_gt (blk_lt (g := gb204) (o := .cells #[.int .i64 a0_0, .int .i64 a0_1, .slice A0_2 l0_2.length c0_2] 30 (0, 0)) u6_2) : gb217 ≠ gb204)); replace BK204 := am (blk_below (g := gb204) (o := .cells #[.int .i64 a0_0, .int .i64 a0_1, .slice A0_2 l0_2.length c0_2] 30 (0, 0)) u6_2 hb); have NB205_217 := am ((by rw [hg]; exact Nat.ne_of_lt (blk_lt (g := gb205) (o := .cells #[.int .i64 0, .int .i64 0, .slice none 0 0] 30 (0, 0)) u6_5) : gb205 ≠ gb217)); have NB217_205 := am ((by rw [hg]; exact Nat.ne_of_gt (blk_lt (g := gb205) (o := .cells #[.int .i64 0, .int .i64 0, .slice none 0 0] 30 (0, 0)) u6_5) : gb217 ≠ gb205)); replace BK205 := am (blk_below (g := gb205) (o := .cells #[.int .i64 0, .int .i64 0, .slice none 0 0] 30 (0, 0)) u6_5 hb); clear hb hbox hg; have hnb26 := NB217_204.out; have hnc26 := NB204_217.out; have hnb27 := NB217_205.out; have hnc27 := NB205_217.out; obtain ⟨hcz28_0, hcz28_1, hcz28_2, hfz28_0, hfz28_1, hfz28_2⟩ := bc3f w25 BK217.out; obtain ⟨Ao29, co29, eo29⟩ := Kd.R_slice HO216.out; subst eo29) | ((with_reducible refine gate_dst (N := 26) rfl ?_); (try (refine gate_guard (by rfl) ?_; dsimp only)); refine Kd.R_lit Kd.string _ 9 ?hg (N := 26) ?hd (xs := ([] : List ByteArray)) (inner := []) (ok := fun _ => True) (okp := fun _ => True) ?hr ?hp (fun _ hk => hk) trivial (Below.refl _ _) (Nat.le_refl _) (by simp) ?_; (case hd => rfl); (case hg => rfl); (case hr => first | (go_simp; done) | (go_simp; rfl)); (case hp => exact (Reps.none _ _)); intro v219 w30 ho31 hb hg_ hnew_; clear hg_ hnew_; (first | rw [← Ny218.out] at ho31 | (simp only [Int.reduceToNat] at ho31; rw [← Ny218.out] at ho31)); replace HO216 := am (Kd.R_below (by (with_reducible repeat (first | apply Kd.R_alloc | apply Kd.R_drewN | apply Kd.R_drew)); exact (Kd.R_mono (Kd.R_far (p := ⟨gb217, 2, none⟩) (Kd.R_far (p := ⟨gb217, 1, none⟩) (Kd.R_far (p := ⟨gb217, 0, none⟩) (Kd.R_types HO216.out BK217.out (by decide)) (fun _ hk => hk.2) (.int .i64 t212)) (fun _ hk => hk.2) (.int .i64 t213)) (fun _ hk => hk.2) (.slice Ao29 t214.length co29)) (fun _ h_ => h_.1))) hb); have HO220 := am (Kd.R_lower ho31 (below_size q1)); replace BK204 := am (blk_below (g := gb204) (o := .cells #[.int .i64 a0_0, .int .i64 a0_1, .slice A0_2 l0_2.length c0_2] 30 (0, 0)) (by (with_reducible repeat (first | refine blk_drewN ?_ _ | refine blk_drew ?_ | refine blk_alloc ?_ _)); refine blk_far ?_ NB204_217.out _; (with_reducible repeat (first | refine blk_drewN ?_ _ | refine blk_drew ?_ | refine blk_alloc ?_ _)); refine blk_far ?_ NB204_217.out _; (with_reducible repeat (first | refine blk_drewN ?_ _ | refine blk_drew ?_ | refine blk_alloc ?_ _)); refine blk_far ?_ NB204_217.out _; (with_reducible repeat (first | refine blk_drewN ?_ _ | refine blk_drew ?_ | refine blk_alloc ?_ _)); exact BK204.out) hb); replace BK205 := am (blk_below (g := gb205) (o := .cells #[.int .i64 0, .int .i64 0, .slice none 0 0] 30 (0, 0)) (by (with_reducible repeat (first | refine blk_drewN ?_ _ | refine blk_drew ?_ | refine blk_alloc ?_ _)); refine blk_far ?_ NB205_217.out _; (with_reducible repeat (first | refine blk_drewN ?_ _ | refine blk_drew ?_ | refine blk_alloc ?_ _)); refine blk_far ?_ NB205_217.out _; (with_reducible repeat (first | refine blk_drewN ?_ _ | refine blk_drew ?_ | refine blk_alloc ?_ _)); refine blk_far ?_ NB205_217.out _; (with_reducible repeat (first | refine blk_drewN ?_ _ | refine blk_drew ?_ | refine blk_alloc ?_ _)); exact BK205.out) hb); replace BK217 := am (blk_below (g := gb217) (o := .cells #[.int .i64 t212, .int .i64 t213, .slice Ao29 t214.length co29] 30 (0, 0)) (by (with_reducible repeat (first | refine blk_drewN ?_ _ | refine blk_drew ?_ | refine blk_alloc ?_ _)); refine blk_put (cs := #[.int .i64 t212, .int .i64 t213, .slice none 0 0]) ?_ 2 _ rfl; (with_reducible repeat (first | refine blk_drewN ?_ _ | refine blk_drew ?_ | refine blk_alloc ?_ _)); refine blk_put (cs := #[.int .i64 t212, .int .i64 0, .slice none 0 0]) ?_ 1 _ rfl; (with_reducible repeat (first | refine blk_drewN ?_ _ | refine blk_drew ?_ | refine blk_alloc ?_ _)); refine blk_put (cs := #[.int .i64 0, .int .i64 0, .slice none 0 0]) ?_ 0 _ rfl; (with_reducible repeat (first | refine blk_drewN ?_ _ | refine blk_drew ?_ | refine blk_alloc ?_ _)); exact BK217.out) hb); replace HB := am (below_step q1 hb); clear hb ho31))
   go_loopg [7, 8] kj2 (fun kq v7 v8 w' => ∃ (x7_2 : List ByteArray) (x8_2 : Int) (x218000_2 : Int) (x218001_2 : Int) (x218002_2 : List (S54)) (u218002 : Value), v8 = .int .i64 x8_2 ∧ Aside0 (spec_OnceEach.l0 kq l1 x7_2 x8_2 x218000_2 x218001_2 x218002_2 = some (r1, r2, r3, r4)) ∧ Aside0 (kq ≤ kj2) ∧ Aside0 (Kd.R Kd.string 9 w' w.heap.size (fun _ => True) v7 x7_2) ∧ Aside0 (Kd.R k54 54 w' w.heap.size (fun _ => True) u218002 x218002_2) ∧ Aside0 (w'.heap[gb204]? = some (.cells #[.int .i64 a0_0, .int .i64 a0_1, (.slice A0_2 l0_2.length c0_2)] 30 (0, 0))) ∧ Aside0 (w'.heap[gb205]? = some (.cells #[.int .i64 0, .int .i64 0, (.slice none 0 0)] 30 (0, 0))) ∧ Aside0 (w'.heap[gb217]? = some (.cells #[.int .i64 x218000_2, .int .i64 x218001_2, u218002] 30 (0, 0))) ∧ Aside0 (Below w.heap.size w w'))
   case atStart => exact ⟨(y218), (0), (t212), (t213), (t214), (.slice Ao29 t214.length co29), q2, H', ⟨Nat.le_refl _⟩, ⟨(by (with_reducible repeat (first | apply Kd.R_alloc | apply Kd.R_drewN | apply Kd.R_drew)); exact HO220.out)⟩, ⟨u6_41⟩, ⟨u6_2⟩, ⟨u6_5⟩, ⟨u6_15⟩, ⟨q1⟩⟩
   clear H'
   try clear c1
   try clear c14
   try clear hcz23_0
   try clear hcz23_1
   try clear hcz23_2
   try clear hcz28_0
   try clear hcz28_1
   try clear hcz28_2
   try clear hfz23_0
   try clear hfz23_1
   try clear hfz23_2
   try clear hfz28_0
   try clear hfz28_1
   try clear hfz28_2
   obtain ⟨x7_2, x8_2, x218000_2, x218001_2, x218002_2, u218002, rfl, HA, HK2, HO_7, HO_218002, BK204, BK205, BK217, HB⟩ := hrel
   cases gk with
   | zero => exact absurd HA.out (by simp [spec_OnceEach.l0])
   | succ k2 =>
     have H := HA.out
     clear HA
     simp only [spec_OnceEach.l0] at H
     by_cases c32 : x8_2 < (l1.length : Int)
     rotate_left
     · rw [if_neg c32] at H
       have c32b0 : decide (x8_2 < (l1.length : Int)) = false := decide_eq_false c32
       clear c32
       simp only [Option.some.injEq, Prod.mk.injEq] at H
       obtain ⟨rfl, rfl, rfl, rfl⟩ := H
       have hnb73 := NB217_204.out
       have hnc73 := NB204_217.out
       have hnb74 := NB217_205.out
       have hnc74 := NB205_217.out
       obtain ⟨hcz75_0, hcz75_1, hcz75_2, hfz75_0, hfz75_1, hfz75_2⟩ := bc3f wr BK217.out
       have hnb76 := NB205_204.out
       have hnc76 := NB204_205.out
       obtain ⟨hcz77_0, hcz77_1, hcz77_2, hfz77_0, hfz77_1, hfz77_2⟩ := bc3f wr BK205.out
       obtain ⟨Ao78, co78, eo78⟩ := Kd.R_slice HO_218002.out
       subst eo78
       go_wp2
       refine bodyPost_ret (results_ct rfl _ _ gb205 30 #[.int .i64 x218000_2, .int .i64 x218001_2, .slice Ao78 x218002_2.length co78] (0, 0) _ rfl (by (with_reducible repeat (first | refine blk_drewN ?_ _ | refine blk_drew ?_ | refine blk_alloc ?_ _)); refine blk_put (cs := #[.int .i64 x218000_2, .int .i64 x218001_2, .slice none 0 0]) ?_ 2 _ rfl; (with_reducible repeat (first | refine blk_drewN ?_ _ | refine blk_drew ?_ | refine blk_alloc ?_ _)); refine blk_put (cs := #[.int .i64 x218000_2, .int .i64 0, .slice none 0 0]) ?_ 1 _ rfl; (with_reducible repeat (first | refine blk_drewN ?_ _ | refine blk_drew ?_ | refine blk_alloc ?_ _)); refine blk_put (cs := #[.int .i64 0, .int .i64 0, .slice none 0 0]) ?_ 0 _ rfl; (with_reducible repeat (first | refine blk_drewN ?_ _ | refine blk_drew ?_ | refine blk_alloc ?_ _)); exact BK205.out) Tryd.underlying30 rfl kr) rfl ?_
       exact ⟨_, _, er, (by (with_reducible repeat (first | apply Kd.R_alloc | apply Kd.R_drewN | apply Kd.R_drew)); exact Kd.R_mono (Kd.R_far (p := ⟨gb205, 2, none⟩) (Kd.R_far (p := ⟨gb205, 1, none⟩) (Kd.R_far (p := ⟨gb205, 0, none⟩) (Kd.R_types HO_218002.out BK205.out (by decide)) (fun _ hk => hk.2) (.int .i64 x218000_2)) (fun _ hk => hk.2) (.int .i64 x218001_2)) (fun _ hk => hk.2) (.slice Ao78 x218002_2.length co78)) (fun _ hk => trivial)), (by (with_reducible repeat (first | apply Kd.R_alloc | apply Kd.R_drewN | apply Kd.R_drew)); exact Kd.R_mono (Kd.R_far (p := ⟨gb205, 2, none⟩) (Kd.R_far (p := ⟨gb205, 1, none⟩) (Kd.R_far (p := ⟨gb205, 0, none⟩) (Kd.R_types HO_7.out BK205.out (by decide)) (fun _ hk => hk.2) (.int .i64 x218000_2)) (fun _ hk => hk.2) (.int .i64 x218001_2)) (fun _ hk => hk.2) (.slice Ao78 x218002_2.length co78)) (fun _ hk => trivial)), q1⟩
     rw [if_pos c32] at H
     have c32b0 : decide (x8_2 < (l1.length : Int)) = true := decide_eq_true c32
     clear c32
     by_cases c33 : 0 ≤ x8_2
     rotate_left
     · rw [if_neg c33] at H
       exact absurd H (by simp)
     rw [if_pos c33] at H
     have c33b0 : decide (0 ≤ x8_2) = true := decide_eq_true c33
     clear c33
     replace H := Option.bind_eq_some_iff.mp H
     obtain ⟨⟨t223, t224⟩, A340, H⟩ := H
     (try dsimp only at H)
     have A34 := am A340
     clear A340
     replace H := Option.bind_eq_some_iff.mp H
     obtain ⟨⟨t225, t226, t227, t230⟩, A350, H⟩ := H
     (try dsimp only at H)
     have A35 := am A350
     clear A350
     have H9 := am H
     clear H
     have p221 : 0 ≤ (x8_2 : Int) := of_decide_eq_true q0
     have q221 : x8_2 < (l1.length : Int) := of_decide_eq_true q0
     obtain ⟨ad221, e221, hx221_0, hx221_1, hx221_2⟩ := at_T50 HR1.out x8_2 p221 q221
     cases e221
     replace hx221_0 := cm HB.out hx221_0
     replace hx221_1 := cm HB.out hx221_1
     replace hx221_2 := cm HB.out hx221_2
     replace p221 := eq_true p221
     replace q221 := eq_true q221
     go_upto_if 64 with (first | ((with_reducible refine gate_dst (N := 9) rfl ?_); (try (refine gate_guard (by rfl) ?_; dsimp only)); refine box_event ?hg (N := 9) ?hd (cs := #[.int .i64 0, .int .i64 0, .string (⟨#[]⟩ : ByteArray)]) (t := 50) ?hr ?_; (case hd => rfl); (case hg => rfl); (case hr => first | (go_simp; done) | (go_simp; rfl)); intro gb222 hg w36 hbox hb; replace HO_7 := am (Kd.R_below q7 hb); replace HO_218002 := am (Kd.R_below u6_28 hb); have BK222 := am (hbox); have GW222 := am ((by rw [hg]; exact (below_size q1) : w.heap.size ≤ gb222)); have GE222 := am ((by rw [hg]; exact (below_size q1) : w.heap.size ≤ gb222)); replace HB := am (below_step q1 hb); have NB204_222 := am ((by rw [hg]; exact Nat.ne_of_lt (blk_lt (g := gb204) (o := .cells #[.int .i64 a0_0, .int .i64 a0_1, .slice A0_2 l0_2.length c0_2] 30 (0, 0)) u6_2) : gb204 ≠ gb222)); have NB222_204 := am ((by rw [hg]; exact Nat.ne_of_gt (blk_lt (g := gb204) (o := .cells #[.int .i64 a0_0, .int .i64 a0_1, .slice A0_2 l0_2.length c0_2] 30 (0, 0)) u6_2) : gb222 ≠ gb204)); replace BK204 := am (blk_below (g := gb204) (o := .cells #[.int .i64 a0_0, .int .i64 a0_1, .slice A0_2 l0_2.length c0_2] 30 (0, 0)) u6_2 hb); have NB205_222 := am ((by rw [hg]; exact Nat.ne_of_lt (blk_lt (g := gb205) (o := .cells #[.int .i64 0, .int .i64 0, .slice none 0 0] 30 (0, 0)) u6_5) : gb205 ≠ gb222)); have NB222_205 := am ((by rw [hg]; exact Nat.ne_of_gt (blk_lt (g := gb205) (o := .cells #[.int .i64 0, .int .i64 0, .slice none 0 0] 30 (0, 0)) u6_5) : gb222 ≠ gb205)); replace BK205 := am (blk_below (g := gb205) (o := .cells #[.int .i64 0, .int .i64 0, .slice none 0 0] 30 (0, 0)) u6_5 hb); have NB217_222 := am ((by rw [hg]; exact Nat.ne_of_lt (blk_lt (g := gb217) (o := .cells #[.int .i64 x218000_2, .int .i64 x218001_2, u218002] 30 (0, 0)) u6_15) : gb217 ≠ gb222)); have NB222_217 := am ((by rw [hg]; exact Nat.ne_of_gt (blk_lt (g := gb217) (o := .cells #[.int .i64 x218000_2, .int .i64 x218001_2, u218002] 30 (0, 0)) u6_15) : gb222 ≠ gb217)); replace BK217 := am (blk_below (g := gb217) (o := .cells #[.int .i64 x218000_2, .int .i64 x218001_2, u218002] 30 (0, 0)) u6_15 hb); clear hb hbox hg; have hnb37 := NB222_204.out; have hnc37 := NB204_222.out; have hnb38 := NB222_205.out; have hnc38 := NB205_222.out; have hnb39 := NB222_217.out; have hnc39 := NB217_222.out; obtain ⟨hcz40_0, hcz40_1, hcz40_2, hfz40_0, hfz40_1, hfz40_2⟩ := bc3f w36 BK222.out; have hnb41 := NB217_204.out; have hnc41 := NB204_217.out; have hnb42 := NB217_205.out; have hnc42 := NB205_217.out; obtain ⟨hcz43_0, hcz43_1, hcz43_2, hfz43_0, hfz43_1, hfz43_2⟩ := bc3f w36 BK217.out; obtain ⟨Ao44, co44, eo44⟩ := Kd.R_slice HO_218002.out; subst eo44) | ((with_reducible refine gate_callee (f := 29) rfl ?_); refine goesL_ (some 43) rfl rfl Tryd.func29 kr rfl #[.agg #[.int .i64 x218000_2, .int .i64 x218001_2, .slice Ao44 x218002_2.length co44], .int .i64 ((rd_T50 l1 x8_2).f0), .int .i64 ((rd_T50 l1 x8_2).f1)] rfl q3 ?_; (with_reducible refine (spec_Look.calls k2 x218000_2 x218001_2 _ _ x218002_2 ((rd_T50 l1 x8_2).f0) ((rd_T50 l1 x8_2).f1) t223 t224 _ ?side1 ?side2 A34.out).mono ?_); (case side1 => exact (by refine (Kd.R_reads' (e := 54) (base := w.heap.size) (ok := fun k_ => True) (n := x218002_2.length) (c := co44) ?_).2.2; exact u6_27)); (case side2 => exact (Kd.R_reads' HO_218002.out).2.1); rintro e w45 ⟨rfl, hb⟩; refine ⟨_, rfl, ?_⟩; replace HO_7 := am (Kd.R_below (by (with_reducible repeat (first | apply Kd.R_alloc | apply Kd.R_drewN | apply Kd.R_drew)); exact (Kd.R_mono (Kd.R_far (p := ⟨gb222, 2, none⟩) (Kd.R_far (p := ⟨gb222, 1, none⟩) (Kd.R_far (p := ⟨gb222, 0, none⟩) (Kd.R_types HO_7.out BK222.out (by decide)) (fun _ hk => hk.2) (.int .i64 ((rd_T50 l1 x8_2).f0))) (fun _ hk => hk.2) (.int .i64 ((rd_T50 l1 x8_2).f1))) (fun _ hk => hk.2) (.string ((rd_T50 l1 x8_2).f2))) (fun _ h_ => h_.1))) hb); replace HO_218002 := am (Kd.R_below u6_27 hb); replace BK204 := am (blk_below (g := gb204) (o := .cells #[.int .i64 a0_0, .int .i64 a0_1, .slice A0_2 l0_2.length c0_2] 30 (0, 0)) (by (with_reducible repeat (first | refine blk_drewN ?_ _ | refine blk_drew ?_ | refine blk_alloc ?_ _)); refine blk_far ?_ NB204_222.out _; (with_reducible repeat (first | refine blk_drewN ?_ _ | refine blk_drew ?_ | refine blk_alloc ?_ _)); refine blk_far ?_ NB204_222.out _; (with_reducible repeat (first | refine blk_drewN ?_ _ | refine blk_drew ?_ | refine blk_alloc ?_ _)); refine blk_far ?_ NB204_222.out _; (with_reducible repeat (first | refine blk_drewN ?_ _ | refine blk_drew ?_ | refine blk_alloc ?_ _)); exact BK204.out) hb); replace BK205 := am (blk_below (g := gb205) (o := .cells #[.int .i64 0, .int .i64 0, .slice none 0 0] 30 (0, 0)) (by (with_reducible repeat (first | refine blk_drewN ?_ _ | refine blk_drew ?_ | refine blk_alloc ?_ _)); refine blk_far ?_ NB205_222.out _; (with_reducible repeat (first | refine blk_drewN ?_ _ | refine blk_drew ?_ | refine blk_alloc ?_ _)); refine blk_far ?_ NB205_222.out _; (with_reducible repeat (first | refine blk_drewN ?_ _ | refine blk_drew ?_ | refine blk_alloc ?_ _)); refine blk_far ?_ NB205_222.out _; (with_reducible repeat (first | refine blk_drewN ?_ _ | refine blk_drew ?_ | refine blk_alloc ?_ _)); exact BK205.out) hb); replace BK217 := am (blk_below (g := gb217) (o := .cells #[.int .i64 x218000_2, .int .i64 x218001_2, .slice Ao44 x218002_2.length co44] 30 (0, 0)) (by (with_reducible repeat (first | refine blk_drewN ?_ _ | refine blk_drew ?_ | refine blk_alloc ?_ _)); refine blk_far ?_ NB217_222.out _; (with_reducible repeat (first | refine blk_drewN ?_ _ | refine blk_drew ?_ | refine blk_alloc ?_ _)); refine blk_far ?_ NB217_222.out _; (with_reducible repeat (first | refine blk_drewN ?_ _ | refine blk_drew ?_ | refine blk_alloc ?_ _)); refine blk_far ?_ NB217_222.out _; (with_reducible repeat (first | refine blk_drewN ?_ _ | refine blk_drew ?_ | refine blk_alloc ?_ _)); exact BK217.out) hb); replace BK222 := am (blk_below (g := gb222) (o := .cells #[.int .i64 ((rd_T50 l1 x8_2).f0), .int .i64 ((rd_T50 l1 x8_2).f1), .string ((rd_T50 l1 x8_2).f2)] 50 (0, 0)) (by (with_reducible repeat (first | refine blk_drewN ?_ _ | refine blk_drew ?_ | refine blk_alloc ?_ _)); refine blk_put (cs := #[.int .i64 ((rd_T50 l1 x8_2).f0), .int .i64 ((rd_T50 l1 x8_2).f1), .string (⟨#[]⟩ : ByteArray)]) ?_ 2 _ rfl; (with_reducible repeat (first | refine blk_drewN ?_ _ | refine blk_drew ?_ | refine blk_alloc ?_ _)); refine blk_put (cs := #[.int .i64 ((rd_T50 l1 x8_2).f0), .int .i64 0, .string (⟨#[]⟩ : ByteArray)]) ?_ 1 _ rfl; (with_reducible repeat (first | refine blk_drewN ?_ _ | refine blk_drew ?_ | refine blk_alloc ?_ _)); refine blk_put (cs := #[.int .i64 0, .int .i64 0, .string (⟨#[]⟩ : ByteArray)]) ?_ 0 _ rfl; (with_reducible repeat (first | refine blk_drewN ?_ _ | refine blk_drew ?_ | refine blk_alloc ?_ _)); exact BK222.out) hb); replace HB := am (below_step q1 hb); (try clear hb); (try clear hb2); (try clear hk); (try clear hi); obtain ⟨hcz46_0, hcz46_1, hcz46_2, hfz46_0, hfz46_1, hfz46_2⟩ := bc3f w45 BK217.out; obtain ⟨hcz47_0, hcz47_1, hcz47_2, hfz47_0, hfz47_1, hfz47_2⟩ := bc3f w45 BK222.out) | ((with_reducible refine gate_callee (f := 30) rfl ?_); refine goesL_ (some 54) rfl rfl Tryd.func30 kr rfl #[.agg #[.int .i64 x218000_2, .int .i64 x218001_2, .slice Ao44 x218002_2.length co44], .int .i64 ((rd_T50 l1 x8_2).f0), .int .i64 ((rd_T50 l1 x8_2).f1), .string ((rd_T50 l1 x8_2).f2)] rfl q3 ?_; (with_reducible refine (spec_Keep.calls k2 x218000_2 x218001_2 _ _ x218002_2 ((rd_T50 l1 x8_2).f0) ((rd_T50 l1 x8_2).f1) ((rd_T50 l1 x8_2).f2) t225 t226 t227 t230 _ ?side1 ?side2 A35.out).mono ?_); (case side1 => exact (by repeat (first | exact (Kd.R_reads' HO_218002.out).2.2 | (with_reducible refine Kd.C_alloc ?_ _) | (with_reducible refine Kd.C_drewN ?_ _) | (with_reducible refine Kd.C_drew ?_)))); (case side2 => exact (Kd.R_reads' HO_218002.out).2.1); rintro e w48 ⟨v228, rfl, ho0, hb⟩; refine ⟨_, rfl, ?_⟩; replace HO_7 := am (Kd.R_below q7 hb); have HO229 := am (Kd.R_lower (Kd.R_new' ho0 (Kd.R_lt u6_28)) (below_size q1)); replace HO_218002 := am (Kd.R_elder' u6_28 (Kd.R_base ho0) hb); replace BK204 := am (blk_below (g := gb204) (o := .cells #[.int .i64 a0_0, .int .i64 a0_1, .slice A0_2 l0_2.length c0_2] 30 (0, 0)) u6_2 hb); replace BK205 := am (blk_below (g := gb205) (o := .cells #[.int .i64 0, .int .i64 0, .slice none 0 0] 30 (0, 0)) u6_5 hb); replace BK217 := am (blk_below (g := gb217) (o := .cells #[.int .i64 x218000_2, .int .i64 x218001_2, .slice Ao44 x218002_2.length co44] 30 (0, 0)) u6_15 hb); replace BK222 := am (blk_below (g := gb222) (o := .cells #[.int .i64 ((rd_T50 l1 x8_2).f0), .int .i64 ((rd_T50 l1 x8_2).f1), .string ((rd_T50 l1 x8_2).f2)] 50 (0, 0)) u6_26 hb); replace HB := am (below_step q1 hb); (try clear hb); (try clear hb2); (try clear hk); (try clear hi); (try clear ho0)) | ((with_reducible refine gate_dst (N := 12) rfl ?_); (try (refine gate_guard (by rfl) ?_; dsimp only)); refine box_event ?hg (N := 12) ?hd (cs := #[.int .i64 0, .int .i64 0, .slice none 0 0]) (t := 30) ?hr ?_; (case hd => rfl); (case hg => rfl); (case hr => first | (go_simp; done) | (go_simp; rfl)); intro gb231 hg w49 hbox hb; replace HO_7 := am (Kd.R_below q7 hb); replace HO_218002 := am (Kd.R_below u6_28 hb); replace HO229 := am (Kd.R_below u6_42 hb); have BK231 := am (hbox); have GW231 := am ((by rw [hg]; exact (below_size q1) : w.heap.size ≤ gb231)); have GE231 := am ((by rw [hg]; exact (below_size q1) : w.heap.size ≤ gb231)); replace HB := am (below_step q1 hb); have NB204_231 := am ((by rw [hg]; exact Nat.ne_of_lt (blk_lt (g := gb204) (o := .cells #[.int .i64 a0_0, .int .i64 a0_1, .slice A0_2 l0_2.length c0_2] 30 (0, 0)) u6_2) : gb204 ≠ gb231)); have NB231_204 := am ((by rw [hg]; exact Nat.ne_of_gt (blk_lt (g := gb204) (o := .cells #[.int .i64 a0_0, .int .i64 a0_1, .slice A0_2 l0_2.length c0_2] 30 (0, 0)) u6_2) : gb231 ≠ gb204)); replace BK204 := am (blk_below (g := gb204) (o := .cells #[.int .i64 a0_0, .int .i64 a0_1, .slice A0_2 l0_2.length c0_2] 30 (0, 0)) u6_2 hb); have NB205_231 := am ((by rw [hg]; exact Nat.ne_of_lt (blk_lt (g := gb205) (o := .cells #[.int .i64 0, .int .i64 0, .slice none 0 0] 30 (0, 0)) u6_5) : gb205 ≠ gb231)); have NB231_205 := am ((by rw [hg]; exact Nat.ne_of_gt (blk_lt (g := gb205) (o := .cells #[.int .i64 0, .int .i64 0, .slice none 0 0] 30 (0, 0)) u6_5) : gb231 ≠ gb205)); replace BK205 := am (blk_below (g := gb205) (o := .cells #[.int .i64 0, .int .i64 0, .slice none 0 0] 30 (0, 0)) u6_5 hb); have NB217_231 := am ((by rw [hg]; exact Nat.ne_of_lt (blk_lt (g := gb217) (o := .cells #[.int .i64 x218000_2, .int .i64 x218001_2, .slice Ao44 x218002_2.length co44] 30 (0, 0)) u6_15) : gb217 ≠ gb231)); have NB231_217 := am ((by rw [hg]; exact Nat.ne_of_gt (blk_lt (g := gb217) (o := .cells #[.int .i64 x218000_2, .int .i64 x218001_2, .slice Ao44 x218002_2.length co44] 30 (0, 0)) u6_15) : gb231 ≠ gb217)); replace BK217 := am (blk_below (g := gb217) (o := .cells #[.int .i64 x218000_2, .int .i64 x218001_2, .slice Ao44 x218002_2.length co44] 30 (0, 0)) u6_15 hb); have NB222_231 := am ((by rw [hg]; exact Nat.ne_of_lt (blk_lt (g := gb222) (o := .cells #[.int .i64 ((rd_T50 l1 x8_2).f0), .int .i64 ((rd_T50 l1 x8_2).f1), .string ((rd_T50 l1 x8_2).f2)] 50 (0, 0)) u6_26) : gb222 ≠ gb231)); have NB231_222 := am ((by rw [hg]; exact Nat.ne_of_gt (blk_lt (g := gb222) (o := .cells #[.int .i64 ((rd_T50 l1 x8_2).f0), .int .i64 ((rd_T50 l1 x8_2).f1), .string ((rd_T50 l1 x8_2).f2)] 50 (0, 0)) u6_26) : gb231 ≠ gb222)); replace BK222 := am (blk_below (g := gb222) (o := .cells #[.int .i64 ((rd_T50 l1 x8_2).f0), .int .i64 ((rd_T50 l1 x8_2).f1), .string ((rd_T50 l1 x8_2).f2)] 50 (0, 0)) u6_26 hb); clear hb hbox hg; have hnb50 := NB231_204.out; have hnc50 := NB204_231.out; have hnb51 := NB231_205.out; have hnc51 := NB205_231.out; have hnb52 := NB231_217.out; have hnc52 := NB217_231.out; have hnb53 := NB231_222.out; have hnc53 := NB222_231.out; obtain ⟨hcz54_0, hcz54_1, hcz54_2, hfz54_0, hfz54_1, hfz54_2⟩ := bc3f w49 BK231.out; obtain ⟨Ao55, co55, eo55⟩ := Kd.R_slice HO229.out; subst eo55; obtain ⟨hcz56_0, hcz56_1, hcz56_2, hfz56_0, hfz56_1, hfz56_2⟩ := bc3f w49 BK217.out))
     have H := H9.out
     clear H9
     by_cases c57 : t230 = true
     · subst c57
       rw [if_pos rfl] at H
       by_cases c58 : x7_2.length < 8796093022208
       rotate_left
       · rw [if_neg c58] at H
         exact absurd H (by simp)
       rw [if_pos c58] at H
       have LMc58 := am c58
       clear c58
       obtain ⟨y232, hy232⟩ : ∃ y_ : List ByteArray, y_ = (x7_2 ++ [(rd_T50 l1 x8_2).f2]) := ⟨_, rfl⟩
       replace H : (spec_OnceEach.l0 k2 l1 y232 (wrap64 (x8_2 + 1)) t225 t226 t227) = some (r1, r2, r3, r4) := by first | (rw [hy232]; with_reducible exact H) | (have H2_ := (Option.bind_some _ _).symm.trans H; rw [hy232]; with_reducible exact H2_) | (have H2_ := (Option.bind_some _ _).symm.trans H; with_reducible exact H2_) | with_reducible exact H | (rw [hy232]; exact H) | exact H
       have Ny232 := am hy232
       clear hy232
       have H' := am H
       clear H
       have hnb59 := NB222_204.out
       have hnc59 := NB204_222.out
       have hnb60 := NB222_205.out
       have hnc60 := NB205_222.out
       have hnb61 := NB222_217.out
       have hnc61 := NB217_222.out
       have hnb62 := NB222_231.out
       have hnc62 := NB231_222.out
       obtain ⟨hcz63_0, hcz63_1, hcz63_2, hfz63_0, hfz63_1, hfz63_2⟩ := bc3f w49 BK222.out
       go_wp2_with (first | ((with_reducible refine gate_builtin (b := .append) (xs := #[.tmp 66, .tmp 69]) rfl ?_); (try (refine gate_guard (by rfl) ?_; dsimp only)); at_builtin; refine Kd.R_append Kd.string (w0 := w) w.heap.size rfl (.tmp 66) (.tmp 69) 31 9 (.string ⟨#[]⟩) 16 rfl Tryd.underlying31 info9 rfl (by decide) (by omega) u7 x7_2 ((rd_T50 l1 x8_2).f2) [.string ((rd_T50 l1 x8_2).f2)] (fun _ => True) (fun _ => False) rfl (by first | (go_simp; done) | (go_simp; rfl)) ?aP (fun _ hk => hk.elim) ?aF ?aO ?aB ?aS ?aL ?_; (case aP => exact rfl); (case aB => exact q1); (case aF => exact (fun _ _ => trivial)); (case aO => exact u6_18); (case aS => exact (below_size q1)); (case aL => have := LMc58.out; omega); intro v233 w64 ho hb hg hat; rw [← Ny232.out] at ho; replace HO_218002 := am (Kd.R_over' u6_11 (Kd.R_typed u6_1) (by decide) hg); replace BK204 := am (blk_grown (g := gb204) (o := .cells #[.int .i64 a0_0, .int .i64 a0_1, .slice A0_2 l0_2.length c0_2] 30 (0, 0)) u6_8 hg (Kd.R_ne HO_7.out BK204.out (by decide))); replace BK205 := am (blk_grown (g := gb205) (o := .cells #[.int .i64 0, .int .i64 0, .slice none 0 0] 30 (0, 0)) u6_9 hg (Kd.R_ne HO_7.out BK205.out (by decide))); replace BK222 := am (blk_grown (g := gb222) (o := .cells #[.int .i64 ((rd_T50 l1 x8_2).f0), .int .i64 ((rd_T50 l1 x8_2).f1), .string ((rd_T50 l1 x8_2).f2)] 50 (0, 0)) u6_10 hg (Kd.R_ne HO_7.out BK222.out (by decide))); replace HO229 := am (Kd.R_over' u6_12 (Kd.R_typed u6_1) (by decide) hg); replace BK217 := am (blk_grown (g := gb217) (o := .cells #[.int .i64 t225, .int .i64 t226, .slice Ao55 t227.length co55] 30 (0, 0)) u6_4 hg (Kd.R_ne HO_7.out BK217.out (by decide))); replace BK231 := am (blk_grown (g := gb231) (o := .cells #[.int .i64 t225, .int .i64 t226, .slice Ao55 t227.length co55] 30 (0, 0)) u6_6 hg (Kd.R_ne HO_7.out BK231.out (by decide))); replace HB := am (hb); have HO234 := am (ho); clear HO_7; clear ho hb hg hat))
       go_roundg k2
       case measure => have := HJ2.out; have := HK2.out; omega
       case rel => exact ⟨(y232), (wrap64 (x8_2 + 1)), (t225), (t226), (t227), (.slice Ao55 t227.length co55), q2, H', ⟨u6_43⟩, ⟨(by (with_reducible repeat (first | apply Kd.R_alloc | apply Kd.R_drewN | apply Kd.R_drew)); exact HO234.out)⟩, ⟨u6_37⟩, ⟨u6_2⟩, ⟨u6_5⟩, ⟨u6_15⟩, ⟨q1⟩⟩
     replace c57 := Bool.eq_false_iff.mpr c57
     subst c57
     rw [nf] at H
     by_cases c65 : t223 = 1
     · rw [if_pos c65] at H
       have c65b0 : (t223 == 1) = true := beq_iff_eq.mpr c65
       have c65b1 : (t223 != 1) = false := bne_eq_false_iff_eq.mpr c65
       clear c65
       (first | rw [c65b0] | (simp only [i64_w, i32_w]; rw [c65b0]) | skip)
       by_cases c66 : x7_2.length < 8796093022208
       rotate_left
       · rw [if_neg c66] at H
         exact absurd H (by simp)
       rw [if_pos c66] at H
       have LMc66 := am c66
       clear c66
       obtain ⟨y235, hy235⟩ : ∃ y_ : List ByteArray, y_ = (x7_2 ++ [t224]) := ⟨_, rfl⟩
       replace H : (spec_OnceEach.l0 k2 l1 y235 (wrap64 (x8_2 + 1)) t225 t226 t227) = some (r1, r2, r3, r4) := by first | (rw [hy235]; with_reducible exact H) | (have H2_ := (Option.bind_some _ _).symm.trans H; rw [hy235]; with_reducible exact H2_) | (have H2_ := (Option.bind_some _ _).symm.trans H; with_reducible exact H2_) | with_reducible exact H | (rw [hy235]; exact H) | exact H
       have Ny235 := am hy235
       clear hy235
       have H' := am H
       clear H
       go_wp2_with (first | ((with_reducible refine gate_builtin (b := .append) (xs := #[.tmp 74, .tmp 76]) rfl ?_); (try (refine gate_guard (by rfl) ?_; dsimp only)); at_builtin; refine Kd.R_append Kd.string (w0 := w) w.heap.size rfl (.tmp 74) (.tmp 76) 31 9 (.string ⟨#[]⟩) 16 rfl Tryd.underlying31 info9 rfl (by decide) (by omega) u7 x7_2 t224 [.string t224] (fun _ => True) (fun _ => False) rfl (by first | (go_simp; done) | (go_simp; rfl)) ?aP (fun _ hk => hk.elim) ?aF ?aO ?aB ?aS ?aL ?_; (case aP => exact rfl); (case aB => exact q1); (case aF => exact (fun _ _ => trivial)); (case aO => exact u6_18); (case aS => exact (below_size q1)); (case aL => have := LMc66.out; omega); intro v236 w67 ho hb hg hat; rw [← Ny235.out] at ho; replace HO_218002 := am (Kd.R_over' u6_11 (Kd.R_typed u6_1) (by decide) hg); replace BK204 := am (blk_grown (g := gb204) (o := .cells #[.int .i64 a0_0, .int .i64 a0_1, .slice A0_2 l0_2.length c0_2] 30 (0, 0)) u6_8 hg (Kd.R_ne HO_7.out BK204.out (by decide))); replace BK205 := am (blk_grown (g := gb205) (o := .cells #[.int .i64 0, .int .i64 0, .slice none 0 0] 30 (0, 0)) u6_9 hg (Kd.R_ne HO_7.out BK205.out (by decide))); replace BK222 := am (blk_grown (g := gb222) (o := .cells #[.int .i64 ((rd_T50 l1 x8_2).f0), .int .i64 ((rd_T50 l1 x8_2).f1), .string ((rd_T50 l1 x8_2).f2)] 50 (0, 0)) u6_10 hg (Kd.R_ne HO_7.out BK222.out (by decide))); replace HO229 := am (Kd.R_over' u6_12 (Kd.R_typed u6_1) (by decide) hg); replace BK217 := am (blk_grown (g := gb217) (o := .cells #[.int .i64 t225, .int .i64 t226, .slice Ao55 t227.length co55] 30 (0, 0)) u6_4 hg (Kd.R_ne HO_7.out BK217.out (by decide))); replace BK231 := am (blk_grown (g := gb231) (o := .cells #[.int .i64 t225, .int .i64 t226, .slice Ao55 t227.length co55] 30 (0, 0)) u6_6 hg (Kd.R_ne HO_7.out BK231.out (by decide))); replace HB := am (hb); have HO237 := am (ho); clear HO_7; clear ho hb hg hat))
       go_roundg k2
       case measure => have := HJ2.out; have := HK2.out; omega
       case rel => exact ⟨(y235), (wrap64 (x8_2 + 1)), (t225), (t226), (t227), (.slice Ao55 t227.length co55), q2, H', ⟨u6_43⟩, ⟨(by (with_reducible repeat (first | apply Kd.R_alloc | apply Kd.R_drewN | apply Kd.R_drew)); exact HO237.out)⟩, ⟨u6_37⟩, ⟨u6_2⟩, ⟨u6_5⟩, ⟨u6_15⟩, ⟨q1⟩⟩
     rw [if_neg c65] at H
     have c65b0 : (t223 == 1) = false := beq_eq_false_iff_ne.mpr c65
     have c65b1 : (t223 != 1) = true := bne_iff_ne.mpr c65
     (first | rw [c65b0] | (simp only [i64_w, i32_w]; rw [c65b0]) | skip)
     replace H := Option.bind_eq_some_iff.mp H
     obtain ⟨t238, A680, H⟩ := H
     have A68 := am A680
     clear A680
     by_cases c69 : 1 + t238.size ≤ 9223372036854775807
     rotate_left
     · rw [if_neg c69] at H
       exact absurd H (by simp)
     rw [if_pos c69] at H
     have c69b0 := eq_true c69
     have c69b1 : decide (1 + t238.size ≤ 9223372036854775807) = true := decide_eq_true c69
     try have c69b2 : (9223372036854775807 < 1 + t238.size) = False := eq_false (Nat.not_lt.2 c69)
     by_cases c70 : x7_2.length < 8796093022208
     rotate_left
     · rw [if_neg c70] at H
       exact absurd H (by simp)
     rw [if_pos c70] at H
     have LMc70 := am c70
     clear c70
     obtain ⟨y239, hy239⟩ : ∃ y_ : List ByteArray, y_ = (x7_2 ++ [(⟨#[33]⟩ : ByteArray) ++ t238]) := ⟨_, rfl⟩
     replace H : (spec_OnceEach.l0 k2 l1 y239 (wrap64 (x8_2 + 1)) t225 t226 t227) = some (r1, r2, r3, r4) := by first | (rw [hy239]; with_reducible exact H) | (have H2_ := (Option.bind_some _ _).symm.trans H; rw [hy239]; with_reducible exact H2_) | (have H2_ := (Option.bind_some _ _).symm.trans H; with_reducible exact H2_) | with_reducible exact H | (rw [hy239]; exact H) | exact H
     have Ny239 := am hy239
     clear hy239
     have H' := am H
     clear H
     go_wp2_with (first | ((with_reducible refine gate_callee (f := 31) rfl ?_); refine goesL_ (some 60) rfl rfl Tryd.func31 kr rfl #[.int .i64 t223] rfl q3 ?_; (with_reducible refine (spec_l01Num.calls k2 t223 t238 _ A68.out).mono ?_); rintro e w71 ⟨rfl, hb⟩; refine ⟨_, rfl, ?_⟩; replace HO_7 := am (Kd.R_below u6_1 hb); replace HO_218002 := am (Kd.R_below u6_11 hb); replace HO229 := am (Kd.R_below u6_12 hb); replace BK204 := am (blk_below (g := gb204) (o := .cells #[.int .i64 a0_0, .int .i64 a0_1, .slice A0_2 l0_2.length c0_2] 30 (0, 0)) u6_8 hb); replace BK205 := am (blk_below (g := gb205) (o := .cells #[.int .i64 0, .int .i64 0, .slice none 0 0] 30 (0, 0)) u6_9 hb); replace BK217 := am (blk_below (g := gb217) (o := .cells #[.int .i64 t225, .int .i64 t226, .slice Ao55 t227.length co55] 30 (0, 0)) u6_4 hb); replace BK222 := am (blk_below (g := gb222) (o := .cells #[.int .i64 ((rd_T50 l1 x8_2).f0), .int .i64 ((rd_T50 l1 x8_2).f1), .string ((rd_T50 l1 x8_2).f2)] 50 (0, 0)) u6_10 hb); replace BK231 := am (blk_below (g := gb231) (o := .cells #[.int .i64 t225, .int .i64 t226, .slice Ao55 t227.length co55] 30 (0, 0)) u6_6 hb); replace HB := am (below_step q1 hb); (try clear hb); (try clear hb2); (try clear hk); (try clear hi)) | ((with_reducible refine gate_builtin (b := .append) (xs := #[.tmp 58, .tmp 62]) rfl ?_); (try (refine gate_guard (by rfl) ?_; dsimp only)); at_builtin; refine Kd.R_append Kd.string (w0 := w) w.heap.size rfl (.tmp 58) (.tmp 62) 31 9 (.string ⟨#[]⟩) 16 rfl Tryd.underlying31 info9 rfl (by decide) (by omega) u7 x7_2 ((⟨#[33]⟩ : ByteArray) ++ t238) [.string ((⟨#[33]⟩ : ByteArray) ++ t238)] (fun _ => True) (fun _ => False) rfl rfl ?aP (fun _ hk => hk.elim) ?aF ?aO ?aB ?aS ?aL ?_; (case aP => exact rfl); (case aB => exact q1); (case aF => exact (fun _ _ => trivial)); (case aO => exact q7); (case aS => exact (below_size q1)); (case aL => have := LMc70.out; omega); intro v240 w72 ho hb hg hat; rw [← Ny239.out] at ho; replace HO_218002 := am (Kd.R_over' u6_28 (Kd.R_typed q7) (by decide) hg); replace BK204 := am (blk_grown (g := gb204) (o := .cells #[.int .i64 a0_0, .int .i64 a0_1, .slice A0_2 l0_2.length c0_2] 30 (0, 0)) u6_2 hg (Kd.R_ne HO_7.out BK204.out (by decide))); replace BK205 := am (blk_grown (g := gb205) (o := .cells #[.int .i64 0, .int .i64 0, .slice none 0 0] 30 (0, 0)) u6_5 hg (Kd.R_ne HO_7.out BK205.out (by decide))); replace BK217 := am (blk_grown (g := gb217) (o := .cells #[.int .i64 t225, .int .i64 t226, .slice Ao55 t227.length co55] 30 (0, 0)) u6_15 hg (Kd.R_ne HO_7.out BK217.out (by decide))); replace BK222 := am (blk_grown (g := gb222) (o := .cells #[.int .i64 ((rd_T50 l1 x8_2).f0), .int .i64 ((rd_T50 l1 x8_2).f1), .string ((rd_T50 l1 x8_2).f2)] 50 (0, 0)) u6_26 hg (Kd.R_ne HO_7.out BK222.out (by decide))); replace HO229 := am (Kd.R_over' u6_42 (Kd.R_typed q7) (by decide) hg); replace BK231 := am (blk_grown (g := gb231) (o := .cells #[.int .i64 t225, .int .i64 t226, .slice Ao55 t227.length co55] 30 (0, 0)) (by (with_reducible repeat (first | refine blk_drewN ?_ _ | refine blk_drew ?_ | refine blk_alloc ?_ _)); exact BK231.out) hg (Kd.R_ne HO_7.out BK231.out (by decide))); replace HB := am (hb); have HO241 := am (ho); clear HO_7; clear ho hb hg hat))
     go_roundg k2
     case measure => have := HJ2.out; have := HK2.out; omega
     case rel => exact ⟨(y239), (wrap64 (x8_2 + 1)), (t225), (t226), (t227), (.slice Ao55 t227.length co55), q2, H', ⟨u6_43⟩, ⟨(by (with_reducible repeat (first | apply Kd.R_alloc | apply Kd.R_drewN | apply Kd.R_drew)); exact HO241.out)⟩, ⟨u6_37⟩, ⟨u6_2⟩, ⟨u6_5⟩, ⟨u6_15⟩, ⟨q1⟩⟩

/-! ### laws_toSession: function 53 -/
def laws_toSession.f (a0_0 : Int) (a0_1 : Int) (a0_2 : Int) (a0_3 : ByteArray) : Option (Int × Int × Int × ByteArray) := some (a0_0, a0_1, a0_2, a0_3)
set_option maxHeartbeats 8000000 in
set_option maxRecDepth 100000 in
theorem laws_toSession.calls (a0_0 : Int) (a0_1 : Int) (a0_2 : Int) (a0_3 : ByteArray) (r1 : Int) (r2 : Int) (r3 : Int) (r4 : ByteArray) (w : World) (h : laws_toSession.f a0_0 a0_1 a0_2 a0_3 = some (r1, r2, r3, r4)) :
   Calls Tryd.prog 53 #[.agg #[.int .i64 a0_0, .int .i64 a0_1, .int .i64 a0_2, .string a0_3]] w fun e w' => e = .returned (.agg #[.int .i64 r1, .int .i64 r2, .int .i64 r3, .string r4]) ∧ Below w.heap.size w w' := by
 have hu74 := Tryd.underlying74
 have hu54 := Tryd.underlying54
 have HB := am (Below.refl w.heap.size w)
 have H : (some (a0_0, a0_1, a0_2, a0_3)) = some (r1, r2, r3, r4) := h
 clear h
 simp only [Option.some.injEq, Prod.mk.injEq] at H
 obtain ⟨rfl, rfl, rfl, rfl⟩ := H
 go_enter Tryd.func53, Tryd.ntmps53
 go_wp2_with (first | ((with_reducible refine gate_dst (N := 1) rfl ?_); refine box_event ?hg (N := 1) ?hd (cs := #[.int .i64 a0_0, .int .i64 a0_1, .int .i64 a0_2, .string a0_3]) (t := 74) ?hr ?_; (case hd => rfl); (case hg => rfl); (case hr => first | (go_simp; done) | (go_simp; rfl)); intro gb242 hg w2 hbox hb; have BK242 := am (hbox); have GW242 := am ((by rw [hg]; exact (below_size q1) : w.heap.size ≤ gb242)); have GE242 := am ((by rw [hg]; exact (below_size q1) : w.heap.size ≤ gb242)); replace HB := am (below_step q1 hb); clear hb hbox hg) | ((with_reducible refine gate_dst (N := 2) rfl ?_); refine box_event ?hg (N := 2) ?hd (cs := #[.int .i64 0, .int .i64 0, .int .i64 0, .string (⟨#[]⟩ : ByteArray)]) (t := 54) ?hr ?_; (case hd => rfl); (case hg => rfl); (case hr => first | (go_simp; done) | (go_simp; rfl)); intro gb243 hg w3 hbox hb; have BK243 := am (hbox); have GW243 := am ((by rw [hg]; exact (below_size q1) : w.heap.size ≤ gb243)); have GE243 := am ((by rw [hg]; exact (below_size q1) : w.heap.size ≤ gb243)); replace HB := am (below_step q1 hb); have NB242_243 := am ((by rw [hg]; exact Nat.ne_of_lt (blk_lt (g := gb242) (o := .cells #[.int .i64 a0_0, .int .i64 a0_1, .int .i64 a0_2, .string a0_3] 74 (0, 0)) u6_19) : gb242 ≠ gb243)); have NB243_242 := am ((by rw [hg]; exact Nat.ne_of_gt (blk_lt (g := gb242) (o := .cells #[.int .i64 a0_0, .int .i64 a0_1, .int .i64 a0_2, .string a0_3] 74 (0, 0)) u6_19) : gb243 ≠ gb242)); replace BK242 := am (blk_below (g := gb242) (o := .cells #[.int .i64 a0_0, .int .i64 a0_1, .int .i64 a0_2, .string a0_3] 74 (0, 0)) u6_19 hb); clear hb hbox hg) | ((with_reducible refine gate_dst (N := 3) rfl ?_); refine box_event ?hg (N := 3) ?hd (cs := #[.int .i64 0, .int .i64 0, .int .i64 0, .string (⟨#[]⟩ : ByteArray)]) (t := 54) ?hr ?_; (case hd => rfl); (case hg => rfl); (case hr => first | (go_simp; done) | (go_simp; rfl)); intro gb244 hg w4 hbox hb; have BK244 := am (hbox); have GW244 := am ((by rw [hg]; exact (below_size q1) : w.heap.size ≤ gb244)); have GE244 := am ((by rw [hg]; exact (below_size q1) : w.heap.size ≤ gb244)); replace HB := am (below_step q1 hb); have NB242_244 := am ((by rw [hg]; exact Nat.ne_of_lt (blk_lt (g := gb242) (o := .cells #[.int .i64 a0_0, .int .i64 a0_1, .int .i64 a0_2, .string a0_3] 74 (0, 0)) u6_19) : gb242 ≠ gb244)); have NB244_242 := am ((by rw [hg]; exact Nat.ne_of_gt (blk_lt (g := gb242) (o := .cells #[.int .i64 a0_0, .int .i64 a0_1, .int .i64 a0_2, .string a0_3] 74 (0, 0)) u6_19) : gb244 ≠ gb242)); replace BK242 := am (blk_below (g := gb242) (o := .cells #[.int .i64 a0_0, .int .i64 a0_1, .int .i64 a0_2, .string a0_3] 74 (0, 0)) u6_19 hb); have NB243_244 := am ((by rw [hg]; exact Nat.ne_of_lt (blk_lt (g := gb243) (o := .cells #[.int .i64 0, .int .i64 0, .int .i64 0, .string (⟨#[]⟩ : ByteArray)] 54 (0, 0)) u6_38) : gb243 ≠ gb244)); have NB244_243 := am ((by rw [hg]; exact Nat.ne_of_gt (blk_lt (g := gb243) (o := .cells #[.int .i64 0, .int .i64 0, .int .i64 0, .string (⟨#[]⟩ : ByteArray)] 54 (0, 0)) u6_38) : gb244 ≠ gb243)); replace BK243 := am (blk_below (g := gb243) (o := .cells #[.int .i64 0, .int .i64 0, .int .i64 0, .string (⟨#[]⟩ : ByteArray)] 54 (0, 0)) u6_38 hb); clear hb hbox hg; have hnb5 := NB242_243.out; have hnc5 := NB243_242.out; have hnb6 := NB242_244.out; have hnc6 := NB244_242.out; obtain ⟨hcz7_0, hcz7_1, hcz7_2, hcz7_3, hfz7_0, hfz7_1, hfz7_2, hfz7_3⟩ := bc4f w4 BK242.out; have hnb8 := NB244_243.out; have hnc8 := NB243_244.out; obtain ⟨hcz9_0, hcz9_1, hcz9_2, hcz9_3, hfz9_0, hfz9_1, hfz9_2, hfz9_3⟩ := bc4f w4 BK244.out; obtain ⟨hcz10_0, hcz10_1, hcz10_2, hcz10_3, hfz10_0, hfz10_1, hfz10_2, hfz10_3⟩ := bc4f w4 BK243.out))
 refine bodyPost_ret (results_cell_row rfl _ _ gb243 54 #[.int .i64 a0_0, .int .i64 a0_1, .int .i64 a0_2, .string a0_3] (0, 0) _ rfl (by (with_reducible repeat (first | refine blk_drewN ?_ _ | refine blk_drew ?_ | refine blk_alloc ?_ _)); refine blk_put (cs := #[.int .i64 a0_0, .int .i64 a0_1, .int .i64 a0_2, .string (⟨#[]⟩ : ByteArray)]) ?_ 3 _ rfl; (with_reducible repeat (first | refine blk_drewN ?_ _ | refine blk_drew ?_ | refine blk_alloc ?_ _)); refine blk_put (cs := #[.int .i64 a0_0, .int .i64 a0_1, .int .i64 0, .string (⟨#[]⟩ : ByteArray)]) ?_ 2 _ rfl; (with_reducible repeat (first | refine blk_drewN ?_ _ | refine blk_drew ?_ | refine blk_alloc ?_ _)); refine blk_put (cs := #[.int .i64 a0_0, .int .i64 0, .int .i64 0, .string (⟨#[]⟩ : ByteArray)]) ?_ 1 _ rfl; (with_reducible repeat (first | refine blk_drewN ?_ _ | refine blk_drew ?_ | refine blk_alloc ?_ _)); refine blk_put (cs := #[.int .i64 0, .int .i64 0, .int .i64 0, .string (⟨#[]⟩ : ByteArray)]) ?_ 0 _ rfl; (with_reducible repeat (first | refine blk_drewN ?_ _ | refine blk_drew ?_ | refine blk_alloc ?_ _)); refine blk_far ?_ NB243_244.out _; (with_reducible repeat (first | refine blk_drewN ?_ _ | refine blk_drew ?_ | refine blk_alloc ?_ _)); refine blk_far ?_ NB243_244.out _; (with_reducible repeat (first | refine blk_drewN ?_ _ | refine blk_drew ?_ | refine blk_alloc ?_ _)); refine blk_far ?_ NB243_244.out _; (with_reducible repeat (first | refine blk_drewN ?_ _ | refine blk_drew ?_ | refine blk_alloc ?_ _)); refine blk_far ?_ NB243_244.out _; (with_reducible repeat (first | refine blk_drewN ?_ _ | refine blk_drew ?_ | refine blk_alloc ?_ _)); exact BK243.out) Tryd.underlying54 rfl kr) rfl ?_
 exact ⟨er, (by repeat (first | (with_reducible first | exact HB.out | apply below_alloc | apply pw_below_drewN | apply below_drew1 | refine below_set ?_ GE242.out | refine below_set ?_ GE243.out | refine below_set ?_ GE244.out) | exact HB.out))⟩

/-! ### laws_toSessionS: function 32 -/
def laws_toSessionS.l0 : Nat → List (S74) → List (S54) → Int → Option ((List (S54)))
 | 0, _, _, _ => none
 | k + 1, x0, x3, x4 => if x4 < (x0.length : Int) then (if 0 ≤ x4 then ((laws_toSession.f ((rd_T74 x0 x4).f0) ((rd_T74 x0 x4).f1) ((rd_T74 x0 x4).f2) ((rd_T74 x0 x4).f3)).bind fun bt249 => (if x4 < (x3.length : Int) then (laws_toSessionS.l0 k x0 (x3.set (x4 : Int).toNat (⟨bt249.1, bt249.2.1, bt249.2.2.1, bt249.2.2.2⟩ : S54)) (wrap64 (x4 + 1))) else (none))) else (none)) else (some x3)
def laws_toSessionS.f (k : Nat) (l0 : List (S74)) : Option ((List (S54))) := if 0 ≤ (l0.length : Int) then (if ((l0.length : Int) : Int).toNat ≤ 7036874417766 then (laws_toSessionS.l0 k l0 (List.replicate ((l0.length : Int) : Int).toNat z54) 0) else (none)) else (none)
theorem laws_toSessionS.mono_l : ∀ k, (∀ y0 y1 y2, LeO (laws_toSessionS.l0 k y0 y1 y2) (laws_toSessionS.l0 (k + 1) y0 y1 y2))
 | 0 => fun _ _ _ r h => by simp [laws_toSessionS.l0] at h
 | k + 1 => by
   have ih0 := laws_toSessionS.mono_l k
   · intro y0 y1 y2
     unfold laws_toSessionS.l0
     repeat' first
     | (with_reducible exact ih0 _ _ _)
     | (with_reducible exact LeO.refl _)
     | (with_reducible exact LeO.none _)
     | (with_reducible refine LeO.ite ?_ ?_)
     | (with_reducible refine LeO.bind ?_ (fun _ => ?_))
     | exact ih0 _ _ _
     | exact LeO.none _
     | refine LeO.ite ?_ ?_
     | refine LeO.bind ?_ (fun _ => ?_)
theorem laws_toSessionS.mono : ∀ a0 k, LeO (laws_toSessionS.f k a0) (laws_toSessionS.f (k + 1) a0) := by
 intro a0 k
 have ih0 := laws_toSessionS.mono_l k
 unfold laws_toSessionS.f
 repeat' first
     | (with_reducible exact ih0 _ _ _)
     | (with_reducible exact LeO.refl _)
     | (with_reducible exact LeO.none _)
     | (with_reducible refine LeO.ite ?_ ?_)
     | (with_reducible refine LeO.bind ?_ (fun _ => ?_))
     | exact ih0 _ _ _
     | exact LeO.none _
     | refine LeO.ite ?_ ?_
     | refine LeO.bind ?_ (fun _ => ?_)
set_option maxHeartbeats 8000000 in
set_option maxRecDepth 100000 in
theorem laws_toSessionS.calls (k : Nat) (A0 : Option Addr) (c0 : Nat) (l0 : List (S74)) (r : List (S54)) (w : World) (hr0 : Kd.C k74 w A0 l0.length l0) (hc0 : l0.length ≤ c0) (h : laws_toSessionS.f k l0 = some r) :
   Calls Tryd.prog 32 #[.slice A0 l0.length c0] w fun e w' => ∃ v0_ : Value, e = .returned (v0_) ∧ Kd.R k54 54 w' w.heap.size (fun _ => True) v0_ r ∧ Below w.heap.size w w' := by
 have hu74 := Tryd.underlying74
 have hu54 := Tryd.underlying54
 have HR0 := am hr0
 have HC0 := am hc0
 clear hr0 hc0
 have HB := am (Below.refl w.heap.size w)
 have H : (if 0 ≤ (l0.length : Int) then (if ((l0.length : Int) : Int).toNat ≤ 7036874417766 then (laws_toSessionS.l0 k l0 (List.replicate ((l0.length : Int) : Int).toNat z54) 0) else (none)) else (none)) = some r := h
 clear h
 by_cases c2 : 0 ≤ (l0.length : Int)
 rotate_left
 · rw [if_neg c2] at H
   exact absurd H (by simp)
 rw [if_pos c2] at H
 have c2b0 := eq_true c2
 have c2b1 : decide (0 ≤ (l0.length : Int)) = true := decide_eq_true c2
 clear c2
 by_cases c3 : ((l0.length : Int) : Int).toNat ≤ 7036874417766
 rotate_left
 · rw [if_neg c3] at H
   exact absurd H (by simp)
 rw [if_pos c3] at H
 have c3b0 := eq_true c3
 have c3b1 : decide (((l0.length : Int) : Int).toNat ≤ 7036874417766) = true := decide_eq_true c3
 clear c3
 obtain ⟨y245, hy245⟩ : ∃ y_ : List (S54), y_ = (List.replicate ((l0.length : Int) : Int).toNat z54) := ⟨_, rfl⟩
 replace H : (laws_toSessionS.l0 k l0 y245 0) = some r := by first | (rw [hy245]; with_reducible exact H) | (have H2_ := (Option.bind_some _ _).symm.trans H; rw [hy245]; with_reducible exact H2_) | (have H2_ := (Option.bind_some _ _).symm.trans H; with_reducible exact H2_) | with_reducible exact H | (rw [hy245]; exact H) | exact H
 have Ny245 := am hy245
 clear hy245
 have H' := am H
 clear H
 go_enter Tryd.func32, Tryd.ntmps32
 go_wp2_with (first | ((with_reducible refine gate_dst (N := 7) rfl ?_); refine Kd.R_make k54 _ 54 rfl (N := 7) rfl 28 _ _ rfl (l0.length : Int) rfl rfl Tryd.underlying28 (.agg #[(.int .i64 0), (.int .i64 0), (.int .i64 0), (.string ⟨#[]⟩)]) 40 info54 rfl (by decide) (by omega) z54 (ok := fun _ => True) (okp := fun _ => True) (k54_mkM _ _ _ z54 ) (fun _ hk => hk) trivial (of_decide_eq_true q0) (Nat.le_trans (Nat.mul_le_mul_right _ (of_decide_eq_true q0 : (l0.length : Int).toNat ≤ 7036874417766)) (by omega)) (Below.refl _ _) (Nat.le_refl _) ?_; intro v246 w4 ho5 hb hg_ hnew_; clear hg_ hnew_; (first | rw [← Ny245.out] at ho5 | (simp only [Int.reduceToNat] at ho5; rw [← Ny245.out] at ho5)); have HO247 := am (Kd.R_lower ho5 (below_size q1)); replace HB := am (below_step q1 hb); clear hb ho5))
 go_loopg [4] k (fun kq v4 w' => ∃ (x3_1 : List (S54)) (x4_1 : Int), v4 = .int .i64 x4_1 ∧ Aside0 (laws_toSessionS.l0 kq l0 x3_1 x4_1 = some r) ∧ Aside0 (kq ≤ k) ∧ Aside0 (Kd.R k54 54 w' w.heap.size (fun _ => True) v246 x3_1) ∧ Aside0 (Below w.heap.size w w'))
 case atStart => exact ⟨(y245), (0), q2, H', ⟨Nat.le_refl _⟩, ⟨(by (with_reducible repeat (first | apply Kd.R_alloc | apply Kd.R_drewN | apply Kd.R_drew)); exact HO247.out)⟩, ⟨q1⟩⟩
 clear H'
 try clear c2
 try clear c2b0
 try clear c2b1
 try clear c3
 try clear c3b0
 try clear c3b1
 obtain ⟨x3_1, x4_1, rfl, HA, HK1, HO_3, HB⟩ := hrel
 cases gk with
 | zero => exact absurd HA.out (by simp [laws_toSessionS.l0])
 | succ k1 =>
   have H := HA.out
   clear HA
   simp only [laws_toSessionS.l0] at H
   by_cases c6 : x4_1 < (l0.length : Int)
   rotate_left
   · rw [if_neg c6] at H
     have c6b0 : decide (x4_1 < (l0.length : Int)) = false := decide_eq_false c6
     clear c6
     obtain rfl := sj H
     go_wp2
     go_ret
     exact ⟨_, er, q6, q1⟩
   rw [if_pos c6] at H
   have c6b0 : decide (x4_1 < (l0.length : Int)) = true := decide_eq_true c6
   clear c6
   by_cases c7 : 0 ≤ x4_1
   rotate_left
   · rw [if_neg c7] at H
     exact absurd H (by simp)
   rw [if_pos c7] at H
   have c7b0 : decide (0 ≤ x4_1) = true := decide_eq_true c7
   clear c7
   replace H := Option.bind_eq_some_iff.mp H
   obtain ⟨⟨t249, t250, t251, t252⟩, A80, H⟩ := H
   (try dsimp only at H)
   have A8 := am A80
   clear A80
   by_cases c9 : x4_1 < (x3_1.length : Int)
   rotate_left
   · rw [if_neg c9] at H
     exact absurd H (by simp)
   rw [if_pos c9] at H
   have c9b0 : decide (x4_1 < (x3_1.length : Int)) = true := decide_eq_true c9
   clear c9
   obtain ⟨y253, hy253⟩ : ∃ y_ : List (S54), y_ = (x3_1.set (x4_1 : Int).toNat (⟨t249, t250, t251, t252⟩ : S54)) := ⟨_, rfl⟩
   replace H : (laws_toSessionS.l0 k1 l0 y253 (wrap64 (x4_1 + 1))) = some r := by first | (rw [hy253]; with_reducible exact H) | (have H2_ := (Option.bind_some _ _).symm.trans H; rw [hy253]; with_reducible exact H2_) | (have H2_ := (Option.bind_some _ _).symm.trans H; with_reducible exact H2_) | with_reducible exact H | (rw [hy253]; exact H) | exact H
   have Ny253 := am hy253
   clear hy253
   have H' := am H
   clear H
   have p248 : 0 ≤ (x4_1 : Int) := of_decide_eq_true q0
   have q248 : x4_1 < (l0.length : Int) := of_decide_eq_true q0
   obtain ⟨ad248, e248, hx248_0, hx248_1, hx248_2, hx248_3⟩ := at_T74 HR0.out x4_1 p248 q248
   cases e248
   replace hx248_0 := cm HB.out hx248_0
   replace hx248_1 := cm HB.out hx248_1
   replace hx248_2 := cm HB.out hx248_2
   replace hx248_3 := cm HB.out hx248_3
   replace p248 := eq_true p248
   replace q248 := eq_true q248
   go_wp2_with (first | ((with_reducible refine gate_callee (f := 53) rfl ?_); refine goesL_ (some 20) rfl rfl Tryd.func53 kr rfl #[.agg #[.int .i64 ((rd_T74 l0 x4_1).f0), .int .i64 ((rd_T74 l0 x4_1).f1), .int .i64 ((rd_T74 l0 x4_1).f2), .string ((rd_T74 l0 x4_1).f3)]] rfl q3 ?_; (with_reducible refine (laws_toSession.calls ((rd_T74 l0 x4_1).f0) ((rd_T74 l0 x4_1).f1) ((rd_T74 l0 x4_1).f2) ((rd_T74 l0 x4_1).f3) t249 t250 t251 t252 _ A8.out).mono ?_); rintro e w11 ⟨rfl, hb⟩; refine ⟨_, rfl, ?_⟩; replace HO_3 := am (Kd.R_below q6 hb); replace HB := am (below_step q1 hb); (try clear hb); (try clear hb2); (try clear hk); (try clear hi); have p10 : 0 ≤ (x4_1 : Int) := of_decide_eq_true q0; have q10 : (x4_1 : Int) < ((x3_1.length : Int) : Int) := of_decide_eq_true q0; obtain ⟨go10, co10, eo10, gb10, gl10, cl10, HG10⟩ := Kd.R_form HO_3.out (by omega); (first | cases eo10 | (injection eo10 with ea_ en_ ec_; (first | subst ea_ | (injection ea_ with ea_; subst ea_)); subst ec_; clear en_)); have GB10 := am gb10; have GG10 := am HG10; clear gb10 gl10 HG10; obtain ⟨ce10, hcl10, hM10, hcc10, hfr10⟩ := Kd.R_elem HO_3.out z54 (x4_1 : Int) p10 q10; obtain rfl := k54_openM hM10; have hx10_0 : w11.cell? ⟨go10, (x4_1 : Int).toNat * 4, none⟩ = some (.int .i64 ((rd_T54 x3_1 x4_1).f0)) := hcc10 0 _ rfl; have hx10_1 : w11.cell? ⟨go10, (x4_1 : Int).toNat * 4 + 1, none⟩ = some (.int .i64 ((rd_T54 x3_1 x4_1).f1)) := hcc10 1 _ rfl; have hx10_2 : w11.cell? ⟨go10, (x4_1 : Int).toNat * 4 + 2, none⟩ = some (.int .i64 ((rd_T54 x3_1 x4_1).f2)) := hcc10 2 _ rfl; have hx10_3 : w11.cell? ⟨go10, (x4_1 : Int).toNat * 4 + 3, none⟩ = some (.string ((rd_T54 x3_1 x4_1).f3)) := hcc10 3 _ rfl; have hf10_0 : w11.frozen? ⟨go10, (x4_1 : Int).toNat * 4, none⟩ = false := hfr10 0; have hf10_1 : w11.frozen? ⟨go10, (x4_1 : Int).toNat * 4 + 1, none⟩ = false := hfr10 1; have hf10_2 : w11.frozen? ⟨go10, (x4_1 : Int).toNat * 4 + 2, none⟩ = false := hfr10 2; have hf10_3 : w11.frozen? ⟨go10, (x4_1 : Int).toNat * 4 + 3, none⟩ = false := hfr10 3; clear hcl10 hcc10 hfr10 hM10; replace p10 := eq_true p10; replace q10 := eq_true q10; have HX12 := am (show Kd.R k54 54 w11 w.heap.size (fun _ => True) (.slice (some ⟨go10, 0, none⟩) x3_1.length co10) x3_1 from q6); obtain ⟨ce12, hcl12, hM12, hcc12, hfr12⟩ := Kd.R_elem HX12.out z54 (x4_1 : Int) (of_decide_eq_true q0) (by have h_ : (x4_1 : Int) < ((x3_1.length : Int) : Int) := of_decide_eq_true q0; first | exact h_ | (have e_ := (Kd.R_reads' HO_3.out).1; omega) | simpa using h_); obtain rfl := k54_openM hM12; have HP12 := Kd.R_seg HX12.out (x4_1 : Int) (of_decide_eq_true q0) (by have h_ : (x4_1 : Int) < ((x3_1.length : Int) : Int) := of_decide_eq_true q0; first | exact h_ | (have e_ := (Kd.R_reads' HO_3.out).1; omega) | simpa using h_) (seg := [.int .i64 t249, .int .i64 t250, .int .i64 t251, .string t252]) (j := 0) hcl12 hcc12 (show 4 ≤ 4 from by decide) (x' := (⟨t249, t250, t251, t252⟩ : S54)) (k54_mkM _ _ _ (⟨t249, t250, t251, t252⟩ : S54) ) (fun _ hk => hk); have hx12_0 := hcc12 0 _ rfl; (try simp only [show (k54).sz = 4 from rfl, Nat.mul_one, Nat.add_zero] at hx12_0); have hf12_0 := hfr12 0; (try simp only [show (k54).sz = 4 from rfl, Nat.mul_one, Nat.add_zero] at hf12_0); have hx12_1 := hcc12 1 _ rfl; (try simp only [show (k54).sz = 4 from rfl, Nat.mul_one, Nat.add_zero] at hx12_1); have hf12_1 := hfr12 1; (try simp only [show (k54).sz = 4 from rfl, Nat.mul_one, Nat.add_zero] at hf12_1); have hx12_2 := hcc12 2 _ rfl; (try simp only [show (k54).sz = 4 from rfl, Nat.mul_one, Nat.add_zero] at hx12_2); have hf12_2 := hfr12 2; (try simp only [show (k54).sz = 4 from rfl, Nat.mul_one, Nat.add_zero] at hf12_2); have hx12_3 := hcc12 3 _ rfl; (try simp only [show (k54).sz = 4 from rfl, Nat.mul_one, Nat.add_zero] at hx12_3); have hf12_3 := hfr12 3; (try simp only [show (k54).sz = 4 from rfl, Nat.mul_one, Nat.add_zero] at hf12_3); clear hcl12 hcc12 hfr12 hM12) | ((with_reducible refine gate_store (t := 54) (p := 21) rfl ?_); refine store_event (t := 54) (p := 21) (v := ?vo_w13) (w1 := ((((w11.setCell ⟨go10, (x4_1 : Int).toNat * 4, none⟩ (.int .i64 t249)).setCell ⟨go10, (x4_1 : Int).toNat * 4 + 1, none⟩ (.int .i64 t250)).setCell ⟨go10, (x4_1 : Int).toNat * 4 + 2, none⟩ (.int .i64 t251)).setCell ⟨go10, (x4_1 : Int).toNat * 4 + 3, none⟩ (.string t252))) ?hg ?ho ?hn ?hr ?_; (case ho => rfl); (case hg => rfl); (case hn => rfl); (case hr => first | (go_simp; done) | (go_simp; rfl)); intro w13 hw; have hg : w11.grownBy w13 (some go10) := (by rw [hw]; exact HP12.2); have hp_ : Kd.R k54 54 w13 w.heap.size (fun _ => True) (.slice (some ⟨go10, 0, none⟩) x3_1.length co10) y253 := (by rw [hw, Ny253.out]; exact HP12.1); clear HP12; replace HO_3 := am (hp_); replace HB := am ((by rw [hw]; exact below_set (below_set (below_set (below_set (HB.out) GB10.out) GB10.out) GB10.out) GB10.out : Below w.heap.size w w13)); clear hg hw hp_))
   go_roundg k1
   case measure => have := HK1.out; omega
   case rel => exact ⟨(y253), (wrap64 (x4_1 + 1)), q2, H', ⟨by have := HK1.out; omega⟩, ⟨q6⟩, ⟨q1⟩⟩

/-! ### laws_toSessions: function 9 -/
def laws_toSessions.f (k : Nat) (a0_0 : Int) (a0_1 : Int) (l0_2 : List (S74)) : Option (Int × Int × (List (S54))) := (laws_toSessionS.f k l0_2).bind fun t257 => (some (a0_0, a0_1, t257))
theorem laws_toSessions.mono : ∀ a0 a1 a2 k, LeO (laws_toSessions.f k a0 a1 a2) (laws_toSessions.f (k + 1) a0 a1 a2) := by
 intro a0 a1 a2 k
 unfold laws_toSessions.f
 repeat' first
     | (with_reducible exact laws_toSessionS.mono _ _)
     | (with_reducible exact LeO.refl _)
     | (with_reducible exact LeO.none _)
     | (with_reducible refine LeO.ite ?_ ?_)
     | (with_reducible refine LeO.bind ?_ (fun _ => ?_))
     | exact laws_toSessionS.mono _ _
     | exact LeO.none _
     | refine LeO.ite ?_ ?_
     | refine LeO.bind ?_ (fun _ => ?_)
set_option maxHeartbeats 8000000 in
set_option maxRecDepth 100000 in
theorem laws_toSessions.calls (k : Nat) (a0_0 : Int) (a0_1 : Int) (A0_2 : Option Addr) (c0_2 : Nat) (l0_2 : List (S74)) (r1 : Int) (r2 : Int) (r3 : List (S54)) (w : World) (hr0_2 : Kd.C k74 w A0_2 l0_2.length l0_2) (hc0_2 : l0_2.length ≤ c0_2) (h : laws_toSessions.f k a0_0 a0_1 l0_2 = some (r1, r2, r3)) :
   Calls Tryd.prog 9 #[.agg #[.int .i64 a0_0, .int .i64 a0_1, .slice A0_2 l0_2.length c0_2]] w fun e w' => ∃ v2_ : Value, e = .returned (.agg #[.int .i64 r1, .int .i64 r2, v2_]) ∧ Kd.R k54 54 w' w.heap.size (fun _ => True) v2_ r3 ∧ Below w.heap.size w w' := by
 have hu24 := Tryd.underlying24
 have hu30 := Tryd.underlying30
 have HR0_2 := am hr0_2
 have HC0_2 := am hc0_2
 clear hr0_2 hc0_2
 have HB := am (Below.refl w.heap.size w)
 have H : ((laws_toSessionS.f k l0_2).bind fun t257 => (some (a0_0, a0_1, t257))) = some (r1, r2, r3) := h
 clear h
 replace H := Option.bind_eq_some_iff.mp H
 obtain ⟨t257, A20, H⟩ := H
 replace H : (some (a0_0, a0_1, t257)) = some (r1, r2, r3) := H
 have A2 := am A20
 clear A20
 simp only [Option.some.injEq, Prod.mk.injEq] at H
 obtain ⟨rfl, rfl, rfl⟩ := H
 go_enter Tryd.func9, Tryd.ntmps9
 go_wp2_with (first | ((with_reducible refine gate_dst (N := 1) rfl ?_); refine box_event ?hg (N := 1) ?hd (cs := #[.int .i64 a0_0, .int .i64 a0_1, .slice A0_2 l0_2.length c0_2]) (t := 24) ?hr ?_; (case hd => rfl); (case hg => rfl); (case hr => first | (go_simp; done) | (go_simp; rfl)); intro gb254 hg w3 hbox hb; have BK254 := am (hbox); have GW254 := am ((by rw [hg]; exact (below_size q1) : w.heap.size ≤ gb254)); have GE254 := am ((by rw [hg]; exact (below_size q1) : w.heap.size ≤ gb254)); replace HB := am (below_step q1 hb); clear hb hbox hg) | ((with_reducible refine gate_dst (N := 2) rfl ?_); refine box_event ?hg (N := 2) ?hd (cs := #[.int .i64 0, .int .i64 0, .slice none 0 0]) (t := 30) ?hr ?_; (case hd => rfl); (case hg => rfl); (case hr => first | (go_simp; done) | (go_simp; rfl)); intro gb255 hg w4 hbox hb; have BK255 := am (hbox); have GW255 := am ((by rw [hg]; exact (below_size q1) : w.heap.size ≤ gb255)); have GE255 := am ((by rw [hg]; exact (below_size q1) : w.heap.size ≤ gb255)); replace HB := am (below_step q1 hb); have NB254_255 := am ((by rw [hg]; exact Nat.ne_of_lt (blk_lt (g := gb254) (o := .cells #[.int .i64 a0_0, .int .i64 a0_1, .slice A0_2 l0_2.length c0_2] 24 (0, 0)) u6_20) : gb254 ≠ gb255)); have NB255_254 := am ((by rw [hg]; exact Nat.ne_of_gt (blk_lt (g := gb254) (o := .cells #[.int .i64 a0_0, .int .i64 a0_1, .slice A0_2 l0_2.length c0_2] 24 (0, 0)) u6_20) : gb255 ≠ gb254)); replace BK254 := am (blk_below (g := gb254) (o := .cells #[.int .i64 a0_0, .int .i64 a0_1, .slice A0_2 l0_2.length c0_2] 24 (0, 0)) u6_20 hb); clear hb hbox hg) | ((with_reducible refine gate_dst (N := 3) rfl ?_); refine box_event ?hg (N := 3) ?hd (cs := #[.int .i64 0, .int .i64 0, .slice none 0 0]) (t := 30) ?hr ?_; (case hd => rfl); (case hg => rfl); (case hr => first | (go_simp; done) | (go_simp; rfl)); intro gb256 hg w5 hbox hb; have BK256 := am (hbox); have GW256 := am ((by rw [hg]; exact (below_size q1) : w.heap.size ≤ gb256)); have GE256 := am ((by rw [hg]; exact (below_size q1) : w.heap.size ≤ gb256)); replace HB := am (below_step q1 hb); have NB254_256 := am ((by rw [hg]; exact Nat.ne_of_lt (blk_lt (g := gb254) (o := .cells #[.int .i64 a0_0, .int .i64 a0_1, .slice A0_2 l0_2.length c0_2] 24 (0, 0)) u6_20) : gb254 ≠ gb256)); have NB256_254 := am ((by rw [hg]; exact Nat.ne_of_gt (blk_lt (g := gb254) (o := .cells #[.int .i64 a0_0, .int .i64 a0_1, .slice A0_2 l0_2.length c0_2] 24 (0, 0)) u6_20) : gb256 ≠ gb254)); replace BK254 := am (blk_below (g := gb254) (o := .cells #[.int .i64 a0_0, .int .i64 a0_1, .slice A0_2 l0_2.length c0_2] 24 (0, 0)) u6_20 hb); have NB255_256 := am ((by rw [hg]; exact Nat.ne_of_lt (blk_lt (g := gb255) (o := .cells #[.int .i64 0, .int .i64 0, .slice none 0 0] 30 (0, 0)) u6_39) : gb255 ≠ gb256)); have NB256_255 := am ((by rw [hg]; exact Nat.ne_of_gt (blk_lt (g := gb255) (o := .cells #[.int .i64 0, .int .i64 0, .slice none 0 0] 30 (0, 0)) u6_39) : gb256 ≠ gb255)); replace BK255 := am (blk_below (g := gb255) (o := .cells #[.int .i64 0, .int .i64 0, .slice none 0 0] 30 (0, 0)) u6_39 hb); clear hb hbox hg; have hnb6 := NB254_255.out; have hnc6 := NB255_254.out; have hnb7 := NB254_256.out; have hnc7 := NB256_254.out; obtain ⟨hcz8_0, hcz8_1, hcz8_2, hfz8_0, hfz8_1, hfz8_2⟩ := bc3f w5 BK254.out; have hnb9 := NB256_255.out; have hnc9 := NB255_256.out; obtain ⟨hcz10_0, hcz10_1, hcz10_2, hfz10_0, hfz10_1, hfz10_2⟩ := bc3f w5 BK256.out) | ((with_reducible refine gate_callee (f := 32) rfl ?_); refine goesL_ (some 12) rfl rfl Tryd.func32 kr rfl #[.slice A0_2 l0_2.length c0_2] rfl q3 ?_; (with_reducible refine (laws_toSessionS.calls k _ _ l0_2 t257 _ ?side1 ?side2 A2.out).mono ?_); (case side1 => exact (by exact Kd.C_below HR0_2.out q1)); (case side2 => exact HC0_2.out); rintro e w11 ⟨v258, rfl, ho0, hb⟩; refine ⟨_, rfl, ?_⟩; have HO259 := am (Kd.R_lower ho0 (below_size q1)); replace BK254 := am (blk_below (g := gb254) (o := .cells #[.int .i64 a0_0, .int .i64 a0_1, .slice A0_2 l0_2.length c0_2] 24 (0, 0)) (by (with_reducible repeat (first | refine blk_drewN ?_ _ | refine blk_drew ?_ | refine blk_alloc ?_ _)); refine blk_far ?_ NB254_256.out _; (with_reducible repeat (first | refine blk_drewN ?_ _ | refine blk_drew ?_ | refine blk_alloc ?_ _)); refine blk_far ?_ NB254_256.out _; (with_reducible repeat (first | refine blk_drewN ?_ _ | refine blk_drew ?_ | refine blk_alloc ?_ _)); exact BK254.out) hb); replace BK255 := am (blk_below (g := gb255) (o := .cells #[.int .i64 0, .int .i64 0, .slice none 0 0] 30 (0, 0)) (by (with_reducible repeat (first | refine blk_drewN ?_ _ | refine blk_drew ?_ | refine blk_alloc ?_ _)); refine blk_far ?_ NB255_256.out _; (with_reducible repeat (first | refine blk_drewN ?_ _ | refine blk_drew ?_ | refine blk_alloc ?_ _)); refine blk_far ?_ NB255_256.out _; (with_reducible repeat (first | refine blk_drewN ?_ _ | refine blk_drew ?_ | refine blk_alloc ?_ _)); exact BK255.out) hb); replace BK256 := am (blk_below (g := gb256) (o := .cells #[.int .i64 a0_0, .int .i64 a0_1, .slice none 0 0] 30 (0, 0)) (by (with_reducible repeat (first | refine blk_drewN ?_ _ | refine blk_drew ?_ | refine blk_alloc ?_ _)); refine blk_put (cs := #[.int .i64 a0_0, .int .i64 0, .slice none 0 0]) ?_ 1 _ rfl; (with_reducible repeat (first | refine blk_drewN ?_ _ | refine blk_drew ?_ | refine blk_alloc ?_ _)); refine blk_put (cs := #[.int .i64 0, .int .i64 0, .slice none 0 0]) ?_ 0 _ rfl; (with_reducible repeat (first | refine blk_drewN ?_ _ | refine blk_drew ?_ | refine blk_alloc ?_ _)); exact BK256.out) hb); replace HB := am (below_step q1 hb); (try clear hb); (try clear hb2); (try clear hk); (try clear hi); (try clear ho0); obtain ⟨Ao12, co12, eo12⟩ := Kd.R_slice HO259.out; subst eo12; obtain ⟨hcz13_0, hcz13_1, hcz13_2, hfz13_0, hfz13_1, hfz13_2⟩ := bc3f w11 BK256.out; obtain ⟨hcz14_0, hcz14_1, hcz14_2, hfz14_0, hfz14_1, hfz14_2⟩ := bc3f w11 BK255.out))
 refine bodyPost_ret (results_cell_row rfl _ _ gb255 30 #[.int .i64 a0_0, .int .i64 a0_1, .slice Ao12 t257.length co12] (0, 0) _ rfl (by (with_reducible repeat (first | refine blk_drewN ?_ _ | refine blk_drew ?_ | refine blk_alloc ?_ _)); refine blk_put (cs := #[.int .i64 a0_0, .int .i64 a0_1, .slice none 0 0]) ?_ 2 _ rfl; (with_reducible repeat (first | refine blk_drewN ?_ _ | refine blk_drew ?_ | refine blk_alloc ?_ _)); refine blk_put (cs := #[.int .i64 a0_0, .int .i64 0, .slice none 0 0]) ?_ 1 _ rfl; (with_reducible repeat (first | refine blk_drewN ?_ _ | refine blk_drew ?_ | refine blk_alloc ?_ _)); refine blk_put (cs := #[.int .i64 0, .int .i64 0, .slice none 0 0]) ?_ 0 _ rfl; (with_reducible repeat (first | refine blk_drewN ?_ _ | refine blk_drew ?_ | refine blk_alloc ?_ _)); refine blk_far ?_ NB255_256.out _; (with_reducible repeat (first | refine blk_drewN ?_ _ | refine blk_drew ?_ | refine blk_alloc ?_ _)); exact BK255.out) Tryd.underlying30 rfl kr) rfl ?_
 exact ⟨_, er, (by (with_reducible repeat (first | apply Kd.R_alloc | apply Kd.R_drewN | apply Kd.R_drew)); exact Kd.R_mono (Kd.R_far (p := ⟨gb255, 2, none⟩) (Kd.R_far (p := ⟨gb255, 1, none⟩) (Kd.R_far (p := ⟨gb255, 0, none⟩) (Kd.R_far (p := ⟨gb256, 2, none⟩) (Kd.R_types (Kd.R_types HO259.out BK256.out (by decide)) BK255.out (by decide)) (fun _ hk => hk.1.2) (.slice Ao12 t257.length co12)) (fun _ hk => hk.2) (.int .i64 a0_0)) (fun _ hk => hk.2) (.int .i64 a0_1)) (fun _ hk => hk.2) (.slice Ao12 t257.length co12)) (fun _ hk => trivial)), q1⟩

/-! ### laws_toSessionCall: function 33 -/
def laws_toSessionCall.f (a0_0 : Int) (a0_1 : Int) (a0_2 : ByteArray) : Option (Int × Int × ByteArray) := some (a0_0, a0_1, a0_2)
set_option maxHeartbeats 8000000 in
set_option maxRecDepth 100000 in
theorem laws_toSessionCall.calls (a0_0 : Int) (a0_1 : Int) (a0_2 : ByteArray) (r1 : Int) (r2 : Int) (r3 : ByteArray) (w : World) (h : laws_toSessionCall.f a0_0 a0_1 a0_2 = some (r1, r2, r3)) :
   Calls Tryd.prog 33 #[.agg #[.int .i64 a0_0, .int .i64 a0_1, .string a0_2]] w fun e w' => e = .returned (.agg #[.int .i64 r1, .int .i64 r2, .string r3]) ∧ Below w.heap.size w w' := by
 have hu59 := Tryd.underlying59
 have hu50 := Tryd.underlying50
 have HB := am (Below.refl w.heap.size w)
 have H : (some (a0_0, a0_1, a0_2)) = some (r1, r2, r3) := h
 clear h
 simp only [Option.some.injEq, Prod.mk.injEq] at H
 obtain ⟨rfl, rfl, rfl⟩ := H
 go_enter Tryd.func33, Tryd.ntmps33
 go_wp2_with (first | ((with_reducible refine gate_dst (N := 1) rfl ?_); refine box_event ?hg (N := 1) ?hd (cs := #[.int .i64 a0_0, .int .i64 a0_1, .string a0_2]) (t := 59) ?hr ?_; (case hd => rfl); (case hg => rfl); (case hr => first | (go_simp; done) | (go_simp; rfl)); intro gb260 hg w2 hbox hb; have BK260 := am (hbox); have GW260 := am ((by rw [hg]; exact (below_size q1) : w.heap.size ≤ gb260)); have GE260 := am ((by rw [hg]; exact (below_size q1) : w.heap.size ≤ gb260)); replace HB := am (below_step q1 hb); clear hb hbox hg) | ((with_reducible refine gate_dst (N := 2) rfl ?_); refine box_event ?hg (N := 2) ?hd (cs := #[.int .i64 0, .int .i64 0, .string (⟨#[]⟩ : ByteArray)]) (t := 50) ?hr ?_; (case hd => rfl); (case hg => rfl); (case hr => first | (go_simp; done) | (go_simp; rfl)); intro gb261 hg w3 hbox hb; have BK261 := am (hbox); have GW261 := am ((by rw [hg]; exact (below_size q1) : w.heap.size ≤ gb261)); have GE261 := am ((by rw [hg]; exact (below_size q1) : w.heap.size ≤ gb261)); replace HB := am (below_step q1 hb); have NB260_261 := am ((by rw [hg]; exact Nat.ne_of_lt (blk_lt (g := gb260) (o := .cells #[.int .i64 a0_0, .int .i64 a0_1, .string a0_2] 59 (0, 0)) u6_21) : gb260 ≠ gb261)); have NB261_260 := am ((by rw [hg]; exact Nat.ne_of_gt (blk_lt (g := gb260) (o := .cells #[.int .i64 a0_0, .int .i64 a0_1, .string a0_2] 59 (0, 0)) u6_21) : gb261 ≠ gb260)); replace BK260 := am (blk_below (g := gb260) (o := .cells #[.int .i64 a0_0, .int .i64 a0_1, .string a0_2] 59 (0, 0)) u6_21 hb); clear hb hbox hg) | ((with_reducible refine gate_dst (N := 3) rfl ?_); refine box_event ?hg (N := 3) ?hd (cs := #[.int .i64 0, .int .i64 0, .string (⟨#[]⟩ : ByteArray)]) (t := 50) ?hr ?_; (case hd => rfl); (case hg => rfl); (case hr => first | (go_simp; done) | (go_simp; rfl)); intro gb262 hg w4 hbox hb; have BK262 := am (hbox); have GW262 := am ((by rw [hg]; exact (below_size q1) : w.heap.size ≤ gb262)); have GE262 := am ((by rw [hg]; exact (below_size q1) : w.heap.size ≤ gb262)); replace HB := am (below_step q1 hb); have NB260_262 := am ((by rw [hg]; exact Nat.ne_of_lt (blk_lt (g := gb260) (o := .cells #[.int .i64 a0_0, .int .i64 a0_1, .string a0_2] 59 (0, 0)) u6_21) : gb260 ≠ gb262)); have NB262_260 := am ((by rw [hg]; exact Nat.ne_of_gt (blk_lt (g := gb260) (o := .cells #[.int .i64 a0_0, .int .i64 a0_1, .string a0_2] 59 (0, 0)) u6_21) : gb262 ≠ gb260)); replace BK260 := am (blk_below (g := gb260) (o := .cells #[.int .i64 a0_0, .int .i64 a0_1, .string a0_2] 59 (0, 0)) u6_21 hb); have NB261_262 := am ((by rw [hg]; exact Nat.ne_of_lt (blk_lt (g := gb261) (o := .cells #[.int .i64 0, .int .i64 0, .string (⟨#[]⟩ : ByteArray)] 50 (0, 0)) u6_40) : gb261 ≠ gb262)); have NB262_261 := am ((by rw [hg]; exact Nat.ne_of_gt (blk_lt (g := gb261) (o := .cells #[.int .i64 0, .int .i64 0, .string (⟨#[]⟩ : ByteArray)] 50 (0, 0)) u6_40) : gb262 ≠ gb261)); replace BK261 := am (blk_below (g := gb261) (o := .cells #[.int .i64 0, .int .i64 0, .string (⟨#[]⟩ : ByteArray)] 50 (0, 0)) u6_40 hb); clear hb hbox hg; have hnb5 := NB260_261.out; have hnc5 := NB261_260.out; have hnb6 := NB260_262.out; have hnc6 := NB262_260.out; obtain ⟨hcz7_0, hcz7_1, hcz7_2, hfz7_0, hfz7_1, hfz7_2⟩ := bc3f w4 BK260.out; have hnb8 := NB262_261.out; have hnc8 := NB261_262.out; obtain ⟨hcz9_0, hcz9_1, hcz9_2, hfz9_0, hfz9_1, hfz9_2⟩ := bc3f w4 BK262.out; obtain ⟨hcz10_0, hcz10_1, hcz10_2, hfz10_0, hfz10_1, hfz10_2⟩ := bc3f w4 BK261.out))
 refine bodyPost_ret (results_cell_row rfl _ _ gb261 50 #[.int .i64 a0_0, .int .i64 a0_1, .string a0_2] (0, 0) _ rfl (by (with_reducible repeat (first | refine blk_drewN ?_ _ | refine blk_drew ?_ | refine blk_alloc ?_ _)); refine blk_put (cs := #[.int .i64 a0_0, .int .i64 a0_1, .string (⟨#[]⟩ : ByteArray)]) ?_ 2 _ rfl; (with_reducible repeat (first | refine blk_drewN ?_ _ | refine blk_drew ?_ | refine blk_alloc ?_ _)); refine blk_put (cs := #[.int .i64 a0_0, .int .i64 0, .string (⟨#[]⟩ : ByteArray)]) ?_ 1 _ rfl; (with_reducible repeat (first | refine blk_drewN ?_ _ | refine blk_drew ?_ | refine blk_alloc ?_ _)); refine blk_put (cs := #[.int .i64 0, .int .i64 0, .string (⟨#[]⟩ : ByteArray)]) ?_ 0 _ rfl; (with_reducible repeat (first | refine blk_drewN ?_ _ | refine blk_drew ?_ | refine blk_alloc ?_ _)); refine blk_far ?_ NB261_262.out _; (with_reducible repeat (first | refine blk_drewN ?_ _ | refine blk_drew ?_ | refine blk_alloc ?_ _)); refine blk_far ?_ NB261_262.out _; (with_reducible repeat (first | refine blk_drewN ?_ _ | refine blk_drew ?_ | refine blk_alloc ?_ _)); refine blk_far ?_ NB261_262.out _; (with_reducible repeat (first | refine blk_drewN ?_ _ | refine blk_drew ?_ | refine blk_alloc ?_ _)); exact BK261.out) Tryd.underlying50 rfl kr) rfl ?_
 exact ⟨er, (by repeat (first | (with_reducible first | exact HB.out | apply below_alloc | apply pw_below_drewN | apply below_drew1 | refine below_set ?_ GE260.out | refine below_set ?_ GE261.out | refine below_set ?_ GE262.out) | exact HB.out))⟩

end Go.Proofs.YtjdpifafijcpbaaDoor.QFnExactOnceEach
