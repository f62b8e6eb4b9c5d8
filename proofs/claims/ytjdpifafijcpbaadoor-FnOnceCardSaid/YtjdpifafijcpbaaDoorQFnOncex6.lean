-- Printed by the session's own program wip/prx.py.
import Derived.Test.YtjdpifafijcpbaaDoorSqFnOnce
import Derived.Test.YtjdpifafijcpbaaDoorQFnOncex0
import Derived.Test.YtjdpifafijcpbaaDoorQFnOncex2
import Derived.Test.YtjdpifafijcpbaaDoorQFnOncex3
import Derived.Test.YtjdpifafijcpbaaDoorQFnOncex5
namespace Go.Proofs.YtjdpifafijcpbaaDoor.QFnOnce
open Go.RowKit Go.Proofs.YtjdpifafijcpbaaDoorW.PrintWords Go.Proofs.YtjdpifafijcpbaaDoorW.PrintLast Go.Proofs.YtjdpifafijcpbaaDoorW.PrintMore Go.Proofs.YtjdpifafijcpbaaDoor.SqFnOnce
attribute [local go_sem] max2_int min2_int max_two min_two max_three min_three max_four min_four Go.Proofs.YtjdpifafijcpbaaDoor.Set.isSome_setCell
set_option linter.unusedVariables false
set_option linter.unusedSimpArgs false

-- squeezed
theorem u6_0 {P : Prop} (h : P := by (with_reducible repeat (first | apply Kd.R_alloc | apply Kd.R_drewN | apply Kd.R_drew)); exact (Kd.R_mono (Kd.R_mono (Kd.R_far (p := ⟨gb209, 2, none⟩) (Kd.R_far (p := ⟨gb209, 1, none⟩) (Kd.R_far (p := ⟨gb209, 0, none⟩) (Kd.R_far (p := ⟨gb223, 2, none⟩) (Kd.R_far (p := ⟨gb223, 1, none⟩) (Kd.R_far (p := ⟨gb223, 0, none⟩) (Kd.R_types (Kd.R_types HO_7.out BK223.out (by decide)) BK209.out (by decide)) (fun _ hk => hk.1.2) (.int .i64 t217)) (fun _ hk => hk.1.2) (.int .i64 t218)) (fun _ hk => hk.1.2) (.slice Ao55 t219.length co55)) (fun _ hk => hk.2) (.int .i64 t217)) (fun _ hk => hk.2) (.int .i64 t218)) (fun _ hk => hk.2) (.slice Ao55 t219.length co55)) (fun _ h_ => h_.1)) (fun _ h_ => h_.1))) : P := h
theorem u6_1 {P : Prop} (h : P := by (with_reducible repeat (first | refine blk_drewN ?_ _ | refine blk_drew ?_ | refine blk_alloc ?_ _)); exact BK196.out) : P := h
theorem u6_3 {P : Prop} (h : P := by (with_reducible repeat (first | refine blk_drewN ?_ _ | refine blk_drew ?_ | refine blk_alloc ?_ _)); refine blk_put (cs := #[.int .i64 t217, .int .i64 t218, .slice Ao44 x210002_2.length co44]) ?_ 2 _ rfl; (with_reducible repeat (first | refine blk_drewN ?_ _ | refine blk_drew ?_ | refine blk_alloc ?_ _)); refine blk_put (cs := #[.int .i64 t217, .int .i64 x210001_2, .slice Ao44 x210002_2.length co44]) ?_ 1 _ rfl; (with_reducible repeat (first | refine blk_drewN ?_ _ | refine blk_drew ?_ | refine blk_alloc ?_ _)); refine blk_put (cs := #[.int .i64 x210000_2, .int .i64 x210001_2, .slice Ao44 x210002_2.length co44]) ?_ 0 _ rfl; (with_reducible repeat (first | refine blk_drewN ?_ _ | refine blk_drew ?_ | refine blk_alloc ?_ _)); refine blk_far ?_ NB209_223.out _; (with_reducible repeat (first | refine blk_drewN ?_ _ | refine blk_drew ?_ | refine blk_alloc ?_ _)); refine blk_far ?_ NB209_223.out _; (with_reducible repeat (first | refine blk_drewN ?_ _ | refine blk_drew ?_ | refine blk_alloc ?_ _)); refine blk_far ?_ NB209_223.out _; (with_reducible repeat (first | refine blk_drewN ?_ _ | refine blk_drew ?_ | refine blk_alloc ?_ _)); exact BK209.out) : P := h
theorem u6_4 {P : Prop} (h : P := by (with_reducible repeat (first | refine blk_drewN ?_ _ | refine blk_drew ?_ | refine blk_alloc ?_ _)); exact BK197.out) : P := h
theorem u6_5 {P : Prop} (h : P := by (with_reducible repeat (first | refine blk_drewN ?_ _ | refine blk_drew ?_ | refine blk_alloc ?_ _)); refine blk_far ?_ NB223_209.out _; (with_reducible repeat (first | refine blk_drewN ?_ _ | refine blk_drew ?_ | refine blk_alloc ?_ _)); refine blk_far ?_ NB223_209.out _; (with_reducible repeat (first | refine blk_drewN ?_ _ | refine blk_drew ?_ | refine blk_alloc ?_ _)); refine blk_far ?_ NB223_209.out _; (with_reducible repeat (first | refine blk_drewN ?_ _ | refine blk_drew ?_ | refine blk_alloc ?_ _)); refine blk_put (cs := #[.int .i64 t217, .int .i64 t218, .slice none 0 0]) ?_ 2 _ rfl; (with_reducible repeat (first | refine blk_drewN ?_ _ | refine blk_drew ?_ | refine blk_alloc ?_ _)); refine blk_put (cs := #[.int .i64 t217, .int .i64 0, .slice none 0 0]) ?_ 1 _ rfl; (with_reducible repeat (first | refine blk_drewN ?_ _ | refine blk_drew ?_ | refine blk_alloc ?_ _)); refine blk_put (cs := #[.int .i64 0, .int .i64 0, .slice none 0 0]) ?_ 0 _ rfl; (with_reducible repeat (first | refine blk_drewN ?_ _ | refine blk_drew ?_ | refine blk_alloc ?_ _)); exact BK223.out) : P := h
theorem u6_8 {P : Prop} (h : P := by (with_reducible repeat (first | refine blk_drewN ?_ _ | refine blk_drew ?_ | refine blk_alloc ?_ _)); refine blk_far ?_ NB196_209.out _; (with_reducible repeat (first | refine blk_drewN ?_ _ | refine blk_drew ?_ | refine blk_alloc ?_ _)); refine blk_far ?_ NB196_209.out _; (with_reducible repeat (first | refine blk_drewN ?_ _ | refine blk_drew ?_ | refine blk_alloc ?_ _)); refine blk_far ?_ NB196_209.out _; (with_reducible repeat (first | refine blk_drewN ?_ _ | refine blk_drew ?_ | refine blk_alloc ?_ _)); refine blk_far ?_ NB196_223.out _; (with_reducible repeat (first | refine blk_drewN ?_ _ | refine blk_drew ?_ | refine blk_alloc ?_ _)); refine blk_far ?_ NB196_223.out _; (with_reducible repeat (first | refine blk_drewN ?_ _ | refine blk_drew ?_ | refine blk_alloc ?_ _)); refine blk_far ?_ NB196_223.out _; (with_reducible repeat (first | refine blk_drewN ?_ _ | refine blk_drew ?_ | refine blk_alloc ?_ _)); exact BK196.out) : P := h
theorem u6_9 {P : Prop} (h : P := by (with_reducible repeat (first | refine blk_drewN ?_ _ | refine blk_drew ?_ | refine blk_alloc ?_ _)); refine blk_far ?_ NB197_209.out _; (with_reducible repeat (first | refine blk_drewN ?_ _ | refine blk_drew ?_ | refine blk_alloc ?_ _)); refine blk_far ?_ NB197_209.out _; (with_reducible repeat (first | refine blk_drewN ?_ _ | refine blk_drew ?_ | refine blk_alloc ?_ _)); refine blk_far ?_ NB197_209.out _; (with_reducible repeat (first | refine blk_drewN ?_ _ | refine blk_drew ?_ | refine blk_alloc ?_ _)); refine blk_far ?_ NB197_223.out _; (with_reducible repeat (first | refine blk_drewN ?_ _ | refine blk_drew ?_ | refine blk_alloc ?_ _)); refine blk_far ?_ NB197_223.out _; (with_reducible repeat (first | refine blk_drewN ?_ _ | refine blk_drew ?_ | refine blk_alloc ?_ _)); refine blk_far ?_ NB197_223.out _; (with_reducible repeat (first | refine blk_drewN ?_ _ | refine blk_drew ?_ | refine blk_alloc ?_ _)); exact BK197.out) : P := h
theorem u6_10 {P : Prop} (h : P := by (with_reducible repeat (first | refine blk_drewN ?_ _ | refine blk_drew ?_ | refine blk_alloc ?_ _)); refine blk_far ?_ NB214_209.out _; (with_reducible repeat (first | refine blk_drewN ?_ _ | refine blk_drew ?_ | refine blk_alloc ?_ _)); refine blk_far ?_ NB214_209.out _; (with_reducible repeat (first | refine blk_drewN ?_ _ | refine blk_drew ?_ | refine blk_alloc ?_ _)); refine blk_far ?_ NB214_209.out _; (with_reducible repeat (first | refine blk_drewN ?_ _ | refine blk_drew ?_ | refine blk_alloc ?_ _)); refine blk_far ?_ NB214_223.out _; (with_reducible repeat (first | refine blk_drewN ?_ _ | refine blk_drew ?_ | refine blk_alloc ?_ _)); refine blk_far ?_ NB214_223.out _; (with_reducible repeat (first | refine blk_drewN ?_ _ | refine blk_drew ?_ | refine blk_alloc ?_ _)); refine blk_far ?_ NB214_223.out _; (with_reducible repeat (first | refine blk_drewN ?_ _ | refine blk_drew ?_ | refine blk_alloc ?_ _)); exact BK214.out) : P := h
theorem u6_11 {P : Prop} (h : P := by (with_reducible repeat (first | apply Kd.R_alloc | apply Kd.R_drewN | apply Kd.R_drew)); exact (Kd.R_mono (Kd.R_mono (Kd.R_far (p := ⟨gb209, 2, none⟩) (Kd.R_far (p := ⟨gb209, 1, none⟩) (Kd.R_far (p := ⟨gb209, 0, none⟩) (Kd.R_far (p := ⟨gb223, 2, none⟩) (Kd.R_far (p := ⟨gb223, 1, none⟩) (Kd.R_far (p := ⟨gb223, 0, none⟩) (Kd.R_types (Kd.R_types HO_210002.out BK223.out (by decide)) BK209.out (by decide)) (fun _ hk => hk.1.2) (.int .i64 t217)) (fun _ hk => hk.1.2) (.int .i64 t218)) (fun _ hk => hk.1.2) (.slice Ao55 t219.length co55)) (fun _ hk => hk.2) (.int .i64 t217)) (fun _ hk => hk.2) (.int .i64 t218)) (fun _ hk => hk.2) (.slice Ao55 t219.length co55)) (fun _ h_ => h_.1)) (fun _ h_ => h_.1))) : P := h
theorem u6_12 {P : Prop} (h : P := by (with_reducible repeat (first | apply Kd.R_alloc | apply Kd.R_drewN | apply Kd.R_drew)); exact (Kd.R_mono (Kd.R_mono (Kd.R_far (p := ⟨gb209, 2, none⟩) (Kd.R_far (p := ⟨gb209, 1, none⟩) (Kd.R_far (p := ⟨gb209, 0, none⟩) (Kd.R_far (p := ⟨gb223, 2, none⟩) (Kd.R_far (p := ⟨gb223, 1, none⟩) (Kd.R_far (p := ⟨gb223, 0, none⟩) (Kd.R_types (Kd.R_types HO221.out BK223.out (by decide)) BK209.out (by decide)) (fun _ hk => hk.1.2) (.int .i64 t217)) (fun _ hk => hk.1.2) (.int .i64 t218)) (fun _ hk => hk.1.2) (.slice Ao55 t219.length co55)) (fun _ hk => hk.2) (.int .i64 t217)) (fun _ hk => hk.2) (.int .i64 t218)) (fun _ hk => hk.2) (.slice Ao55 t219.length co55)) (fun _ h_ => h_.1)) (fun _ h_ => h_.1))) : P := h
theorem u6_15 {P : Prop} (h : P := by (with_reducible repeat (first | refine blk_drewN ?_ _ | refine blk_drew ?_ | refine blk_alloc ?_ _)); exact BK209.out) : P := h
theorem u6_18 {P : Prop} (h : P := by (with_reducible repeat (first | apply Kd.R_alloc | apply Kd.R_drewN | apply Kd.R_drew)); exact Kd.R_mono (Kd.R_far (p := ⟨gb209, 2, none⟩) (Kd.R_far (p := ⟨gb209, 1, none⟩) (Kd.R_far (p := ⟨gb209, 0, none⟩) (Kd.R_far (p := ⟨gb223, 2, none⟩) (Kd.R_far (p := ⟨gb223, 1, none⟩) (Kd.R_far (p := ⟨gb223, 0, none⟩) (Kd.R_types (Kd.R_types HO_7.out BK223.out (by decide)) BK209.out (by decide)) (fun _ hk => hk.1.2) (.int .i64 t217)) (fun _ hk => hk.1.2) (.int .i64 t218)) (fun _ hk => hk.1.2) (.slice Ao55 t219.length co55)) (fun _ hk => hk.2) (.int .i64 t217)) (fun _ hk => hk.2) (.int .i64 t218)) (fun _ hk => hk.2) (.slice Ao55 t219.length co55)) (fun _ hk => trivial)) : P := h
theorem u6_22 {P : Prop} (h : P := by (with_reducible repeat (first | refine blk_drewN ?_ _ | refine blk_drew ?_ | refine blk_alloc ?_ _)); exact BK214.out) : P := h
theorem u6_23 {P : Prop} (h : P := by (with_reducible repeat (first | refine blk_drewN ?_ _ | refine blk_drew ?_ | refine blk_alloc ?_ _)); exact BK234.out) : P := h
theorem u6_24 {P : Prop} (h : P := by (with_reducible repeat (first | apply Kd.R_alloc | apply Kd.R_drewN | apply Kd.R_drew)); exact (Kd.R_mono (Kd.R_far (p := ⟨gb214, 2, none⟩) (Kd.R_far (p := ⟨gb214, 1, none⟩) (Kd.R_far (p := ⟨gb214, 0, none⟩) (Kd.R_types HO_210002.out BK214.out (by decide)) (fun _ hk => hk.2) (.int .i64 ((rd_T50 l1 x8_2).f0))) (fun _ hk => hk.2) (.int .i64 ((rd_T50 l1 x8_2).f1))) (fun _ hk => hk.2) (.string ((rd_T50 l1 x8_2).f2))) (fun _ h_ => h_.1))) : P := h
theorem u6_25 {P : Prop} (h : P := by (with_reducible repeat (first | apply Kd.R_alloc | apply Kd.R_drewN | apply Kd.R_drew)); exact HO_210002.out) : P := h
theorem u6_28 {P : Prop} (h : P := by (with_reducible repeat (first | apply Kd.R_alloc | apply Kd.R_drewN | apply Kd.R_drew)); exact Kd.R_mono HO221.out (fun _ hk => trivial)) : P := h
theorem u6_29 {P : Prop} (h : P := by (with_reducible repeat (first | refine blk_drewN ?_ _ | refine blk_drew ?_ | refine blk_alloc ?_ _)); exact BK235.out) : P := h
theorem u6_30 {P : Prop} (h : P := by (with_reducible repeat (first | apply Kd.R_alloc | apply Kd.R_drewN | apply Kd.R_drew)); exact HO208.out) : P := h
theorem u6_31 {P : Prop} (h : P := by (with_reducible repeat (first | apply Kd.R_alloc | apply Kd.R_drewN | apply Kd.R_drew)); exact HO221.out) : P := h
theorem u6_32 {P : Prop} (h : P := by have := HJ2.out; have := HK2.out; omega) : P := h
/-! ### spec_l01Num: function 31 -/
def spec_l01Num.l0 : Nat → Int → ByteArray → Bool → Option (ByteArray)
 | 0, _, _, _ => none
 | k + 1, x0, x3, x4 => if x0 = 0 then (if x4 = true then (if 1 + x3.size ≤ 9223372036854775807 then (some ((⟨#[45]⟩ : ByteArray) ++ x3)) else (none)) else (some x3)) else (if (Int.tmod x0 10) < 0 then ((some (([(wrap64 (48 + (wrap64 (-(Int.tmod x0 10))))) % 256] : List Int) : List Int)).bind fun y190 => (if (strOfNums y190).size + x3.size ≤ 9223372036854775807 then (spec_l01Num.l0 k (wrap64 (Int.tdiv x0 10)) ((strOfNums y190) ++ x3) x4) else (none))) else ((some (([(wrap64 (48 + (Int.tmod x0 10))) % 256] : List Int) : List Int)).bind fun y193 => (if (strOfNums y193).size + x3.size ≤ 9223372036854775807 then (spec_l01Num.l0 k (wrap64 (Int.tdiv x0 10)) ((strOfNums y193) ++ x3) x4) else (none))))
def spec_l01Num.f (k : Nat) (a0 : Int) : Option (ByteArray) := if a0 = 0 then (some (⟨#[48]⟩ : ByteArray)) else (spec_l01Num.l0 k a0 (⟨#[]⟩ : ByteArray) (decide (a0 < 0)))
theorem spec_l01Num.mono_l : ∀ k, (∀ y0 y1 y2, LeO (spec_l01Num.l0 k y0 y1 y2) (spec_l01Num.l0 (k + 1) y0 y1 y2))
 | 0 => fun _ _ _ r h => by simp [spec_l01Num.l0] at h
 | k + 1 => by
   have ih0 := spec_l01Num.mono_l k
   · intro y0 y1 y2
     unfold spec_l01Num.l0
     repeat' first
     | (with_reducible exact ih0 _ _ _)
     | (with_reducible exact LeO.refl _)
     | (with_reducible exact LeO.none _)
     | (with_reducible refine LeO.ite ?_ ?_)
     | (with_reducible refine LeO.bind ?_ (fun _ => ?_))
     | exact ih0 _ _ _
     | exact LeO.none _
     | refine LeO.ite ?_ ?_
     | refine LeO.bind ?_ (fun _ => ?_)
theorem spec_l01Num.mono : ∀ a0 k, LeO (spec_l01Num.f k a0) (spec_l01Num.f (k + 1) a0) := by
 intro a0 k
 have ih0 := spec_l01Num.mono_l k
 unfold spec_l01Num.f
 repeat' first
     | (with_reducible exact ih0 _ _ _)
     | (with_reducible exact LeO.refl _)
     | (with_reducible exact LeO.none _)
     | (with_reducible refine LeO.ite ?_ ?_)
     | (with_reducible refine LeO.bind ?_ (fun _ => ?_))
     | exact ih0 _ _ _
     | exact LeO.none _
     | refine LeO.ite ?_ ?_
     | refine LeO.bind ?_ (fun _ => ?_)
set_option maxHeartbeats 8000000 in
set_option maxRecDepth 100000 in
theorem spec_l01Num.calls (k : Nat) (a0 : Int) (r : ByteArray) (w : World) (h : spec_l01Num.f k a0 = some r) :
   Calls Tryd.prog 31 #[.int .i64 a0] w fun e w' => e = .returned (.string r) ∧ Below w.heap.size w w' := by
 have HB := am (Below.refl w.heap.size w)
 have H : (if a0 = 0 then (some (⟨#[48]⟩ : ByteArray)) else (spec_l01Num.l0 k a0 (⟨#[]⟩ : ByteArray) (decide (a0 < 0)))) = some r := h
 clear h
 by_cases c2 : a0 = 0
 · rw [if_pos c2] at H
   have c2b0 : (a0 == 0) = true := beq_iff_eq.mpr c2
   have c2b1 : (a0 != 0) = false := bne_eq_false_iff_eq.mpr c2
   clear c2
   obtain rfl := sj H
   go_enter Tryd.func31, Tryd.ntmps31
   go_wp2
   go_ret
   exact ⟨er, q0⟩
 rw [if_neg c2] at H
 have c2b0 : (a0 == 0) = false := beq_eq_false_iff_ne.mpr c2
 have c2b1 : (a0 != 0) = true := bne_iff_ne.mpr c2
 have H' := am H
 clear H
 go_enter Tryd.func31, Tryd.ntmps31
 go_wp2
 go_loopg [0, 3] k (fun kq v0 v3 w' => ∃ (x0_1 : Int) (x3_1 : ByteArray), v0 = .int .i64 x0_1 ∧ v3 = .string x3_1 ∧ Aside0 (spec_l01Num.l0 kq x0_1 x3_1 (decide (a0 < 0)) = some r) ∧ Aside0 (kq ≤ k) ∧ Aside0 (Below w.heap.size w w'))
 case atStart => exact ⟨(a0), ((⟨#[]⟩ : ByteArray)), q4, q4, H', ⟨Nat.le_refl _⟩, ⟨q0⟩⟩
 clear H'
 try clear c2
 try clear c2b0
 try clear c2b1
 obtain ⟨x0_1, x3_1, rfl, rfl, HA, HK1, HB⟩ := hrel
 cases gk with
 | zero => exact absurd HA.out (by simp [spec_l01Num.l0])
 | succ k1 =>
   have H := HA.out
   clear HA
   simp only [spec_l01Num.l0] at H
   by_cases c3 : x0_1 = 0
   · rw [if_pos c3] at H
     have c3b0 : (x0_1 == 0) = true := beq_iff_eq.mpr c3
     have c3b1 : (x0_1 != 0) = false := bne_eq_false_iff_eq.mpr c3
     clear c3
     by_cases c4 : (decide (a0 < 0)) = true
     rotate_left
     · rw [if_neg c4] at H
       have c4b0 : (decide (a0 < 0)) = false := by simpa using c4
       have c4c : ¬ (a0 < 0) := of_decide_eq_false c4b0
       clear c4
       obtain rfl := sj H
       go_wp2
       go_ret
       exact ⟨er, q0⟩
     rw [if_pos c4] at H
     have c4b0 : (decide (a0 < 0)) = true := c4
     have c4c : (a0 < 0) := of_decide_eq_true c4b0
     clear c4
     by_cases c5 : 1 + x3_1.size ≤ 9223372036854775807
     rotate_left
     · rw [if_neg c5] at H
       exact absurd H (by simp)
     rw [if_pos c5] at H
     have c5b0 := eq_true c5
     have c5b1 : decide (1 + x3_1.size ≤ 9223372036854775807) = true := decide_eq_true c5
     try have c5b2 : (9223372036854775807 < 1 + x3_1.size) = False := eq_false (Nat.not_lt.2 c5)
     obtain rfl := sj H
     go_wp2
     go_ret
     exact ⟨er, q0⟩
   rw [if_neg c3] at H
   have c3b0 : (x0_1 == 0) = false := beq_eq_false_iff_ne.mpr c3
   have c3b1 : (x0_1 != 0) = true := bne_iff_ne.mpr c3
   by_cases c6 : (Int.tmod x0_1 10) < 0
   rotate_left
   · rw [if_neg c6] at H
     have c6b0 : decide ((Int.tmod x0_1 10) < 0) = false := decide_eq_false c6
     clear c6
     obtain ⟨y193, hy193⟩ : ∃ y_ : List Int, y_ = (([(wrap64 (48 + (Int.tmod x0_1 10))) % 256] : List Int)) := ⟨_, rfl⟩
     replace H : (if (strOfNums y193).size + x3_1.size ≤ 9223372036854775807 then (spec_l01Num.l0 k1 (wrap64 (Int.tdiv x0_1 10)) ((strOfNums y193) ++ x3_1) (decide (a0 < 0))) else (none)) = some r := by first | (rw [hy193]; with_reducible exact H) | (have H2_ := (Option.bind_some _ _).symm.trans H; rw [hy193]; with_reducible exact H2_) | (have H2_ := (Option.bind_some _ _).symm.trans H; with_reducible exact H2_) | with_reducible exact H | (rw [hy193]; exact H) | exact H
     have Ny193 := am hy193
     clear hy193
     by_cases c11 : (strOfNums y193).size + x3_1.size ≤ 9223372036854775807
     rotate_left
     · rw [if_neg c11] at H
       exact absurd H (by simp)
     rw [if_pos c11] at H
     have c11b0 := eq_true c11
     have c11b1 : decide ((strOfNums y193).size + x3_1.size ≤ 9223372036854775807) = true := decide_eq_true c11
     try have c11b2 : (9223372036854775807 < (strOfNums y193).size + x3_1.size) = False := eq_false (Nat.not_lt.2 c11)
     have H' := am H
     clear H
     go_wp2_with (first | ((with_reducible refine gate_dst (N := 21) rfl ?_); refine Kd.R_lit (Kd.int .u8) _ 5 ?hg (N := 21) ?hd (xs := ([(wrap64 (48 + (Int.tmod x0_1 10))) % 256] : List Int)) (inner := [.int .u8 ((wrap64 (48 + (Int.tmod x0_1 10))) % 256)]) (ok := fun _ => True) (okp := fun _ => True) ?hr ?hp (fun _ hk => hk) trivial (Below.refl _ _) (Nat.le_refl _) (by simp) ?_; (case hd => rfl); (case hg => rfl); (case hr => first | (go_simp; done) | (go_simp; rfl)); (case hp => exact (Reps.one (show Kd.M (Kd.int .u8) _ _ _ ((wrap64 (48 + (Int.tmod x0_1 10))) % 256) [.int .u8 ((wrap64 (48 + (Int.tmod x0_1 10))) % 256)] from rfl) (Reps.none _ _))); intro v194 w12 ho13 hb hg_ hnew_; clear hg_ hnew_; (first | rw [← Ny193.out] at ho13 | (simp only [Int.reduceToNat] at ho13; rw [← Ny193.out] at ho13)); have HO195 := am (Kd.R_lower ho13 (below_size q0)); replace HB := am (below_step q0 hb); clear hb ho13; have hcv14 := own_string (P := Tryd.prog) Tryd.underlying44 Tryd.underlying5 Tryd.underlying9 (Kd.own_of_R HO195.out)))
     go_roundg k1
     case measure => have := HK1.out; omega
     case rel => exact ⟨(wrap64 (Int.tdiv x0_1 10)), ((strOfNums y193) ++ x3_1), q4, q4, H', ⟨by have := HK1.out; omega⟩, ⟨q0⟩⟩
   rw [if_pos c6] at H
   have c6b0 : decide ((Int.tmod x0_1 10) < 0) = true := decide_eq_true c6
   clear c6
   obtain ⟨y190, hy190⟩ : ∃ y_ : List Int, y_ = (([(wrap64 (48 + (wrap64 (-(Int.tmod x0_1 10))))) % 256] : List Int)) := ⟨_, rfl⟩
   replace H : (if (strOfNums y190).size + x3_1.size ≤ 9223372036854775807 then (spec_l01Num.l0 k1 (wrap64 (Int.tdiv x0_1 10)) ((strOfNums y190) ++ x3_1) (decide (a0 < 0))) else (none)) = some r := by first | (rw [hy190]; with_reducible exact H) | (have H2_ := (Option.bind_some _ _).symm.trans H; rw [hy190]; with_reducible exact H2_) | (have H2_ := (Option.bind_some _ _).symm.trans H; with_reducible exact H2_) | with_reducible exact H | (rw [hy190]; exact H) | exact H
   have Ny190 := am hy190
   clear hy190
   by_cases c7 : (strOfNums y190).size + x3_1.size ≤ 9223372036854775807
   rotate_left
   · rw [if_neg c7] at H
     exact absurd H (by simp)
   rw [if_pos c7] at H
   have c7b0 := eq_true c7
   have c7b1 : decide ((strOfNums y190).size + x3_1.size ≤ 9223372036854775807) = true := decide_eq_true c7
   try have c7b2 : (9223372036854775807 < (strOfNums y190).size + x3_1.size) = False := eq_false (Nat.not_lt.2 c7)
   have H' := am H
   clear H
   go_wp2_with (first | ((with_reducible refine gate_dst (N := 21) rfl ?_); refine Kd.R_lit (Kd.int .u8) _ 5 ?hg (N := 21) ?hd (xs := ([(wrap64 (48 + (wrap64 (-(Int.tmod x0_1 10))))) % 256] : List Int)) (inner := [.int .u8 ((wrap64 (48 + (wrap64 (-(Int.tmod x0_1 10))))) % 256)]) (ok := fun _ => True) (okp := fun _ => True) ?hr ?hp (fun _ hk => hk) trivial (Below.refl _ _) (Nat.le_refl _) (by simp) ?_; (case hd => rfl); (case hg => rfl); (case hr => first | (go_simp; done) | (go_simp; rfl)); (case hp => exact (Reps.one (show Kd.M (Kd.int .u8) _ _ _ ((wrap64 (48 + (wrap64 (-(Int.tmod x0_1 10))))) % 256) [.int .u8 ((wrap64 (48 + (wrap64 (-(Int.tmod x0_1 10))))) % 256)] from rfl) (Reps.none _ _))); intro v191 w8 ho9 hb hg_ hnew_; clear hg_ hnew_; (first | rw [← Ny190.out] at ho9 | (simp only [Int.reduceToNat] at ho9; rw [← Ny190.out] at ho9)); have HO192 := am (Kd.R_lower ho9 (below_size q0)); replace HB := am (below_step q0 hb); clear hb ho9; have hcv10 := own_string (P := Tryd.prog) Tryd.underlying44 Tryd.underlying5 Tryd.underlying9 (Kd.own_of_R HO192.out)))
   go_roundg k1
   case measure => have := HK1.out; omega
   case rel => exact ⟨(wrap64 (Int.tdiv x0_1 10)), ((strOfNums y190) ++ x3_1), q4, q4, H', ⟨by have := HK1.out; omega⟩, ⟨q0⟩⟩

/-! ### spec_OnceEach: function 8 -/
mutual
def spec_OnceEach.j0 : Nat → List (S50) → Bool → Int → Int → List (S54) → Option (Int × Int × (List (S54)) × List ByteArray)
 | 0, _, _, _, _, _ => none
 | k + 1, x1, x21, x197000, x197001, x197002 => if x21 = true then ((spec_l09Copy.f k x197000 x197001 x197002).bind fun bt199 => (some (bt199.1, bt199.2.1, bt199.2.2, ([] : List ByteArray)))) else ((spec_l09Copy.f k x197000 x197001 x197002).bind fun bt204 => (spec_OnceEach.l0 k x1 (([] : List ByteArray)) 0 bt204.1 bt204.2.1 bt204.2.2))
def spec_OnceEach.l0 : Nat → List (S50) → List ByteArray → Int → Int → Int → List (S54) → Option (Int × Int × (List (S54)) × List ByteArray)
 | 0, _, _, _, _, _, _ => none
 | k + 1, x1, x7, x8, x210000, x210001, x210002 => if x8 < (x1.length : Int) then (if 0 ≤ x8 then ((spec_Look.f k x210000 x210001 x210002 ((rd_T50 x1 x8).f0) ((rd_T50 x1 x8).f1)).bind fun bt215 => ((spec_Keep.f k x210000 x210001 x210002 ((rd_T50 x1 x8).f0) ((rd_T50 x1 x8).f1) ((rd_T50 x1 x8).f2)).bind fun bt217 => (if bt217.2.2.2 = true then (if x7.length < 8796093022208 then (spec_OnceEach.l0 k x1 (x7 ++ [(rd_T50 x1 x8).f2]) (wrap64 (x8 + 1)) bt217.1 bt217.2.1 bt217.2.2.1) else (none)) else (if bt215.1 = 1 then (if x7.length < 8796093022208 then (spec_OnceEach.l0 k x1 (x7 ++ [bt215.2]) (wrap64 (x8 + 1)) bt217.1 bt217.2.1 bt217.2.2.1) else (none)) else ((spec_l01Num.f k bt215.1).bind fun t230 => (if 1 + t230.size ≤ 9223372036854775807 then (if x7.length < 8796093022208 then (spec_OnceEach.l0 k x1 (x7 ++ [(⟨#[33]⟩ : ByteArray) ++ t230]) (wrap64 (x8 + 1)) bt217.1 bt217.2.1 bt217.2.2.1) else (none)) else (none))))))) else (none)) else (some (x210000, x210001, x210002, x7))
end
def spec_OnceEach.f (k : Nat) (a0_0 : Int) (a0_1 : Int) (l0_2 : List (S54)) (l1 : List (S50)) : Option (Int × Int × (List (S54)) × List ByteArray) := (spec_SessionsOk.f k a0_0 a0_1 l0_2).bind fun t198 => (if t198 = true then (spec_OnceEach.j0 k l1 (decide ((l1.length : Int) > 200)) a0_0 a0_1 l0_2) else (spec_OnceEach.j0 k l1 true a0_0 a0_1 l0_2))
theorem spec_OnceEach.mono_l : ∀ k, (∀ y0 y1 y2 y3 y4, LeO (spec_OnceEach.j0 k y0 y1 y2 y3 y4) (spec_OnceEach.j0 (k + 1) y0 y1 y2 y3 y4)) ∧ (∀ y0 y1 y2 y3 y4 y5, LeO (spec_OnceEach.l0 k y0 y1 y2 y3 y4 y5) (spec_OnceEach.l0 (k + 1) y0 y1 y2 y3 y4 y5))
 | 0 => ⟨fun _ _ _ _ _ r h => by simp [spec_OnceEach.j0] at h, fun _ _ _ _ _ _ r h => by simp [spec_OnceEach.l0] at h⟩
 | k + 1 => by
   obtain ⟨ih0, ih1⟩ := spec_OnceEach.mono_l k
   refine ⟨?_, ?_⟩ <;> intros <;> (first | unfold spec_OnceEach.j0 | unfold spec_OnceEach.l0) <;> repeat' first
   | (with_reducible exact ih0 _ _ _ _ _)
   | (with_reducible exact ih1 _ _ _ _ _ _)
   | (with_reducible exact spec_Keep.mono _ _ _ _ _ _ _)
   | (with_reducible exact spec_Look.mono _ _ _ _ _ _)
   | (with_reducible exact spec_SessionsOk.mono _ _ _ _)
   | (with_reducible exact spec_l01Num.mono _ _)
   | (with_reducible exact spec_l09Copy.mono _ _ _ _)
   | (with_reducible exact LeO.refl _)
   | (with_reducible exact LeO.none _)
   | (with_reducible refine LeO.ite ?_ ?_)
   | (with_reducible refine LeO.bind ?_ (fun _ => ?_))
   | exact ih0 _ _ _ _ _
   | exact ih1 _ _ _ _ _ _
   | exact spec_Keep.mono _ _ _ _ _ _ _
   | exact spec_Look.mono _ _ _ _ _ _
   | exact spec_SessionsOk.mono _ _ _ _
   | exact spec_l01Num.mono _ _
   | exact spec_l09Copy.mono _ _ _ _
   | exact LeO.none _
   | refine LeO.ite ?_ ?_
   | refine LeO.bind ?_ (fun _ => ?_)
theorem spec_OnceEach.mono : ∀ a0 a1 a2 a3 k, LeO (spec_OnceEach.f k a0 a1 a2 a3) (spec_OnceEach.f (k + 1) a0 a1 a2 a3) := by
 intro a0 a1 a2 a3 k
 obtain ⟨ih0, ih1⟩ := spec_OnceEach.mono_l k
 unfold spec_OnceEach.f
 repeat' first
     | (with_reducible exact ih0 _ _ _ _ _)
     | (with_reducible exact ih1 _ _ _ _ _ _)
     | (with_reducible exact spec_Keep.mono _ _ _ _ _ _ _)
     | (with_reducible exact spec_Look.mono _ _ _ _ _ _)
     | (with_reducible exact spec_SessionsOk.mono _ _ _ _)
     | (with_reducible exact spec_l01Num.mono _ _)
     | (with_reducible exact spec_l09Copy.mono _ _ _ _)
     | (with_reducible exact LeO.refl _)
     | (with_reducible exact LeO.none _)
     | (with_reducible refine LeO.ite ?_ ?_)
     | (with_reducible refine LeO.bind ?_ (fun _ => ?_))
     | exact ih0 _ _ _ _ _
     | exact ih1 _ _ _ _ _ _
     | exact spec_Keep.mono _ _ _ _ _ _ _
     | exact spec_Look.mono _ _ _ _ _ _
     | exact spec_SessionsOk.mono _ _ _ _
     | exact spec_l01Num.mono _ _
     | exact spec_l09Copy.mono _ _ _ _
     | exact LeO.none _
     | refine LeO.ite ?_ ?_
     | refine LeO.bind ?_ (fun _ => ?_)
set_option maxHeartbeats 8000000 in
set_option maxRecDepth 100000 in
theorem spec_OnceEach.calls (k : Nat) (a0_0 : Int) (a0_1 : Int) (A0_2 : Option Addr) (c0_2 : Nat) (l0_2 : List (S54)) (A1 : Option Addr) (c1 : Nat) (l1 : List (S50)) (r1 : Int) (r2 : Int) (r3 : List (S54)) (r4 : List ByteArray) (w : World) (hr0_2 : Kd.C k54 w A0_2 l0_2.length l0_2) (hc0_2 : l0_2.length ≤ c0_2) (hr1 : Kd.C k50 w A1 l1.length l1) (hc1 : l1.length ≤ c1) (h : spec_OnceEach.f k a0_0 a0_1 l0_2 l1 = some (r1, r2, r3, r4)) :
   Calls Tryd.prog 8 #[.agg #[.int .i64 a0_0, .int .i64 a0_1, .slice A0_2 l0_2.length c0_2], .slice A1 l1.length c1] w fun e w' => ∃ v2_ v3_ : Value, e = .returned (.tuple #[.agg #[.int .i64 r1, .int .i64 r2, v2_], v3_]) ∧ Kd.R k54 54 w' w.heap.size (fun _ => True) v2_ r3 ∧ Kd.R Kd.string 9 w' w.heap.size (fun _ => True) v3_ r4 ∧ Below w.heap.size w w' := by
 have hu30 := Tryd.underlying30
 have hu50 := Tryd.underlying50
 have HR0_2 := am hr0_2
 have HC0_2 := am hc0_2
 clear hr0_2 hc0_2
 have HR1 := am hr1
 have HC1 := am hc1
 clear hr1 hc1
 have HB := am (Below.refl w.heap.size w)
 have H : ((spec_SessionsOk.f k a0_0 a0_1 l0_2).bind fun t198 => (if t198 = true then (spec_OnceEach.j0 k l1 (decide ((l1.length : Int) > 200)) a0_0 a0_1 l0_2) else (spec_OnceEach.j0 k l1 true a0_0 a0_1 l0_2))) = some (r1, r2, r3, r4) := h
 clear h
 have HC3 := am H
 clear H
 go_enter Tryd.func8, Tryd.ntmps8
 go_upto_region 1 with (first | ((with_reducible refine gate_dst (N := 2) rfl ?_); (try (refine gate_guard (by rfl) ?_; dsimp only)); refine box_event ?hg (N := 2) ?hd (cs := #[.int .i64 a0_0, .int .i64 a0_1, .slice A0_2 l0_2.length c0_2]) (t := 30) ?hr ?_; (case hd => rfl); (case hg => rfl); (case hr => first | (go_simp; done) | (go_simp; rfl)); intro gb196 hg w4 hbox hb; have BK196 := am (hbox); have GW196 := am ((by rw [hg]; exact (below_size q0) : w.heap.size ≤ gb196)); have GE196 := am ((by rw [hg]; exact (below_size q0) : w.heap.size ≤ gb196)); replace HB := am (below_step q0 hb); clear hb hbox hg) | ((with_reducible refine gate_dst (N := 4) rfl ?_); (try (refine gate_guard (by rfl) ?_; dsimp only)); refine box_event ?hg (N := 4) ?hd (cs := #[.int .i64 0, .int .i64 0, .slice none 0 0]) (t := 30) ?hr ?_; (case hd => rfl); (case hg => rfl); (case hr => first | (go_simp; done) | (go_simp; rfl)); intro gb197 hg w5 hbox hb; have BK197 := am (hbox); have GW197 := am ((by rw [hg]; exact (below_size q0) : w.heap.size ≤ gb197)); have GE197 := am ((by rw [hg]; exact (below_size q0) : w.heap.size ≤ gb197)); replace HB := am (below_step q0 hb); have NB196_197 := am ((by rw [hg]; exact Nat.ne_of_lt (blk_lt (g := gb196) (o := .cells #[.int .i64 a0_0, .int .i64 a0_1, .slice A0_2 l0_2.length c0_2] 30 (0, 0)) u6_1) : gb196 ≠ gb197)); have NB197_196 := am ((by rw [hg]; exact Nat.ne_of_gt (blk_lt (g := gb196) (o := .cells #[.int .i64 a0_0, .int .i64 a0_1, .slice A0_2 l0_2.length c0_2] 30 (0, 0)) u6_1) : gb197 ≠ gb196)); replace BK196 := am (blk_below (g := gb196) (o := .cells #[.int .i64 a0_0, .int .i64 a0_1, .slice A0_2 l0_2.length c0_2] 30 (0, 0)) u6_1 hb); clear hb hbox hg))
 (try simp only [Act.put, la, lb, lc])
 go_cut [21] (fun v21 wc => ∃ (kq : Nat) (x21_2 : Bool), v21 = .bool x21_2 ∧ Aside0 (spec_OnceEach.j0 kq l1 x21_2 a0_0 a0_1 l0_2 = some (r1, r2, r3, r4)) ∧ Aside0 (kq ≤ k) ∧ Aside0 (wc.heap[gb196]? = some (.cells #[.int .i64 a0_0, .int .i64 a0_1, (.slice A0_2 l0_2.length c0_2)] 30 (0, 0))) ∧ Aside0 (wc.heap[gb197]? = some (.cells #[.int .i64 0, .int .i64 0, (.slice none 0 0)] 30 (0, 0))) ∧ Aside0 (Below w.heap.size w wc))
 case first =>
   have H := HC3.out
   clear HC3
   replace H := Option.bind_eq_some_iff.mp H
   obtain ⟨t198, A60, H⟩ := H
   have A6 := am A60
   clear A60
   by_cases c7 : t198 = true
   · subst c7
     rw [if_pos rfl] at H
     have H' := am H
     clear H
     have hnb8 := NB196_197.out
     have hnc8 := NB197_196.out
     obtain ⟨hcz9_0, hcz9_1, hcz9_2, hfz9_0, hfz9_1, hfz9_2⟩ := bc3f w5 BK196.out
     go_wp2_with (first | ((with_reducible refine gate_callee (f := 27) rfl ?_); refine goesL_ (some 15) rfl rfl Tryd.func27 kr rfl #[.agg #[.int .i64 a0_0, .int .i64 a0_1, .slice A0_2 l0_2.length c0_2]] rfl q1 ?_; (with_reducible refine (spec_SessionsOk.calls k a0_0 a0_1 _ _ l0_2 true _ ?side1 ?side2 A6.out).mono ?_); (case side1 => exact q5); (case side2 => exact HC0_2.out); rintro e w10 ⟨rfl, hb⟩; refine ⟨_, rfl, ?_⟩; replace BK196 := am (blk_below (g := gb196) (o := .cells #[.int .i64 a0_0, .int .i64 a0_1, .slice A0_2 l0_2.length c0_2] 30 (0, 0)) u6_1 hb); replace BK197 := am (blk_below (g := gb197) (o := .cells #[.int .i64 0, .int .i64 0, .slice none 0 0] 30 (0, 0)) u6_4 hb); replace HB := am (below_step q0 hb); (try clear hb); (try clear hb2); (try clear hk); (try clear hi)))
     go_meet
     case rel => exact ⟨_, (decide ((l1.length : Int) > 200)), q4, H', ⟨by first | omega | exact Nat.le_refl _⟩, ⟨u6_1⟩, ⟨u6_4⟩, ⟨q0⟩⟩
   replace c7 := Bool.eq_false_iff.mpr c7
   subst c7
   rw [nf] at H
   have H' := am H
   clear H
   have hnb11 := NB196_197.out
   have hnc11 := NB197_196.out
   obtain ⟨hcz12_0, hcz12_1, hcz12_2, hfz12_0, hfz12_1, hfz12_2⟩ := bc3f w5 BK196.out
   go_wp2_with (first | ((with_reducible refine gate_callee (f := 27) rfl ?_); refine goesL_ (some 15) rfl rfl Tryd.func27 kr rfl #[.agg #[.int .i64 a0_0, .int .i64 a0_1, .slice A0_2 l0_2.length c0_2]] rfl q1 ?_; (with_reducible refine (spec_SessionsOk.calls k a0_0 a0_1 _ _ l0_2 false _ ?side1 ?side2 A6.out).mono ?_); (case side1 => exact q5); (case side2 => exact HC0_2.out); rintro e w13 ⟨rfl, hb⟩; refine ⟨_, rfl, ?_⟩; replace BK196 := am (blk_below (g := gb196) (o := .cells #[.int .i64 a0_0, .int .i64 a0_1, .slice A0_2 l0_2.length c0_2] 30 (0, 0)) u6_1 hb); replace BK197 := am (blk_below (g := gb197) (o := .cells #[.int .i64 0, .int .i64 0, .slice none 0 0] 30 (0, 0)) u6_4 hb); replace HB := am (below_step q0 hb); (try clear hb); (try clear hb2); (try clear hk); (try clear hi)))
   go_meet
   case rel => exact ⟨_, (true), q4, H', ⟨by first | omega | exact Nat.le_refl _⟩, ⟨u6_1⟩, ⟨u6_4⟩, ⟨q0⟩⟩
 clear HC3
 try clear c1
 obtain ⟨kq, x21_2, rfl, HA, HJ2, BK196, BK197, HB⟩ := hcut
 cases kq with
 | zero => exact absurd HA.out (by simp [spec_OnceEach.j0])
 | succ kj2 =>
   have H := HA.out
   clear HA
   simp only [spec_OnceEach.j0] at H
   by_cases c14 : x21_2 = true
   · subst c14
     rw [if_pos rfl] at H
     replace H := Option.bind_eq_some_iff.mp H
     obtain ⟨⟨t199, t200, t201⟩, A150, H⟩ := H
     replace H : (some (t199, t200, t201, ([] : List ByteArray))) = some (r1, r2, r3, r4) := H
     have A15 := am A150
     clear A150
     simp only [Option.some.injEq, Prod.mk.injEq] at H
     obtain ⟨rfl, rfl, rfl, rfl⟩ := H
     have hnb16 := NB196_197.out
     have hnc16 := NB197_196.out
     obtain ⟨hcz17_0, hcz17_1, hcz17_2, hfz17_0, hfz17_1, hfz17_2⟩ := bc3f wc BK196.out
     go_wp2_with (first | ((with_reducible refine gate_callee (f := 28) rfl ?_); refine goesL_ (some 23) rfl rfl Tryd.func28 kr rfl #[.agg #[.int .i64 a0_0, .int .i64 a0_1, .slice A0_2 l0_2.length c0_2]] rfl q1 ?_; (with_reducible refine (spec_l09Copy.calls kj2 a0_0 a0_1 _ _ l0_2 t199 t200 t201 _ ?side1 ?side2 A15.out).mono ?_); (case side1 => exact q5); (case side2 => exact HC0_2.out); rintro e w18 ⟨v202, rfl, ho0, hb⟩; refine ⟨_, rfl, ?_⟩; have HO203 := am (Kd.R_lower ho0 (below_size q0)); replace BK196 := am (blk_below (g := gb196) (o := .cells #[.int .i64 a0_0, .int .i64 a0_1, .slice A0_2 l0_2.length c0_2] 30 (0, 0)) u6_1 hb); replace BK197 := am (blk_below (g := gb197) (o := .cells #[.int .i64 0, .int .i64 0, .slice none 0 0] 30 (0, 0)) u6_4 hb); replace HB := am (below_step q0 hb); (try clear hb); (try clear hb2); (try clear hk); (try clear hi); (try clear ho0); obtain ⟨hcz19_0, hcz19_1, hcz19_2, hfz19_0, hfz19_1, hfz19_2⟩ := bc3f w18 BK197.out; obtain ⟨Ao20, co20, eo20⟩ := Kd.R_slice HO203.out; subst eo20))
     refine bodyPost_ret (results_ct rfl _ _ gb197 30 #[.int .i64 t199, .int .i64 t200, .slice Ao20 t201.length co20] (0, 0) _ rfl (by (with_reducible repeat (first | refine blk_drewN ?_ _ | refine blk_drew ?_ | refine blk_alloc ?_ _)); refine blk_put (cs := #[.int .i64 t199, .int .i64 t200, .slice none 0 0]) ?_ 2 _ rfl; (with_reducible repeat (first | refine blk_drewN ?_ _ | refine blk_drew ?_ | refine blk_alloc ?_ _)); refine blk_put (cs := #[.int .i64 t199, .int .i64 0, .slice none 0 0]) ?_ 1 _ rfl; (with_reducible repeat (first | refine blk_drewN ?_ _ | refine blk_drew ?_ | refine blk_alloc ?_ _)); refine blk_put (cs := #[.int .i64 0, .int .i64 0, .slice none 0 0]) ?_ 0 _ rfl; (with_reducible repeat (first | refine blk_drewN ?_ _ | refine blk_drew ?_ | refine blk_alloc ?_ _)); exact BK197.out) Tryd.underlying30 rfl kr) rfl ?_
     exact ⟨_, _, er, (by (with_reducible repeat (first | apply Kd.R_alloc | apply Kd.R_drewN | apply Kd.R_drew)); exact Kd.R_mono (Kd.R_far (p := ⟨gb197, 2, none⟩) (Kd.R_far (p := ⟨gb197, 1, none⟩) (Kd.R_far (p := ⟨gb197, 0, none⟩) (Kd.R_types HO203.out BK197.out (by decide)) (fun _ hk => hk.2) (.int .i64 t199)) (fun _ hk => hk.2) (.int .i64 t200)) (fun _ hk => hk.2) (.slice Ao20 t201.length co20)) (fun _ hk => trivial)), (by first | exact Kd.R_nil _ _ _ _ _ | exact Kd.N_nil _ _ _ _ _ | exact Kd.V_nil _ _ _ _ _ | exact Kd.Q_nil _ _ _ _ _ | exact Kd.S_nil _ _ _ _ _), q0⟩
   replace c14 := Bool.eq_false_iff.mpr c14
   subst c14
   rw [nf] at H
   replace H := Option.bind_eq_some_iff.mp H
   obtain ⟨⟨t204, t205, t206⟩, A210, H⟩ := H
   replace H : (spec_OnceEach.l0 kj2 l1 (([] : List ByteArray)) 0 t204 t205 t206) = some (r1, r2, r3, r4) := H
   have A21 := am A210
   clear A210
   obtain ⟨y210, hy210⟩ : ∃ y_ : List ByteArray, y_ = (([] : List ByteArray)) := ⟨_, rfl⟩
   replace H : (spec_OnceEach.l0 kj2 l1 y210 0 t204 t205 t206) = some (r1, r2, r3, r4) := by first | (rw [hy210]; with_reducible exact H) | (have H2_ := (Option.bind_some _ _).symm.trans H; rw [hy210]; with_reducible exact H2_) | (have H2_ := (Option.bind_some _ _).symm.trans H; with_reducible exact H2_) | with_reducible exact H | (rw [hy210]; exact H) | exact H
   have Ny210 := am hy210
   clear hy210
   have H' := am H
   clear H
   have hnb22 := NB196_197.out
   have hnc22 := NB197_196.out
   obtain ⟨hcz23_0, hcz23_1, hcz23_2, hfz23_0, hfz23_1, hfz23_2⟩ := bc3f wc BK196.out
   go_wp2_with (first | ((with_reducible refine gate_callee (f := 28) rfl ?_); refine goesL_ (some 25) rfl rfl Tryd.func28 kr rfl #[.agg #[.int .i64 a0_0, .int .i64 a0_1, .slice A0_2 l0_2.length c0_2]] rfl q1 ?_; (with_reducible refine (spec_l09Copy.calls kj2 a0_0 a0_1 _ _ l0_2 t204 t205 t206 _ ?side1 ?side2 A21.out).mono ?_); (case side1 => exact q5); (case side2 => exact HC0_2.out); rintro e w24 ⟨v207, rfl, ho0, hb⟩; refine ⟨_, rfl, ?_⟩; have HO208 := am (Kd.R_lower ho0 (below_size q0)); replace BK196 := am (blk_below (g := gb196) (o := .cells #[.int .i64 a0_0, .int .i64 a0_1, .slice A0_2 l0_2.length c0_2] 30 (0, 0)) u6_1 hb); replace BK197 := am (blk_below (g := gb197) (o := .cells #[.int .i64 0, .int .i64 0, .slice none 0 0] 30 (0, 0)) u6_4 hb); replace HB := am (below_step q0 hb); (try clear hb); (try clear hb2); (try clear hk); (try clear hi); (try clear ho0)) | ((with_reducible refine gate_dst (N := 6) rfl ?_); (try (refine gate_guard (by rfl) ?_; dsimp only)); refine box_event ?hg (N := 6) ?hd (cs := #[.int .i64 0, .int .i64 0, .slice none 0 0]) (t := 30) ?hr ?_; (case hd => rfl); (case hg => rfl); (case hr => first | (go_simp; done) | (go_simp; rfl)); intro gb209 hg w25 hbox hb; replace HO208 := am (Kd.R_below u6_30 hb); have BK209 := am (hbox); have GW209 := am ((by rw [hg]; exact (below_size q0) : w.heap.size ≤ gb209)); have GE209 := am ((by rw [hg]; exact (below_size q0) : w.heap.size ≤ gb209)); replace HB := am (below_step q0 hb); have NB196_209 := am ((by rw [hg]; exact Nat.ne_of_lt (blk_lt (g := gb196) (o := .cells #[.int .i64 a0_0, .int .i64 a0_1, .slice A0_2 l0_2.length c0_2] 30 (0, 0)) u6_1) : gb196 ≠ gb209)); have NB209_196 := am ((by rw [hg]; exact Nat.ne_of_gt (blk_lt (g := gb196) (o := .cells #[.int .i64 a0_0, .int .i64 a0_1, .slice A0_2 l0_2.length c0_2] 30 (0, 0)) u6_1) : gb209 ≠ gb196)); replace BK196 := am (blk_below (g := gb196) (o := .cells #[.int .i64 a0_0, .int .i64 a0_1, .slice A0_2 l0_2.length c0_2] 30 (0, 0)) u6_1 hb); have NB197_209 := am ((by rw [hg]; exact Nat.ne_of_lt (blk_lt (g := gb197) (o := .cells #[.int .i64 0, .int .i64 0, .slice none 0 0] 30 (0, 0)) u6_4) : gb197 ≠ gb209)); have NB209_197 := am ((by rw [hg]; exact Nat.ne_of_gt (blk_lt (g := gb197) (o := .cells #[.int .i64 0, .int .i64 0, .slice none 0 0] 30 (0, 0)) u6_4) : gb209 ≠ gb197)); replace BK197 := am (blk_below (g := gb197) (o := .cells #[.int .i64 0, .int .i64 0, .slice none 0 0] 30 (0, 0)) u6_4 hb); clear hb hbox hg; have hnb26 := NB209_196.out; have hnc26 := NB196_209.out; have hnb27 := NB209_197.out; have hnc27 := NB197_209.out; obtain ⟨hcz28_0, hcz28_1, hcz28_2, hfz28_0, hfz28_1, hfz28_2⟩ := bc3f w25 BK209.out; obtain ⟨Ao29, co29, eo29⟩ := Kd.R_slice HO208.out; subst eo29) | ((with_reducible refine gate_dst (N := 26) rfl ?_); (try (refine gate_guard (by rfl) ?_; dsimp only)); refine Kd.R_lit Kd.string _ 9 ?hg (N := 26) ?hd (xs := ([] : List ByteArray)) (inner := []) (ok := fun _ => True) (okp := fun _ => True) ?hr ?hp (fun _ hk => hk) trivial (Below.refl _ _) (Nat.le_refl _) (by simp) ?_; (case hd => rfl); (case hg => rfl); (case hr => first | (go_simp; done) | (go_simp; rfl)); (case hp => exact (Reps.none _ _)); intro v211 w30 ho31 hb hg_ hnew_; clear hg_ hnew_; (first | rw [← Ny210.out] at ho31 | (simp only [Int.reduceToNat] at ho31; rw [← Ny210.out] at ho31)); replace HO208 := am (Kd.R_below (by (with_reducible repeat (first | apply Kd.R_alloc | apply Kd.R_drewN | apply Kd.R_drew)); exact (Kd.R_mono (Kd.R_far (p := ⟨gb209, 2, none⟩) (Kd.R_far (p := ⟨gb209, 1, none⟩) (Kd.R_far (p := ⟨gb209, 0, none⟩) (Kd.R_types HO208.out BK209.out (by decide)) (fun _ hk => hk.2) (.int .i64 t204)) (fun _ hk => hk.2) (.int .i64 t205)) (fun _ hk => hk.2) (.slice Ao29 t206.length co29)) (fun _ h_ => h_.1))) hb); have HO212 := am (Kd.R_lower ho31 (below_size q0)); replace BK196 := am (blk_below (g := gb196) (o := .cells #[.int .i64 a0_0, .int .i64 a0_1, .slice A0_2 l0_2.length c0_2] 30 (0, 0)) (by (with_reducible repeat (first | refine blk_drewN ?_ _ | refine blk_drew ?_ | refine blk_alloc ?_ _)); refine blk_far ?_ NB196_209.out _; (with_reducible repeat (first | refine blk_drewN ?_ _ | refine blk_drew ?_ | refine blk_alloc ?_ _)); refine blk_far ?_ NB196_209.out _; (with_reducible repeat (first | refine blk_drewN ?_ _ | refine blk_drew ?_ | refine blk_alloc ?_ _)); refine blk_far ?_ NB196_209.out _; (with_reducible repeat (first | refine blk_drewN ?_ _ | refine blk_drew ?_ | refine blk_alloc ?_ _)); exact BK196.out) hb); replace BK197 := am (blk_below (g := gb197) (o := .cells #[.int .i64 0, .int .i64 0, .slice none 0 0] 30 (0, 0)) (by (with_reducible repeat (first | refine blk_drewN ?_ _ | refine blk_drew ?_ | refine blk_alloc ?_ _)); refine blk_far ?_ NB197_209.out _; (with_reducible repeat (first | refine blk_drewN ?_ _ | refine blk_drew ?_ | refine blk_alloc ?_ _)); refine blk_far ?_ NB197_209.out _; (with_reducible repeat (first | refine blk_drewN ?_ _ | refine blk_drew ?_ | refine blk_alloc ?_ _)); refine blk_far ?_ NB197_209.out _; (with_reducible repeat (first | refine blk_drewN ?_ _ | refine blk_drew ?_ | refine blk_alloc ?_ _)); exact BK197.out) hb); replace BK209 := am (blk_below (g := gb209) (o := .cells #[.int .i64 t204, .int .i64 t205, .slice Ao29 t206.length co29] 30 (0, 0)) (by (with_reducible repeat (first | refine blk_drewN ?_ _ | refine blk_drew ?_ | refine blk_alloc ?_ _)); refine blk_put (cs := #[.int .i64 t204, .int .i64 t205, .slice none 0 0]) ?_ 2 _ rfl; (with_reducible repeat (first | refine blk_drewN ?_ _ | refine blk_drew ?_ | refine blk_alloc ?_ _)); refine blk_put (cs := #[.int .i64 t204, .int .i64 0, .slice none 0 0]) ?_ 1 _ rfl; (with_reducible repeat (first | refine blk_drewN ?_ _ | refine blk_drew ?_ | refine blk_alloc ?_ _)); refine blk_put (cs := #[.int .i64 0, .int .i64 0, .slice none 0 0]) ?_ 0 _ rfl; (with_reducible repeat (first | refine blk_drewN ?_ _ | refine blk_drew ?_ | refine blk_alloc ?_ _)); exact BK209.out) hb); replace HB := am (below_step q0 hb); clear hb ho31))
   go_loopg [7, 8] kj2 (fun kq v7 v8 w' => ∃ (x7_2 : List ByteArray) (x8_2 : Int) (x210000_2 : Int) (x210001_2 : Int) (x210002_2 : List (S54)) (u210002 : Value), v8 = .int .i64 x8_2 ∧ Aside0 (spec_OnceEach.l0 kq l1 x7_2 x8_2 x210000_2 x210001_2 x210002_2 = some (r1, r2, r3, r4)) ∧ Aside0 (kq ≤ kj2) ∧ Aside0 (Kd.R Kd.string 9 w' w.heap.size (fun _ => True) v7 x7_2) ∧ Aside0 (Kd.R k54 54 w' w.heap.size (fun _ => True) u210002 x210002_2) ∧ Aside0 (w'.heap[gb196]? = some (.cells #[.int .i64 a0_0, .int .i64 a0_1, (.slice A0_2 l0_2.length c0_2)] 30 (0, 0))) ∧ Aside0 (w'.heap[gb197]? = some (.cells #[.int .i64 0, .int .i64 0, (.slice none 0 0)] 30 (0, 0))) ∧ Aside0 (w'.heap[gb209]? = some (.cells #[.int .i64 x210000_2, .int .i64 x210001_2, u210002] 30 (0, 0))) ∧ Aside0 (Below w.heap.size w w'))
   case atStart => exact ⟨(y210), (0), (t204), (t205), (t206), (.slice Ao29 t206.length co29), q4, H', ⟨Nat.le_refl _⟩, ⟨(by (with_reducible repeat (first | apply Kd.R_alloc | apply Kd.R_drewN | apply Kd.R_drew)); exact HO212.out)⟩, ⟨u6_30⟩, ⟨u6_1⟩, ⟨u6_4⟩, ⟨u6_15⟩, ⟨q0⟩⟩
   clear H'
   try clear c1
   try clear c14
   try clear hcz23_0
   try clear hcz23_1
   try clear hcz23_2
   try clear hcz28_0
   try clear hcz28_1
   try clear hcz28_2
   try clear hfz23_0
   try clear hfz23_1
   try clear hfz23_2
   try clear hfz28_0
   try clear hfz28_1
   try clear hfz28_2
   obtain ⟨x7_2, x8_2, x210000_2, x210001_2, x210002_2, u210002, rfl, HA, HK2, HO_7, HO_210002, BK196, BK197, BK209, HB⟩ := hrel
   cases gk with
   | zero => exact absurd HA.out (by simp [spec_OnceEach.l0])
   | succ k2 =>
     have H := HA.out
     clear HA
     simp only [spec_OnceEach.l0] at H
     by_cases c32 : x8_2 < (l1.length : Int)
     rotate_left
     · rw [if_neg c32] at H
       have c32b0 : decide (x8_2 < (l1.length : Int)) = false := decide_eq_false c32
       clear c32
       simp only [Option.some.injEq, Prod.mk.injEq] at H
       obtain ⟨rfl, rfl, rfl, rfl⟩ := H
       have hnb73 := NB209_196.out
       have hnc73 := NB196_209.out
       have hnb74 := NB209_197.out
       have hnc74 := NB197_209.out
       obtain ⟨hcz75_0, hcz75_1, hcz75_2, hfz75_0, hfz75_1, hfz75_2⟩ := bc3f wr BK209.out
       have hnb76 := NB197_196.out
       have hnc76 := NB196_197.out
       obtain ⟨hcz77_0, hcz77_1, hcz77_2, hfz77_0, hfz77_1, hfz77_2⟩ := bc3f wr BK197.out
       obtain ⟨Ao78, co78, eo78⟩ := Kd.R_slice HO_210002.out
       subst eo78
       go_wp2
       refine bodyPost_ret (results_ct rfl _ _ gb197 30 #[.int .i64 x210000_2, .int .i64 x210001_2, .slice Ao78 x210002_2.length co78] (0, 0) _ rfl (by (with_reducible repeat (first | refine blk_drewN ?_ _ | refine blk_drew ?_ | refine blk_alloc ?_ _)); refine blk_put (cs := #[.int .i64 x210000_2, .int .i64 x210001_2, .slice none 0 0]) ?_ 2 _ rfl; (with_reducible repeat (first | refine blk_drewN ?_ _ | refine blk_drew ?_ | refine blk_alloc ?_ _)); refine blk_put (cs := #[.int .i64 x210000_2, .int .i64 0, .slice none 0 0]) ?_ 1 _ rfl; (with_reducible repeat (first | refine blk_drewN ?_ _ | refine blk_drew ?_ | refine blk_alloc ?_ _)); refine blk_put (cs := #[.int .i64 0, .int .i64 0, .slice none 0 0]) ?_ 0 _ rfl; (with_reducible repeat (first | refine blk_drewN ?_ _ | refine blk_drew ?_ | refine blk_alloc ?_ _)); exact BK197.out) Tryd.underlying30 rfl kr) rfl ?_
       exact ⟨_, _, er, (by (with_reducible repeat (first | apply Kd.R_alloc | apply Kd.R_drewN | apply Kd.R_drew)); exact Kd.R_mono (Kd.R_far (p := ⟨gb197, 2, none⟩) (Kd.R_far (p := ⟨gb197, 1, none⟩) (Kd.R_far (p := ⟨gb197, 0, none⟩) (Kd.R_types HO_210002.out BK197.out (by decide)) (fun _ hk => hk.2) (.int .i64 x210000_2)) (fun _ hk => hk.2) (.int .i64 x210001_2)) (fun _ hk => hk.2) (.slice Ao78 x210002_2.length co78)) (fun _ hk => trivial)), (by (with_reducible repeat (first | apply Kd.R_alloc | apply Kd.R_drewN | apply Kd.R_drew)); exact Kd.R_mono (Kd.R_far (p := ⟨gb197, 2, none⟩) (Kd.R_far (p := ⟨gb197, 1, none⟩) (Kd.R_far (p := ⟨gb197, 0, none⟩) (Kd.R_types HO_7.out BK197.out (by decide)) (fun _ hk => hk.2) (.int .i64 x210000_2)) (fun _ hk => hk.2) (.int .i64 x210001_2)) (fun _ hk => hk.2) (.slice Ao78 x210002_2.length co78)) (fun _ hk => trivial)), q0⟩
     rw [if_pos c32] at H
     have c32b0 : decide (x8_2 < (l1.length : Int)) = true := decide_eq_true c32
     clear c32
     by_cases c33 : 0 ≤ x8_2
     rotate_left
     · rw [if_neg c33] at H
       exact absurd H (by simp)
     rw [if_pos c33] at H
     have c33b0 : decide (0 ≤ x8_2) = true := decide_eq_true c33
     clear c33
     replace H := Option.bind_eq_some_iff.mp H
     obtain ⟨⟨t215, t216⟩, A340, H⟩ := H
     (try dsimp only at H)
     have A34 := am A340
     clear A340
     replace H := Option.bind_eq_some_iff.mp H
     obtain ⟨⟨t217, t218, t219, t222⟩, A350, H⟩ := H
     (try dsimp only at H)
     have A35 := am A350
     clear A350
     have H9 := am H
     clear H
     have p213 : 0 ≤ (x8_2 : Int) := of_decide_eq_true (by first | (with_reducible assumption) | assumption)
     have q213 : x8_2 < (l1.length : Int) := of_decide_eq_true (by first | (with_reducible assumption) | assumption)
     obtain ⟨ad213, e213, hx213_0, hx213_1, hx213_2⟩ := at_T50 HR1.out x8_2 p213 q213
     cases e213
     replace hx213_0 := cm HB.out hx213_0
     replace hx213_1 := cm HB.out hx213_1
     replace hx213_2 := cm HB.out hx213_2
     replace p213 := eq_true p213
     replace q213 := eq_true q213
     go_upto_if 64 with (first | ((with_reducible refine gate_dst (N := 9) rfl ?_); (try (refine gate_guard (by rfl) ?_; dsimp only)); refine box_event ?hg (N := 9) ?hd (cs := #[.int .i64 0, .int .i64 0, .string (⟨#[]⟩ : ByteArray)]) (t := 50) ?hr ?_; (case hd => rfl); (case hg => rfl); (case hr => first | (go_simp; done) | (go_simp; rfl)); intro gb214 hg w36 hbox hb; replace HO_7 := am (Kd.R_below q6 hb); replace HO_210002 := am (Kd.R_below u6_25 hb); have BK214 := am (hbox); have GW214 := am ((by rw [hg]; exact (below_size q0) : w.heap.size ≤ gb214)); have GE214 := am ((by rw [hg]; exact (below_size q0) : w.heap.size ≤ gb214)); replace HB := am (below_step q0 hb); have NB196_214 := am ((by rw [hg]; exact Nat.ne_of_lt (blk_lt (g := gb196) (o := .cells #[.int .i64 a0_0, .int .i64 a0_1, .slice A0_2 l0_2.length c0_2] 30 (0, 0)) u6_1) : gb196 ≠ gb214)); have NB214_196 := am ((by rw [hg]; exact Nat.ne_of_gt (blk_lt (g := gb196) (o := .cells #[.int .i64 a0_0, .int .i64 a0_1, .slice A0_2 l0_2.length c0_2] 30 (0, 0)) u6_1) : gb214 ≠ gb196)); replace BK196 := am (blk_below (g := gb196) (o := .cells #[.int .i64 a0_0, .int .i64 a0_1, .slice A0_2 l0_2.length c0_2] 30 (0, 0)) u6_1 hb); have NB197_214 := am ((by rw [hg]; exact Nat.ne_of_lt (blk_lt (g := gb197) (o := .cells #[.int .i64 0, .int .i64 0, .slice none 0 0] 30 (0, 0)) u6_4) : gb197 ≠ gb214)); have NB214_197 := am ((by rw [hg]; exact Nat.ne_of_gt (blk_lt (g := gb197) (o := .cells #[.int .i64 0, .int .i64 0, .slice none 0 0] 30 (0, 0)) u6_4) : gb214 ≠ gb197)); replace BK197 := am (blk_below (g := gb197) (o := .cells #[.int .i64 0, .int .i64 0, .slice none 0 0] 30 (0, 0)) u6_4 hb); have NB209_214 := am ((by rw [hg]; exact Nat.ne_of_lt (blk_lt (g := gb209) (o := .cells #[.int .i64 x210000_2, .int .i64 x210001_2, u210002] 30 (0, 0)) u6_15) : gb209 ≠ gb214)); have NB214_209 := am ((by rw [hg]; exact Nat.ne_of_gt (blk_lt (g := gb209) (o := .cells #[.int .i64 x210000_2, .int .i64 x210001_2, u210002] 30 (0, 0)) u6_15) : gb214 ≠ gb209)); replace BK209 := am (blk_below (g := gb209) (o := .cells #[.int .i64 x210000_2, .int .i64 x210001_2, u210002] 30 (0, 0)) u6_15 hb); clear hb hbox hg; have hnb37 := NB214_196.out; have hnc37 := NB196_214.out; have hnb38 := NB214_197.out; have hnc38 := NB197_214.out; have hnb39 := NB214_209.out; have hnc39 := NB209_214.out; obtain ⟨hcz40_0, hcz40_1, hcz40_2, hfz40_0, hfz40_1, hfz40_2⟩ := bc3f w36 BK214.out; have hnb41 := NB209_196.out; have hnc41 := NB196_209.out; have hnb42 := NB209_197.out; have hnc42 := NB197_209.out; obtain ⟨hcz43_0, hcz43_1, hcz43_2, hfz43_0, hfz43_1, hfz43_2⟩ := bc3f w36 BK209.out; obtain ⟨Ao44, co44, eo44⟩ := Kd.R_slice HO_210002.out; subst eo44) | ((with_reducible refine gate_callee (f := 29) rfl ?_); refine goesL_ (some 43) rfl rfl Tryd.func29 kr rfl #[.agg #[.int .i64 x210000_2, .int .i64 x210001_2, .slice Ao44 x210002_2.length co44], .int .i64 ((rd_T50 l1 x8_2).f0), .int .i64 ((rd_T50 l1 x8_2).f1)] rfl q1 ?_; (with_reducible refine (spec_Look.calls k2 x210000_2 x210001_2 _ _ x210002_2 ((rd_T50 l1 x8_2).f0) ((rd_T50 l1 x8_2).f1) t215 t216 _ ?side1 ?side2 A34.out).mono ?_); (case side1 => exact (by refine (Kd.R_reads' (e := 54) (base := w.heap.size) (ok := fun k_ => True) (n := x210002_2.length) (c := co44) ?_).2.2; exact u6_24)); (case side2 => exact (Kd.R_reads' HO_210002.out).2.1); rintro e w45 ⟨rfl, hb⟩; refine ⟨_, rfl, ?_⟩; replace HO_7 := am (Kd.R_below (by (with_reducible repeat (first | apply Kd.R_alloc | apply Kd.R_drewN | apply Kd.R_drew)); exact (Kd.R_mono (Kd.R_far (p := ⟨gb214, 2, none⟩) (Kd.R_far (p := ⟨gb214, 1, none⟩) (Kd.R_far (p := ⟨gb214, 0, none⟩) (Kd.R_types HO_7.out BK214.out (by decide)) (fun _ hk => hk.2) (.int .i64 ((rd_T50 l1 x8_2).f0))) (fun _ hk => hk.2) (.int .i64 ((rd_T50 l1 x8_2).f1))) (fun _ hk => hk.2) (.string ((rd_T50 l1 x8_2).f2))) (fun _ h_ => h_.1))) hb); replace HO_210002 := am (Kd.R_below u6_24 hb); replace BK196 := am (blk_below (g := gb196) (o := .cells #[.int .i64 a0_0, .int .i64 a0_1, .slice A0_2 l0_2.length c0_2] 30 (0, 0)) (by (with_reducible repeat (first | refine blk_drewN ?_ _ | refine blk_drew ?_ | refine blk_alloc ?_ _)); refine blk_far ?_ NB196_214.out _; (with_reducible repeat (first | refine blk_drewN ?_ _ | refine blk_drew ?_ | refine blk_alloc ?_ _)); refine blk_far ?_ NB196_214.out _; (with_reducible repeat (first | refine blk_drewN ?_ _ | refine blk_drew ?_ | refine blk_alloc ?_ _)); refine blk_far ?_ NB196_214.out _; (with_reducible repeat (first | refine blk_drewN ?_ _ | refine blk_drew ?_ | refine blk_alloc ?_ _)); exact BK196.out) hb); replace BK197 := am (blk_below (g := gb197) (o := .cells #[.int .i64 0, .int .i64 0, .slice none 0 0] 30 (0, 0)) (by (with_reducible repeat (first | refine blk_drewN ?_ _ | refine blk_drew ?_ | refine blk_alloc ?_ _)); refine blk_far ?_ NB197_214.out _; (with_reducible repeat (first | refine blk_drewN ?_ _ | refine blk_drew ?_ | refine blk_alloc ?_ _)); refine blk_far ?_ NB197_214.out _; (with_reducible repeat (first | refine blk_drewN ?_ _ | refine blk_drew ?_ | refine blk_alloc ?_ _)); refine blk_far ?_ NB197_214.out _; (with_reducible repeat (first | refine blk_drewN ?_ _ | refine blk_drew ?_ | refine blk_alloc ?_ _)); exact BK197.out) hb); replace BK209 := am (blk_below (g := gb209) (o := .cells #[.int .i64 x210000_2, .int .i64 x210001_2, .slice Ao44 x210002_2.length co44] 30 (0, 0)) (by (with_reducible repeat (first | refine blk_drewN ?_ _ | refine blk_drew ?_ | refine blk_alloc ?_ _)); refine blk_far ?_ NB209_214.out _; (with_reducible repeat (first | refine blk_drewN ?_ _ | refine blk_drew ?_ | refine blk_alloc ?_ _)); refine blk_far ?_ NB209_214.out _; (with_reducible repeat (first | refine blk_drewN ?_ _ | refine blk_drew ?_ | refine blk_alloc ?_ _)); refine blk_far ?_ NB209_214.out _; (with_reducible repeat (first | refine blk_drewN ?_ _ | refine blk_drew ?_ | refine blk_alloc ?_ _)); exact BK209.out) hb); replace BK214 := am (blk_below (g := gb214) (o := .cells #[.int .i64 ((rd_T50 l1 x8_2).f0), .int .i64 ((rd_T50 l1 x8_2).f1), .string ((rd_T50 l1 x8_2).f2)] 50 (0, 0)) (by (with_reducible repeat (first | refine blk_drewN ?_ _ | refine blk_drew ?_ | refine blk_alloc ?_ _)); refine blk_put (cs := #[.int .i64 ((rd_T50 l1 x8_2).f0), .int .i64 ((rd_T50 l1 x8_2).f1), .string (⟨#[]⟩ : ByteArray)]) ?_ 2 _ rfl; (with_reducible repeat (first | refine blk_drewN ?_ _ | refine blk_drew ?_ | refine blk_alloc ?_ _)); refine blk_put (cs := #[.int .i64 ((rd_T50 l1 x8_2).f0), .int .i64 0, .string (⟨#[]⟩ : ByteArray)]) ?_ 1 _ rfl; (with_reducible repeat (first | refine blk_drewN ?_ _ | refine blk_drew ?_ | refine blk_alloc ?_ _)); refine blk_put (cs := #[.int .i64 0, .int .i64 0, .string (⟨#[]⟩ : ByteArray)]) ?_ 0 _ rfl; (with_reducible repeat (first | refine blk_drewN ?_ _ | refine blk_drew ?_ | refine blk_alloc ?_ _)); exact BK214.out) hb); replace HB := am (below_step q0 hb); (try clear hb); (try clear hb2); (try clear hk); (try clear hi); obtain ⟨hcz46_0, hcz46_1, hcz46_2, hfz46_0, hfz46_1, hfz46_2⟩ := bc3f w45 BK209.out; obtain ⟨hcz47_0, hcz47_1, hcz47_2, hfz47_0, hfz47_1, hfz47_2⟩ := bc3f w45 BK214.out) | ((with_reducible refine gate_callee (f := 30) rfl ?_); refine goesL_ (some 54) rfl rfl Tryd.func30 kr rfl #[.agg #[.int .i64 x210000_2, .int .i64 x210001_2, .slice Ao44 x210002_2.length co44], .int .i64 ((rd_T50 l1 x8_2).f0), .int .i64 ((rd_T50 l1 x8_2).f1), .string ((rd_T50 l1 x8_2).f2)] rfl q1 ?_; (with_reducible refine (spec_Keep.calls k2 x210000_2 x210001_2 _ _ x210002_2 ((rd_T50 l1 x8_2).f0) ((rd_T50 l1 x8_2).f1) ((rd_T50 l1 x8_2).f2) t217 t218 t219 t222 _ ?side1 ?side2 A35.out).mono ?_); (case side1 => exact (by repeat (first | exact (Kd.R_reads' HO_210002.out).2.2 | (with_reducible refine Kd.C_alloc ?_ _) | (with_reducible refine Kd.C_drewN ?_ _) | (with_reducible refine Kd.C_drew ?_)))); (case side2 => exact (Kd.R_reads' HO_210002.out).2.1); rintro e w48 ⟨v220, rfl, ho0, hb⟩; refine ⟨_, rfl, ?_⟩; replace HO_7 := am (Kd.R_below q6 hb); have HO221 := am (Kd.R_lower (Kd.R_new' ho0 (Kd.R_lt u6_25)) (below_size q0)); replace HO_210002 := am (Kd.R_elder' u6_25 (Kd.R_base ho0) hb); replace BK196 := am (blk_below (g := gb196) (o := .cells #[.int .i64 a0_0, .int .i64 a0_1, .slice A0_2 l0_2.length c0_2] 30 (0, 0)) u6_1 hb); replace BK197 := am (blk_below (g := gb197) (o := .cells #[.int .i64 0, .int .i64 0, .slice none 0 0] 30 (0, 0)) u6_4 hb); replace BK209 := am (blk_below (g := gb209) (o := .cells #[.int .i64 x210000_2, .int .i64 x210001_2, .slice Ao44 x210002_2.length co44] 30 (0, 0)) u6_15 hb); replace BK214 := am (blk_below (g := gb214) (o := .cells #[.int .i64 ((rd_T50 l1 x8_2).f0), .int .i64 ((rd_T50 l1 x8_2).f1), .string ((rd_T50 l1 x8_2).f2)] 50 (0, 0)) u6_22 hb); replace HB := am (below_step q0 hb); (try clear hb); (try clear hb2); (try clear hk); (try clear hi); (try clear ho0)) | ((with_reducible refine gate_dst (N := 12) rfl ?_); (try (refine gate_guard (by rfl) ?_; dsimp only)); refine box_event ?hg (N := 12) ?hd (cs := #[.int .i64 0, .int .i64 0, .slice none 0 0]) (t := 30) ?hr ?_; (case hd => rfl); (case hg => rfl); (case hr => first | (go_simp; done) | (go_simp; rfl)); intro gb223 hg w49 hbox hb; replace HO_7 := am (Kd.R_below q6 hb); replace HO_210002 := am (Kd.R_below u6_25 hb); replace HO221 := am (Kd.R_below u6_31 hb); have BK223 := am (hbox); have GW223 := am ((by rw [hg]; exact (below_size q0) : w.heap.size ≤ gb223)); have GE223 := am ((by rw [hg]; exact (below_size q0) : w.heap.size ≤ gb223)); replace HB := am (below_step q0 hb); have NB196_223 := am ((by rw [hg]; exact Nat.ne_of_lt (blk_lt (g := gb196) (o := .cells #[.int .i64 a0_0, .int .i64 a0_1, .slice A0_2 l0_2.length c0_2] 30 (0, 0)) u6_1) : gb196 ≠ gb223)); have NB223_196 := am ((by rw [hg]; exact Nat.ne_of_gt (blk_lt (g := gb196) (o := .cells #[.int .i64 a0_0, .int .i64 a0_1, .slice A0_2 l0_2.length c0_2] 30 (0, 0)) u6_1) : gb223 ≠ gb196)); replace BK196 := am (blk_below (g := gb196) (o := .cells #[.int .i64 a0_0, .int .i64 a0_1, .slice A0_2 l0_2.length c0_2] 30 (0, 0)) u6_1 hb); have NB197_223 := am ((by rw [hg]; exact Nat.ne_of_lt (blk_lt (g := gb197) (o := .cells #[.int .i64 0, .int .i64 0, .slice none 0 0] 30 (0, 0)) u6_4) : gb197 ≠ gb223)); have NB223_197 := am ((by rw [hg]; exact Nat.ne_of_gt (blk_lt (g := gb197) (o := .cells #[.int .i64 0, .int .i64 0, .slice none 0 0] 30 (0, 0)) u6_4) : gb223 ≠ gb197)); replace BK197 := am (blk_below (g := gb197) (o := .cells #[.int .i64 0, .int .i64 0, .slice none 0 0] 30 (0, 0)) u6_4 hb); have NB209_223 := am ((by rw [hg]; exact Nat.ne_of_lt (blk_lt (g := gb209) (o := .cells #[.int .i64 x210000_2, .int .i64 x210001_2, .slice Ao44 x210002_2.length co44] 30 (0, 0)) u6_15) : gb209 ≠ gb223)); have NB223_209 := am ((by rw [hg]; exact Nat.ne_of_gt (blk_lt (g := gb209) (o := .cells #[.int .i64 x210000_2, .int .i64 x210001_2, .slice Ao44 x210002_2.length co44] 30 (0, 0)) u6_15) : gb223 ≠ gb209)); replace BK209 := am (blk_below (g := gb209) (o := .cells #[.int .i64 x210000_2, .int .i64 x210001_2, .slice Ao44 x210002_2.length co44] 30 (0, 0)) u6_15 hb); have NB214_223 := am ((by rw [hg]; exact Nat.ne_of_lt (blk_lt (g := gb214) (o := .cells #[.int .i64 ((rd_T50 l1 x8_2).f0), .int .i64 ((rd_T50 l1 x8_2).f1), .string ((rd_T50 l1 x8_2).f2)] 50 (0, 0)) u6_22) : gb214 ≠ gb223)); have NB223_214 := am ((by rw [hg]; exact Nat.ne_of_gt (blk_lt (g := gb214) (o := .cells #[.int .i64 ((rd_T50 l1 x8_2).f0), .int .i64 ((rd_T50 l1 x8_2).f1), .string ((rd_T50 l1 x8_2).f2)] 50 (0, 0)) u6_22) : gb223 ≠ gb214)); replace BK214 := am (blk_below (g := gb214) (o := .cells #[.int .i64 ((rd_T50 l1 x8_2).f0), .int .i64 ((rd_T50 l1 x8_2).f1), .string ((rd_T50 l1 x8_2).f2)] 50 (0, 0)) u6_22 hb); clear hb hbox hg; have hnb50 := NB223_196.out; have hnc50 := NB196_223.out; have hnb51 := NB223_197.out; have hnc51 := NB197_223.out; have hnb52 := NB223_209.out; have hnc52 := NB209_223.out; have hnb53 := NB223_214.out; have hnc53 := NB214_223.out; obtain ⟨hcz54_0, hcz54_1, hcz54_2, hfz54_0, hfz54_1, hfz54_2⟩ := bc3f w49 BK223.out; obtain ⟨Ao55, co55, eo55⟩ := Kd.R_slice HO221.out; subst eo55; obtain ⟨hcz56_0, hcz56_1, hcz56_2, hfz56_0, hfz56_1, hfz56_2⟩ := bc3f w49 BK209.out))
     have H := H9.out
     clear H9
     by_cases c57 : t222 = true
     · subst c57
       rw [if_pos rfl] at H
       by_cases c58 : x7_2.length < 8796093022208
       rotate_left
       · rw [if_neg c58] at H
         exact absurd H (by simp)
       rw [if_pos c58] at H
       have LMc58 := am c58
       clear c58
       obtain ⟨y224, hy224⟩ : ∃ y_ : List ByteArray, y_ = (x7_2 ++ [(rd_T50 l1 x8_2).f2]) := ⟨_, rfl⟩
       replace H : (spec_OnceEach.l0 k2 l1 y224 (wrap64 (x8_2 + 1)) t217 t218 t219) = some (r1, r2, r3, r4) := by first | (rw [hy224]; with_reducible exact H) | (have H2_ := (Option.bind_some _ _).symm.trans H; rw [hy224]; with_reducible exact H2_) | (have H2_ := (Option.bind_some _ _).symm.trans H; with_reducible exact H2_) | with_reducible exact H | (rw [hy224]; exact H) | exact H
       have Ny224 := am hy224
       clear hy224
       have H' := am H
       clear H
       have hnb59 := NB214_196.out
       have hnc59 := NB196_214.out
       have hnb60 := NB214_197.out
       have hnc60 := NB197_214.out
       have hnb61 := NB214_209.out
       have hnc61 := NB209_214.out
       have hnb62 := NB214_223.out
       have hnc62 := NB223_214.out
       obtain ⟨hcz63_0, hcz63_1, hcz63_2, hfz63_0, hfz63_1, hfz63_2⟩ := bc3f w49 BK214.out
       go_wp2_with (first | ((with_reducible refine gate_builtin (b := .append) (xs := #[.tmp 66, .tmp 69]) rfl ?_); (try (refine gate_guard (by rfl) ?_; dsimp only)); at_builtin; refine Kd.R_append Kd.string (w0 := w) w.heap.size rfl (.tmp 66) (.tmp 69) 31 9 (.string ⟨#[]⟩) 16 rfl Tryd.underlying31 info9 rfl (by decide) (by omega) u7 x7_2 ((rd_T50 l1 x8_2).f2) [.string ((rd_T50 l1 x8_2).f2)] (fun _ => True) (fun _ => False) rfl (by first | (go_simp; done) | (go_simp; rfl)) ?aP (fun _ hk => hk.elim) ?aF ?aO ?aB ?aS ?aL ?_; (case aP => exact rfl); (case aB => exact q0); (case aF => exact (fun _ _ => trivial)); (case aO => exact u6_18); (case aS => exact (below_size q0)); (case aL => have := LMc58.out; omega); intro v225 w64 ho hb hg hat; rw [← Ny224.out] at ho; replace HO_210002 := am (Kd.R_over' u6_11 (Kd.R_typed u6_0) (by decide) hg); replace BK196 := am (blk_grown (g := gb196) (o := .cells #[.int .i64 a0_0, .int .i64 a0_1, .slice A0_2 l0_2.length c0_2] 30 (0, 0)) u6_8 hg (Kd.R_ne HO_7.out BK196.out (by decide))); replace BK197 := am (blk_grown (g := gb197) (o := .cells #[.int .i64 0, .int .i64 0, .slice none 0 0] 30 (0, 0)) u6_9 hg (Kd.R_ne HO_7.out BK197.out (by decide))); replace BK214 := am (blk_grown (g := gb214) (o := .cells #[.int .i64 ((rd_T50 l1 x8_2).f0), .int .i64 ((rd_T50 l1 x8_2).f1), .string ((rd_T50 l1 x8_2).f2)] 50 (0, 0)) u6_10 hg (Kd.R_ne HO_7.out BK214.out (by decide))); replace HO221 := am (Kd.R_over' u6_12 (Kd.R_typed u6_0) (by decide) hg); replace BK209 := am (blk_grown (g := gb209) (o := .cells #[.int .i64 t217, .int .i64 t218, .slice Ao55 t219.length co55] 30 (0, 0)) u6_3 hg (Kd.R_ne HO_7.out BK209.out (by decide))); replace BK223 := am (blk_grown (g := gb223) (o := .cells #[.int .i64 t217, .int .i64 t218, .slice Ao55 t219.length co55] 30 (0, 0)) u6_5 hg (Kd.R_ne HO_7.out BK223.out (by decide))); replace HB := am (hb); have HO226 := am (ho); clear HO_7; clear ho hb hg hat))
       go_roundg k2
       case measure => have := HJ2.out; have := HK2.out; omega
       case rel => exact ⟨(y224), (wrap64 (x8_2 + 1)), (t217), (t218), (t219), (.slice Ao55 t219.length co55), q4, H', ⟨u6_32⟩, ⟨(by (with_reducible repeat (first | apply Kd.R_alloc | apply Kd.R_drewN | apply Kd.R_drew)); exact HO226.out)⟩, ⟨u6_28⟩, ⟨u6_1⟩, ⟨u6_4⟩, ⟨u6_15⟩, ⟨q0⟩⟩
     replace c57 := Bool.eq_false_iff.mpr c57
     subst c57
     rw [nf] at H
     by_cases c65 : t215 = 1
     · rw [if_pos c65] at H
       have c65b0 : (t215 == 1) = true := beq_iff_eq.mpr c65
       have c65b1 : (t215 != 1) = false := bne_eq_false_iff_eq.mpr c65
       clear c65
       (first | rw [c65b0] | (simp only [i64_w, i32_w]; rw [c65b0]) | skip)
       by_cases c66 : x7_2.length < 8796093022208
       rotate_left
       · rw [if_neg c66] at H
         exact absurd H (by simp)
       rw [if_pos c66] at H
       have LMc66 := am c66
       clear c66
       obtain ⟨y227, hy227⟩ : ∃ y_ : List ByteArray, y_ = (x7_2 ++ [t216]) := ⟨_, rfl⟩
       replace H : (spec_OnceEach.l0 k2 l1 y227 (wrap64 (x8_2 + 1)) t217 t218 t219) = some (r1, r2, r3, r4) := by first | (rw [hy227]; with_reducible exact H) | (have H2_ := (Option.bind_some _ _).symm.trans H; rw [hy227]; with_reducible exact H2_) | (have H2_ := (Option.bind_some _ _).symm.trans H; with_reducible exact H2_) | with_reducible exact H | (rw [hy227]; exact H) | exact H
       have Ny227 := am hy227
       clear hy227
       have H' := am H
       clear H
       go_wp2_with (first | ((with_reducible refine gate_builtin (b := .append) (xs := #[.tmp 74, .tmp 76]) rfl ?_); (try (refine gate_guard (by rfl) ?_; dsimp only)); at_builtin; refine Kd.R_append Kd.string (w0 := w) w.heap.size rfl (.tmp 74) (.tmp 76) 31 9 (.string ⟨#[]⟩) 16 rfl Tryd.underlying31 info9 rfl (by decide) (by omega) u7 x7_2 t216 [.string t216] (fun _ => True) (fun _ => False) rfl (by first | (go_simp; done) | (go_simp; rfl)) ?aP (fun _ hk => hk.elim) ?aF ?aO ?aB ?aS ?aL ?_; (case aP => exact rfl); (case aB => exact q0); (case aF => exact (fun _ _ => trivial)); (case aO => exact u6_18); (case aS => exact (below_size q0)); (case aL => have := LMc66.out; omega); intro v228 w67 ho hb hg hat; rw [← Ny227.out] at ho; replace HO_210002 := am (Kd.R_over' u6_11 (Kd.R_typed u6_0) (by decide) hg); replace BK196 := am (blk_grown (g := gb196) (o := .cells #[.int .i64 a0_0, .int .i64 a0_1, .slice A0_2 l0_2.length c0_2] 30 (0, 0)) u6_8 hg (Kd.R_ne HO_7.out BK196.out (by decide))); replace BK197 := am (blk_grown (g := gb197) (o := .cells #[.int .i64 0, .int .i64 0, .slice none 0 0] 30 (0, 0)) u6_9 hg (Kd.R_ne HO_7.out BK197.out (by decide))); replace BK214 := am (blk_grown (g := gb214) (o := .cells #[.int .i64 ((rd_T50 l1 x8_2).f0), .int .i64 ((rd_T50 l1 x8_2).f1), .string ((rd_T50 l1 x8_2).f2)] 50 (0, 0)) u6_10 hg (Kd.R_ne HO_7.out BK214.out (by decide))); replace HO221 := am (Kd.R_over' u6_12 (Kd.R_typed u6_0) (by decide) hg); replace BK209 := am (blk_grown (g := gb209) (o := .cells #[.int .i64 t217, .int .i64 t218, .slice Ao55 t219.length co55] 30 (0, 0)) u6_3 hg (Kd.R_ne HO_7.out BK209.out (by decide))); replace BK223 := am (blk_grown (g := gb223) (o := .cells #[.int .i64 t217, .int .i64 t218, .slice Ao55 t219.length co55] 30 (0, 0)) u6_5 hg (Kd.R_ne HO_7.out BK223.out (by decide))); replace HB := am (hb); have HO229 := am (ho); clear HO_7; clear ho hb hg hat))
       go_roundg k2
       case measure => have := HJ2.out; have := HK2.out; omega
       case rel => exact ⟨(y227), (wrap64 (x8_2 + 1)), (t217), (t218), (t219), (.slice Ao55 t219.length co55), q4, H', ⟨u6_32⟩, ⟨(by (with_reducible repeat (first | apply Kd.R_alloc | apply Kd.R_drewN | apply Kd.R_drew)); exact HO229.out)⟩, ⟨u6_28⟩, ⟨u6_1⟩, ⟨u6_4⟩, ⟨u6_15⟩, ⟨q0⟩⟩
     rw [if_neg c65] at H
     have c65b0 : (t215 == 1) = false := beq_eq_false_iff_ne.mpr c65
     have c65b1 : (t215 != 1) = true := bne_iff_ne.mpr c65
     (first | rw [c65b0] | (simp only [i64_w, i32_w]; rw [c65b0]) | skip)
     replace H := Option.bind_eq_some_iff.mp H
     obtain ⟨t230, A680, H⟩ := H
     have A68 := am A680
     clear A680
     by_cases c69 : 1 + t230.size ≤ 9223372036854775807
     rotate_left
     · rw [if_neg c69] at H
       exact absurd H (by simp)
     rw [if_pos c69] at H
     have c69b0 := eq_true c69
     have c69b1 : decide (1 + t230.size ≤ 9223372036854775807) = true := decide_eq_true c69
     try have c69b2 : (9223372036854775807 < 1 + t230.size) = False := eq_false (Nat.not_lt.2 c69)
     by_cases c70 : x7_2.length < 8796093022208
     rotate_left
     · rw [if_neg c70] at H
       exact absurd H (by simp)
     rw [if_pos c70] at H
     have LMc70 := am c70
     clear c70
     obtain ⟨y231, hy231⟩ : ∃ y_ : List ByteArray, y_ = (x7_2 ++ [(⟨#[33]⟩ : ByteArray) ++ t230]) := ⟨_, rfl⟩
     replace H : (spec_OnceEach.l0 k2 l1 y231 (wrap64 (x8_2 + 1)) t217 t218 t219) = some (r1, r2, r3, r4) := by first | (rw [hy231]; with_reducible exact H) | (have H2_ := (Option.bind_some _ _).symm.trans H; rw [hy231]; with_reducible exact H2_) | (have H2_ := (Option.bind_some _ _).symm.trans H; with_reducible exact H2_) | with_reducible exact H | (rw [hy231]; exact H) | exact H
     have Ny231 := am hy231
     clear hy231
     have H' := am H
     clear H
     go_wp2_with (first | ((with_reducible refine gate_callee (f := 31) rfl ?_); refine goesL_ (some 60) rfl rfl Tryd.func31 kr rfl #[.int .i64 t215] rfl q1 ?_; (with_reducible refine (spec_l01Num.calls k2 t215 t230 _ A68.out).mono ?_); rintro e w71 ⟨rfl, hb⟩; refine ⟨_, rfl, ?_⟩; replace HO_7 := am (Kd.R_below u6_0 hb); replace HO_210002 := am (Kd.R_below u6_11 hb); replace HO221 := am (Kd.R_below u6_12 hb); replace BK196 := am (blk_below (g := gb196) (o := .cells #[.int .i64 a0_0, .int .i64 a0_1, .slice A0_2 l0_2.length c0_2] 30 (0, 0)) u6_8 hb); replace BK197 := am (blk_below (g := gb197) (o := .cells #[.int .i64 0, .int .i64 0, .slice none 0 0] 30 (0, 0)) u6_9 hb); replace BK209 := am (blk_below (g := gb209) (o := .cells #[.int .i64 t217, .int .i64 t218, .slice Ao55 t219.length co55] 30 (0, 0)) u6_3 hb); replace BK214 := am (blk_below (g := gb214) (o := .cells #[.int .i64 ((rd_T50 l1 x8_2).f0), .int .i64 ((rd_T50 l1 x8_2).f1), .string ((rd_T50 l1 x8_2).f2)] 50 (0, 0)) u6_10 hb); replace BK223 := am (blk_below (g := gb223) (o := .cells #[.int .i64 t217, .int .i64 t218, .slice Ao55 t219.length co55] 30 (0, 0)) u6_5 hb); replace HB := am (below_step q0 hb); (try clear hb); (try clear hb2); (try clear hk); (try clear hi)) | ((with_reducible refine gate_builtin (b := .append) (xs := #[.tmp 58, .tmp 62]) rfl ?_); (try (refine gate_guard (by rfl) ?_; dsimp only)); at_builtin; refine Kd.R_append Kd.string (w0 := w) w.heap.size rfl (.tmp 58) (.tmp 62) 31 9 (.string ⟨#[]⟩) 16 rfl Tryd.underlying31 info9 rfl (by decide) (by omega) u7 x7_2 ((⟨#[33]⟩ : ByteArray) ++ t230) [.string ((⟨#[33]⟩ : ByteArray) ++ t230)] (fun _ => True) (fun _ => False) rfl rfl ?aP (fun _ hk => hk.elim) ?aF ?aO ?aB ?aS ?aL ?_; (case aP => exact rfl); (case aB => exact q0); (case aF => exact (fun _ _ => trivial)); (case aO => exact q6); (case aS => exact (below_size q0)); (case aL => have := LMc70.out; omega); intro v232 w72 ho hb hg hat; rw [← Ny231.out] at ho; replace HO_210002 := am (Kd.R_over' u6_25 (Kd.R_typed q6) (by decide) hg); replace BK196 := am (blk_grown (g := gb196) (o := .cells #[.int .i64 a0_0, .int .i64 a0_1, .slice A0_2 l0_2.length c0_2] 30 (0, 0)) u6_1 hg (Kd.R_ne HO_7.out BK196.out (by decide))); replace BK197 := am (blk_grown (g := gb197) (o := .cells #[.int .i64 0, .int .i64 0, .slice none 0 0] 30 (0, 0)) u6_4 hg (Kd.R_ne HO_7.out BK197.out (by decide))); replace BK209 := am (blk_grown (g := gb209) (o := .cells #[.int .i64 t217, .int .i64 t218, .slice Ao55 t219.length co55] 30 (0, 0)) u6_15 hg (Kd.R_ne HO_7.out BK209.out (by decide))); replace BK214 := am (blk_grown (g := gb214) (o := .cells #[.int .i64 ((rd_T50 l1 x8_2).f0), .int .i64 ((rd_T50 l1 x8_2).f1), .string ((rd_T50 l1 x8_2).f2)] 50 (0, 0)) u6_22 hg (Kd.R_ne HO_7.out BK214.out (by decide))); replace HO221 := am (Kd.R_over' u6_31 (Kd.R_typed q6) (by decide) hg); replace BK223 := am (blk_grown (g := gb223) (o := .cells #[.int .i64 t217, .int .i64 t218, .slice Ao55 t219.length co55] 30 (0, 0)) (by (with_reducible repeat (first | refine blk_drewN ?_ _ | refine blk_drew ?_ | refine blk_alloc ?_ _)); exact BK223.out) hg (Kd.R_ne HO_7.out BK223.out (by decide))); replace HB := am (hb); have HO233 := am (ho); clear HO_7; clear ho hb hg hat))
     go_roundg k2
     case measure => have := HJ2.out; have := HK2.out; omega
     case rel => exact ⟨(y231), (wrap64 (x8_2 + 1)), (t217), (t218), (t219), (.slice Ao55 t219.length co55), q4, H', ⟨u6_32⟩, ⟨(by (with_reducible repeat (first | apply Kd.R_alloc | apply Kd.R_drewN | apply Kd.R_drew)); exact HO233.out)⟩, ⟨u6_28⟩, ⟨u6_1⟩, ⟨u6_4⟩, ⟨u6_15⟩, ⟨q0⟩⟩

/-! ### impl_copySessions: function 34 -/
def impl_copySessions.f (a0_0 : Int) (a0_1 : Int) (l0_2 : List (S54)) : Option (Int × Int × (List (S54))) := (some (([] : List (S54)) : List (S54))).bind fun y236 => (if y236.length + l0_2.length < 3518437208883 then (some (a0_0, a0_1, (y236 ++ l0_2))) else (none))
set_option maxHeartbeats 8000000 in
set_option maxRecDepth 100000 in
theorem impl_copySessions.calls (a0_0 : Int) (a0_1 : Int) (A0_2 : Option Addr) (c0_2 : Nat) (l0_2 : List (S54)) (r1 : Int) (r2 : Int) (r3 : List (S54)) (w : World) (hr0_2 : Kd.C k54 w A0_2 l0_2.length l0_2) (hc0_2 : l0_2.length ≤ c0_2) (h : impl_copySessions.f a0_0 a0_1 l0_2 = some (r1, r2, r3)) :
   Calls Tryd.prog 34 #[.agg #[.int .i64 a0_0, .int .i64 a0_1, .slice A0_2 l0_2.length c0_2]] w fun e w' => ∃ v2_ : Value, e = .returned (.agg #[.int .i64 r1, .int .i64 r2, v2_]) ∧ Kd.R k54 54 w' w.heap.size (fun _ => True) v2_ r3 ∧ Below w.heap.size w w' := by
 have hu30 := Tryd.underlying30
 have HR0_2 := am hr0_2
 have HC0_2 := am hc0_2
 clear hr0_2 hc0_2
 have HB := am (Below.refl w.heap.size w)
 have H : ((some (([] : List (S54)) : List (S54))).bind fun y236 => (if y236.length + l0_2.length < 3518437208883 then (some (a0_0, a0_1, (y236 ++ l0_2))) else (none))) = some (r1, r2, r3) := h
 clear h
 obtain ⟨y236, hy236⟩ : ∃ y_ : List (S54), y_ = (([] : List (S54))) := ⟨_, rfl⟩
 replace H : (if y236.length + l0_2.length < 3518437208883 then (some (a0_0, a0_1, (y236 ++ l0_2))) else (none)) = some (r1, r2, r3) := by first | (rw [hy236]; with_reducible exact H) | (have H2_ := (Option.bind_some _ _).symm.trans H; rw [hy236]; with_reducible exact H2_) | (have H2_ := (Option.bind_some _ _).symm.trans H; with_reducible exact H2_) | with_reducible exact H | (rw [hy236]; exact H) | exact H
 have Ny236 := am hy236
 clear hy236
 by_cases c2 : y236.length + l0_2.length < 3518437208883
 rotate_left
 · rw [if_neg c2] at H
   exact absurd H (by simp)
 rw [if_pos c2] at H
 have LMc2 := am c2
 clear c2
 obtain ⟨y239, hy239⟩ : ∃ y_ : List (S54), y_ = (y236 ++ l0_2) := ⟨_, rfl⟩
 replace H : (some (a0_0, a0_1, y239)) = some (r1, r2, r3) := by first | (rw [hy239]; with_reducible exact H) | (have H2_ := (Option.bind_some _ _).symm.trans H; rw [hy239]; with_reducible exact H2_) | (have H2_ := (Option.bind_some _ _).symm.trans H; with_reducible exact H2_) | with_reducible exact H | (rw [hy239]; exact H) | exact H
 have Ny239 := am hy239
 clear hy239
 simp only [Option.some.injEq, Prod.mk.injEq] at H
 obtain ⟨rfl, rfl, rfl⟩ := H
 go_enter Tryd.func34, Tryd.ntmps34
 go_wp2_with (first | ((with_reducible refine gate_dst (N := 1) rfl ?_); refine box_event ?hg (N := 1) ?hd (cs := #[.int .i64 a0_0, .int .i64 a0_1, .slice A0_2 l0_2.length c0_2]) (t := 30) ?hr ?_; (case hd => rfl); (case hg => rfl); (case hr => first | (go_simp; done) | (go_simp; rfl)); intro gb234 hg w3 hbox hb; have BK234 := am (hbox); have GW234 := am ((by rw [hg]; exact (below_size q0) : w.heap.size ≤ gb234)); have GE234 := am ((by rw [hg]; exact (below_size q0) : w.heap.size ≤ gb234)); replace HB := am (below_step q0 hb); clear hb hbox hg) | ((with_reducible refine gate_dst (N := 2) rfl ?_); refine box_event ?hg (N := 2) ?hd (cs := #[.int .i64 0, .int .i64 0, .slice none 0 0]) (t := 30) ?hr ?_; (case hd => rfl); (case hg => rfl); (case hr => first | (go_simp; done) | (go_simp; rfl)); intro gb235 hg w4 hbox hb; have BK235 := am (hbox); have GW235 := am ((by rw [hg]; exact (below_size q0) : w.heap.size ≤ gb235)); have GE235 := am ((by rw [hg]; exact (below_size q0) : w.heap.size ≤ gb235)); replace HB := am (below_step q0 hb); have NB234_235 := am ((by rw [hg]; exact Nat.ne_of_lt (blk_lt (g := gb234) (o := .cells #[.int .i64 a0_0, .int .i64 a0_1, .slice A0_2 l0_2.length c0_2] 30 (0, 0)) u6_23) : gb234 ≠ gb235)); have NB235_234 := am ((by rw [hg]; exact Nat.ne_of_gt (blk_lt (g := gb234) (o := .cells #[.int .i64 a0_0, .int .i64 a0_1, .slice A0_2 l0_2.length c0_2] 30 (0, 0)) u6_23) : gb235 ≠ gb234)); replace BK234 := am (blk_below (g := gb234) (o := .cells #[.int .i64 a0_0, .int .i64 a0_1, .slice A0_2 l0_2.length c0_2] 30 (0, 0)) u6_23 hb); clear hb hbox hg) | ((with_reducible refine gate_dst (N := 3) rfl ?_); refine Kd.R_lit k54 _ 54 ?hg (N := 3) ?hd (xs := ([] : List (S54))) (inner := []) (ok := fun _ => True) (okp := fun _ => True) ?hr ?hp (fun _ hk => hk) trivial (Below.refl _ _) (Nat.le_refl _) (by simp) ?_; (case hd => rfl); (case hg => rfl); (case hr => first | (go_simp; done) | (go_simp; rfl)); (case hp => exact (Reps.none _ _)); intro v237 w5 ho6 hb hg_ hnew_; clear hg_ hnew_; (first | rw [← Ny236.out] at ho6 | (simp only [Int.reduceToNat] at ho6; rw [← Ny236.out] at ho6)); have HO238 := am (Kd.R_lower ho6 (below_size q0)); replace BK234 := am (blk_below (g := gb234) (o := .cells #[.int .i64 a0_0, .int .i64 a0_1, .slice A0_2 l0_2.length c0_2] 30 (0, 0)) u6_23 hb); replace BK235 := am (blk_below (g := gb235) (o := .cells #[.int .i64 0, .int .i64 0, .slice none 0 0] 30 (0, 0)) u6_29 hb); replace HB := am (below_step q0 hb); clear hb ho6; have hnb7 := NB234_235.out; have hnc7 := NB235_234.out; obtain ⟨hcz8_0, hcz8_1, hcz8_2, hfz8_0, hfz8_1, hfz8_2⟩ := bc3f w5 BK234.out) | ((with_reducible refine gate_builtin (b := .append) (xs := #[.tmp 3, .tmp 5]) rfl ?_); at_builtin; refine Kd.R_append_rows k54 (w0 := w) w.heap.size rfl (.tmp 3) (.tmp 5) 28 54 (.agg #[(.int .i64 0), (.int .i64 0), (.int .i64 0), (.string ⟨#[]⟩)]) 40 rfl Tryd.underlying28 info54 rfl (by decide) (by omega) v237 y236 l0_2 _ _ _ (fun _ => True) (fun _ => False) rfl rfl ?aO ?aR (fun _ _ h => h) (fun _ h => h.elim) ?aF ?aB ?aS ?aL ?_; (case aR => repeat (first | exact (Kd.C_below HR0_2.out HB.out) | (with_reducible refine Kd.C_alloc ?_ _) | (with_reducible refine Kd.C_drewN ?_ _) | (with_reducible refine Kd.C_drew ?_))); (case aB => exact q0); (case aF => exact (fun _ _ => trivial)); (case aO => exact (by (with_reducible repeat (first | apply Kd.R_alloc | apply Kd.R_drewN | apply Kd.R_drew)); exact HO238.out)); (case aS => exact (below_size q0)); (case aL => have := LMc2.out; omega); intro v240 w9 ho hb hg hat; rw [← Ny239.out] at ho; replace BK234 := am (blk_grown (g := gb234) (o := .cells #[.int .i64 a0_0, .int .i64 a0_1, .slice A0_2 l0_2.length c0_2] 30 (0, 0)) u6_23 hg (Kd.R_ne HO238.out BK234.out (by decide))); replace BK235 := am (blk_grown (g := gb235) (o := .cells #[.int .i64 0, .int .i64 0, .slice none 0 0] 30 (0, 0)) u6_29 hg (Kd.R_ne HO238.out BK235.out (by decide))); replace HB := am (hb); have HO241 := am (ho); clear HO238; clear ho hb hg hat; obtain ⟨Ao10, co10, eo10⟩ := Kd.R_slice HO241.out; subst eo10; obtain ⟨hcz11_0, hcz11_1, hcz11_2, hfz11_0, hfz11_1, hfz11_2⟩ := bc3f w9 BK234.out; obtain ⟨hcz12_0, hcz12_1, hcz12_2, hfz12_0, hfz12_1, hfz12_2⟩ := bc3f w9 BK235.out))
 refine bodyPost_ret (results_cell_row rfl _ _ gb235 30 #[.int .i64 a0_0, .int .i64 a0_1, .slice Ao10 y239.length co10] (0, 0) _ rfl (by (with_reducible repeat (first | refine blk_drewN ?_ _ | refine blk_drew ?_ | refine blk_alloc ?_ _)); refine blk_put (cs := #[.int .i64 a0_0, .int .i64 a0_1, .slice none 0 0]) ?_ 2 _ rfl; (with_reducible repeat (first | refine blk_drewN ?_ _ | refine blk_drew ?_ | refine blk_alloc ?_ _)); refine blk_put (cs := #[.int .i64 a0_0, .int .i64 0, .slice none 0 0]) ?_ 1 _ rfl; (with_reducible repeat (first | refine blk_drewN ?_ _ | refine blk_drew ?_ | refine blk_alloc ?_ _)); refine blk_put (cs := #[.int .i64 0, .int .i64 0, .slice none 0 0]) ?_ 0 _ rfl; (with_reducible repeat (first | refine blk_drewN ?_ _ | refine blk_drew ?_ | refine blk_alloc ?_ _)); refine blk_far ?_ NB235_234.out _; (with_reducible repeat (first | refine blk_drewN ?_ _ | refine blk_drew ?_ | refine blk_alloc ?_ _)); exact BK235.out) Tryd.underlying30 rfl kr) rfl ?_
 exact ⟨_, er, (by (with_reducible repeat (first | apply Kd.R_alloc | apply Kd.R_drewN | apply Kd.R_drew)); exact Kd.R_mono (Kd.R_far (p := ⟨gb235, 2, none⟩) (Kd.R_far (p := ⟨gb235, 1, none⟩) (Kd.R_far (p := ⟨gb235, 0, none⟩) (Kd.R_far (p := ⟨gb234, 2, none⟩) (Kd.R_types (Kd.R_types HO241.out BK234.out (by decide)) BK235.out (by decide)) (fun _ hk => hk.1.2) (.slice Ao10 y239.length co10)) (fun _ hk => hk.2) (.int .i64 a0_0)) (fun _ hk => hk.2) (.int .i64 a0_1)) (fun _ hk => hk.2) (.slice Ao10 y239.length co10)) (fun _ hk => trivial)), q0⟩

/-! ### impl_Session_54: function 54 -/
def impl_Session_54.p (a1_0 : Int) (a1_1 : Int) (a1_2 : Int) (a1_3 : ByteArray) (y : S54) : Bool := (y.f2 == a1_2)
def impl_Session_54.f (l0 : List S54) (a1_0 : Int) (a1_1 : Int) (a1_2 : Int) (a1_3 : ByteArray) : Option Bool := some (l0.any (impl_Session_54.p a1_0 a1_1 a1_2 a1_3))
set_option maxHeartbeats 400000 in
theorem impl_Session_54.lit (b : Nat) (a1_0 : Int) (a1_1 : Int) (a1_2 : Int) (a1_3 : ByteArray) (y : S54) (w : World) (hb : w.heap[b]? = some (.cells #[.int .i64 a1_0, .int .i64 a1_1, .int .i64 a1_2, .string a1_3] 54 (0, 0))) :
   Calls Tryd.prog 55 #[.agg #[.int .i64 y.f0, .int .i64 y.f1, .int .i64 y.f2, .string y.f3], .pointer (some ⟨b, 0, none⟩)] w fun e w' => e = .returned (.bool (impl_Session_54.p a1_0 a1_1 a1_2 a1_3 y)) ∧ Below w.heap.size w w' := by
 have hu := Tryd.underlying54
 have hu2 := Tryd.underlying54
 have hc2 : ∀ o, (w.alloc o).cell? ⟨b, 2, none⟩ = some (.int .i64 a1_2) := fun o => (blk_cell (blk_alloc hb o) 2).trans rfl
 go_enter Tryd.func55, Tryd.ntmps55
 go_wp2
 go_ret
 exact ⟨rfl, below_alloc (Below.refl _ _) _⟩
set_option maxHeartbeats 1600000 in
theorem impl_Session_54.idx (p : S54 → Bool) (bs : Array Value) (A0 : Option Addr) (c0 : Nat) (l0 : List S54) (w : World) (hr0 : Kd.C k54 w A0 l0.length l0) (hc0 : l0.length ≤ c0)
   (hf : ∀ (y : S54) (W : World), Below w.heap.size w W → Calls Tryd.prog 55 (#[.agg #[.int .i64 y.f0, .int .i64 y.f1, .int .i64 y.f2, .string y.f3]] ++ bs) W fun e w' => e = .returned (.bool (p y)) ∧ Below W.heap.size W w') :
   Calls Tryd.prog 62 #[.slice A0 l0.length c0, .func (.func 55) #[] bs] w fun e w' => e = .returned (.int .i64 (Go.Proofs.YtjdpifafijcpbaaDoor.Slc.idxB p l0)) ∧ Below w.heap.size w w' := by
 have hu54 := Tryd.underlying54
 have hn : l0.length ≤ 9223372036854775807 := hr0.2.1
 have HR := am hr0
 have HF := am hf
 clear hr0 hf
 go_enter Tryd.func62, Tryd.ntmps62
 go_wp2
 go_loopg [5, 8] l0.length (fun gg _ s8 wr => ∃ kk : Int, 0 ≤ kk ∧ kk ≤ l0.length ∧ l0.length - kk.toNat ≤ gg ∧ s8 = .int .i64 kk ∧ Aside0 (Below w.heap.size w wr) ∧ Aside0 (∀ j : Nat, (j : Int) < kk → p (l0.getD j z54) = false))
 case atStart => exact ⟨0, by omega, by omega, by omega, rfl, ⟨Below.refl _ w⟩, ⟨fun j hj => by omega⟩⟩
 obtain ⟨kk, h0, hk, hg, rfl, BW, HA⟩ := hrel
 by_cases hlt : kk < (l0.length : Int)
 rotate_left
 · go_wp2
   go_ret
   refine ⟨?_, BW.out⟩
   rw [Go.Proofs.YtjdpifafijcpbaaDoor.Slc.idxB_miss p l0 z54 (fun j hj => HA.out j (by omega))]
   rfl
 obtain ⟨ad, e, hx0, hx1, hx2, hx3⟩ := at_T54 HR.out kk h0 hlt
 cases e
 replace hx0 := (BW.out.cell (World.block_lt_of_cell? w _ hx0)).trans hx0
 replace hx1 := (BW.out.cell (World.block_lt_of_cell? w _ hx1)).trans hx1
 replace hx2 := (BW.out.cell (World.block_lt_of_cell? w _ hx2)).trans hx2
 replace hx3 := (BW.out.cell (World.block_lt_of_cell? w _ hx3)).trans hx3
 have HC := am (HF.out (l0.getD kk.toNat z54) wr BW.out)
 cases hq : p (l0.getD kk.toNat z54) with
 | true =>
   have HQ := am hq
   rw [hq] at HC
   clear hq
   go_wp2_with (go_at_call 55; refine HC.out.mono ?_; rintro e w' ⟨rfl, hb'⟩)
   go_ret
   refine ⟨?_, below_step BW.out hb'⟩
   rw [Go.Proofs.YtjdpifafijcpbaaDoor.Slc.idxB_hit p l0 z54 kk.toNat (by omega) HQ.out (fun j hj => HA.out j (by omega)), Int.toNat_of_nonneg h0]
   rfl
 | false =>
   have HQ := am hq
   rw [hq] at HC
   clear hq
   go_wp2_with (go_at_call 55; refine HC.out.mono ?_; rintro e w' ⟨rfl, hb'⟩)
   go_roundg (l0.length - (kk + 1).toNat)
   case measure => omega
   case rel =>
     refine ⟨kk + 1, by omega, by omega, by omega, by go_num, ⟨below_step BW.out hb'⟩, ⟨fun j hj => ?_⟩⟩
     by_cases e : (j : Int) = kk
     rotate_left
     · exact HA.out j (by omega)
     have := HQ.out
     rw [← e, Int.toNat_natCast] at this
     exact this
set_option maxHeartbeats 400000 in
theorem impl_Session_54.calls (A0 : Option Addr) (c0 : Nat) (l0 : List S54) (a1_0 : Int) (a1_1 : Int) (a1_2 : Int) (a1_3 : ByteArray) (r : Bool) (w : World) {b : Nat} (hr0 : Kd.C k54 w A0 l0.length l0) (hc0 : l0.length ≤ c0)  (hb : w.heap[b]? = some (.cells #[.int .i64 a1_0, .int .i64 a1_1, .int .i64 a1_2, .string a1_3] 54 (0, 0))) (h : impl_Session_54.f l0 a1_0 a1_1 a1_2 a1_3 = some r) :
   Calls Tryd.prog 54 #[.slice A0 l0.length c0, .func (.func 55) #[] #[.pointer (some ⟨b, 0, none⟩)]] w fun e w' => e = .returned (.bool r) ∧ Below w.heap.size w w' := by
 obtain rfl := Option.some.inj h
 have HI := am (impl_Session_54.idx (impl_Session_54.p a1_0 a1_1 a1_2 a1_3) #[.pointer (some ⟨b, 0, none⟩)] A0 c0 l0 w hr0 hc0 (fun y W hW => impl_Session_54.lit b a1_0 a1_1 a1_2 a1_3 y W ((hW.block b (blk_lt hb)).trans hb)))
 clear hr0 hc0 hb h
 go_enter Tryd.func54, Tryd.ntmps54
 go_wp2_with (go_at_call 62; refine HI.out.mono ?_; rintro e w' ⟨rfl, hb'⟩)
 go_ret
 exact ⟨(by first | (rw [← Go.Proofs.YtjdpifafijcpbaaDoor.Slc.idxB_any]; done) | (rw [← Go.Proofs.YtjdpifafijcpbaaDoor.Slc.idxB_any]; rfl)), hb'⟩


end Go.Proofs.YtjdpifafijcpbaaDoor.QFnOnce
