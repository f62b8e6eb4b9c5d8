-- Printed by the session's own program wip/prx.py.
import Derived.Test.YtoemdmjdpikfbaaSqFnQuorums
import Derived.Test.YtoemdmjdpikfbaaQFnQuorumsx0
import Derived.Test.YtoemdmjdpikfbaaQFnQuorumsx8
namespace Go.Proofs.Ytoemdmjdpikfbaa.QFnQuorums
open Go.RowKit Go.Proofs.YtoemdmjdpikfbaaW.PrintWords Go.Proofs.YtoemdmjdpikfbaaW.PrintLast Go.Proofs.YtoemdmjdpikfbaaW.PrintMore Go.Proofs.Ytoemdmjdpikfbaa.SqFnQuorums
attribute [local go_sem] max2_int min2_int max_two min_two max_three min_three max_four min_four Go.Proofs.Ytoemdmjdpikfbaa.Set.isSome_setCell
set_option linter.unusedVariables false
set_option linter.unusedSimpArgs false

-- squeezed
theorem u11_4 {P : Prop} (h : P := by (with_reducible repeat (first | refine blk_drewN ?_ _ | refine blk_drew ?_ | refine blk_alloc ?_ _)); exact BK544.out) : P := h
theorem u11_6 {P : Prop} (h : P := by (with_reducible repeat (first | refine blk_drewN ?_ _ | refine blk_drew ?_ | refine blk_alloc ?_ _)); exact BK549.out) : P := h
theorem u11_9 {P : Prop} (h : P := by repeat (first | exact (Kd.C_below HR1_0.out HB.out) | (with_reducible refine Kd.C_alloc ?_ _) | (with_reducible refine Kd.C_drewN ?_ _) | (with_reducible refine Kd.C_drew ?_))) : P := h
theorem u11_11 {P : Prop} (h : P := by repeat (first | exact (Kd.C_below HR0_1.out Q0) | (with_reducible refine Kd.C_alloc ?_ _) | (with_reducible refine Kd.C_drewN ?_ _) | (with_reducible refine Kd.C_drew ?_))) : P := h
theorem u11_12 {P : Prop} (h : P := by repeat (first | exact (Kd.C_below HR1_1.out Q0) | (with_reducible refine Kd.C_alloc ?_ _) | (with_reducible refine Kd.C_drewN ?_ _) | (with_reducible refine Kd.C_drew ?_))) : P := h
/-! ### laws_within: function 15 -/
def laws_within.l0 : Nat → List Int → Int → Int → Option (Bool)
 | 0, _, _, _ => none
 | k + 1, x0, x1, x5 => if x5 < (x0.length : Int) then (if 0 ≤ x5 then (if (rd x0 x5) = x1 then (some true) else (laws_within.l0 k x0 x1 (wrap64 (x5 + 1)))) else (none)) else (some false)
def laws_within.f (k : Nat) (l0 : List Int) (a1 : Int) : Option (Bool) := laws_within.l0 k l0 a1 0
theorem laws_within.mono_l : ∀ k, (∀ y0 y1 y2, LeO (laws_within.l0 k y0 y1 y2) (laws_within.l0 (k + 1) y0 y1 y2))
 | 0 => fun _ _ _ r h => by simp [laws_within.l0] at h
 | k + 1 => by
   have ih0 := laws_within.mono_l k
   · intro y0 y1 y2
     unfold laws_within.l0
     repeat' first
     | (with_reducible exact ih0 _ _ _)
     | (with_reducible exact LeO.refl _)
     | (with_reducible exact LeO.none _)
     | (with_reducible refine LeO.ite ?_ ?_)
     | (with_reducible refine LeO.bind ?_ (fun _ => ?_))
     | exact ih0 _ _ _
     | exact LeO.none _
     | refine LeO.ite ?_ ?_
     | refine LeO.bind ?_ (fun _ => ?_)
theorem laws_within.mono : ∀ a0 a1 k, LeO (laws_within.f k a0 a1) (laws_within.f (k + 1) a0 a1) := by
 intro a0 a1 k
 have ih0 := laws_within.mono_l k
 unfold laws_within.f
 repeat' first
     | (with_reducible exact ih0 _ _ _)
     | (with_reducible exact LeO.refl _)
     | (with_reducible exact LeO.none _)
     | (with_reducible refine LeO.ite ?_ ?_)
     | (with_reducible refine LeO.bind ?_ (fun _ => ?_))
     | exact ih0 _ _ _
     | exact LeO.none _
     | refine LeO.ite ?_ ?_
     | refine LeO.bind ?_ (fun _ => ?_)
set_option maxHeartbeats 8000000 in
set_option maxRecDepth 100000 in
theorem laws_within.calls (k : Nat) (A0 : Option Addr) (c0 : Nat) (l0 : List Int) (a1 : Int) (r : Bool) (w : World) (hr0 : Kd.C (Kd.int .i64) w A0 l0.length l0) (hc0 : l0.length ≤ c0) (h : laws_within.f k l0 a1 = some r) :
   Calls Try.prog 15 #[.slice A0 l0.length c0, .int .i64 a1] w fun e w' => e = .returned (.bool r) ∧ Drawn0 w w' := by
 have HR0 := am hr0
 have HC0 := am hc0
 clear hr0 hc0
 have H : (laws_within.l0 k l0 a1 0) = some r := h
 clear h
 have H' := am H
 clear H
 go_enter Try.func15, Try.ntmps15
 go_wp2
 go_loopg [5] k (fun kq v5 w' => ∃ (x5_1 : Int), v5 = .int .i64 x5_1 ∧ Aside0 (laws_within.l0 kq l0 a1 x5_1 = some r) ∧ Aside0 (kq ≤ k) ∧ Drawn0 w w')
 case atStart => exact ⟨(0), Q1, H', ⟨Nat.le_refl _⟩, Q4⟩
 clear H'
 obtain ⟨x5_1, rfl, HA, HK1, ⟨m1, rfl⟩⟩ := hrel
 cases gk with
 | zero => exact absurd HA.out (by simp [laws_within.l0])
 | succ k1 =>
   have H := HA.out
   clear HA
   simp only [laws_within.l0] at H
   by_cases c3 : x5_1 < (l0.length : Int)
   rotate_left
   · rw [if_neg c3] at H
     have c3b0 : decide (x5_1 < (l0.length : Int)) = false := decide_eq_false c3
     clear c3
     obtain rfl := sj H
     go_wp2
     go_ret
     exact ⟨by first | rfl | (simp; done) | (simp [*]; done), Q4⟩
   rw [if_pos c3] at H
   have c3b0 : decide (x5_1 < (l0.length : Int)) = true := decide_eq_true c3
   clear c3
   by_cases c4 : 0 ≤ x5_1
   rotate_left
   · rw [if_neg c4] at H
     exact absurd H (by simp)
   rw [if_pos c4] at H
   have c4b0 : decide (0 ≤ x5_1) = true := decide_eq_true c4
   clear c4
   have H9 := am H
   clear H
   have p540 : 0 ≤ (x5_1 : Int) := of_decide_eq_true Q2
   have q540 : x5_1 < (l0.length : Int) := of_decide_eq_true Q2
   obtain ⟨ad540, e540, hx540_0⟩ := Kd.at_int HR0.out x5_1 p540 q540
   cases e540
   replace p540 := eq_true p540
   replace q540 := eq_true q540
   go_upto_if 17 with (fail)
   have H := H9.out
   clear H9
   by_cases c5 : (rd l0 x5_1) = a1
   · rw [if_pos c5] at H
     have c5b0 : ((rd l0 x5_1) == a1) = true := beq_iff_eq.mpr c5
     have c5b1 : ((rd l0 x5_1) != a1) = false := bne_eq_false_iff_eq.mpr c5
     clear c5
     (first | rw [c5b0] | (simp only [i64_w, i32_w]; rw [c5b0]) | skip)
     obtain rfl := sj H
     go_wp2
     go_ret
     exact ⟨by first | rfl | (simp; done) | (simp [*]; done), Q4⟩
   rw [if_neg c5] at H
   have c5b0 : ((rd l0 x5_1) == a1) = false := beq_eq_false_iff_ne.mpr c5
   have c5b1 : ((rd l0 x5_1) != a1) = true := bne_iff_ne.mpr c5
   (first | rw [c5b0] | (simp only [i64_w, i32_w]; rw [c5b0]) | skip)
   have H' := am H
   clear H
   go_wp2
   go_roundg k1
   case measure => have := HK1.out; omega
   case rel => exact ⟨(wrap64 (x5_1 + 1)), Q1, H', ⟨by have := HK1.out; omega⟩, Q4⟩

/-! ### laws_at: function 16 -/
def laws_at.f (l0 : List Int) (a1 : Int) : Option (Int) := if a1 < (l0.length : Int) then (if 0 ≤ a1 then (some (wrap64 (rd l0 a1))) else (none)) else (some (Int.tmod (wrap64 ((wrap64 (a1 * 13)) + (wrap64 ((l0.length : Int) * 5)))) 256))
set_option maxHeartbeats 8000000 in
set_option maxRecDepth 100000 in
theorem laws_at.calls (A0 : Option Addr) (c0 : Nat) (l0 : List Int) (a1 : Int) (r : Int) (w : World) (hr0 : Kd.C (Kd.int .u8) w A0 l0.length l0) (hc0 : l0.length ≤ c0) (h : laws_at.f l0 a1 = some r) :
   Calls Try.prog 16 #[.slice A0 l0.length c0, .int .i64 a1] w fun e w' => e = .returned (.int .i64 r) ∧ Drawn0 w w' := by
 have HR0 := am hr0
 have HC0 := am hc0
 clear hr0 hc0
 have H : (if a1 < (l0.length : Int) then (if 0 ≤ a1 then (some (wrap64 (rd l0 a1))) else (none)) else (some (Int.tmod (wrap64 ((wrap64 (a1 * 13)) + (wrap64 ((l0.length : Int) * 5)))) 256))) = some r := h
 clear h
 by_cases c3 : a1 < (l0.length : Int)
 rotate_left
 · rw [if_neg c3] at H
   have c3b0 : decide (a1 < (l0.length : Int)) = false := decide_eq_false c3
   clear c3
   obtain rfl := sj H
   go_enter Try.func16, Try.ntmps16
   go_wp2
   go_ret
   exact ⟨by first | rfl | (simp; done) | (simp [*]; done), Q4⟩
 rw [if_pos c3] at H
 have c3b0 : decide (a1 < (l0.length : Int)) = true := decide_eq_true c3
 clear c3
 by_cases c4 : 0 ≤ a1
 rotate_left
 · rw [if_neg c4] at H
   exact absurd H (by simp)
 rw [if_pos c4] at H
 have c4b0 : decide (0 ≤ a1) = true := decide_eq_true c4
 clear c4
 obtain rfl := sj H
 have p541 : 0 ≤ (a1 : Int) := of_decide_eq_true Q2
 have q541 : a1 < (l0.length : Int) := of_decide_eq_true Q2
 obtain ⟨ad541, e541, hx541_0⟩ := Kd.at_int HR0.out a1 p541 q541
 cases e541
 replace p541 := eq_true p541
 replace q541 := eq_true q541
 go_enter Try.func16, Try.ntmps16
 go_wp2
 go_ret
 exact ⟨by first | rfl | (simp; done) | (simp [*]; done), Q4⟩

/-! ### laws_sameInts: function 14 -/
def laws_sameInts.l0 : Nat → List Int → List Int → Int → Option (Bool)
 | 0, _, _, _ => none
 | k + 1, x0, x1, x5 => if x5 < (x0.length : Int) then (if 0 ≤ x5 then (if x5 < (x1.length : Int) then (if (rd x0 x5) = (rd x1 x5) then (laws_sameInts.l0 k x0 x1 (wrap64 (x5 + 1))) else (some false)) else (none)) else (none)) else (some true)
def laws_sameInts.f (k : Nat) (l0 : List Int) (l1 : List Int) : Option (Bool) := if (l0.length : Int) = (l1.length : Int) then (laws_sameInts.l0 k l0 l1 0) else (some false)
theorem laws_sameInts.mono_l : ∀ k, (∀ y0 y1 y2, LeO (laws_sameInts.l0 k y0 y1 y2) (laws_sameInts.l0 (k + 1) y0 y1 y2))
 | 0 => fun _ _ _ r h => by simp [laws_sameInts.l0] at h
 | k + 1 => by
   have ih0 := laws_sameInts.mono_l k
   · intro y0 y1 y2
     unfold laws_sameInts.l0
     repeat' first
     | (with_reducible exact ih0 _ _ _)
     | (with_reducible exact LeO.refl _)
     | (with_reducible exact LeO.none _)
     | (with_reducible refine LeO.ite ?_ ?_)
     | (with_reducible refine LeO.bind ?_ (fun _ => ?_))
     | exact ih0 _ _ _
     | exact LeO.none _
     | refine LeO.ite ?_ ?_
     | refine LeO.bind ?_ (fun _ => ?_)
theorem laws_sameInts.mono : ∀ a0 a1 k, LeO (laws_sameInts.f k a0 a1) (laws_sameInts.f (k + 1) a0 a1) := by
 intro a0 a1 k
 have ih0 := laws_sameInts.mono_l k
 unfold laws_sameInts.f
 repeat' first
     | (with_reducible exact ih0 _ _ _)
     | (with_reducible exact LeO.refl _)
     | (with_reducible exact LeO.none _)
     | (with_reducible refine LeO.ite ?_ ?_)
     | (with_reducible refine LeO.bind ?_ (fun _ => ?_))
     | exact ih0 _ _ _
     | exact LeO.none _
     | refine LeO.ite ?_ ?_
     | refine LeO.bind ?_ (fun _ => ?_)
set_option maxHeartbeats 8000000 in
set_option maxRecDepth 100000 in
theorem laws_sameInts.calls (k : Nat) (A0 : Option Addr) (c0 : Nat) (l0 : List Int) (A1 : Option Addr) (c1 : Nat) (l1 : List Int) (r : Bool) (w : World) (hr0 : Kd.C (Kd.int .i64) w A0 l0.length l0) (hc0 : l0.length ≤ c0) (hr1 : Kd.C (Kd.int .i64) w A1 l1.length l1) (hc1 : l1.length ≤ c1) (h : laws_sameInts.f k l0 l1 = some r) :
   Calls Try.prog 14 #[.slice A0 l0.length c0, .slice A1 l1.length c1] w fun e w' => e = .returned (.bool r) ∧ Drawn0 w w' := by
 have HR0 := am hr0
 have HC0 := am hc0
 clear hr0 hc0
 have HR1 := am hr1
 have HC1 := am hc1
 clear hr1 hc1
 have H : (if (l0.length : Int) = (l1.length : Int) then (laws_sameInts.l0 k l0 l1 0) else (some false)) = some r := h
 clear h
 by_cases c3 : (l0.length : Int) = (l1.length : Int)
 rotate_left
 · rw [if_neg c3] at H
   have c3b0 : ((l0.length : Int) == (l1.length : Int)) = false := beq_eq_false_iff_ne.mpr c3
   have c3b1 : ((l0.length : Int) != (l1.length : Int)) = true := bne_iff_ne.mpr c3
   have c3b2 : (l0.length == l1.length) = false := by first | simpa using c3 | (simp at c3 ⊢; omega)
   obtain rfl := sj H
   go_enter Try.func14, Try.ntmps14
   go_wp2
   repeat (go_quiet (fail); try go_wp2)
   go_ret
   exact ⟨by first | rfl | (simp; done) | (simp [*]; done), Q4⟩
 rw [if_pos c3] at H
 have c3b0 : ((l0.length : Int) == (l1.length : Int)) = true := beq_iff_eq.mpr c3
 have c3b1 : ((l0.length : Int) != (l1.length : Int)) = false := bne_eq_false_iff_eq.mpr c3
 have c3b2 : (l0.length == l1.length) = true := by first | simpa using c3 | (simp at c3 ⊢; omega)
 clear c3
 have H' := am H
 clear H
 go_enter Try.func14, Try.ntmps14
 go_wp2
 repeat (go_quiet (fail); try go_wp2)
 go_loopg [5] k (fun kq v5 w' => ∃ (x5_1 : Int), v5 = .int .i64 x5_1 ∧ Aside0 (laws_sameInts.l0 kq l0 l1 x5_1 = some r) ∧ Aside0 (kq ≤ k) ∧ Drawn0 w w')
 case atStart => exact ⟨(0), Q1, H', ⟨Nat.le_refl _⟩, Q4⟩
 clear H'
 try clear c1
 try clear c3
 try clear c3b0
 try clear c3b1
 try clear c3b2
 obtain ⟨x5_1, rfl, HA, HK1, ⟨m1, rfl⟩⟩ := hrel
 cases gk with
 | zero => exact absurd HA.out (by simp [laws_sameInts.l0])
 | succ k1 =>
   have H := HA.out
   clear HA
   simp only [laws_sameInts.l0] at H
   by_cases c4 : x5_1 < (l0.length : Int)
   rotate_left
   · rw [if_neg c4] at H
     have c4b0 : decide (x5_1 < (l0.length : Int)) = false := decide_eq_false c4
     clear c4
     obtain rfl := sj H
     go_wp2
     repeat (go_quiet (fail); try go_wp2)
     go_ret
     exact ⟨by first | rfl | (simp; done) | (simp [*]; done), Q4⟩
   rw [if_pos c4] at H
   have c4b0 : decide (x5_1 < (l0.length : Int)) = true := decide_eq_true c4
   clear c4
   by_cases c5 : 0 ≤ x5_1
   rotate_left
   · rw [if_neg c5] at H
     exact absurd H (by simp)
   rw [if_pos c5] at H
   have c5b0 : decide (0 ≤ x5_1) = true := decide_eq_true c5
   clear c5
   by_cases c6 : x5_1 < (l1.length : Int)
   rotate_left
   · rw [if_neg c6] at H
     exact absurd H (by simp)
   rw [if_pos c6] at H
   have c6b0 : decide (x5_1 < (l1.length : Int)) = true := decide_eq_true c6
   clear c6
   have H9 := am H
   clear H
   have p542 : 0 ≤ (x5_1 : Int) := of_decide_eq_true Q2
   have q542 : x5_1 < (l0.length : Int) := of_decide_eq_true Q2
   obtain ⟨ad542, e542, hx542_0⟩ := Kd.at_int HR0.out x5_1 p542 q542
   cases e542
   replace p542 := eq_true p542
   replace q542 := eq_true q542
   have p543 : 0 ≤ (x5_1 : Int) := of_decide_eq_true Q2
   have q543 : x5_1 < (l1.length : Int) := of_decide_eq_true Q2
   obtain ⟨ad543, e543, hx543_0⟩ := Kd.at_int HR1.out x5_1 p543 q543
   cases e543
   replace p543 := eq_true p543
   replace q543 := eq_true q543
   go_upto_if 25 with (fail)
   repeat (go_quiet (fail); go_upto_if 25 with (fail))
   have H := H9.out
   clear H9
   by_cases c7 : (rd l0 x5_1) = (rd l1 x5_1)
   rotate_left
   · rw [if_neg c7] at H
     have c7b0 : ((rd l0 x5_1) == (rd l1 x5_1)) = false := beq_eq_false_iff_ne.mpr c7
     have c7b1 : ((rd l0 x5_1) != (rd l1 x5_1)) = true := bne_iff_ne.mpr c7
     (first | rw [c7b0] | (simp only [i64_w, i32_w]; rw [c7b0]) | skip)
     obtain rfl := sj H
     go_wp2
     repeat (go_quiet (fail); try go_wp2)
     go_ret
     exact ⟨by first | rfl | (simp; done) | (simp [*]; done), Q4⟩
   rw [if_pos c7] at H
   have c7b0 : ((rd l0 x5_1) == (rd l1 x5_1)) = true := beq_iff_eq.mpr c7
   have c7b1 : ((rd l0 x5_1) != (rd l1 x5_1)) = false := bne_eq_false_iff_eq.mpr c7
   clear c7
   (first | rw [c7b0] | (simp only [i64_w, i32_w]; rw [c7b0]) | skip)
   have H' := am H
   clear H
   go_wp2
   repeat (go_quiet (fail); try go_wp2)
   go_roundg k1
   case measure => have := HK1.out; omega
   case rel => exact ⟨(wrap64 (x5_1 + 1)), Q1, H', ⟨by have := HK1.out; omega⟩, Q4⟩

/-! ### laws_sameConf: function 18 -/
def laws_sameConf.f (k : Nat) (l0_0 : List Int) (l0_1 : List Int) (l0_2 : List Int) (l1_0 : List Int) (l1_1 : List Int) (l1_2 : List Int) : Option (Bool) := (laws_sameInts.f k l0_0 l1_0).bind fun t546 => (if t546 = true then ((laws_sameInts.f k l0_1 l1_1).bind fun t547 => (if t547 = true then ((laws_sameInts.f k l0_2 l1_2).bind fun t548 => (some t548)) else (some false))) else (some false))
theorem laws_sameConf.mono : ∀ a0 a1 a2 a3 a4 a5 k, LeO (laws_sameConf.f k a0 a1 a2 a3 a4 a5) (laws_sameConf.f (k + 1) a0 a1 a2 a3 a4 a5) := by
 intro a0 a1 a2 a3 a4 a5 k
 unfold laws_sameConf.f
 repeat' first
     | (with_reducible exact laws_sameInts.mono _ _ _)
     | (with_reducible exact LeO.refl _)
     | (with_reducible exact LeO.none _)
     | (with_reducible refine LeO.ite ?_ ?_)
     | (with_reducible refine LeO.bind ?_ (fun _ => ?_))
     | exact laws_sameInts.mono _ _ _
     | exact LeO.none _
     | refine LeO.ite ?_ ?_
     | refine LeO.bind ?_ (fun _ => ?_)
set_option maxHeartbeats 8000000 in
set_option maxRecDepth 100000 in
theorem laws_sameConf.calls (k : Nat) (A0_0 : Option Addr) (c0_0 : Nat) (l0_0 : List Int) (A0_1 : Option Addr) (c0_1 : Nat) (l0_1 : List Int) (A0_2 : Option Addr) (c0_2 : Nat) (l0_2 : List Int) (A1_0 : Option Addr) (c1_0 : Nat) (l1_0 : List Int) (A1_1 : Option Addr) (c1_1 : Nat) (l1_1 : List Int) (A1_2 : Option Addr) (c1_2 : Nat) (l1_2 : List Int) (r : Bool) (w : World) (hr0_0 : Kd.C (Kd.int .i64) w A0_0 l0_0.length l0_0) (hc0_0 : l0_0.length ≤ c0_0) (hr0_1 : Kd.C (Kd.int .i64) w A0_1 l0_1.length l0_1) (hc0_1 : l0_1.length ≤ c0_1) (hr0_2 : Kd.C (Kd.int .i64) w A0_2 l0_2.length l0_2) (hc0_2 : l0_2.length ≤ c0_2) (hr1_0 : Kd.C (Kd.int .i64) w A1_0 l1_0.length l1_0) (hc1_0 : l1_0.length ≤ c1_0) (hr1_1 : Kd.C (Kd.int .i64) w A1_1 l1_1.length l1_1) (hc1_1 : l1_1.length ≤ c1_1) (hr1_2 : Kd.C (Kd.int .i64) w A1_2 l1_2.length l1_2) (hc1_2 : l1_2.length ≤ c1_2) (h : laws_sameConf.f k l0_0 l0_1 l0_2 l1_0 l1_1 l1_2 = some r) :
   Calls Try.prog 18 #[.agg #[.slice A0_0 l0_0.length c0_0, .slice A0_1 l0_1.length c0_1, .slice A0_2 l0_2.length c0_2], .agg #[.slice A1_0 l1_0.length c1_0, .slice A1_1 l1_1.length c1_1, .slice A1_2 l1_2.length c1_2]] w fun e w' => e = .returned (.bool r) ∧ Below w.heap.size w w' := by
 have hu26 := Try.underlying26
 have HR0_0 := am hr0_0
 have HC0_0 := am hc0_0
 clear hr0_0 hc0_0
 have HR0_1 := am hr0_1
 have HC0_1 := am hc0_1
 clear hr0_1 hc0_1
 have HR0_2 := am hr0_2
 have HC0_2 := am hc0_2
 clear hr0_2 hc0_2
 have HR1_0 := am hr1_0
 have HC1_0 := am hc1_0
 clear hr1_0 hc1_0
 have HR1_1 := am hr1_1
 have HC1_1 := am hc1_1
 clear hr1_1 hc1_1
 have HR1_2 := am hr1_2
 have HC1_2 := am hc1_2
 clear hr1_2 hc1_2
 have HB := am (Below.refl w.heap.size w)
 have H : ((laws_sameInts.f k l0_0 l1_0).bind fun t546 => (if t546 = true then ((laws_sameInts.f k l0_1 l1_1).bind fun t547 => (if t547 = true then ((laws_sameInts.f k l0_2 l1_2).bind fun t548 => (some t548)) else (some false))) else (some false))) = some r := h
 clear h
 replace H := Option.bind_eq_some_iff.mp H
 obtain ⟨t546, A30, H⟩ := H
 have A3 := am A30
 clear A30
 by_cases c4 : t546 = true
 rotate_left
 · replace c4 := Bool.eq_false_iff.mpr c4
   subst c4
   rw [nf] at H
   obtain rfl := sj H
   go_enter Try.func18, Try.ntmps18
   go_wp2_with (first | ((with_reducible refine gate_dst (N := 2) rfl ?_); refine box_event ?hg (N := 2) ?hd (cs := #[.slice A0_0 l0_0.length c0_0, .slice A0_1 l0_1.length c0_1, .slice A0_2 l0_2.length c0_2]) (t := 26) ?hr ?_; (case hd => rfl); (case hg => rfl); (case hr => first | (go_simp; done) | (go_simp; rfl)); intro gb544 hg w18 hbox hb; have BK544 := am (hbox); have GW544 := am ((by rw [hg]; exact (below_size Q0) : w.heap.size ≤ gb544)); have GE544 := am ((by rw [hg]; exact (below_size Q0) : w.heap.size ≤ gb544)); replace HB := am (below_step Q0 hb); clear hb hbox hg) | ((with_reducible refine gate_dst (N := 3) rfl ?_); refine box_event ?hg (N := 3) ?hd (cs := #[.slice A1_0 l1_0.length c1_0, .slice A1_1 l1_1.length c1_1, .slice A1_2 l1_2.length c1_2]) (t := 26) ?hr ?_; (case hd => rfl); (case hg => rfl); (case hr => first | (go_simp; done) | (go_simp; rfl)); intro gb545 hg w19 hbox hb; have BK545 := am (hbox); have GW545 := am ((by rw [hg]; exact (below_size Q0) : w.heap.size ≤ gb545)); have GE545 := am ((by rw [hg]; exact (below_size Q0) : w.heap.size ≤ gb545)); replace HB := am (below_step Q0 hb); have NB544_545 := am ((by rw [hg]; exact Nat.ne_of_lt (blk_lt (g := gb544) (o := .cells #[.slice A0_0 l0_0.length c0_0, .slice A0_1 l0_1.length c0_1, .slice A0_2 l0_2.length c0_2] 26 (0, 0)) u11_4) : gb544 ≠ gb545)); have NB545_544 := am ((by rw [hg]; exact Nat.ne_of_gt (blk_lt (g := gb544) (o := .cells #[.slice A0_0 l0_0.length c0_0, .slice A0_1 l0_1.length c0_1, .slice A0_2 l0_2.length c0_2] 26 (0, 0)) u11_4) : gb545 ≠ gb544)); replace BK544 := am (blk_below (g := gb544) (o := .cells #[.slice A0_0 l0_0.length c0_0, .slice A0_1 l0_1.length c0_1, .slice A0_2 l0_2.length c0_2] 26 (0, 0)) u11_4 hb); clear hb hbox hg; have hnb20 := NB544_545.out; have hnc20 := NB545_544.out; obtain ⟨hcz21_0, hcz21_1, hcz21_2⟩ := bc3 w19 BK544.out; obtain ⟨hcz22_0, hcz22_1, hcz22_2, hfz22_0, hfz22_1, hfz22_2⟩ := bc3f w19 BK545.out) | ((with_reducible refine gate_callee (f := 14) rfl ?_); refine goesL_ (some 9) rfl rfl Try.func14 kr rfl #[.slice A0_0 l0_0.length c0_0, .slice A1_0 l1_0.length c1_0] rfl Q3 ?_; (with_reducible refine (laws_sameInts.calls k _ _ l0_0 _ _ l1_0 false _ ?side1 ?side2 ?side3 ?side4 A3.out).mono ?_); (case side1 => exact Q6); (case side2 => exact HC0_0.out); (case side3 => exact u11_9); (case side4 => exact HC1_0.out); rintro e w' ⟨rfl, ⟨nd, rfl⟩⟩; refine ⟨_, rfl, ?_⟩))
   go_ret
   exact ⟨er, Q0⟩
 subst c4
 rw [if_pos rfl] at H
 replace H := Option.bind_eq_some_iff.mp H
 obtain ⟨t547, A50, H⟩ := H
 have A5 := am A50
 clear A50
 by_cases c6 : t547 = true
 rotate_left
 · replace c6 := Bool.eq_false_iff.mpr c6
   subst c6
   rw [nf] at H
   obtain rfl := sj H
   go_enter Try.func18, Try.ntmps18
   go_wp2_with (first | ((with_reducible refine gate_dst (N := 2) rfl ?_); refine box_event ?hg (N := 2) ?hd (cs := #[.slice A0_0 l0_0.length c0_0, .slice A0_1 l0_1.length c0_1, .slice A0_2 l0_2.length c0_2]) (t := 26) ?hr ?_; (case hd => rfl); (case hg => rfl); (case hr => first | (go_simp; done) | (go_simp; rfl)); intro gb544 hg w13 hbox hb; have BK544 := am (hbox); have GW544 := am ((by rw [hg]; exact (below_size Q0) : w.heap.size ≤ gb544)); have GE544 := am ((by rw [hg]; exact (below_size Q0) : w.heap.size ≤ gb544)); replace HB := am (below_step Q0 hb); clear hb hbox hg) | ((with_reducible refine gate_dst (N := 3) rfl ?_); refine box_event ?hg (N := 3) ?hd (cs := #[.slice A1_0 l1_0.length c1_0, .slice A1_1 l1_1.length c1_1, .slice A1_2 l1_2.length c1_2]) (t := 26) ?hr ?_; (case hd => rfl); (case hg => rfl); (case hr => first | (go_simp; done) | (go_simp; rfl)); intro gb545 hg w14 hbox hb; have BK545 := am (hbox); have GW545 := am ((by rw [hg]; exact (below_size Q0) : w.heap.size ≤ gb545)); have GE545 := am ((by rw [hg]; exact (below_size Q0) : w.heap.size ≤ gb545)); replace HB := am (below_step Q0 hb); have NB544_545 := am ((by rw [hg]; exact Nat.ne_of_lt (blk_lt (g := gb544) (o := .cells #[.slice A0_0 l0_0.length c0_0, .slice A0_1 l0_1.length c0_1, .slice A0_2 l0_2.length c0_2] 26 (0, 0)) u11_4) : gb544 ≠ gb545)); have NB545_544 := am ((by rw [hg]; exact Nat.ne_of_gt (blk_lt (g := gb544) (o := .cells #[.slice A0_0 l0_0.length c0_0, .slice A0_1 l0_1.length c0_1, .slice A0_2 l0_2.length c0_2] 26 (0, 0)) u11_4) : gb545 ≠ gb544)); replace BK544 := am (blk_below (g := gb544) (o := .cells #[.slice A0_0 l0_0.length c0_0, .slice A0_1 l0_1.length c0_1, .slice A0_2 l0_2.length c0_2] 26 (0, 0)) u11_4 hb); clear hb hbox hg; have hnb15 := NB544_545.out; have hnc15 := NB545_544.out; obtain ⟨hcz16_0, hcz16_1, hcz16_2⟩ := bc3 w14 BK544.out; obtain ⟨hcz17_0, hcz17_1, hcz17_2, hfz17_0, hfz17_1, hfz17_2⟩ := bc3f w14 BK545.out) | ((with_reducible refine gate_callee (f := 14) rfl ?_); refine goesL_ (some 9) rfl rfl Try.func14 kr rfl #[.slice A0_0 l0_0.length c0_0, .slice A1_0 l1_0.length c1_0] rfl Q3 ?_; (with_reducible refine (laws_sameInts.calls k _ _ l0_0 _ _ l1_0 true _ ?side1 ?side2 ?side3 ?side4 A3.out).mono ?_); (case side1 => exact Q6); (case side2 => exact HC0_0.out); (case side3 => exact u11_9); (case side4 => exact HC1_0.out); rintro e w' ⟨rfl, ⟨nd, rfl⟩⟩; refine ⟨_, rfl, ?_⟩) | (go_at_call 14; (with_reducible refine (laws_sameInts.calls k _ _ l0_1 _ _ l1_1 false _ ?side1 ?side2 ?side3 ?side4 A5.out).mono ?_); (case side1 => exact u11_11); (case side2 => exact HC0_1.out); (case side3 => exact u11_12); (case side4 => exact HC1_1.out); rintro e w' ⟨rfl, ⟨nd, rfl⟩⟩))
   go_ret
   exact ⟨er, Q0⟩
 subst c6
 rw [if_pos rfl] at H
 replace H := Option.bind_eq_some_iff.mp H
 obtain ⟨t548, A70, H⟩ := H
 replace H : (some t548) = some r := H
 have A7 := am A70
 clear A70
 obtain rfl := sj H
 go_enter Try.func18, Try.ntmps18
 go_wp2_with (first | ((with_reducible refine gate_dst (N := 2) rfl ?_); refine box_event ?hg (N := 2) ?hd (cs := #[.slice A0_0 l0_0.length c0_0, .slice A0_1 l0_1.length c0_1, .slice A0_2 l0_2.length c0_2]) (t := 26) ?hr ?_; (case hd => rfl); (case hg => rfl); (case hr => first | (go_simp; done) | (go_simp; rfl)); intro gb544 hg w8 hbox hb; have BK544 := am (hbox); have GW544 := am ((by rw [hg]; exact (below_size Q0) : w.heap.size ≤ gb544)); have GE544 := am ((by rw [hg]; exact (below_size Q0) : w.heap.size ≤ gb544)); replace HB := am (below_step Q0 hb); clear hb hbox hg) | ((with_reducible refine gate_dst (N := 3) rfl ?_); refine box_event ?hg (N := 3) ?hd (cs := #[.slice A1_0 l1_0.length c1_0, .slice A1_1 l1_1.length c1_1, .slice A1_2 l1_2.length c1_2]) (t := 26) ?hr ?_; (case hd => rfl); (case hg => rfl); (case hr => first | (go_simp; done) | (go_simp; rfl)); intro gb545 hg w9 hbox hb; have BK545 := am (hbox); have GW545 := am ((by rw [hg]; exact (below_size Q0) : w.heap.size ≤ gb545)); have GE545 := am ((by rw [hg]; exact (below_size Q0) : w.heap.size ≤ gb545)); replace HB := am (below_step Q0 hb); have NB544_545 := am ((by rw [hg]; exact Nat.ne_of_lt (blk_lt (g := gb544) (o := .cells #[.slice A0_0 l0_0.length c0_0, .slice A0_1 l0_1.length c0_1, .slice A0_2 l0_2.length c0_2] 26 (0, 0)) u11_4) : gb544 ≠ gb545)); have NB545_544 := am ((by rw [hg]; exact Nat.ne_of_gt (blk_lt (g := gb544) (o := .cells #[.slice A0_0 l0_0.length c0_0, .slice A0_1 l0_1.length c0_1, .slice A0_2 l0_2.length c0_2] 26 (0, 0)) u11_4) : gb545 ≠ gb544)); replace BK544 := am (blk_below (g := gb544) (o := .cells #[.slice A0_0 l0_0.length c0_0, .slice A0_1 l0_1.length c0_1, .slice A0_2 l0_2.length c0_2] 26 (0, 0)) u11_4 hb); clear hb hbox hg; have hnb10 := NB544_545.out; have hnc10 := NB545_544.out; obtain ⟨hcz11_0, hcz11_1, hcz11_2⟩ := bc3 w9 BK544.out; obtain ⟨hcz12_0, hcz12_1, hcz12_2, hfz12_0, hfz12_1, hfz12_2⟩ := bc3f w9 BK545.out) | ((with_reducible refine gate_callee (f := 14) rfl ?_); refine goesL_ (some 9) rfl rfl Try.func14 kr rfl #[.slice A0_0 l0_0.length c0_0, .slice A1_0 l1_0.length c1_0] rfl Q3 ?_; (with_reducible refine (laws_sameInts.calls k _ _ l0_0 _ _ l1_0 true _ ?side1 ?side2 ?side3 ?side4 A3.out).mono ?_); (case side1 => exact Q6); (case side2 => exact HC0_0.out); (case side3 => exact u11_9); (case side4 => exact HC1_0.out); rintro e w' ⟨rfl, ⟨nd, rfl⟩⟩; refine ⟨_, rfl, ?_⟩) | (go_at_call 14; (with_reducible refine (laws_sameInts.calls k _ _ l0_1 _ _ l1_1 true _ ?side1 ?side2 ?side3 ?side4 A5.out).mono ?_); (case side1 => exact u11_11); (case side2 => exact HC0_1.out); (case side3 => exact u11_12); (case side4 => exact HC1_1.out); rintro e w' ⟨rfl, ⟨nd, rfl⟩⟩) | (go_at_call 14; (with_reducible refine (laws_sameInts.calls k _ _ l0_2 _ _ l1_2 t548 _ ?side1 ?side2 ?side3 ?side4 A7.out).mono ?_); (case side1 => exact (by repeat (first | exact (Kd.C_below HR0_2.out Q0) | (with_reducible refine Kd.C_alloc ?_ _) | (with_reducible refine Kd.C_drewN ?_ _) | (with_reducible refine Kd.C_drew ?_)))); (case side2 => exact HC0_2.out); (case side3 => exact (by repeat (first | exact (Kd.C_below HR1_2.out Q0) | (with_reducible refine Kd.C_alloc ?_ _) | (with_reducible refine Kd.C_drewN ?_ _) | (with_reducible refine Kd.C_drew ?_)))); (case side4 => exact HC1_2.out); rintro e w' ⟨rfl, ⟨nd, rfl⟩⟩))
 go_ret
 exact ⟨er, Q0⟩

/-! ### slices_Sort_int_int: function 50 -/
def slices_Sort_int_int.enc (x : Int) : List Value := [.int .i64 x]
theorem slices_Sort_int_int.flat : Go.Proofs.Ytoemdmjdpikfbaa.Slc.Flat (Kd.int .i64) slices_Sort_int_int.enc := ⟨fun w base ok x => rfl, fun h => h⟩
theorem slices_Sort_int_int.cells (l : List Int) : Go.Proofs.Ytoemdmjdpikfbaa.Slc.cellsOf slices_Sort_int_int.enc l = l.map (Value.int .i64) := by
 induction l with
 | nil => rfl
 | cons x l ih => simpa [Go.Proofs.Ytoemdmjdpikfbaa.Slc.cellsOf, slices_Sort_int_int.enc] using ih
theorem slices_Sort_int_int.holds {w : World} {g n : Nat} {cur : Array Value} {l : List Int} (hb : w.heap[g]? = some (.cells cur 3 (0, 0))) (ht : cur.toList.take (l.length * 1) = Go.Proofs.Ytoemdmjdpikfbaa.Slc.cellsOf slices_Sort_int_int.enc l) : Go.Sort.Holds (Value.int .i64) w g 0 l.toArray := by
 intro j hj
 have hj' : j < l.length := by simpa using hj
 rw [slices_Sort_int_int.cells] at ht
 refine ⟨?_, by rw [Nat.zero_add]; exact blk_frozen hb j⟩
 rw [Nat.zero_add, blk_cell hb]
 have h1 : cur[j]? = (l.map (Value.int .i64))[j]? := by rw [← ht, List.getElem?_take_of_lt (by omega), Array.getElem?_toList]
 rw [h1, List.getElem?_map, List.getElem?_eq_getElem hj', getElem!_pos _ j hj]
 simp
/-- The row when its first cells are written. -/
theorem slices_Sort_int_int.put {w w0 : World} {P : Nat → Prop} {g n c m q : Nat} {cur : Array Value} {ys ws : List Int} {os : Array Obj} (hB : Below w0.heap.size w0 w) (hg : w0.heap.size ≤ g) (hP : P g) (hb : w.heap[g]? = some (.cells cur 3 (0, 0))) (hs : cur.size = c * 1) (hn : n ≤ c) (hm : c ≤ maxLen) (hy : ys.length = n) (hw : ws = ys.take m) (hmn : m ≤ n) :
   Kd.R (Kd.int .i64) 3 (Go.Sort.grow ((w.drewN q).setCells g 0 (ys.map (Value.int .i64))) os) w0.heap.size (fun k_ => (P k_ ∨ w.heap.size ≤ k_)) (.slice (some ⟨g, 0, none⟩) m c) ws ∧ Below w0.heap.size w0 (Go.Sort.grow ((w.drewN q).setCells g 0 (ys.map (Value.int .i64))) os) ∧ Kept w (Go.Sort.grow ((w.drewN q).setCells g 0 (ys.map (Value.int .i64))) os) (fun k_ => P k_) := by
 obtain ⟨W, hW⟩ : ∃ W, W = (w.drewN q).setCells g 0 (ys.map (Value.int .i64)) := ⟨_, rfl⟩
 obtain ⟨cur', h1, h2, h3, h4⟩ := Go.Proofs.Ytoemdmjdpikfbaa.Slc.setCells_blk g 3 (ys.map (Value.int .i64)) 0 (w.drewN q) cur hb
 have hBW : Below w0.heap.size w0 W := by rw [hW]; exact Go.Proofs.Ytoemdmjdpikfbaa.Slc.below_setCells hg _ _ (pw_below_drewN hB q)
 have hKW : Kept w W (fun k_ => P k_) := by rw [hW]; exact Go.Proofs.Ytoemdmjdpikfbaa.Slc.kept_setCells (.inl hP) _ _ (Kept.drewN (Kept.refl w _) q)
 rw [← hW] at h1 ⊢
 have hlt : g < W.heap.size := blk_lt h1
 have up : ∀ i, i < W.heap.size → (Go.Sort.grow W os).heap[i]? = W.heap[i]? := fun i hi => Array.getElem?_append_left hi
 have hsz : W.heap.size ≤ (Go.Sort.grow W os).heap.size := by simp [Go.Sort.grow]
 refine ⟨slices_Sort_int_int.flat.row ((up g hlt).trans h1) hg (.inl hP) (by rw [hw, List.length_take]; omega) (by omega) hm (h2.trans hs) ?_, ⟨hBW.os, hBW.tape, hBW.output, Nat.le_trans hBW.size hsz, fun i hi => (up i (Nat.lt_of_lt_of_le hi hBW.size)).trans (hBW.block i hi)⟩, ⟨Nat.le_trans hKW.1 hsz, fun i hi hn => (up i (Nat.lt_of_lt_of_le hi hKW.1)).trans (hKW.2 i hi hn)⟩⟩
 rw [slices_Sort_int_int.cells, hw]
 show cur'.toList.take (m * 1) = _
 rw [Nat.mul_one]
 apply List.ext_getElem?
 intro j
 by_cases hj : j < m
 rotate_left
 · rw [List.getElem?_eq_none (by rw [List.length_take]; omega), List.getElem?_eq_none (by rw [List.length_map, List.length_take]; omega)]
 have := h4 j (by rw [List.length_map]; omega) (by omega)
 rw [Nat.zero_add] at this
 rw [List.getElem?_take_of_lt hj, Array.getElem?_toList, this, List.map_take, List.getElem?_take_of_lt hj]
def slices_Sort_int_int.f (l0 : List Int) : Option (List Int) := if l0.length < 4611686018427387904 then some (l0.mergeSort fun x y => decide (x ≤ y)) else none
theorem slices_Sort_int_int.calls (P0_ : Nat → Prop) (u9000_ : Value) (l0 : List Int) (r : List Int) (w0 w : World) (hB : Below w0.heap.size w0 w) (ho0 : Kd.R (Kd.int .i64) 3 w w0.heap.size P0_ u9000_ l0) (h : slices_Sort_int_int.f l0 = some r) :
   Calls Try.prog 50 #[u9000_] w fun e w' => e = .returned (.tuple #[]) ∧ Kd.R (Kd.int .i64) 3 w' w0.heap.size (fun k_ => (P0_ k_ ∨ w.heap.size ≤ k_)) u9000_ r ∧ Below w0.heap.size w0 w' ∧ Kept w w' (fun k_ => P0_ k_) := by
 unfold slices_Sort_int_int.f at h
 by_cases hl : l0.length < 4611686018427387904
 rotate_left
 · rw [if_neg hl] at h; cases h
 rw [if_pos hl] at h
 obtain rfl := Option.some.inj h
 by_cases h0 : 0 < l0.length
 rotate_left
 · have hn : l0 = [] := List.eq_nil_of_length_eq_zero (by omega)
   subst hn
   obtain ⟨A0, c0, rfl, _, _⟩ := Kd.R_reads ho0
   refine (Go.Proofs.Ytoemdmjdpikfbaa.Shelf.Try.slices_Sort_int_none A0 c0 w).mono ?_
   rintro e w' ⟨rfl, rfl⟩
   exact ⟨rfl, (by simpa using Kd.R_mono ho0 (fun k hk => .inl hk)), hB, Kept.refl _ _⟩
 obtain ⟨g, c, cur, rfl, hg, hP, hb, hc, hm, hs, ht⟩ := slices_Sort_int_int.flat.block ho0 h0
 have hH := slices_Sort_int_int.holds (n := 0) hb ht
 refine (Go.Proofs.Ytoemdmjdpikfbaa.Shelf.Try.slices_Sort_int g 0 c l0 w hH (blk_lt hb) hl).mono ?_
 rintro e w' ⟨rfl, q, os, rfl⟩
 rw [Lib.putRow_eq_setCells _ w g 0 _ _ q hH (by simp)]
 have hp := slices_Sort_int_int.put (q := q) (os := os) (m := l0.length) hB hg hP hb hs hc hm (ys := l0.mergeSort fun x y => decide (x ≤ y)) (n := l0.length) (by simp) (ws := l0.mergeSort fun x y => decide (x ≤ y)) (by rw [List.take_of_length_le (by simp)]) (Nat.le_refl _)
 exact ⟨rfl, hp⟩


/-! ### slices_Compact_int_int: function 51 -/
def slices_Compact_int_int.enc (x : Int) : List Value := [.int .i64 x]
theorem slices_Compact_int_int.flat : Go.Proofs.Ytoemdmjdpikfbaa.Slc.Flat (Kd.int .i64) slices_Compact_int_int.enc := ⟨fun w base ok x => rfl, fun h => h⟩
theorem slices_Compact_int_int.cells (l : List Int) : Go.Proofs.Ytoemdmjdpikfbaa.Slc.cellsOf slices_Compact_int_int.enc l = l.map (Value.int .i64) := by
 induction l with
 | nil => rfl
 | cons x l ih => simpa [Go.Proofs.Ytoemdmjdpikfbaa.Slc.cellsOf, slices_Compact_int_int.enc] using ih
theorem slices_Compact_int_int.holds {w : World} {g n : Nat} {cur : Array Value} {l : List Int} (hb : w.heap[g]? = some (.cells cur 3 (0, 0))) (ht : cur.toList.take (l.length * 1) = Go.Proofs.Ytoemdmjdpikfbaa.Slc.cellsOf slices_Compact_int_int.enc l) : Go.Sort.Holds (Value.int .i64) w g 0 l.toArray := by
 intro j hj
 have hj' : j < l.length := by simpa using hj
 rw [slices_Compact_int_int.cells] at ht
 refine ⟨?_, by rw [Nat.zero_add]; exact blk_frozen hb j⟩
 rw [Nat.zero_add, blk_cell hb]
 have h1 : cur[j]? = (l.map (Value.int .i64))[j]? := by rw [← ht, List.getElem?_take_of_lt (by omega), Array.getElem?_toList]
 rw [h1, List.getElem?_map, List.getElem?_eq_getElem hj', getElem!_pos _ j hj]
 simp
/-- The row when its first cells are written. -/
theorem slices_Compact_int_int.put {w w0 : World} {P : Nat → Prop} {g n c m q : Nat} {cur : Array Value} {ys ws : List Int} {os : Array Obj} (hB : Below w0.heap.size w0 w) (hg : w0.heap.size ≤ g) (hP : P g) (hb : w.heap[g]? = some (.cells cur 3 (0, 0))) (hs : cur.size = c * 1) (hn : n ≤ c) (hm : c ≤ maxLen) (hy : ys.length = n) (hw : ws = ys.take m) (hmn : m ≤ n) :
   Kd.R (Kd.int .i64) 3 (Go.Sort.grow ((w.drewN q).setCells g 0 (ys.map (Value.int .i64))) os) w0.heap.size (fun k_ => (P k_ ∨ w.heap.size ≤ k_)) (.slice (some ⟨g, 0, none⟩) m c) ws ∧ Below w0.heap.size w0 (Go.Sort.grow ((w.drewN q).setCells g 0 (ys.map (Value.int .i64))) os) ∧ Kept w (Go.Sort.grow ((w.drewN q).setCells g 0 (ys.map (Value.int .i64))) os) (fun k_ => P k_) := by
 obtain ⟨W, hW⟩ : ∃ W, W = (w.drewN q).setCells g 0 (ys.map (Value.int .i64)) := ⟨_, rfl⟩
 obtain ⟨cur', h1, h2, h3, h4⟩ := Go.Proofs.Ytoemdmjdpikfbaa.Slc.setCells_blk g 3 (ys.map (Value.int .i64)) 0 (w.drewN q) cur hb
 have hBW : Below w0.heap.size w0 W := by rw [hW]; exact Go.Proofs.Ytoemdmjdpikfbaa.Slc.below_setCells hg _ _ (pw_below_drewN hB q)
 have hKW : Kept w W (fun k_ => P k_) := by rw [hW]; exact Go.Proofs.Ytoemdmjdpikfbaa.Slc.kept_setCells (.inl hP) _ _ (Kept.drewN (Kept.refl w _) q)
 rw [← hW] at h1 ⊢
 have hlt : g < W.heap.size := blk_lt h1
 have up : ∀ i, i < W.heap.size → (Go.Sort.grow W os).heap[i]? = W.heap[i]? := fun i hi => Array.getElem?_append_left hi
 have hsz : W.heap.size ≤ (Go.Sort.grow W os).heap.size := by simp [Go.Sort.grow]
 refine ⟨slices_Compact_int_int.flat.row ((up g hlt).trans h1) hg (.inl hP) (by rw [hw, List.length_take]; omega) (by omega) hm (h2.trans hs) ?_, ⟨hBW.os, hBW.tape, hBW.output, Nat.le_trans hBW.size hsz, fun i hi => (up i (Nat.lt_of_lt_of_le hi hBW.size)).trans (hBW.block i hi)⟩, ⟨Nat.le_trans hKW.1 hsz, fun i hi hn => (up i (Nat.lt_of_lt_of_le hi hKW.1)).trans (hKW.2 i hi hn)⟩⟩
 rw [slices_Compact_int_int.cells, hw]
 show cur'.toList.take (m * 1) = _
 rw [Nat.mul_one]
 apply List.ext_getElem?
 intro j
 by_cases hj : j < m
 rotate_left
 · rw [List.getElem?_eq_none (by rw [List.length_take]; omega), List.getElem?_eq_none (by rw [List.length_map, List.length_take]; omega)]
 have := h4 j (by rw [List.length_map]; omega) (by omega)
 rw [Nat.zero_add] at this
 rw [List.getElem?_take_of_lt hj, Array.getElem?_toList, this, List.map_take, List.getElem?_take_of_lt hj]
def slices_Compact_int_int.f (l0 : List Int) : Option (List Int) := if l0.length < 4611686018427387904 then some (Lib.compact l0) else none
theorem slices_Compact_int_int.calls (P0_ : Nat → Prop) (u9000_ : Value) (l0 : List Int) (r : List Int) (w0 w : World) (hB : Below w0.heap.size w0 w) (ho0 : Kd.R (Kd.int .i64) 3 w w0.heap.size P0_ u9000_ l0) (h : slices_Compact_int_int.f l0 = some r) :
   Calls Try.prog 51 #[u9000_] w fun e w' => ∃ v0_ : Value, e = .returned (v0_) ∧ Kd.R (Kd.int .i64) 3 w' w0.heap.size (fun k_ => (P0_ k_ ∨ w.heap.size ≤ k_)) v0_ r ∧ Below w0.heap.size w0 w' ∧ Kept w w' (fun k_ => P0_ k_) := by
 unfold slices_Compact_int_int.f at h
 by_cases hl : l0.length < 4611686018427387904
 rotate_left
 · rw [if_neg hl] at h; cases h
 rw [if_pos hl] at h
 obtain rfl := Option.some.inj h
 by_cases h0 : 0 < l0.length
 rotate_left
 · have hn : l0 = [] := List.eq_nil_of_length_eq_zero (by omega)
   subst hn
   obtain ⟨A0, c0, rfl, _, _⟩ := Kd.R_reads ho0
   refine (Go.Proofs.Ytoemdmjdpikfbaa.Shelf.Try.slices_Compact_int_empty A0 c0 w).mono ?_
   rintro e w' ⟨rfl, rfl⟩
   refine ⟨_, rfl, ?_, hB, Kept.refl _ _⟩
   rw [show Lib.compact ([] : List Int) = [] from rfl]
   simpa using Kd.R_mono (ok' := fun k_ => (P0_ k_ ∨ w'.heap.size ≤ k_)) ho0 (fun k hk => .inl hk)
 obtain ⟨g, c, cur, rfl, hg, hP, hb, hc, hm, hs, ht⟩ := slices_Compact_int_int.flat.block ho0 h0
 have hH := slices_Compact_int_int.holds (n := 0) hb ht
 refine (Go.Proofs.Ytoemdmjdpikfbaa.Shelf.Try.slices_Compact_int g 0 c l0 w hH (by omega) hc).mono ?_
 rintro e w' ⟨rfl, q, rfl⟩
 have hcl : (Lib.compact l0).length ≤ l0.length := Lib.compact_length_le l0
 rw [Lib.putRow_eq_setCells _ w g 0 _ _ q hH (by simp; omega)]
 have hp := slices_Compact_int_int.put (q := q) (os := #[]) (m := (Lib.compact l0).length) hB hg hP hb hs hc hm (ys := Lib.compact l0 ++ List.replicate (l0.length - (Lib.compact l0).length) 0) (n := l0.length) (by simp; omega) (ws := Lib.compact l0) (by simp) hcl
 rw [Go.Sort.grow_empty] at hp
 exact ⟨_, rfl, hp⟩


/-! ### impl_Voters: function 19 -/
def impl_Voters.f (k : Nat) (l0_0 : List Int) (l0_1 : List Int) (l0_2 : List Int) : Option (List Int) := (impl_isConf.f k l0_0 l0_1 l0_2).bind fun t550 => (if t550 = true then ((some (([] : List Int) : List Int)).bind fun y551 => (if y551.length + l0_0.length < 17592186044416 then ((some (y551 ++ l0_0 : List Int)).bind fun y554 => (if y554.length + l0_1.length < 17592186044416 then ((slices_Sort_int_int.f (y554 ++ l0_1)).bind fun t560 => ((slices_Compact_int_int.f t560).bind fun t561 => (some t561))) else (none))) else (none))) else (some ([] : List Int)))
theorem impl_Voters.mono : ∀ a0 a1 a2 k, LeO (impl_Voters.f k a0 a1 a2) (impl_Voters.f (k + 1) a0 a1 a2) := by
 intro a0 a1 a2 k
 unfold impl_Voters.f
 repeat' first
     | (with_reducible exact impl_isConf.mono _ _ _ _)
     | (with_reducible exact LeO.refl _)
     | (with_reducible exact LeO.none _)
     | (with_reducible refine LeO.ite ?_ ?_)
     | (with_reducible refine LeO.bind ?_ (fun _ => ?_))
     | exact impl_isConf.mono _ _ _ _
     | exact LeO.none _
     | refine LeO.ite ?_ ?_
     | refine LeO.bind ?_ (fun _ => ?_)
def impl_Voters.T3 : Bool × List (List Nat × List Nat) := (true, [([], []), ([], []), ([1], [1]), ([0, 2], [0, 2]), ([], []), ([4], [4]), ([3, 5, 3], [3, 5]), ([6, 6, 0, 1, 2, 3, 4, 5, 6], [6])])
def impl_Voters.B3 : List Nat := [0, 0, 2, 7, 0, 16, 63, 127]
theorem impl_Voters.tab3 : rtab .any (opsOf Try.f19 3) = impl_Voters.T3 := by kernel_rfl
theorem impl_Voters.bits3 : waitsOk impl_Voters.T3.2 impl_Voters.B3 = true := by kernel_rfl
set_option maxHeartbeats 8000000 in
set_option maxRecDepth 100000 in
theorem impl_Voters.calls (k : Nat) (A0_0 : Option Addr) (c0_0 : Nat) (l0_0 : List Int) (A0_1 : Option Addr) (c0_1 : Nat) (l0_1 : List Int) (A0_2 : Option Addr) (c0_2 : Nat) (l0_2 : List Int) (r : List Int) (w : World) (hr0_0 : Kd.C (Kd.int .i64) w A0_0 l0_0.length l0_0) (hc0_0 : l0_0.length ≤ c0_0) (hr0_1 : Kd.C (Kd.int .i64) w A0_1 l0_1.length l0_1) (hc0_1 : l0_1.length ≤ c0_1) (hr0_2 : Kd.C (Kd.int .i64) w A0_2 l0_2.length l0_2) (hc0_2 : l0_2.length ≤ c0_2) (h : impl_Voters.f k l0_0 l0_1 l0_2 = some r) :
   Calls Try.prog 19 #[.agg #[.slice A0_0 l0_0.length c0_0, .slice A0_1 l0_1.length c0_1, .slice A0_2 l0_2.length c0_2]] w fun e w' => ∃ v0_ : Value, e = .returned (v0_) ∧ Kd.R (Kd.int .i64) 3 w' w.heap.size (fun _ => True) v0_ r ∧ Below w.heap.size w w' := by
 have hu26 := Try.underlying26
 have HR0_0 := am hr0_0
 have HC0_0 := am hc0_0
 clear hr0_0 hc0_0
 have HR0_1 := am hr0_1
 have HC0_1 := am hc0_1
 clear hr0_1 hc0_1
 have HR0_2 := am hr0_2
 have HC0_2 := am hc0_2
 clear hr0_2 hc0_2
 have HB := am (Below.refl w.heap.size w)
 have H : ((impl_isConf.f k l0_0 l0_1 l0_2).bind fun t550 => (if t550 = true then ((some (([] : List Int) : List Int)).bind fun y551 => (if y551.length + l0_0.length < 17592186044416 then ((some (y551 ++ l0_0 : List Int)).bind fun y554 => (if y554.length + l0_1.length < 17592186044416 then ((slices_Sort_int_int.f (y554 ++ l0_1)).bind fun t560 => ((slices_Compact_int_int.f t560).bind fun t561 => (some t561))) else (none))) else (none))) else (some ([] : List Int)))) = some r := h
 clear h
 replace H := Option.bind_eq_some_iff.mp H
 obtain ⟨t550, A20, H⟩ := H
 have A2 := am A20
 clear A20
 have H9 := am H
 clear H
 go_enter Try.func19, Try.ntmps19
 go_upto_if 6 with (first | ((with_reducible refine gate_dst (N := 1) rfl ?_); refine box_event ?hg (N := 1) ?hd (cs := #[.slice A0_0 l0_0.length c0_0, .slice A0_1 l0_1.length c0_1, .slice A0_2 l0_2.length c0_2]) (t := 26) ?hr ?_; (case hd => rfl); (case hg => rfl); (case hr => first | (go_simp; done) | (go_simp; rfl)); intro gb549 hg w3 hbox hb; have BK549 := am (hbox); have GW549 := am ((by rw [hg]; exact (below_size Q0) : w.heap.size ≤ gb549)); have GE549 := am ((by rw [hg]; exact (below_size Q0) : w.heap.size ≤ gb549)); replace HB := am (below_step Q0 hb); clear hb hbox hg; obtain ⟨hcz4_0, hcz4_1, hcz4_2⟩ := bc3 w3 BK549.out) | ((with_reducible refine gate_callee (f := 48) rfl ?_); refine goesL_ (some 5) rfl rfl Try.func48 kr rfl #[.agg #[.slice A0_0 l0_0.length c0_0, .slice A0_1 l0_1.length c0_1, .slice A0_2 l0_2.length c0_2]] rfl Q3 ?_; (with_reducible refine (impl_isConf.calls k _ _ l0_0 _ _ l0_1 _ _ l0_2 t550 _ ?side1 ?side2 ?side3 ?side4 ?side5 ?side6 A2.out).mono ?_); (case side1 => exact Q6); (case side2 => exact HC0_0.out); (case side3 => exact (by repeat (first | exact (Kd.C_below HR0_1.out HB.out) | (with_reducible refine Kd.C_alloc ?_ _) | (with_reducible refine Kd.C_drewN ?_ _) | (with_reducible refine Kd.C_drew ?_)))); (case side4 => exact HC0_1.out); (case side5 => exact (by repeat (first | exact (Kd.C_below HR0_2.out HB.out) | (with_reducible refine Kd.C_alloc ?_ _) | (with_reducible refine Kd.C_drewN ?_ _) | (with_reducible refine Kd.C_drew ?_)))); (case side6 => exact HC0_2.out); rintro e w5 ⟨rfl, hb⟩; refine ⟨_, rfl, ?_⟩; replace BK549 := am (blk_below (g := gb549) (o := .cells #[.slice A0_0 l0_0.length c0_0, .slice A0_1 l0_1.length c0_1, .slice A0_2 l0_2.length c0_2] 26 (0, 0)) u11_6 hb); replace HB := am (below_step Q0 hb); (try clear hb); (try clear hb2); (try clear hk); (try clear hi)))
 have H := H9.out
 clear H9
 by_cases c6 : t550 = true
 rotate_left
 · replace c6 := Bool.eq_false_iff.mpr c6
   subst c6
   rw [nf] at H
   obtain rfl := sj H
   go_wp2
   go_ret
   exact ⟨_, er, (by first | exact Kd.R_nil _ _ _ _ _ | exact Kd.N_nil _ _ _ _ _ | exact Kd.V_nil _ _ _ _ _ | exact Kd.Q_nil _ _ _ _ _ | exact Kd.S_nil _ _ _ _ _), Q0⟩
 subst c6
 rw [if_pos rfl] at H
 obtain ⟨y551, hy551⟩ : ∃ y_ : List Int, y_ = (([] : List Int)) := ⟨_, rfl⟩
 replace H : (if y551.length + l0_0.length < 17592186044416 then ((some (y551 ++ l0_0 : List Int)).bind fun y554 => (if y554.length + l0_1.length < 17592186044416 then ((slices_Sort_int_int.f (y554 ++ l0_1)).bind fun t560 => ((slices_Compact_int_int.f t560).bind fun t561 => (some t561))) else (none))) else (none)) = some r := by first | (rw [hy551]; with_reducible exact H) | (have H2_ := (Option.bind_some _ _).symm.trans H; rw [hy551]; with_reducible exact H2_) | (have H2_ := (Option.bind_some _ _).symm.trans H; with_reducible exact H2_) | with_reducible exact H | (rw [hy551]; exact H) | exact H
 have Ny551 := am hy551
 clear hy551
 by_cases c7 : y551.length + l0_0.length < 17592186044416
 rotate_left
 · rw [if_neg c7] at H
   exact absurd H (by simp)
 rw [if_pos c7] at H
 have LMc7 := am c7
 clear c7
 obtain ⟨y554, hy554⟩ : ∃ y_ : List Int, y_ = (y551 ++ l0_0) := ⟨_, rfl⟩
 replace H : (if y554.length + l0_1.length < 17592186044416 then ((slices_Sort_int_int.f (y554 ++ l0_1)).bind fun t560 => ((slices_Compact_int_int.f t560).bind fun t561 => (some t561))) else (none)) = some r := by first | (rw [hy554]; with_reducible exact H) | (have H2_ := (Option.bind_some _ _).symm.trans H; rw [hy554]; with_reducible exact H2_) | (have H2_ := (Option.bind_some _ _).symm.trans H; with_reducible exact H2_) | with_reducible exact H | (rw [hy554]; exact H) | exact H
 have Ny554 := am hy554
 clear hy554
 by_cases c8 : y554.length + l0_1.length < 17592186044416
 rotate_left
 · rw [if_neg c8] at H
   exact absurd H (by simp)
 rw [if_pos c8] at H
 have LMc8 := am c8
 clear c8
 obtain ⟨y557, hy557⟩ : ∃ y_ : List Int, y_ = (y554 ++ l0_1) := ⟨_, rfl⟩
 replace H : ((slices_Sort_int_int.f y557).bind fun t560 => ((slices_Compact_int_int.f t560).bind fun t561 => (some t561))) = some r := by first | (rw [hy557]; with_reducible exact H) | (have H2_ := (Option.bind_some _ _).symm.trans H; rw [hy557]; with_reducible exact H2_) | (have H2_ := (Option.bind_some _ _).symm.trans H; with_reducible exact H2_) | with_reducible exact H | (rw [hy557]; exact H) | exact H
 have Ny557 := am hy557
 clear hy557
 replace H := Option.bind_eq_some_iff.mp H
 obtain ⟨t560, A90, H⟩ := H
 replace H : ((slices_Compact_int_int.f t560).bind fun t561 => (some t561)) = some r := H
 have A9 := am A90
 clear A90
 replace H := Option.bind_eq_some_iff.mp H
 obtain ⟨t561, A100, H⟩ := H
 replace H : (some t561) = some r := H
 have A10 := am A100
 clear A100
 obtain rfl := sj H
 try go_wp2
 replace BK549 := am (blk_drew BK549.out)
 replace HB := am (below_drew1 HB.out)
 refine start_ (n := 8) (S := fun w' => w'.cell? ⟨gb549, 0, none⟩ = some (.slice A0_0 l0_0.length c0_0) ∧ w'.cell? ⟨gb549, 1, none⟩ = some (.slice A0_1 l0_1.length c0_1) ∧ w'.cell? ⟨gb549, 2, none⟩ = some (.slice A0_2 l0_2.length c0_2)) (ds := []) #[false, false, false, false, false, false, false, false] kr rfl rfl ⟨(blk_cell BK549.out 0).trans rfl, (blk_cell BK549.out 1).trans rfl, (blk_cell BK549.out 2).trans rfl⟩ (fun hHeld => ?_); refine with_tabW impl_Voters.tab3 impl_Voters.bits3 (fun HT_ HW_ => ?_)
 generalize w5.drew = w11 at BK549 HB hHeld ⊢
 refine pV 1 8 #[false, true, false, false, false, false, false, false] ?_
 refine pV 4 11 #[false, true, false, false, true, false, false, false] ?_
 refine tV 2 9 #[false, true, true, false, true, false, false, false] ?_
 refine tV 5 12 #[false, true, true, false, true, true, false, false] ?_
 refine one_ (i := 0) (N := some 7) #[true, true, true, false, true, true, false, false] rfl rfl (one_of HT_.out kr) (by decide) (fun K hK => ?_)
 refine Kd.R_lit_step (Kd.int .i64) _ 3 ?hg (N := 7) ?hd (xs := ([] : List Int)) (inner := []) (ok := fun _ => True) (okp := fun _ => True) ?hr ?hp (fun _ hk => hk) trivial (Below.refl _ _) (Nat.le_refl _) (by simp) ?_; (case hd => rfl); (case hg => rfl); (case hr => first | (go_simp; done) | (go_simp; rfl)); (case hp => exact (Reps.none _ _))
 intro v552 w12 ho13 hb hg_ hnew_
 clear hg_ hnew_
 (first | rw [← Ny551.out] at ho13 | (simp only [Int.reduceToNat] at ho13; rw [← Ny551.out] at ho13))
 have HO553 := am (Kd.R_lower ho13 (below_size Q0))
 replace BK549 := am (blk_below (g := gb549) (o := .cells #[.slice A0_0 l0_0.length c0_0, .slice A0_1 l0_1.length c0_1, .slice A0_2 l0_2.length c0_2] 26 (0, 0)) u11_6 hb)
 replace HB := am (below_step Q0 hb)
 clear hb ho13
 refine hK.out _ _ ⟨(blk_cell BK549.out 0).trans rfl, (blk_cell BK549.out 1).trans rfl, (blk_cell BK549.out 2).trans rfl⟩ (fun hHeld => ?_)
 clear hK K
 refine norm_ (a' := ?_) ?_ ?_
 rotate_left
 · show Act.put _ (some 7) _ = _
   simp only [Act.put, la, lb, lc, i64_w, i32_w]
   rfl
 refine one_ (i := 3) (N := some 10) #[true, true, true, true, true, true, false, false] rfl rfl (one_of HT_.out kr) (by decide) (fun K hK => ?_)
 refine Kd.R_append_rows_step (Kd.int .i64) (w0 := w) w.heap.size (by rfl) (.tmp 7) (.tmp 9) 24 3 (.int .i64 0) 8 rfl Try.underlying24 info3 rfl (by decide) (by omega) v552 y551 l0_0 _ _ _ (fun _ => True) (fun _ => False) rfl rfl ?aO ?aR (fun _ _ h => h) (fun _ h => h.elim) ?aF ?aB ?aS ?aL ?_
 (case aR => repeat (first | exact (Kd.C_below HR0_0.out HB.out) | (with_reducible refine Kd.C_alloc ?_ _) | (with_reducible refine Kd.C_drewN ?_ _) | (with_reducible refine Kd.C_drew ?_)))
 (case aB => exact Q0)
 (case aF => exact (fun _ _ => trivial))
 (case aO => exact (by (with_reducible repeat (first | apply Kd.R_alloc | apply Kd.R_drewN | apply Kd.R_drew)); exact HO553.out))
 (case aS => exact (below_size Q0))
 (case aL => have := LMc7.out; omega)
 intro v555 w14 ho hb hg hat
 rw [← Ny554.out] at ho
 replace BK549 := am (blk_grown (g := gb549) (o := .cells #[.slice A0_0 l0_0.length c0_0, .slice A0_1 l0_1.length c0_1, .slice A0_2 l0_2.length c0_2] 26 (0, 0)) u11_6 hg (Kd.R_ne HO553.out BK549.out (by decide)))
 replace HB := am (hb)
 have HO556 := am (ho)
 clear HO553
 clear ho hb hg hat
 refine hK.out _ _ ⟨(blk_cell BK549.out 0).trans rfl, (blk_cell BK549.out 1).trans rfl, (blk_cell BK549.out 2).trans rfl⟩ (fun hHeld => ?_)
 clear hK K
 refine norm_ (a' := ?_) ?_ ?_
 rotate_left
 · show Act.put _ (some 10) _ = _
   simp only [Act.put, la, lb, lc, i64_w, i32_w]
   rfl
 refine one_ (i := 6) (N := some 13) #[true, true, true, true, true, true, true, false] rfl rfl (one_of HT_.out kr) (by decide) (fun K hK => ?_)
 refine Kd.R_append_rows_step (Kd.int .i64) (w0 := w) w.heap.size (by rfl) (.tmp 10) (.tmp 12) 24 3 (.int .i64 0) 8 rfl Try.underlying24 info3 rfl (by decide) (by omega) v555 y554 l0_1 _ _ _ (fun _ => True) (fun _ => False) rfl rfl ?aO ?aR (fun _ _ h => h) (fun _ h => h.elim) ?aF ?aB ?aS ?aL ?_
 (case aR => repeat (first | exact (Kd.C_below HR0_1.out HB.out) | (with_reducible refine Kd.C_alloc ?_ _) | (with_reducible refine Kd.C_drewN ?_ _) | (with_reducible refine Kd.C_drew ?_)))
 (case aB => exact Q0)
 (case aF => exact (fun _ _ => trivial))
 (case aO => exact (by (with_reducible repeat (first | apply Kd.R_alloc | apply Kd.R_drewN | apply Kd.R_drew)); exact HO556.out))
 (case aS => exact (below_size Q0))
 (case aL => have := LMc8.out; omega)
 intro v558 w15 ho hb hg hat
 rw [← Ny557.out] at ho
 replace BK549 := am (blk_grown (g := gb549) (o := .cells #[.slice A0_0 l0_0.length c0_0, .slice A0_1 l0_1.length c0_1, .slice A0_2 l0_2.length c0_2] 26 (0, 0)) u11_6 hg (Kd.R_ne HO556.out BK549.out (by decide)))
 replace HB := am (hb)
 have HO559 := am (ho)
 clear HO556
 clear ho hb hg hat
 refine hK.out _ _ ⟨(blk_cell BK549.out 0).trans rfl, (blk_cell BK549.out 1).trans rfl, (blk_cell BK549.out 2).trans rfl⟩ (fun hHeld => ?_)
 clear hK K
 refine norm_ (a' := ?_) ?_ ?_
 rotate_left
 · show Act.put _ (some 13) _ = _
   simp only [Act.put, la, lb, lc, i64_w, i32_w]
   rfl
 refine pV 7 3 (bt 8 8) ?_
 refine done_ (done_of HT_.out kr) ?_
 obtain ⟨Ao16, co16, eo16⟩ := Kd.R_slice HO559.out
 subst eo16
 try go_wp2_with (first | ((with_reducible refine gate_callee (f := 50) rfl ?_); refine goesL_ (some 15) rfl rfl Try.func50 kr rfl #[.slice Ao16 y557.length co16] rfl Q3 ?_; (with_reducible refine (slices_Sort_int_int.calls (fun k_ => some k_ = (.slice Ao16 y557.length co16 : Value).ownBlock) (.slice Ao16 y557.length co16) y557 t560 w _ ?side1 ?side2 A9.out).mono ?_); (case side1 => exact Q0); (case side2 => exact Kd.R_tight rfl HO559.out); rintro e w17 ⟨rfl, hy0, hb, hkp⟩; refine ⟨_, rfl, ?_⟩; replace BK549 := am (blk_kept u11_6 hkp (fun hs_ => (fun e_ => (Kd.R_ne HO559.out BK549.out (by decide)) e_) hs_)); replace HO559 := am (Kd.R_reok rfl hy0 (fun k_ e_ => HO559.out.1 k_ e_)); replace HB := am (hb); (try clear hb); (try clear hkp); (try clear hy0)) | ((with_reducible refine gate_callee (f := 51) rfl ?_); refine goesL_ (some 17) rfl rfl Try.func51 kr rfl #[.slice Ao16 y557.length co16] rfl Q3 ?_; (with_reducible refine (slices_Compact_int_int.calls (fun k_ => some k_ = (.slice Ao16 y557.length co16 : Value).ownBlock) (.slice Ao16 y557.length co16) t560 t561 w _ ?side1 ?side2 A10.out).mono ?_); (case side1 => exact Q0); (case side2 => exact Kd.R_tight rfl HO559.out); rintro e w18 ⟨v562, rfl, ho0, hb, hkp⟩; refine ⟨_, rfl, ?_⟩; replace BK549 := am (blk_kept u11_6 hkp (fun hs_ => (fun e_ => (Kd.R_ne HO559.out BK549.out (by decide)) e_) hs_)); have HO563 := am (Kd.R_mono (ok' := fun k_ => True) ho0 (fun k_ hk_ => trivial)); replace HB := am (hb); clear HO559; (try clear hb); (try clear hkp); (try clear ho0)))
 go_ret
 exact ⟨_, er, (by (with_reducible repeat (first | apply Kd.R_alloc | apply Kd.R_drewN | apply Kd.R_drew)); exact HO563.out), Q0⟩

end Go.Proofs.Ytoemdmjdpikfbaa.QFnQuorums
