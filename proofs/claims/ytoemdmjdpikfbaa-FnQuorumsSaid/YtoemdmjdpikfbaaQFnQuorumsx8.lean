-- Printed by the session's own program wip/prx.py.
import Derived.Test.YtoemdmjdpikfbaaSqFnQuorums
import Derived.Test.YtoemdmjdpikfbaaQFnQuorumsx0
namespace Go.Proofs.Ytoemdmjdpikfbaa.QFnQuorums
open Go.RowKit Go.Proofs.YtoemdmjdpikfbaaW.PrintWords Go.Proofs.YtoemdmjdpikfbaaW.PrintLast Go.Proofs.YtoemdmjdpikfbaaW.PrintMore Go.Proofs.Ytoemdmjdpikfbaa.SqFnQuorums
attribute [local go_sem] max2_int min2_int max_two min_two max_three min_three max_four min_four Go.Proofs.Ytoemdmjdpikfbaa.Set.isSome_setCell
set_option linter.unusedVariables false
set_option linter.unusedSimpArgs false

-- squeezed
theorem u8_5 {P : Prop} (h : P := by repeat (first | exact (Kd.C_below HR0_1.out Q0) | (with_reducible refine Kd.C_alloc ?_ _) | (with_reducible refine Kd.C_drewN ?_ _) | (with_reducible refine Kd.C_drew ?_))) : P := h
theorem u8_9 {P : Prop} (h : P := by repeat (first | exact (Kd.C_below HR0_0.out Q0) | (with_reducible refine Kd.C_alloc ?_ _) | (with_reducible refine Kd.C_drewN ?_ _) | (with_reducible refine Kd.C_drew ?_))) : P := h
theorem u8_10 {P : Prop} (h : P := by (with_reducible repeat (first | refine blk_drewN ?_ _ | refine blk_drew ?_ | refine blk_alloc ?_ _)); exact BK442.out) : P := h
theorem u8_11 {P : Prop} (h : P := by repeat (first | exact Below.refl _ _ | apply below_drewN | apply pw_below_drewN | apply below_drew1)) : P := h
/-! ### impl_areIds: function 72 -/
def impl_areIds.l0 : Nat → List Int → List Int → Int → Int → Option (Bool)
 | 0, _, _, _, _ => none
 | k + 1, x0, x5, x6, x7 => if x7 < x6 then (if 0 ≤ x7 then (if x7 < (x5.length : Int) then (if (rd x5 x7) < 0 then (some false) else (if (rd x5 x7) > 99 then (some false) else (if x7 > 0 then (if 0 ≤ (wrap64 (x7 - 1)) then (if (wrap64 (x7 - 1)) < (x0.length : Int) then (if (rd x0 (wrap64 (x7 - 1))) ≥ (rd x5 x7) then (some false) else (impl_areIds.l0 k x0 x5 x6 (wrap64 (x7 + 1)))) else (none)) else (none)) else (impl_areIds.l0 k x0 x5 x6 (wrap64 (x7 + 1)))))) else (none)) else (none)) else (some (decide ((x0.length : Int) ≤ 7)))
def impl_areIds.f (k : Nat) (l0 : List Int) : Option (Bool) := impl_areIds.l0 k l0 l0 (l0.length : Int) 0
theorem impl_areIds.mono_l : ∀ k, (∀ y0 y1 y2 y3, LeO (impl_areIds.l0 k y0 y1 y2 y3) (impl_areIds.l0 (k + 1) y0 y1 y2 y3))
 | 0 => fun _ _ _ _ r h => by simp [impl_areIds.l0] at h
 | k + 1 => by
   have ih0 := impl_areIds.mono_l k
   · intro y0 y1 y2 y3
     unfold impl_areIds.l0
     repeat' first
     | (with_reducible exact ih0 _ _ _ _)
     | (with_reducible exact LeO.refl _)
     | (with_reducible exact LeO.none _)
     | (with_reducible refine LeO.ite ?_ ?_)
     | (with_reducible refine LeO.bind ?_ (fun _ => ?_))
     | exact ih0 _ _ _ _
     | exact LeO.none _
     | refine LeO.ite ?_ ?_
     | refine LeO.bind ?_ (fun _ => ?_)
theorem impl_areIds.mono : ∀ a0 k, LeO (impl_areIds.f k a0) (impl_areIds.f (k + 1) a0) := by
 intro a0 k
 have ih0 := impl_areIds.mono_l k
 unfold impl_areIds.f
 repeat' first
     | (with_reducible exact ih0 _ _ _ _)
     | (with_reducible exact LeO.refl _)
     | (with_reducible exact LeO.none _)
     | (with_reducible refine LeO.ite ?_ ?_)
     | (with_reducible refine LeO.bind ?_ (fun _ => ?_))
     | exact ih0 _ _ _ _
     | exact LeO.none _
     | refine LeO.ite ?_ ?_
     | refine LeO.bind ?_ (fun _ => ?_)
set_option maxHeartbeats 8000000 in
set_option maxRecDepth 100000 in
theorem impl_areIds.calls (k : Nat) (A0 : Option Addr) (c0 : Nat) (l0 : List Int) (r : Bool) (w : World) (hr0 : Kd.C (Kd.int .i64) w A0 l0.length l0) (hc0 : l0.length ≤ c0) (h : impl_areIds.f k l0 = some r) :
   Calls Try.prog 72 #[.slice A0 l0.length c0] w fun e w' => e = .returned (.bool r) ∧ Drawn0 w w' := by
 have HR0 := am hr0
 have HC0 := am hc0
 clear hr0 hc0
 have H : (impl_areIds.l0 k l0 l0 (l0.length : Int) 0) = some r := h
 clear h
 have H' := am H
 clear H
 go_enter Try.func72, Try.ntmps72
 go_wp2
 go_loopg [7] k (fun kq v7 w' => ∃ (x7_1 : Int), v7 = .int .i64 x7_1 ∧ Aside0 (impl_areIds.l0 kq l0 l0 (l0.length : Int) x7_1 = some r) ∧ Aside0 (kq ≤ k) ∧ Drawn0 w w')
 case atStart => exact ⟨(0), Q1, H', ⟨Nat.le_refl _⟩, Q4⟩
 clear H'
 obtain ⟨x7_1, rfl, HA, HK1, ⟨m1, rfl⟩⟩ := hrel
 cases gk with
 | zero => exact absurd HA.out (by simp [impl_areIds.l0])
 | succ k1 =>
   have H := HA.out
   clear HA
   simp only [impl_areIds.l0] at H
   by_cases c2 : x7_1 < (l0.length : Int)
   rotate_left
   · rw [if_neg c2] at H
     have c2b0 : decide (x7_1 < (l0.length : Int)) = false := decide_eq_false c2
     clear c2
     obtain rfl := sj H
     go_wp2
     go_ret
     exact ⟨by first | rfl | (simp; done) | (simp [*]; done), Q4⟩
   rw [if_pos c2] at H
   have c2b0 : decide (x7_1 < (l0.length : Int)) = true := decide_eq_true c2
   clear c2
   by_cases c3 : 0 ≤ x7_1
   rotate_left
   · rw [if_neg c3] at H
     exact absurd H (by simp)
   rw [if_pos c3] at H
   have c3b0 : decide (0 ≤ x7_1) = true := decide_eq_true c3
   clear c3
   by_cases c4 : x7_1 < (l0.length : Int)
   rotate_left
   · rw [if_neg c4] at H
     exact absurd H (by simp)
   rw [if_pos c4] at H
   have c4b0 : decide (x7_1 < (l0.length : Int)) = true := decide_eq_true c4
   clear c4
   by_cases c5 : (rd l0 x7_1) < 0
   · rw [if_pos c5] at H
     have c5b0 : decide ((rd l0 x7_1) < 0) = true := decide_eq_true c5
     clear c5
     obtain rfl := sj H
     have p436 : 0 ≤ (x7_1 : Int) := of_decide_eq_true Q2
     have q436 : x7_1 < (l0.length : Int) := of_decide_eq_true Q2
     obtain ⟨ad436, e436, hx436_0⟩ := Kd.at_int HR0.out x7_1 p436 q436
     cases e436
     replace p436 := eq_true p436
     replace q436 := eq_true q436
     go_wp2
     go_ret
     exact ⟨by first | rfl | (simp; done) | (simp [*]; done), Q4⟩
   rw [if_neg c5] at H
   have c5b0 : decide ((rd l0 x7_1) < 0) = false := decide_eq_false c5
   clear c5
   by_cases c6 : (rd l0 x7_1) > 99
   · rw [if_pos c6] at H
     have c6b0 : decide (99 < (rd l0 x7_1)) = true := decide_eq_true c6
     clear c6
     obtain rfl := sj H
     have p436 : 0 ≤ (x7_1 : Int) := of_decide_eq_true Q2
     have q436 : x7_1 < (l0.length : Int) := of_decide_eq_true Q2
     obtain ⟨ad436, e436, hx436_0⟩ := Kd.at_int HR0.out x7_1 p436 q436
     cases e436
     replace p436 := eq_true p436
     replace q436 := eq_true q436
     go_wp2
     go_ret
     exact ⟨by first | rfl | (simp; done) | (simp [*]; done), Q4⟩
   rw [if_neg c6] at H
   have c6b0 : decide (99 < (rd l0 x7_1)) = false := decide_eq_false c6
   clear c6
   by_cases c7 : x7_1 > 0
   rotate_left
   · rw [if_neg c7] at H
     have c7b0 : decide (0 < x7_1) = false := decide_eq_false c7
     clear c7
     have H' := am H
     clear H
     have p436 : 0 ≤ (x7_1 : Int) := of_decide_eq_true Q2
     have q436 : x7_1 < (l0.length : Int) := of_decide_eq_true Q2
     obtain ⟨ad436, e436, hx436_0⟩ := Kd.at_int HR0.out x7_1 p436 q436
     cases e436
     replace p436 := eq_true p436
     replace q436 := eq_true q436
     go_wp2
     go_roundg k1
     case measure => have := HK1.out; omega
     case rel => exact ⟨(wrap64 (x7_1 + 1)), Q1, H', ⟨by have := HK1.out; omega⟩, Q4⟩
   rw [if_pos c7] at H
   have c7b0 : decide (0 < x7_1) = true := decide_eq_true c7
   clear c7
   obtain ⟨ji8, hji8⟩ : ∃ j_ : Int, (wrap64 (x7_1 - 1)) = j_ := ⟨_, rfl⟩
   replace H : (if 0 ≤ (ji8) then (if (ji8) < (l0.length : Int) then (if (rd l0 (ji8)) ≥ (rd l0 x7_1) then (some false) else (impl_areIds.l0 k1 l0 l0 (l0.length : Int) (wrap64 (x7_1 + 1)))) else (none)) else (none)) = some r := by first | (rw [hji8] at H; exact H) | (simp only [hji8] at H ⊢; exact H)
   have hji8w : (IntKind.i64.wrap (x7_1 - 1)) = ji8 := (i64_w _).trans hji8
   by_cases c9 : 0 ≤ (ji8)
   rotate_left
   · rw [if_neg c9] at H
     exact absurd H (by simp)
   rw [if_pos c9] at H
   have c9b0 : decide (0 ≤ (ji8)) = true := decide_eq_true c9
   clear c9
   by_cases c10 : (ji8) < (l0.length : Int)
   rotate_left
   · rw [if_neg c10] at H
     exact absurd H (by simp)
   rw [if_pos c10] at H
   have c10b0 : decide ((ji8) < (l0.length : Int)) = true := decide_eq_true c10
   clear c10
   have H9 := am H
   clear H
   have p436 : 0 ≤ (x7_1 : Int) := of_decide_eq_true Q2
   have q436 : x7_1 < (l0.length : Int) := of_decide_eq_true Q2
   obtain ⟨ad436, e436, hx436_0⟩ := Kd.at_int HR0.out x7_1 p436 q436
   cases e436
   replace p436 := eq_true p436
   replace q436 := eq_true q436
   have p437 : 0 ≤ ((ji8) : Int) := of_decide_eq_true Q2
   have q437 : (ji8) < (l0.length : Int) := of_decide_eq_true Q2
   obtain ⟨ad437, e437, hx437_0⟩ := Kd.at_int HR0.out (ji8) p437 q437
   obtain rfl : ad436 = ad437 := (by injection e437)
   replace p437 := eq_true p437
   replace q437 := eq_true q437
   go_upto_if 30 with (fail)
   have H := H9.out
   clear H9
   by_cases c11 : (rd l0 (ji8)) ≥ (rd l0 x7_1)
   · rw [if_pos c11] at H
     have c11b0 : decide ((rd l0 x7_1) ≤ (rd l0 (ji8))) = true := decide_eq_true c11
     clear c11
     (first | rw [c11b0] | (simp only [i64_w, i32_w]; rw [c11b0]) | skip)
     obtain rfl := sj H
     go_wp2
     go_ret
     exact ⟨by first | rfl | (simp; done) | (simp only [← hji8] <;> (first | rfl | simp)) | (simp [*]; done), Q4⟩
   rw [if_neg c11] at H
   have c11b0 : decide ((rd l0 x7_1) ≤ (rd l0 (ji8))) = false := decide_eq_false c11
   clear c11
   (first | rw [c11b0] | (simp only [i64_w, i32_w]; rw [c11b0]) | skip)
   have H' := am H
   clear H
   go_wp2
   go_roundg k1
   case measure => have := HK1.out; omega
   case rel => exact ⟨(wrap64 (x7_1 + 1)), Q1, H', ⟨by have := HK1.out; omega⟩, Q4⟩

/-! ### slices_Equal_int_int: function 73 -/
def slices_Equal_int_int.l0 : Nat → List Int → List Int → Int → Int → Option (Bool)
 | 0, _, _, _, _ => none
 | k + 1, x0, x1, x12, x13 => if x13 < x12 then (if 0 ≤ x13 then (if x13 < (x0.length : Int) then (if x13 < (x1.length : Int) then (if (rd x0 x13) = (rd x1 x13) then (slices_Equal_int_int.l0 k x0 x1 x12 (wrap64 (x13 + 1))) else (some false)) else (none)) else (none)) else (none)) else (some true)
def slices_Equal_int_int.f (k : Nat) (l0 : List Int) (l1 : List Int) : Option (Bool) := if (l0.length : Int) = (l1.length : Int) then (slices_Equal_int_int.l0 k l0 l1 (l0.length : Int) 0) else (some false)
theorem slices_Equal_int_int.mono_l : ∀ k, (∀ y0 y1 y2 y3, LeO (slices_Equal_int_int.l0 k y0 y1 y2 y3) (slices_Equal_int_int.l0 (k + 1) y0 y1 y2 y3))
 | 0 => fun _ _ _ _ r h => by simp [slices_Equal_int_int.l0] at h
 | k + 1 => by
   have ih0 := slices_Equal_int_int.mono_l k
   · intro y0 y1 y2 y3
     unfold slices_Equal_int_int.l0
     repeat' first
     | (with_reducible exact ih0 _ _ _ _)
     | (with_reducible exact LeO.refl _)
     | (with_reducible exact LeO.none _)
     | (with_reducible refine LeO.ite ?_ ?_)
     | (with_reducible refine LeO.bind ?_ (fun _ => ?_))
     | exact ih0 _ _ _ _
     | exact LeO.none _
     | refine LeO.ite ?_ ?_
     | refine LeO.bind ?_ (fun _ => ?_)
theorem slices_Equal_int_int.mono : ∀ a0 a1 k, LeO (slices_Equal_int_int.f k a0 a1) (slices_Equal_int_int.f (k + 1) a0 a1) := by
 intro a0 a1 k
 have ih0 := slices_Equal_int_int.mono_l k
 unfold slices_Equal_int_int.f
 repeat' first
     | (with_reducible exact ih0 _ _ _ _)
     | (with_reducible exact LeO.refl _)
     | (with_reducible exact LeO.none _)
     | (with_reducible refine LeO.ite ?_ ?_)
     | (with_reducible refine LeO.bind ?_ (fun _ => ?_))
     | exact ih0 _ _ _ _
     | exact LeO.none _
     | refine LeO.ite ?_ ?_
     | refine LeO.bind ?_ (fun _ => ?_)
set_option maxHeartbeats 8000000 in
set_option maxRecDepth 100000 in
theorem slices_Equal_int_int.calls (k : Nat) (A0 : Option Addr) (c0 : Nat) (l0 : List Int) (A1 : Option Addr) (c1 : Nat) (l1 : List Int) (r : Bool) (w : World) (hr0 : Kd.C (Kd.int .i64) w A0 l0.length l0) (hc0 : l0.length ≤ c0) (hr1 : Kd.C (Kd.int .i64) w A1 l1.length l1) (hc1 : l1.length ≤ c1) (h : slices_Equal_int_int.f k l0 l1 = some r) :
   Calls Try.prog 73 #[.slice A0 l0.length c0, .slice A1 l1.length c1] w fun e w' => e = .returned (.bool r) ∧ Drawn0 w w' := by
 have HR0 := am hr0
 have HC0 := am hc0
 clear hr0 hc0
 have HR1 := am hr1
 have HC1 := am hc1
 clear hr1 hc1
 have H : (if (l0.length : Int) = (l1.length : Int) then (slices_Equal_int_int.l0 k l0 l1 (l0.length : Int) 0) else (some false)) = some r := h
 clear h
 by_cases c3 : (l0.length : Int) = (l1.length : Int)
 rotate_left
 · rw [if_neg c3] at H
   have c3b0 : ((l0.length : Int) == (l1.length : Int)) = false := beq_eq_false_iff_ne.mpr c3
   have c3b1 : ((l0.length : Int) != (l1.length : Int)) = true := bne_iff_ne.mpr c3
   have c3b2 : (l0.length == l1.length) = false := by first | simpa using c3 | (simp at c3 ⊢; omega)
   obtain rfl := sj H
   go_enter Try.func73, Try.ntmps73
   go_wp2
   repeat (go_quiet (fail); try go_wp2)
   go_ret
   exact ⟨by first | rfl | (simp; done) | (simp [*]; done), Q4⟩
 rw [if_pos c3] at H
 have c3b0 : ((l0.length : Int) == (l1.length : Int)) = true := beq_iff_eq.mpr c3
 have c3b1 : ((l0.length : Int) != (l1.length : Int)) = false := bne_eq_false_iff_eq.mpr c3
 have c3b2 : (l0.length == l1.length) = true := by first | simpa using c3 | (simp at c3 ⊢; omega)
 clear c3
 have H' := am H
 clear H
 go_enter Try.func73, Try.ntmps73
 go_wp2
 repeat (go_quiet (fail); try go_wp2)
 go_loopg [13] k (fun kq v13 w' => ∃ (x13_1 : Int), v13 = .int .i64 x13_1 ∧ Aside0 (slices_Equal_int_int.l0 kq l0 l1 (l0.length : Int) x13_1 = some r) ∧ Aside0 (kq ≤ k) ∧ Drawn0 w w')
 case atStart => exact ⟨(0), Q1, H', ⟨Nat.le_refl _⟩, Q4⟩
 clear H'
 try clear c1
 try clear c3
 try clear c3b0
 try clear c3b1
 try clear c3b2
 obtain ⟨x13_1, rfl, HA, HK1, ⟨m1, rfl⟩⟩ := hrel
 cases gk with
 | zero => exact absurd HA.out (by simp [slices_Equal_int_int.l0])
 | succ k1 =>
   have H := HA.out
   clear HA
   simp only [slices_Equal_int_int.l0] at H
   by_cases c4 : x13_1 < (l0.length : Int)
   rotate_left
   · rw [if_neg c4] at H
     have c4b0 : decide (x13_1 < (l0.length : Int)) = false := decide_eq_false c4
     clear c4
     obtain rfl := sj H
     go_wp2
     repeat (go_quiet (fail); try go_wp2)
     go_ret
     exact ⟨by first | rfl | (simp; done) | (simp [*]; done), Q4⟩
   rw [if_pos c4] at H
   have c4b0 : decide (x13_1 < (l0.length : Int)) = true := decide_eq_true c4
   clear c4
   by_cases c5 : 0 ≤ x13_1
   rotate_left
   · rw [if_neg c5] at H
     exact absurd H (by simp)
   rw [if_pos c5] at H
   have c5b0 : decide (0 ≤ x13_1) = true := decide_eq_true c5
   clear c5
   by_cases c6 : x13_1 < (l0.length : Int)
   rotate_left
   · rw [if_neg c6] at H
     exact absurd H (by simp)
   rw [if_pos c6] at H
   have c6b0 : decide (x13_1 < (l0.length : Int)) = true := decide_eq_true c6
   clear c6
   by_cases c7 : x13_1 < (l1.length : Int)
   rotate_left
   · rw [if_neg c7] at H
     exact absurd H (by simp)
   rw [if_pos c7] at H
   have c7b0 : decide (x13_1 < (l1.length : Int)) = true := decide_eq_true c7
   clear c7
   have H9 := am H
   clear H
   have p438 : 0 ≤ (x13_1 : Int) := of_decide_eq_true Q2
   have q438 : x13_1 < (l0.length : Int) := of_decide_eq_true Q2
   obtain ⟨ad438, e438, hx438_0⟩ := Kd.at_int HR0.out x13_1 p438 q438
   cases e438
   replace p438 := eq_true p438
   replace q438 := eq_true q438
   have p439 : 0 ≤ (x13_1 : Int) := of_decide_eq_true Q2
   have q439 : x13_1 < (l1.length : Int) := of_decide_eq_true Q2
   obtain ⟨ad439, e439, hx439_0⟩ := Kd.at_int HR1.out x13_1 p439 q439
   cases e439
   replace p439 := eq_true p439
   replace q439 := eq_true q439
   go_upto_if 24 with (fail)
   repeat (go_quiet (fail); go_upto_if 24 with (fail))
   have H := H9.out
   clear H9
   by_cases c8 : (rd l0 x13_1) = (rd l1 x13_1)
   rotate_left
   · rw [if_neg c8] at H
     have c8b0 : ((rd l0 x13_1) == (rd l1 x13_1)) = false := beq_eq_false_iff_ne.mpr c8
     have c8b1 : ((rd l0 x13_1) != (rd l1 x13_1)) = true := bne_iff_ne.mpr c8
     (first | rw [c8b0] | (simp only [i64_w, i32_w]; rw [c8b0]) | skip)
     obtain rfl := sj H
     go_wp2
     repeat (go_quiet (fail); try go_wp2)
     go_ret
     exact ⟨by first | rfl | (simp; done) | (simp [*]; done), Q4⟩
   rw [if_pos c8] at H
   have c8b0 : ((rd l0 x13_1) == (rd l1 x13_1)) = true := beq_iff_eq.mpr c8
   have c8b1 : ((rd l0 x13_1) != (rd l1 x13_1)) = false := bne_eq_false_iff_eq.mpr c8
   clear c8
   (first | rw [c8b0] | (simp only [i64_w, i32_w]; rw [c8b0]) | skip)
   have H' := am H
   clear H
   go_wp2
   repeat (go_quiet (fail); try go_wp2)
   go_roundg k1
   case measure => have := HK1.out; omega
   case rel => exact ⟨(wrap64 (x13_1 + 1)), Q1, H', ⟨by have := HK1.out; omega⟩, Q4⟩

/-! ### slices_Index_int_int: function 89 -/
def slices_Index_int_int.l0 : Nat → List Int → Int → Int → Int → Option (Int)
 | 0, _, _, _, _ => none
 | k + 1, x0, x1, x7, x8 => if x8 < x7 then (if 0 ≤ x8 then (if x8 < (x0.length : Int) then (if x1 = (rd x0 x8) then (some x8) else (slices_Index_int_int.l0 k x0 x1 x7 (wrap64 (x8 + 1)))) else (none)) else (none)) else (some (-1))
def slices_Index_int_int.f (k : Nat) (l0 : List Int) (a1 : Int) : Option (Int) := slices_Index_int_int.l0 k l0 a1 (l0.length : Int) 0
theorem slices_Index_int_int.mono_l : ∀ k, (∀ y0 y1 y2 y3, LeO (slices_Index_int_int.l0 k y0 y1 y2 y3) (slices_Index_int_int.l0 (k + 1) y0 y1 y2 y3))
 | 0 => fun _ _ _ _ r h => by simp [slices_Index_int_int.l0] at h
 | k + 1 => by
   have ih0 := slices_Index_int_int.mono_l k
   · intro y0 y1 y2 y3
     unfold slices_Index_int_int.l0
     repeat' first
     | (with_reducible exact ih0 _ _ _ _)
     | (with_reducible exact LeO.refl _)
     | (with_reducible exact LeO.none _)
     | (with_reducible refine LeO.ite ?_ ?_)
     | (with_reducible refine LeO.bind ?_ (fun _ => ?_))
     | exact ih0 _ _ _ _
     | exact LeO.none _
     | refine LeO.ite ?_ ?_
     | refine LeO.bind ?_ (fun _ => ?_)
theorem slices_Index_int_int.mono : ∀ a0 a1 k, LeO (slices_Index_int_int.f k a0 a1) (slices_Index_int_int.f (k + 1) a0 a1) := by
 intro a0 a1 k
 have ih0 := slices_Index_int_int.mono_l k
 unfold slices_Index_int_int.f
 repeat' first
     | (with_reducible exact ih0 _ _ _ _)
     | (with_reducible exact LeO.refl _)
     | (with_reducible exact LeO.none _)
     | (with_reducible refine LeO.ite ?_ ?_)
     | (with_reducible refine LeO.bind ?_ (fun _ => ?_))
     | exact ih0 _ _ _ _
     | exact LeO.none _
     | refine LeO.ite ?_ ?_
     | refine LeO.bind ?_ (fun _ => ?_)
set_option maxHeartbeats 8000000 in
set_option maxRecDepth 100000 in
theorem slices_Index_int_int.calls (k : Nat) (A0 : Option Addr) (c0 : Nat) (l0 : List Int) (a1 : Int) (r : Int) (w : World) (hr0 : Kd.C (Kd.int .i64) w A0 l0.length l0) (hc0 : l0.length ≤ c0) (h : slices_Index_int_int.f k l0 a1 = some r) :
   Calls Try.prog 89 #[.slice A0 l0.length c0, .int .i64 a1] w fun e w' => e = .returned (.int .i64 r) ∧ Drawn0 w w' := by
 have HR0 := am hr0
 have HC0 := am hc0
 clear hr0 hc0
 have H : (slices_Index_int_int.l0 k l0 a1 (l0.length : Int) 0) = some r := h
 clear h
 have H' := am H
 clear H
 go_enter Try.func89, Try.ntmps89
 go_wp2
 go_loopg [8] k (fun kq v8 w' => ∃ (x8_1 : Int), v8 = .int .i64 x8_1 ∧ Aside0 (slices_Index_int_int.l0 kq l0 a1 (l0.length : Int) x8_1 = some r) ∧ Aside0 (kq ≤ k) ∧ Drawn0 w w')
 case atStart => exact ⟨(0), Q1, H', ⟨Nat.le_refl _⟩, Q4⟩
 clear H'
 obtain ⟨x8_1, rfl, HA, HK1, ⟨m1, rfl⟩⟩ := hrel
 cases gk with
 | zero => exact absurd HA.out (by simp [slices_Index_int_int.l0])
 | succ k1 =>
   have H := HA.out
   clear HA
   simp only [slices_Index_int_int.l0] at H
   by_cases c3 : x8_1 < (l0.length : Int)
   rotate_left
   · rw [if_neg c3] at H
     have c3b0 : decide (x8_1 < (l0.length : Int)) = false := decide_eq_false c3
     clear c3
     obtain rfl := sj H
     go_wp2
     go_ret
     exact ⟨by first | rfl | (simp; done) | (simp [*]; done), Q4⟩
   rw [if_pos c3] at H
   have c3b0 : decide (x8_1 < (l0.length : Int)) = true := decide_eq_true c3
   clear c3
   by_cases c4 : 0 ≤ x8_1
   rotate_left
   · rw [if_neg c4] at H
     exact absurd H (by simp)
   rw [if_pos c4] at H
   have c4b0 : decide (0 ≤ x8_1) = true := decide_eq_true c4
   clear c4
   by_cases c5 : x8_1 < (l0.length : Int)
   rotate_left
   · rw [if_neg c5] at H
     exact absurd H (by simp)
   rw [if_pos c5] at H
   have c5b0 : decide (x8_1 < (l0.length : Int)) = true := decide_eq_true c5
   clear c5
   have H9 := am H
   clear H
   have p440 : 0 ≤ (x8_1 : Int) := of_decide_eq_true Q2
   have q440 : x8_1 < (l0.length : Int) := of_decide_eq_true Q2
   obtain ⟨ad440, e440, hx440_0⟩ := Kd.at_int HR0.out x8_1 p440 q440
   cases e440
   replace p440 := eq_true p440
   replace q440 := eq_true q440
   go_upto_if 16 with (fail)
   have H := H9.out
   clear H9
   by_cases c6 : a1 = (rd l0 x8_1)
   · rw [if_pos c6] at H
     have c6b0 : (a1 == (rd l0 x8_1)) = true := beq_iff_eq.mpr c6
     have c6b1 : (a1 != (rd l0 x8_1)) = false := bne_eq_false_iff_eq.mpr c6
     clear c6
     (first | rw [c6b0] | (simp only [i64_w, i32_w]; rw [c6b0]) | skip)
     obtain rfl := sj H
     go_wp2
     go_ret
     exact ⟨by first | rfl | (simp; done) | (simp [*]; done), Q4⟩
   rw [if_neg c6] at H
   have c6b0 : (a1 == (rd l0 x8_1)) = false := beq_eq_false_iff_ne.mpr c6
   have c6b1 : (a1 != (rd l0 x8_1)) = true := bne_iff_ne.mpr c6
   (first | rw [c6b0] | (simp only [i64_w, i32_w]; rw [c6b0]) | skip)
   have H' := am H
   clear H
   go_wp2
   go_roundg k1
   case measure => have := HK1.out; omega
   case rel => exact ⟨(wrap64 (x8_1 + 1)), Q1, H', ⟨by have := HK1.out; omega⟩, Q4⟩

/-! ### slices_Contains_int_int: function 71 -/
def slices_Contains_int_int.f (k : Nat) (l0 : List Int) (a1 : Int) : Option (Bool) := (slices_Index_int_int.f k l0 a1).bind fun t441 => (some (decide (t441 ≥ 0)))
theorem slices_Contains_int_int.mono : ∀ a0 a1 k, LeO (slices_Contains_int_int.f k a0 a1) (slices_Contains_int_int.f (k + 1) a0 a1) := by
 intro a0 a1 k
 unfold slices_Contains_int_int.f
 repeat' first
     | (with_reducible exact slices_Index_int_int.mono _ _ _)
     | (with_reducible exact LeO.refl _)
     | (with_reducible exact LeO.none _)
     | (with_reducible refine LeO.ite ?_ ?_)
     | (with_reducible refine LeO.bind ?_ (fun _ => ?_))
     | exact slices_Index_int_int.mono _ _ _
     | exact LeO.none _
     | refine LeO.ite ?_ ?_
     | refine LeO.bind ?_ (fun _ => ?_)
set_option maxHeartbeats 8000000 in
set_option maxRecDepth 100000 in
theorem slices_Contains_int_int.calls (k : Nat) (A0 : Option Addr) (c0 : Nat) (l0 : List Int) (a1 : Int) (r : Bool) (w : World) (hr0 : Kd.C (Kd.int .i64) w A0 l0.length l0) (hc0 : l0.length ≤ c0) (h : slices_Contains_int_int.f k l0 a1 = some r) :
   Calls Try.prog 71 #[.slice A0 l0.length c0, .int .i64 a1] w fun e w' => e = .returned (.bool r) ∧ Drawn0 w w' := by
 have HR0 := am hr0
 have HC0 := am hc0
 clear hr0 hc0
 have H : ((slices_Index_int_int.f k l0 a1).bind fun t441 => (some (decide (t441 ≥ 0)))) = some r := h
 clear h
 replace H := Option.bind_eq_some_iff.mp H
 obtain ⟨t441, A30, H⟩ := H
 replace H : (some (decide (t441 ≥ 0))) = some r := H
 have A3 := am A30
 clear A30
 obtain rfl := sj H
 go_enter Try.func71, Try.ntmps71
 go_wp2_with (first | ((with_reducible refine gate_callee (f := 89) rfl ?_); refine goesL_ (some 7) rfl rfl Try.func89 kr rfl #[.slice A0 l0.length c0, .int .i64 a1] rfl Q3 ?_; (with_reducible refine (slices_Index_int_int.calls k _ _ l0 a1 t441 _ ?side1 ?side2 A3.out).mono ?_); (case side1 => exact (by repeat (first | exact HR0.out | (with_reducible refine Kd.C_alloc ?_ _) | (with_reducible refine Kd.C_drewN ?_ _) | (with_reducible refine Kd.C_drew ?_)))); (case side2 => exact HC0.out); rintro e w' ⟨rfl, ⟨nd, rfl⟩⟩; refine ⟨_, rfl, ?_⟩))
 go_ret
 exact ⟨by first | rfl | (simp; done) | (simp [*]; done), Q4⟩

/-! ### slices_ContainsFunc_int_int: function 74 -/
def slices_ContainsFunc_int_int.p (l1_0 : List Int) (l1_1 : List Int) (y : Int) : Bool := decide (y ∈ l1_0) || decide (y ∈ l1_1)
theorem slices_ContainsFunc_int_int.has_l (l : List Int) (a : Int) (hl : l.length ≤ 9223372036854775807) (d : Nat) : ∀ i : Nat, l.length = i + d → (∀ j : Nat, j < i → l.getD j 0 ≠ a) → ∃ r, slices_Index_int_int.l0 (d + 1) l a (l.length : Int) (i : Int) = some r ∧ decide (0 ≤ r) = decide (a ∈ l) := by
 induction d with
 | zero =>
   intro i hd hb
   refine ⟨-1, by rw [slices_Index_int_int.l0, if_neg (by omega)], ?_⟩
   rw [decide_eq_false (by omega), decide_eq_false]
   intro hm
   obtain ⟨j, hj, e⟩ := List.mem_iff_getElem.1 hm
   exact hb j (by omega) (by rw [List.getD_eq_getElem?_getD, List.getElem?_eq_getElem hj]; exact e)
 | succ d ih =>
   intro i hd hb
   by_cases h : a = rd l (i : Int)
   · refine ⟨i, by rw [slices_Index_int_int.l0, if_pos (by omega), if_pos (by omega), if_pos (by omega), if_pos h], ?_⟩
     rw [decide_eq_true (by omega), decide_eq_true]
     rw [h]
     unfold rd
     rw [Int.toNat_natCast, List.getD_eq_getElem?_getD, List.getElem?_eq_getElem (show i < l.length by omega)]
     exact List.getElem_mem _
   obtain ⟨r, h1, h2⟩ := ih (i + 1) (by omega) (fun j hj => by
     by_cases e : j = i
     · subst e
       intro e2
       refine h (e2.symm.trans ?_)
       unfold rd
       rw [Int.toNat_natCast]
     · exact hb j (by omega))
   refine ⟨r, ?_, h2⟩
   rw [slices_Index_int_int.l0, if_pos (by omega), if_pos (by omega), if_pos (by omega), if_neg h, show wrap64 ((i : Int) + 1) = ((i + 1 : Nat) : Int) by unfold wrap64; omega]
   exact h1
theorem slices_ContainsFunc_int_int.has (l : List Int) (a : Int) (hl : l.length ≤ 9223372036854775807) : ∃ k, slices_Contains_int_int.f k l a = some (decide (a ∈ l)) := by
 obtain ⟨r, h1, h2⟩ := slices_ContainsFunc_int_int.has_l l a hl l.length 0 (by omega) (fun j h => by omega)
 refine ⟨l.length + 1, ?_⟩
 unfold slices_Contains_int_int.f slices_Index_int_int.f
 rw [show ((0 : Nat) : Int) = 0 from rfl] at h1
 rw [h1]
 show some (decide (r ≥ 0)) = _
 rw [← h2]
set_option maxHeartbeats 800000 in
set_option maxRecDepth 100000 in
theorem slices_ContainsFunc_int_int.lit (b : Nat) (A1_0 : Option Addr) (c1_0 : Nat) (l1_0 : List Int) (A1_1 : Option Addr) (c1_1 : Nat) (l1_1 : List Int) (A1_2 : Option Addr) (c1_2 : Nat) (l1_2 : List Int) (y : Int) (w : World) (hb : w.heap[b]? = some (.cells #[.slice A1_0 l1_0.length c1_0, .slice A1_1 l1_1.length c1_1, .slice A1_2 l1_2.length c1_2] 26 (0, 0))) (hr1_0 : Kd.C (Kd.int .i64) w A1_0 l1_0.length l1_0) (hc1_0 : l1_0.length ≤ c1_0) (hr1_1 : Kd.C (Kd.int .i64) w A1_1 l1_1.length l1_1) (hc1_1 : l1_1.length ≤ c1_1) (hr1_2 : Kd.C (Kd.int .i64) w A1_2 l1_2.length l1_2) (hc1_2 : l1_2.length ≤ c1_2) :
   Calls Try.prog 75 #[.int .i64 y, .pointer (some ⟨b, 0, none⟩)] w fun e w' => e = .returned (.bool (slices_ContainsFunc_int_int.p l1_0 l1_1 y)) ∧ Below w.heap.size w w' := by
 have hc0 : w.cell? ⟨b, 0, none⟩ = some (.slice A1_0 l1_0.length c1_0) := (blk_cell hb 0).trans rfl
 obtain ⟨k0, hk0⟩ := slices_ContainsFunc_int_int.has l1_0 y hr1_0.2.1
 have HR0 := am hr1_0
 have HC0 := am hc1_0
 have hc1 : w.cell? ⟨b, 1, none⟩ = some (.slice A1_1 l1_1.length c1_1) := (blk_cell hb 1).trans rfl
 obtain ⟨k1, hk1⟩ := slices_ContainsFunc_int_int.has l1_1 y hr1_1.2.1
 have HR1 := am hr1_1
 have HC1 := am hc1_1
 have hu := Try.underlying26
 have HBB := am hb
 clear hr1_0 hc1_0 hr1_1 hc1_1 hr1_2 hc1_2 hb
 unfold slices_ContainsFunc_int_int.p
 cases hq0 : decide (y ∈ l1_0) with
 | true =>
   rw [hq0] at hk0
   have HK0 := am hk0
   clear hk0 hq0
   go_enter Try.func75, Try.ntmps75
   go_wp2_with (first | (go_at_call 71; (with_reducible refine (slices_Contains_int_int.calls k0 _ _ l1_0 y _ _ ?sd1 ?sd2 HK0.out).mono ?_); (case sd1 => repeat (first | exact HR0.out | (with_reducible refine Kd.C_drewN ?_ _) | (with_reducible refine Kd.C_drew ?_))); (case sd2 => exact HC0.out); rintro e w' ⟨rfl, ⟨nd0, rfl⟩⟩))
   go_ret
   exact ⟨by first | rfl | simp, u8_11⟩
 | false =>
   rw [hq0] at hk0
   have HK0 := am hk0
   clear hk0 hq0
   have HK1 := am hk1
   clear hk1
   go_enter Try.func75, Try.ntmps75
   go_wp2_with (first | (go_at_call 71; (with_reducible refine (slices_Contains_int_int.calls k0 _ _ l1_0 y _ _ ?sd1 ?sd2 HK0.out).mono ?_); (case sd1 => repeat (first | exact HR0.out | (with_reducible refine Kd.C_drewN ?_ _) | (with_reducible refine Kd.C_drew ?_))); (case sd2 => exact HC0.out); rintro e w' ⟨rfl, ⟨nd0, rfl⟩⟩) | (go_at_call 71; (with_reducible refine (slices_Contains_int_int.calls k1 _ _ l1_1 y _ _ ?sd1 ?sd2 HK1.out).mono ?_); (case sd1 => repeat (first | exact HR1.out | (with_reducible refine Kd.C_drewN ?_ _) | (with_reducible refine Kd.C_drew ?_))); (case sd2 => exact HC1.out); rintro e w' ⟨rfl, ⟨nd1, rfl⟩⟩))
   go_ret
   exact ⟨by first | rfl | simp, u8_11⟩
set_option maxHeartbeats 1600000 in
theorem slices_ContainsFunc_int_int.idx (p : Int → Bool) (bs : Array Value) (A0 : Option Addr) (c0 : Nat) (l0 : List Int) (w : World) (hr0 : Kd.C (Kd.int .i64) w A0 l0.length l0) (hc0 : l0.length ≤ c0)
   (hf : ∀ (y : Int) (W : World), Below w.heap.size w W → Calls Try.prog 75 (#[.int .i64 y] ++ bs) W fun e w' => e = .returned (.bool (p y)) ∧ Below W.heap.size W w') :
   Calls Try.prog 88 #[.slice A0 l0.length c0, .func (.func 75) #[] bs] w fun e w' => e = .returned (.int .i64 (Go.Proofs.Ytoemdmjdpikfbaa.Slc.idxB p l0)) ∧ Below w.heap.size w w' := by
 skip
 have hn : l0.length ≤ 9223372036854775807 := hr0.2.1
 have HR := am hr0
 have HF := am hf
 clear hr0 hf
 go_enter Try.func88, Try.ntmps88
 go_wp2
 go_loopg [5, 8] l0.length (fun gg _ s8 wr => ∃ kk : Int, 0 ≤ kk ∧ kk ≤ l0.length ∧ l0.length - kk.toNat ≤ gg ∧ s8 = .int .i64 kk ∧ Aside0 (Below w.heap.size w wr) ∧ Aside0 (∀ j : Nat, (j : Int) < kk → p (l0.getD j 0) = false))
 case atStart => exact ⟨0, by omega, by omega, by omega, rfl, ⟨Below.refl _ w⟩, ⟨fun j hj => by omega⟩⟩
 obtain ⟨kk, h0, hk, hg, rfl, BW, HA⟩ := hrel
 by_cases hlt : kk < (l0.length : Int)
 rotate_left
 · go_wp2
   go_ret
   refine ⟨?_, BW.out⟩
   rw [Go.Proofs.Ytoemdmjdpikfbaa.Slc.idxB_miss p l0 0 (fun j hj => HA.out j (by omega))]
   rfl
 obtain ⟨ad, e, hx0⟩ := Kd.at_int HR.out kk h0 hlt
 cases e
 replace hx0 := (BW.out.cell (World.block_lt_of_cell? w _ hx0)).trans hx0
 have HC := am (HF.out (l0.getD kk.toNat 0) wr BW.out)
 cases hq : p (l0.getD kk.toNat 0) with
 | true =>
   have HQ := am hq
   rw [hq] at HC
   clear hq
   go_wp2_with (go_at_call 75; refine HC.out.mono ?_; rintro e w' ⟨rfl, hb'⟩)
   go_ret
   refine ⟨?_, below_step BW.out hb'⟩
   rw [Go.Proofs.Ytoemdmjdpikfbaa.Slc.idxB_hit p l0 0 kk.toNat (by omega) HQ.out (fun j hj => HA.out j (by omega)), Int.toNat_of_nonneg h0]
   rfl
 | false =>
   have HQ := am hq
   rw [hq] at HC
   clear hq
   go_wp2_with (go_at_call 75; refine HC.out.mono ?_; rintro e w' ⟨rfl, hb'⟩)
   go_roundg (l0.length - (kk + 1).toNat)
   case measure => omega
   case rel =>
     refine ⟨kk + 1, by omega, by omega, by omega, by go_num, ⟨below_step BW.out hb'⟩, ⟨fun j hj => ?_⟩⟩
     by_cases e : (j : Int) = kk
     rotate_left
     · exact HA.out j (by omega)
     have := HQ.out
     rw [← e, Int.toNat_natCast] at this
     exact this
def slices_ContainsFunc_int_int.f (l0 : List Int) (l1_0 : List Int) (l1_1 : List Int) (l1_2 : List Int) : Option Bool := some (l0.any (slices_ContainsFunc_int_int.p l1_0 l1_1))
set_option maxHeartbeats 400000 in
theorem slices_ContainsFunc_int_int.calls (A0 : Option Addr) (c0 : Nat) (l0 : List Int) (A1_0 : Option Addr) (c1_0 : Nat) (l1_0 : List Int) (A1_1 : Option Addr) (c1_1 : Nat) (l1_1 : List Int) (A1_2 : Option Addr) (c1_2 : Nat) (l1_2 : List Int) (r : Bool) (w : World) {b : Nat} (hr0 : Kd.C (Kd.int .i64) w A0 l0.length l0) (hc0 : l0.length ≤ c0) (hr1_0 : Kd.C (Kd.int .i64) w A1_0 l1_0.length l1_0) (hc1_0 : l1_0.length ≤ c1_0) (hr1_1 : Kd.C (Kd.int .i64) w A1_1 l1_1.length l1_1) (hc1_1 : l1_1.length ≤ c1_1) (hr1_2 : Kd.C (Kd.int .i64) w A1_2 l1_2.length l1_2) (hc1_2 : l1_2.length ≤ c1_2) (hb : w.heap[b]? = some (.cells #[.slice A1_0 l1_0.length c1_0, .slice A1_1 l1_1.length c1_1, .slice A1_2 l1_2.length c1_2] 26 (0, 0))) (h : slices_ContainsFunc_int_int.f l0 l1_0 l1_1 l1_2 = some r) :
   Calls Try.prog 74 #[.slice A0 l0.length c0, .func (.func 75) #[] #[.pointer (some ⟨b, 0, none⟩)]] w fun e w' => e = .returned (.bool r) ∧ Below w.heap.size w w' := by
 obtain rfl := Option.some.inj h
 have HI := am (slices_ContainsFunc_int_int.idx (slices_ContainsFunc_int_int.p l1_0 l1_1) #[.pointer (some ⟨b, 0, none⟩)] A0 c0 l0 w hr0 hc0 (fun y W hW => slices_ContainsFunc_int_int.lit b A1_0 c1_0 l1_0 A1_1 c1_1 l1_1 A1_2 c1_2 l1_2 y W ((hW.block b (blk_lt hb)).trans hb) (Kd.C_below hr1_0 hW) hc1_0 (Kd.C_below hr1_1 hW) hc1_1 (Kd.C_below hr1_2 hW) hc1_2))
 clear hr0 hc0 hb h hr1_0 hc1_0 hr1_1 hc1_1 hr1_2 hc1_2
 go_enter Try.func74, Try.ntmps74
 go_wp2_with (go_at_call 88; refine HI.out.mono ?_; rintro e w' ⟨rfl, hb'⟩)
 go_ret
 exact ⟨(by first | (rw [← Go.Proofs.Ytoemdmjdpikfbaa.Slc.idxB_any]; done) | (rw [← Go.Proofs.Ytoemdmjdpikfbaa.Slc.idxB_any]; rfl)), hb'⟩


/-! ### impl_isConf: function 48 -/
def impl_isConf.f (k : Nat) (l0_0 : List Int) (l0_1 : List Int) (l0_2 : List Int) : Option (Bool) := (impl_areIds.f k l0_0).bind fun t443 => (if t443 = true then (if (l0_0.length : Int) = 0 then (some false) else ((impl_areIds.f k l0_1).bind fun t444 => (if t444 = true then ((slices_Equal_int_int.f k l0_0 l0_1).bind fun t445 => (if t445 = true then (some false) else ((impl_areIds.f k l0_2).bind fun t446 => (if t446 = true then ((slices_ContainsFunc_int_int.f l0_2 l0_0 l0_1 l0_2).bind fun t447 => (some (!t447))) else (some false))))) else (some false)))) else (some false))
theorem impl_isConf.mono : ∀ a0 a1 a2 k, LeO (impl_isConf.f k a0 a1 a2) (impl_isConf.f (k + 1) a0 a1 a2) := by
 intro a0 a1 a2 k
 unfold impl_isConf.f
 repeat' first
     | (with_reducible exact impl_areIds.mono _ _)
     | (with_reducible exact slices_Equal_int_int.mono _ _ _)
     | (with_reducible exact LeO.refl _)
     | (with_reducible exact LeO.none _)
     | (with_reducible refine LeO.ite ?_ ?_)
     | (with_reducible refine LeO.bind ?_ (fun _ => ?_))
     | exact impl_areIds.mono _ _
     | exact slices_Equal_int_int.mono _ _ _
     | exact LeO.none _
     | refine LeO.ite ?_ ?_
     | refine LeO.bind ?_ (fun _ => ?_)
set_option maxHeartbeats 8000000 in
set_option maxRecDepth 100000 in
theorem impl_isConf.calls (k : Nat) (A0_0 : Option Addr) (c0_0 : Nat) (l0_0 : List Int) (A0_1 : Option Addr) (c0_1 : Nat) (l0_1 : List Int) (A0_2 : Option Addr) (c0_2 : Nat) (l0_2 : List Int) (r : Bool) (w : World) (hr0_0 : Kd.C (Kd.int .i64) w A0_0 l0_0.length l0_0) (hc0_0 : l0_0.length ≤ c0_0) (hr0_1 : Kd.C (Kd.int .i64) w A0_1 l0_1.length l0_1) (hc0_1 : l0_1.length ≤ c0_1) (hr0_2 : Kd.C (Kd.int .i64) w A0_2 l0_2.length l0_2) (hc0_2 : l0_2.length ≤ c0_2) (h : impl_isConf.f k l0_0 l0_1 l0_2 = some r) :
   Calls Try.prog 48 #[.agg #[.slice A0_0 l0_0.length c0_0, .slice A0_1 l0_1.length c0_1, .slice A0_2 l0_2.length c0_2]] w fun e w' => e = .returned (.bool r) ∧ Below w.heap.size w w' := by
 have hu26 := Try.underlying26
 have HR0_0 := am hr0_0
 have HC0_0 := am hc0_0
 clear hr0_0 hc0_0
 have HR0_1 := am hr0_1
 have HC0_1 := am hc0_1
 clear hr0_1 hc0_1
 have HR0_2 := am hr0_2
 have HC0_2 := am hc0_2
 clear hr0_2 hc0_2
 have HB := am (Below.refl w.heap.size w)
 have H : ((impl_areIds.f k l0_0).bind fun t443 => (if t443 = true then (if (l0_0.length : Int) = 0 then (some false) else ((impl_areIds.f k l0_1).bind fun t444 => (if t444 = true then ((slices_Equal_int_int.f k l0_0 l0_1).bind fun t445 => (if t445 = true then (some false) else ((impl_areIds.f k l0_2).bind fun t446 => (if t446 = true then ((slices_ContainsFunc_int_int.f l0_2 l0_0 l0_1 l0_2).bind fun t447 => (some (!t447))) else (some false))))) else (some false)))) else (some false))) = some r := h
 clear h
 replace H := Option.bind_eq_some_iff.mp H
 obtain ⟨t443, A20, H⟩ := H
 have A2 := am A20
 clear A20
 by_cases c3 : t443 = true
 rotate_left
 · replace c3 := Bool.eq_false_iff.mpr c3
   subst c3
   rw [nf] at H
   obtain rfl := sj H
   go_enter Try.func48, Try.ntmps48
   go_wp2_with (first | ((with_reducible refine gate_dst (N := 1) rfl ?_); (try (refine gate_guard (by rfl) ?_; dsimp only)); refine box_event ?hg (N := 1) ?hd (cs := #[.slice A0_0 l0_0.length c0_0, .slice A0_1 l0_1.length c0_1, .slice A0_2 l0_2.length c0_2]) (t := 26) ?hr ?_; (case hd => rfl); (case hg => rfl); (case hr => first | (go_simp; done) | (go_simp; rfl)); intro gb442 hg w22 hbox hb; have BK442 := am (hbox); have GW442 := am ((by rw [hg]; exact (below_size Q0) : w.heap.size ≤ gb442)); have GE442 := am ((by rw [hg]; exact (below_size Q0) : w.heap.size ≤ gb442)); replace HB := am (below_step Q0 hb); clear hb hbox hg; obtain ⟨hcz23_0, hcz23_1, hcz23_2⟩ := bc3 w22 BK442.out) | ((with_reducible refine gate_callee (f := 72) rfl ?_); refine goesL_ (some 5) rfl rfl Try.func72 kr rfl #[.slice A0_0 l0_0.length c0_0] rfl Q3 ?_; (with_reducible refine (impl_areIds.calls k _ _ l0_0 false _ ?side1 ?side2 A2.out).mono ?_); (case side1 => exact Q6); (case side2 => exact HC0_0.out); rintro e w' ⟨rfl, ⟨nd, rfl⟩⟩; refine ⟨_, rfl, ?_⟩))
   go_ret
   exact ⟨er, Q0⟩
 subst c3
 rw [if_pos rfl] at H
 by_cases c4 : (l0_0.length : Int) = 0
 · rw [if_pos c4] at H
   have c4b0 : ((l0_0.length : Int) == 0) = true := beq_iff_eq.mpr c4
   have c4b1 : ((l0_0.length : Int) != 0) = false := bne_eq_false_iff_eq.mpr c4
   clear c4
   obtain rfl := sj H
   go_enter Try.func48, Try.ntmps48
   go_wp2_with (first | ((with_reducible refine gate_dst (N := 1) rfl ?_); (try (refine gate_guard (by rfl) ?_; dsimp only)); refine box_event ?hg (N := 1) ?hd (cs := #[.slice A0_0 l0_0.length c0_0, .slice A0_1 l0_1.length c0_1, .slice A0_2 l0_2.length c0_2]) (t := 26) ?hr ?_; (case hd => rfl); (case hg => rfl); (case hr => first | (go_simp; done) | (go_simp; rfl)); intro gb442 hg w5 hbox hb; have BK442 := am (hbox); have GW442 := am ((by rw [hg]; exact (below_size Q0) : w.heap.size ≤ gb442)); have GE442 := am ((by rw [hg]; exact (below_size Q0) : w.heap.size ≤ gb442)); replace HB := am (below_step Q0 hb); clear hb hbox hg; obtain ⟨hcz6_0, hcz6_1, hcz6_2⟩ := bc3 w5 BK442.out) | ((with_reducible refine gate_callee (f := 72) rfl ?_); refine goesL_ (some 5) rfl rfl Try.func72 kr rfl #[.slice A0_0 l0_0.length c0_0] rfl Q3 ?_; (with_reducible refine (impl_areIds.calls k _ _ l0_0 true _ ?side1 ?side2 A2.out).mono ?_); (case side1 => exact Q6); (case side2 => exact HC0_0.out); rintro e w' ⟨rfl, ⟨nd, rfl⟩⟩; refine ⟨_, rfl, ?_⟩))
   go_ret
   exact ⟨er, Q0⟩
 rw [if_neg c4] at H
 have c4b0 : ((l0_0.length : Int) == 0) = false := beq_eq_false_iff_ne.mpr c4
 have c4b1 : ((l0_0.length : Int) != 0) = true := bne_iff_ne.mpr c4
 have c4b2 : ¬ (l0_0 = []) := fun h_ => c4 (by rw [h_]; rfl)
 replace H := Option.bind_eq_some_iff.mp H
 obtain ⟨t444, A70, H⟩ := H
 have A7 := am A70
 clear A70
 by_cases c8 : t444 = true
 rotate_left
 · replace c8 := Bool.eq_false_iff.mpr c8
   subst c8
   rw [nf] at H
   obtain rfl := sj H
   go_enter Try.func48, Try.ntmps48
   go_wp2_with (first | ((with_reducible refine gate_dst (N := 1) rfl ?_); (try (refine gate_guard (by rfl) ?_; dsimp only)); refine box_event ?hg (N := 1) ?hd (cs := #[.slice A0_0 l0_0.length c0_0, .slice A0_1 l0_1.length c0_1, .slice A0_2 l0_2.length c0_2]) (t := 26) ?hr ?_; (case hd => rfl); (case hg => rfl); (case hr => first | (go_simp; done) | (go_simp; rfl)); intro gb442 hg w20 hbox hb; have BK442 := am (hbox); have GW442 := am ((by rw [hg]; exact (below_size Q0) : w.heap.size ≤ gb442)); have GE442 := am ((by rw [hg]; exact (below_size Q0) : w.heap.size ≤ gb442)); replace HB := am (below_step Q0 hb); clear hb hbox hg; obtain ⟨hcz21_0, hcz21_1, hcz21_2⟩ := bc3 w20 BK442.out) | ((with_reducible refine gate_callee (f := 72) rfl ?_); refine goesL_ (some 5) rfl rfl Try.func72 kr rfl #[.slice A0_0 l0_0.length c0_0] rfl Q3 ?_; (with_reducible refine (impl_areIds.calls k _ _ l0_0 true _ ?side1 ?side2 A2.out).mono ?_); (case side1 => exact Q6); (case side2 => exact HC0_0.out); rintro e w' ⟨rfl, ⟨nd, rfl⟩⟩; refine ⟨_, rfl, ?_⟩) | (go_at_call 72; (with_reducible refine (impl_areIds.calls k _ _ l0_1 false _ ?side1 ?side2 A7.out).mono ?_); (case side1 => exact u8_5); (case side2 => exact HC0_1.out); rintro e w' ⟨rfl, ⟨nd, rfl⟩⟩))
   go_ret
   exact ⟨er, Q0⟩
 subst c8
 rw [if_pos rfl] at H
 replace H := Option.bind_eq_some_iff.mp H
 obtain ⟨t445, A90, H⟩ := H
 have A9 := am A90
 clear A90
 by_cases c10 : t445 = true
 · subst c10
   rw [if_pos rfl] at H
   obtain rfl := sj H
   go_enter Try.func48, Try.ntmps48
   go_wp2_with (first | ((with_reducible refine gate_dst (N := 1) rfl ?_); (try (refine gate_guard (by rfl) ?_; dsimp only)); refine box_event ?hg (N := 1) ?hd (cs := #[.slice A0_0 l0_0.length c0_0, .slice A0_1 l0_1.length c0_1, .slice A0_2 l0_2.length c0_2]) (t := 26) ?hr ?_; (case hd => rfl); (case hg => rfl); (case hr => first | (go_simp; done) | (go_simp; rfl)); intro gb442 hg w11 hbox hb; have BK442 := am (hbox); have GW442 := am ((by rw [hg]; exact (below_size Q0) : w.heap.size ≤ gb442)); have GE442 := am ((by rw [hg]; exact (below_size Q0) : w.heap.size ≤ gb442)); replace HB := am (below_step Q0 hb); clear hb hbox hg; obtain ⟨hcz12_0, hcz12_1, hcz12_2⟩ := bc3 w11 BK442.out) | ((with_reducible refine gate_callee (f := 72) rfl ?_); refine goesL_ (some 5) rfl rfl Try.func72 kr rfl #[.slice A0_0 l0_0.length c0_0] rfl Q3 ?_; (with_reducible refine (impl_areIds.calls k _ _ l0_0 true _ ?side1 ?side2 A2.out).mono ?_); (case side1 => exact Q6); (case side2 => exact HC0_0.out); rintro e w' ⟨rfl, ⟨nd, rfl⟩⟩; refine ⟨_, rfl, ?_⟩) | (go_at_call 72; (with_reducible refine (impl_areIds.calls k _ _ l0_1 true _ ?side1 ?side2 A7.out).mono ?_); (case side1 => exact u8_5); (case side2 => exact HC0_1.out); rintro e w' ⟨rfl, ⟨nd, rfl⟩⟩) | (go_at_call 73; (with_reducible refine (slices_Equal_int_int.calls k _ _ l0_0 _ _ l0_1 true _ ?side1 ?side2 ?side3 ?side4 A9.out).mono ?_); (case side1 => exact u8_9); (case side2 => exact HC0_0.out); (case side3 => exact u8_5); (case side4 => exact HC0_1.out); rintro e w' ⟨rfl, ⟨nd, rfl⟩⟩))
   go_ret
   exact ⟨er, Q0⟩
 replace c10 := Bool.eq_false_iff.mpr c10
 subst c10
 rw [nf] at H
 replace H := Option.bind_eq_some_iff.mp H
 obtain ⟨t446, A130, H⟩ := H
 have A13 := am A130
 clear A130
 have H9 := am H
 clear H
 go_enter Try.func48, Try.ntmps48
 go_upto_if 31 with (first | ((with_reducible refine gate_dst (N := 1) rfl ?_); (try (refine gate_guard (by rfl) ?_; dsimp only)); refine box_event ?hg (N := 1) ?hd (cs := #[.slice A0_0 l0_0.length c0_0, .slice A0_1 l0_1.length c0_1, .slice A0_2 l0_2.length c0_2]) (t := 26) ?hr ?_; (case hd => rfl); (case hg => rfl); (case hr => first | (go_simp; done) | (go_simp; rfl)); intro gb442 hg w14 hbox hb; have BK442 := am (hbox); have GW442 := am ((by rw [hg]; exact (below_size Q0) : w.heap.size ≤ gb442)); have GE442 := am ((by rw [hg]; exact (below_size Q0) : w.heap.size ≤ gb442)); replace HB := am (below_step Q0 hb); clear hb hbox hg; obtain ⟨hcz15_0, hcz15_1, hcz15_2⟩ := bc3 w14 BK442.out) | ((with_reducible refine gate_callee (f := 72) rfl ?_); refine goesL_ (some 5) rfl rfl Try.func72 kr rfl #[.slice A0_0 l0_0.length c0_0] rfl Q3 ?_; (with_reducible refine (impl_areIds.calls k _ _ l0_0 true _ ?side1 ?side2 A2.out).mono ?_); (case side1 => exact Q6); (case side2 => exact HC0_0.out); rintro e w' ⟨rfl, ⟨nd, rfl⟩⟩; refine ⟨_, rfl, ?_⟩) | (go_at_call 72; (with_reducible refine (impl_areIds.calls k _ _ l0_1 true _ ?side1 ?side2 A7.out).mono ?_); (case side1 => exact u8_5); (case side2 => exact HC0_1.out); rintro e w' ⟨rfl, ⟨nd, rfl⟩⟩) | (go_at_call 73; (with_reducible refine (slices_Equal_int_int.calls k _ _ l0_0 _ _ l0_1 false _ ?side1 ?side2 ?side3 ?side4 A9.out).mono ?_); (case side1 => exact u8_9); (case side2 => exact HC0_0.out); (case side3 => exact u8_5); (case side4 => exact HC0_1.out); rintro e w' ⟨rfl, ⟨nd, rfl⟩⟩) | (go_at_call 72; (with_reducible refine (impl_areIds.calls k _ _ l0_2 t446 _ ?side1 ?side2 A13.out).mono ?_); (case side1 => exact (by repeat (first | exact (Kd.C_below HR0_2.out Q0) | (with_reducible refine Kd.C_alloc ?_ _) | (with_reducible refine Kd.C_drewN ?_ _) | (with_reducible refine Kd.C_drew ?_)))); (case side2 => exact HC0_2.out); rintro e w' ⟨rfl, ⟨nd, rfl⟩⟩))
 have H := H9.out
 clear H9
 by_cases c16 : t446 = true
 rotate_left
 · replace c16 := Bool.eq_false_iff.mpr c16
   subst c16
   rw [nf] at H
   obtain rfl := sj H
   go_wp2
   go_ret
   exact ⟨er, Q0⟩
 subst c16
 rw [if_pos rfl] at H
 replace H := Option.bind_eq_some_iff.mp H
 obtain ⟨t447, A170, H⟩ := H
 replace H : (some (!t447)) = some r := H
 have A17 := am A170
 clear A170
 obtain rfl := sj H
 obtain ⟨hcz18_0, hcz18_1, hcz18_2⟩ := bc3 w14 BK442.out
 go_wp2_with (first | ((with_reducible refine gate_callee (f := 74) rfl ?_); refine goesL_ (some 35) rfl rfl Try.func74 kr rfl #[.slice A0_2 l0_2.length c0_2, .func (.func 75) #[] #[.pointer (some ⟨gb442, 0, none⟩)]] rfl Q3 ?_; (with_reducible refine (slices_ContainsFunc_int_int.calls _ _ l0_2 A0_0 c0_0 l0_0 A0_1 c0_1 l0_1 A0_2 c0_2 l0_2 t447 _ ?side1 ?side2 ?side3 ?side4 ?side5 ?side6 ?side7 ?side8 ?side9 A17.out).mono ?_); (case side1 => exact Q7); (case side2 => exact HC0_2.out); (case side3 => exact Q6); (case side4 => exact HC0_0.out); (case side5 => exact (by repeat (first | exact (Kd.C_below HR0_1.out HB.out) | (with_reducible refine Kd.C_alloc ?_ _) | (with_reducible refine Kd.C_drewN ?_ _) | (with_reducible refine Kd.C_drew ?_)))); (case side6 => exact HC0_1.out); (case side7 => exact Q7); (case side8 => exact HC0_2.out); (case side9 => exact (by exact u8_10)); rintro e w19 ⟨rfl, hb⟩; refine ⟨_, rfl, ?_⟩; replace BK442 := am (blk_below (g := gb442) (o := .cells #[.slice A0_0 l0_0.length c0_0, .slice A0_1 l0_1.length c0_1, .slice A0_2 l0_2.length c0_2] 26 (0, 0)) u8_10 hb); replace HB := am (below_step Q0 hb); (try clear hb); (try clear hb2); (try clear hk); (try clear hi)))
 go_ret
 exact ⟨er, Q0⟩

end Go.Proofs.Ytoemdmjdpikfbaa.QFnQuorums
