-- Printed by the session's own program wip/prx.py.
import Derived.Test.YtkcadcoohmofcaaSqFnExactLeaders
import Derived.Test.YtkcadcoohmofcaaQFnExactLeadersx0
namespace Go.Proofs.Ytkcadcoohmofcaa.QFnExactLeaders
open Go.RowKit Go.Proofs.YtkcadcoohmofcaaW.PrintWords Go.Proofs.YtkcadcoohmofcaaW.PrintLast Go.Proofs.YtkcadcoohmofcaaW.PrintMore Go.Proofs.Ytkcadcoohmofcaa.SqFnExactLeaders
attribute [local go_sem] max2_int min2_int max_two min_two max_three min_three max_four min_four Go.Proofs.Ytkcadcoohmofcaa.Set.isSome_setCell
set_option linter.unusedVariables false
set_option linter.unusedSimpArgs false

-- squeezed
/-! ### impl_areIds: function 113 -/
def impl_areIds.l0 : Nat → List Int → List Int → Int → Int → Option (Bool)
 | 0, _, _, _, _ => none
 | k + 1, x0, x5, x6, x7 => if x7 < x6 then (if 0 ≤ x7 then (if x7 < (x5.length : Int) then (if (rd x5 x7) < 0 then (some false) else (if (rd x5 x7) > 99 then (some false) else (if x7 > 0 then (if 0 ≤ (wrap64 (x7 - 1)) then (if (wrap64 (x7 - 1)) < (x0.length : Int) then (if (rd x0 (wrap64 (x7 - 1))) ≥ (rd x5 x7) then (some false) else (impl_areIds.l0 k x0 x5 x6 (wrap64 (x7 + 1)))) else (none)) else (none)) else (impl_areIds.l0 k x0 x5 x6 (wrap64 (x7 + 1)))))) else (none)) else (none)) else (some (decide ((x0.length : Int) ≤ 7)))
def impl_areIds.f (k : Nat) (l0 : List Int) : Option (Bool) := impl_areIds.l0 k l0 l0 (l0.length : Int) 0
theorem impl_areIds.mono_l : ∀ k, (∀ y0 y1 y2 y3, LeO (impl_areIds.l0 k y0 y1 y2 y3) (impl_areIds.l0 (k + 1) y0 y1 y2 y3))
 | 0 => fun _ _ _ _ r h => by simp [impl_areIds.l0] at h
 | k + 1 => by
   have ih0 := impl_areIds.mono_l k
   · intro y0 y1 y2 y3
     unfold impl_areIds.l0
     repeat' first
     | (with_reducible exact ih0 _ _ _ _)
     | (with_reducible exact LeO.refl _)
     | (with_reducible exact LeO.none _)
     | (with_reducible refine LeO.ite ?_ ?_)
     | (with_reducible refine LeO.bind ?_ (fun _ => ?_))
     | exact ih0 _ _ _ _
     | exact LeO.none _
     | refine LeO.ite ?_ ?_
     | refine LeO.bind ?_ (fun _ => ?_)
theorem impl_areIds.mono : ∀ a0 k, LeO (impl_areIds.f k a0) (impl_areIds.f (k + 1) a0) := by
 intro a0 k
 have ih0 := impl_areIds.mono_l k
 unfold impl_areIds.f
 repeat' first
     | (with_reducible exact ih0 _ _ _ _)
     | (with_reducible exact LeO.refl _)
     | (with_reducible exact LeO.none _)
     | (with_reducible refine LeO.ite ?_ ?_)
     | (with_reducible refine LeO.bind ?_ (fun _ => ?_))
     | exact ih0 _ _ _ _
     | exact LeO.none _
     | refine LeO.ite ?_ ?_
     | refine LeO.bind ?_ (fun _ => ?_)
set_option maxHeartbeats 8000000 in
set_option maxRecDepth 100000 in
theorem impl_areIds.calls (k : Nat) (A0 : Option Addr) (c0 : Nat) (l0 : List Int) (r : Bool) (w : World) (hr0 : Kd.C (Kd.int .i64) w A0 l0.length l0) (hc0 : l0.length ≤ c0) (h : impl_areIds.f k l0 = some r) :
   Calls Try.prog 113 #[.slice A0 l0.length c0] w fun e w' => e = .returned (.bool r) ∧ Drawn0 w w' := by
 have HR0 := am hr0
 have HC0 := am hc0
 clear hr0 hc0
 have H : (impl_areIds.l0 k l0 l0 (l0.length : Int) 0) = some r := h
 clear h
 have H' := am H
 clear H
 go_enter Try.func113, Try.ntmps113
 go_wp2
 go_loopg [7] k (fun kq v7 w' => ∃ (x7_1 : Int), v7 = .int .i64 x7_1 ∧ Aside0 (impl_areIds.l0 kq l0 l0 (l0.length : Int) x7_1 = some r) ∧ Aside0 (kq ≤ k) ∧ Drawn0 w w')
 case atStart => exact ⟨(0), Q3, H', ⟨Nat.le_refl _⟩, Q4⟩
 clear H'
 obtain ⟨x7_1, rfl, HA, HK1, ⟨m1, rfl⟩⟩ := hrel
 cases gk with
 | zero => exact absurd HA.out (by simp [impl_areIds.l0])
 | succ k1 =>
   have H := HA.out
   clear HA
   simp only [impl_areIds.l0] at H
   by_cases c2 : x7_1 < (l0.length : Int)
   rotate_left
   · rw [if_neg c2] at H
     have c2b0 : decide (x7_1 < (l0.length : Int)) = false := decide_eq_false c2
     clear c2
     obtain rfl := sj H
     go_wp2
     go_ret
     exact ⟨by first | rfl | (simp; done) | (simp [*]; done), Q4⟩
   rw [if_pos c2] at H
   have c2b0 : decide (x7_1 < (l0.length : Int)) = true := decide_eq_true c2
   clear c2
   by_cases c3 : 0 ≤ x7_1
   rotate_left
   · rw [if_neg c3] at H
     exact absurd H (by simp)
   rw [if_pos c3] at H
   have c3b0 : decide (0 ≤ x7_1) = true := decide_eq_true c3
   clear c3
   by_cases c4 : x7_1 < (l0.length : Int)
   rotate_left
   · rw [if_neg c4] at H
     exact absurd H (by simp)
   rw [if_pos c4] at H
   have c4b0 : decide (x7_1 < (l0.length : Int)) = true := decide_eq_true c4
   clear c4
   by_cases c5 : (rd l0 x7_1) < 0
   · rw [if_pos c5] at H
     have c5b0 : decide ((rd l0 x7_1) < 0) = true := decide_eq_true c5
     clear c5
     obtain rfl := sj H
     have p337 : 0 ≤ (x7_1 : Int) := of_decide_eq_true Q1
     have q337 : x7_1 < (l0.length : Int) := of_decide_eq_true Q1
     obtain ⟨ad337, e337, hx337_0⟩ := Kd.at_int HR0.out x7_1 p337 q337
     cases e337
     replace p337 := eq_true p337
     replace q337 := eq_true q337
     go_wp2
     go_ret
     exact ⟨by first | rfl | (simp; done) | (simp [*]; done), Q4⟩
   rw [if_neg c5] at H
   have c5b0 : decide ((rd l0 x7_1) < 0) = false := decide_eq_false c5
   clear c5
   by_cases c6 : (rd l0 x7_1) > 99
   · rw [if_pos c6] at H
     have c6b0 : decide (99 < (rd l0 x7_1)) = true := decide_eq_true c6
     clear c6
     obtain rfl := sj H
     have p337 : 0 ≤ (x7_1 : Int) := of_decide_eq_true Q1
     have q337 : x7_1 < (l0.length : Int) := of_decide_eq_true Q1
     obtain ⟨ad337, e337, hx337_0⟩ := Kd.at_int HR0.out x7_1 p337 q337
     cases e337
     replace p337 := eq_true p337
     replace q337 := eq_true q337
     go_wp2
     go_ret
     exact ⟨by first | rfl | (simp; done) | (simp [*]; done), Q4⟩
   rw [if_neg c6] at H
   have c6b0 : decide (99 < (rd l0 x7_1)) = false := decide_eq_false c6
   clear c6
   by_cases c7 : x7_1 > 0
   rotate_left
   · rw [if_neg c7] at H
     have c7b0 : decide (0 < x7_1) = false := decide_eq_false c7
     clear c7
     have H' := am H
     clear H
     have p337 : 0 ≤ (x7_1 : Int) := of_decide_eq_true Q1
     have q337 : x7_1 < (l0.length : Int) := of_decide_eq_true Q1
     obtain ⟨ad337, e337, hx337_0⟩ := Kd.at_int HR0.out x7_1 p337 q337
     cases e337
     replace p337 := eq_true p337
     replace q337 := eq_true q337
     go_wp2
     go_roundg k1
     case measure => have := HK1.out; omega
     case rel => exact ⟨(wrap64 (x7_1 + 1)), Q3, H', ⟨by have := HK1.out; omega⟩, Q4⟩
   rw [if_pos c7] at H
   have c7b0 : decide (0 < x7_1) = true := decide_eq_true c7
   clear c7
   obtain ⟨ji8, hji8⟩ : ∃ j_ : Int, (wrap64 (x7_1 - 1)) = j_ := ⟨_, rfl⟩
   replace H : (if 0 ≤ (ji8) then (if (ji8) < (l0.length : Int) then (if (rd l0 (ji8)) ≥ (rd l0 x7_1) then (some false) else (impl_areIds.l0 k1 l0 l0 (l0.length : Int) (wrap64 (x7_1 + 1)))) else (none)) else (none)) = some r := by first | (rw [hji8] at H; exact H) | (simp only [hji8] at H ⊢; exact H)
   have hji8w : (IntKind.i64.wrap (x7_1 - 1)) = ji8 := (i64_w _).trans hji8
   by_cases c9 : 0 ≤ (ji8)
   rotate_left
   · rw [if_neg c9] at H
     exact absurd H (by simp)
   rw [if_pos c9] at H
   have c9b0 : decide (0 ≤ (ji8)) = true := decide_eq_true c9
   clear c9
   by_cases c10 : (ji8) < (l0.length : Int)
   rotate_left
   · rw [if_neg c10] at H
     exact absurd H (by simp)
   rw [if_pos c10] at H
   have c10b0 : decide ((ji8) < (l0.length : Int)) = true := decide_eq_true c10
   clear c10
   have H9 := am H
   clear H
   have p337 : 0 ≤ (x7_1 : Int) := of_decide_eq_true Q1
   have q337 : x7_1 < (l0.length : Int) := of_decide_eq_true Q1
   obtain ⟨ad337, e337, hx337_0⟩ := Kd.at_int HR0.out x7_1 p337 q337
   cases e337
   replace p337 := eq_true p337
   replace q337 := eq_true q337
   have p338 : 0 ≤ ((ji8) : Int) := of_decide_eq_true Q1
   have q338 : (ji8) < (l0.length : Int) := of_decide_eq_true Q1
   obtain ⟨ad338, e338, hx338_0⟩ := Kd.at_int HR0.out (ji8) p338 q338
   obtain rfl : ad337 = ad338 := (by injection e338)
   replace p338 := eq_true p338
   replace q338 := eq_true q338
   go_upto_if 30 with (fail)
   have H := H9.out
   clear H9
   by_cases c11 : (rd l0 (ji8)) ≥ (rd l0 x7_1)
   · rw [if_pos c11] at H
     have c11b0 : decide ((rd l0 x7_1) ≤ (rd l0 (ji8))) = true := decide_eq_true c11
     clear c11
     (first | rw [c11b0] | (simp only [i64_w, i32_w]; rw [c11b0]) | skip)
     obtain rfl := sj H
     go_wp2
     go_ret
     exact ⟨by first | rfl | (simp; done) | (simp only [← hji8] <;> (first | rfl | simp)) | (simp [*]; done), Q4⟩
   rw [if_neg c11] at H
   have c11b0 : decide ((rd l0 x7_1) ≤ (rd l0 (ji8))) = false := decide_eq_false c11
   clear c11
   (first | rw [c11b0] | (simp only [i64_w, i32_w]; rw [c11b0]) | skip)
   have H' := am H
   clear H
   go_wp2
   go_roundg k1
   case measure => have := HK1.out; omega
   case rel => exact ⟨(wrap64 (x7_1 + 1)), Q3, H', ⟨by have := HK1.out; omega⟩, Q4⟩

/-! ### slices_Index_int_int: function 123 -/
def slices_Index_int_int.l0 : Nat → List Int → Int → Int → Int → Option (Int)
 | 0, _, _, _, _ => none
 | k + 1, x0, x1, x7, x8 => if x8 < x7 then (if 0 ≤ x8 then (if x8 < (x0.length : Int) then (if x1 = (rd x0 x8) then (some x8) else (slices_Index_int_int.l0 k x0 x1 x7 (wrap64 (x8 + 1)))) else (none)) else (none)) else (some (-1))
def slices_Index_int_int.f (k : Nat) (l0 : List Int) (a1 : Int) : Option (Int) := slices_Index_int_int.l0 k l0 a1 (l0.length : Int) 0
theorem slices_Index_int_int.mono_l : ∀ k, (∀ y0 y1 y2 y3, LeO (slices_Index_int_int.l0 k y0 y1 y2 y3) (slices_Index_int_int.l0 (k + 1) y0 y1 y2 y3))
 | 0 => fun _ _ _ _ r h => by simp [slices_Index_int_int.l0] at h
 | k + 1 => by
   have ih0 := slices_Index_int_int.mono_l k
   · intro y0 y1 y2 y3
     unfold slices_Index_int_int.l0
     repeat' first
     | (with_reducible exact ih0 _ _ _ _)
     | (with_reducible exact LeO.refl _)
     | (with_reducible exact LeO.none _)
     | (with_reducible refine LeO.ite ?_ ?_)
     | (with_reducible refine LeO.bind ?_ (fun _ => ?_))
     | exact ih0 _ _ _ _
     | exact LeO.none _
     | refine LeO.ite ?_ ?_
     | refine LeO.bind ?_ (fun _ => ?_)
theorem slices_Index_int_int.mono : ∀ a0 a1 k, LeO (slices_Index_int_int.f k a0 a1) (slices_Index_int_int.f (k + 1) a0 a1) := by
 intro a0 a1 k
 have ih0 := slices_Index_int_int.mono_l k
 unfold slices_Index_int_int.f
 repeat' first
     | (with_reducible exact ih0 _ _ _ _)
     | (with_reducible exact LeO.refl _)
     | (with_reducible exact LeO.none _)
     | (with_reducible refine LeO.ite ?_ ?_)
     | (with_reducible refine LeO.bind ?_ (fun _ => ?_))
     | exact ih0 _ _ _ _
     | exact LeO.none _
     | refine LeO.ite ?_ ?_
     | refine LeO.bind ?_ (fun _ => ?_)
set_option maxHeartbeats 8000000 in
set_option maxRecDepth 100000 in
theorem slices_Index_int_int.calls (k : Nat) (A0 : Option Addr) (c0 : Nat) (l0 : List Int) (a1 : Int) (r : Int) (w : World) (hr0 : Kd.C (Kd.int .i64) w A0 l0.length l0) (hc0 : l0.length ≤ c0) (h : slices_Index_int_int.f k l0 a1 = some r) :
   Calls Try.prog 123 #[.slice A0 l0.length c0, .int .i64 a1] w fun e w' => e = .returned (.int .i64 r) ∧ Drawn0 w w' := by
 have HR0 := am hr0
 have HC0 := am hc0
 clear hr0 hc0
 have H : (slices_Index_int_int.l0 k l0 a1 (l0.length : Int) 0) = some r := h
 clear h
 have H' := am H
 clear H
 go_enter Try.func123, Try.ntmps123
 go_wp2
 go_loopg [8] k (fun kq v8 w' => ∃ (x8_1 : Int), v8 = .int .i64 x8_1 ∧ Aside0 (slices_Index_int_int.l0 kq l0 a1 (l0.length : Int) x8_1 = some r) ∧ Aside0 (kq ≤ k) ∧ Drawn0 w w')
 case atStart => exact ⟨(0), Q3, H', ⟨Nat.le_refl _⟩, Q4⟩
 clear H'
 obtain ⟨x8_1, rfl, HA, HK1, ⟨m1, rfl⟩⟩ := hrel
 cases gk with
 | zero => exact absurd HA.out (by simp [slices_Index_int_int.l0])
 | succ k1 =>
   have H := HA.out
   clear HA
   simp only [slices_Index_int_int.l0] at H
   by_cases c3 : x8_1 < (l0.length : Int)
   rotate_left
   · rw [if_neg c3] at H
     have c3b0 : decide (x8_1 < (l0.length : Int)) = false := decide_eq_false c3
     clear c3
     obtain rfl := sj H
     go_wp2
     go_ret
     exact ⟨by first | rfl | (simp; done) | (simp [*]; done), Q4⟩
   rw [if_pos c3] at H
   have c3b0 : decide (x8_1 < (l0.length : Int)) = true := decide_eq_true c3
   clear c3
   by_cases c4 : 0 ≤ x8_1
   rotate_left
   · rw [if_neg c4] at H
     exact absurd H (by simp)
   rw [if_pos c4] at H
   have c4b0 : decide (0 ≤ x8_1) = true := decide_eq_true c4
   clear c4
   by_cases c5 : x8_1 < (l0.length : Int)
   rotate_left
   · rw [if_neg c5] at H
     exact absurd H (by simp)
   rw [if_pos c5] at H
   have c5b0 : decide (x8_1 < (l0.length : Int)) = true := decide_eq_true c5
   clear c5
   have H9 := am H
   clear H
   have p339 : 0 ≤ (x8_1 : Int) := of_decide_eq_true Q1
   have q339 : x8_1 < (l0.length : Int) := of_decide_eq_true Q1
   obtain ⟨ad339, e339, hx339_0⟩ := Kd.at_int HR0.out x8_1 p339 q339
   cases e339
   replace p339 := eq_true p339
   replace q339 := eq_true q339
   go_upto_if 16 with (fail)
   have H := H9.out
   clear H9
   by_cases c6 : a1 = (rd l0 x8_1)
   · rw [if_pos c6] at H
     have c6b0 : (a1 == (rd l0 x8_1)) = true := beq_iff_eq.mpr c6
     have c6b1 : (a1 != (rd l0 x8_1)) = false := bne_eq_false_iff_eq.mpr c6
     clear c6
     (first | rw [c6b0] | (simp only [i64_w, i32_w]; rw [c6b0]) | skip)
     obtain rfl := sj H
     go_wp2
     go_ret
     exact ⟨by first | rfl | (simp; done) | (simp [*]; done), Q4⟩
   rw [if_neg c6] at H
   have c6b0 : (a1 == (rd l0 x8_1)) = false := beq_eq_false_iff_ne.mpr c6
   have c6b1 : (a1 != (rd l0 x8_1)) = true := bne_iff_ne.mpr c6
   (first | rw [c6b0] | (simp only [i64_w, i32_w]; rw [c6b0]) | skip)
   have H' := am H
   clear H
   go_wp2
   go_roundg k1
   case measure => have := HK1.out; omega
   case rel => exact ⟨(wrap64 (x8_1 + 1)), Q3, H', ⟨by have := HK1.out; omega⟩, Q4⟩

/-! ### slices_Contains_int_int: function 114 -/
def slices_Contains_int_int.f (k : Nat) (l0 : List Int) (a1 : Int) : Option (Bool) := (slices_Index_int_int.f k l0 a1).bind fun t340 => (some (decide (t340 ≥ 0)))
theorem slices_Contains_int_int.mono : ∀ a0 a1 k, LeO (slices_Contains_int_int.f k a0 a1) (slices_Contains_int_int.f (k + 1) a0 a1) := by
 intro a0 a1 k
 unfold slices_Contains_int_int.f
 repeat' first
     | (with_reducible exact slices_Index_int_int.mono _ _ _)
     | (with_reducible exact LeO.refl _)
     | (with_reducible exact LeO.none _)
     | (with_reducible refine LeO.ite ?_ ?_)
     | (with_reducible refine LeO.bind ?_ (fun _ => ?_))
     | exact slices_Index_int_int.mono _ _ _
     | exact LeO.none _
     | refine LeO.ite ?_ ?_
     | refine LeO.bind ?_ (fun _ => ?_)
set_option maxHeartbeats 8000000 in
set_option maxRecDepth 100000 in
theorem slices_Contains_int_int.calls (k : Nat) (A0 : Option Addr) (c0 : Nat) (l0 : List Int) (a1 : Int) (r : Bool) (w : World) (hr0 : Kd.C (Kd.int .i64) w A0 l0.length l0) (hc0 : l0.length ≤ c0) (h : slices_Contains_int_int.f k l0 a1 = some r) :
   Calls Try.prog 114 #[.slice A0 l0.length c0, .int .i64 a1] w fun e w' => e = .returned (.bool r) ∧ Drawn0 w w' := by
 have HR0 := am hr0
 have HC0 := am hc0
 clear hr0 hc0
 have H : ((slices_Index_int_int.f k l0 a1).bind fun t340 => (some (decide (t340 ≥ 0)))) = some r := h
 clear h
 replace H := Option.bind_eq_some_iff.mp H
 obtain ⟨t340, A30, H⟩ := H
 replace H : (some (decide (t340 ≥ 0))) = some r := H
 have A3 := am A30
 clear A30
 obtain rfl := sj H
 go_enter Try.func114, Try.ntmps114
 go_wp2_with (first | ((with_reducible refine gate_callee (f := 123) rfl ?_); refine goesL_ (some 7) rfl rfl Try.func123 kr rfl #[.slice A0 l0.length c0, .int .i64 a1] rfl (by (try simp only [List.map_toArray, List.map_cons, List.map_nil]); first | done | rfl | (simp only [List.length_drop, List.length_take]; rfl)) ?_; (with_reducible refine (slices_Index_int_int.calls k _ _ l0 a1 t340 _ ?side1 ?side2 A3.out).mono ?_); (case side1 => exact (by repeat (first | exact HR0.out | (with_reducible refine Kd.C_alloc ?_ _) | (with_reducible refine Kd.C_drewN ?_ _) | (with_reducible refine Kd.C_drew ?_)))); (case side2 => exact HC0.out); rintro e w' ⟨rfl, ⟨nd, rfl⟩⟩; refine ⟨_, rfl, ?_⟩))
 go_ret
 exact ⟨by first | rfl | (simp; done) | (simp [*]; done), Q4⟩

/-! ### slices_Max_int_int: function 115 -/
def slices_Max_int_int.f (l0 : List Int) : Option Int := if 0 < l0.length then some (Lib.maxOf l0) else none
set_option maxHeartbeats 2000000 in
set_option maxRecDepth 100000 in
theorem slices_Max_int_int.calls (A0 : Option Addr) (c0 : Nat) (l0 : List Int) (r : Int) (w : World) (hr0 : Kd.C (Kd.int .i64) w A0 l0.length l0) (hc0 : l0.length ≤ c0) (h : slices_Max_int_int.f l0 = some r) :
   Calls Try.prog 115 #[.slice A0 l0.length c0] w fun e w' => e = .returned (.int .i64 r) ∧ ∃ nd, w' = w.drewN nd := by
 unfold slices_Max_int_int.f at h
 by_cases h0 : 0 < l0.length
 rotate_left
 · rw [if_neg h0] at h; cases h
 rw [if_pos h0] at h
 obtain rfl := Option.some.inj h
 have hn : l0.length ≤ 9223372036854775807 := hr0.2.1
 have HR := am hr0
 have H1 : Aside0 (rd l0 0 = Lib.maxOf (l0.take 1)) := ⟨by rw [Lib.maxOf_one]; rfl⟩
 have HS : Aside0 (∀ k : Int, 0 < k → k < (l0.length : Int) → max (Lib.maxOf (l0.take k.toNat)) (rd l0 k) = Lib.maxOf (l0.take (k + 1).toNat)) := ⟨fun k h1 h2 => by
   rw [show (k + 1).toNat = k.toNat + 1 by omega, Lib.maxOf_step l0 k.toNat (by omega) (by omega)]
   rfl⟩
 obtain ⟨ad, rfl, hx⟩ := Kd.at_int hr0 0 (by omega) (by omega)
 have hx0 : w.cell? ad = some (.int .i64 (rd l0 0)) := hx
 clear hr0 hx
 go_enter Try.func115, Try.ntmps115
 go_wp2
 go_loopg [3, 4] l0.length (fun gg s3 s4 wr => ∃ k : Int, 0 < k ∧ k ≤ l0.length ∧ l0.length - k.toNat ≤ gg ∧ s4 = .int .i64 k ∧ s3 = .int .i64 (Lib.maxOf (l0.take k.toNat)) ∧ wr = w)
 case atStart => exact ⟨1, by omega, by omega, by omega, rfl, congrArg (Value.int .i64) H1.out, rfl⟩
 obtain ⟨k, hk0, hk, hg, rfl, rfl, rfl⟩ := hrel
 by_cases hlt : k < (l0.length : Int)
 rotate_left
 · go_wp2
   go_ret
   have e : k.toNat = l0.length := by omega
   rw [e, List.take_of_length_le (Nat.le_refl _)]
   exact ⟨rfl, 0, rfl⟩
 obtain ⟨ad', e, hx1⟩ := Kd.at_int HR.out k (by omega) hlt
 cases e
 have HE := am (HS.out k hk0 hlt)
 go_wp2
 all_goals (go_roundg (l0.length - (k + 1).toNat); (case measure => omega); (case rel => exact ⟨k + 1, by omega, by omega, by omega, by go_num, by rw [← HE.out]; congr 1; omega, rfl⟩))


/-! ### slices_Min_int_int: function 116 -/
def slices_Min_int_int.f (l0 : List Int) : Option Int := if 0 < l0.length then some (Lib.minOf l0) else none
set_option maxHeartbeats 2000000 in
set_option maxRecDepth 100000 in
theorem slices_Min_int_int.calls (A0 : Option Addr) (c0 : Nat) (l0 : List Int) (r : Int) (w : World) (hr0 : Kd.C (Kd.int .i64) w A0 l0.length l0) (hc0 : l0.length ≤ c0) (h : slices_Min_int_int.f l0 = some r) :
   Calls Try.prog 116 #[.slice A0 l0.length c0] w fun e w' => e = .returned (.int .i64 r) ∧ ∃ nd, w' = w.drewN nd := by
 unfold slices_Min_int_int.f at h
 by_cases h0 : 0 < l0.length
 rotate_left
 · rw [if_neg h0] at h; cases h
 rw [if_pos h0] at h
 obtain rfl := Option.some.inj h
 have hn : l0.length ≤ 9223372036854775807 := hr0.2.1
 have HR := am hr0
 have H1 : Aside0 (rd l0 0 = Lib.minOf (l0.take 1)) := ⟨by rw [Lib.minOf_one]; rfl⟩
 have HS : Aside0 (∀ k : Int, 0 < k → k < (l0.length : Int) → min (Lib.minOf (l0.take k.toNat)) (rd l0 k) = Lib.minOf (l0.take (k + 1).toNat)) := ⟨fun k h1 h2 => by
   rw [show (k + 1).toNat = k.toNat + 1 by omega, Lib.minOf_step l0 k.toNat (by omega) (by omega)]
   rfl⟩
 obtain ⟨ad, rfl, hx⟩ := Kd.at_int hr0 0 (by omega) (by omega)
 have hx0 : w.cell? ad = some (.int .i64 (rd l0 0)) := hx
 clear hr0 hx
 go_enter Try.func116, Try.ntmps116
 go_wp2
 go_loopg [3, 4] l0.length (fun gg s3 s4 wr => ∃ k : Int, 0 < k ∧ k ≤ l0.length ∧ l0.length - k.toNat ≤ gg ∧ s4 = .int .i64 k ∧ s3 = .int .i64 (Lib.minOf (l0.take k.toNat)) ∧ wr = w)
 case atStart => exact ⟨1, by omega, by omega, by omega, rfl, congrArg (Value.int .i64) H1.out, rfl⟩
 obtain ⟨k, hk0, hk, hg, rfl, rfl, rfl⟩ := hrel
 by_cases hlt : k < (l0.length : Int)
 rotate_left
 · go_wp2
   go_ret
   have e : k.toNat = l0.length := by omega
   rw [e, List.take_of_length_le (Nat.le_refl _)]
   exact ⟨rfl, 0, rfl⟩
 obtain ⟨ad', e, hx1⟩ := Kd.at_int HR.out k (by omega) hlt
 cases e
 have HE := am (HS.out k hk0 hlt)
 go_wp2
 all_goals (go_roundg (l0.length - (k + 1).toNat); (case measure => omega); (case rel => exact ⟨k + 1, by omega, by omega, by omega, by go_num, by rw [← HE.out]; congr 1; omega, rfl⟩))


end Go.Proofs.Ytkcadcoohmofcaa.QFnExactLeaders
