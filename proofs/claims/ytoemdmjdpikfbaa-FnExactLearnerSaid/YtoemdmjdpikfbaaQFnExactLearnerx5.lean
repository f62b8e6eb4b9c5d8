-- Printed by the session's own program wip/prx.py.
import Derived.Test.YtoemdmjdpikfbaaQFnExactLearnerx0
import Derived.Test.YtoemdmjdpikfbaaQFnExactLearnerx4
namespace Go.Proofs.Ytoemdmjdpikfbaa.QFnExactLearner
open Go.RowKit Go.Proofs.YtoemdmjdpikfbaaW.PrintWords Go.Proofs.YtoemdmjdpikfbaaW.PrintLast Go.Proofs.YtoemdmjdpikfbaaW.PrintMore
attribute [local go_sem] max2_int min2_int max_two min_two max_three min_three max_four min_four Go.Proofs.Ytoemdmjdpikfbaa.Set.isSome_setCell   -- for this text's walks alone
set_option linter.unusedVariables false
set_option linter.unusedSimpArgs false

-- squeezed
theorem u5_0 {P : Prop} (h : P := by repeat (first | (with_reducible first | exact HB.out | apply below_alloc | apply pw_below_drewN | apply below_drew1 | refine below_set ?_ GE199.out) | exact HB.out)) : P := h
theorem u5_1 {P : Prop} (h : P := by repeat (first | exact (Kd.C_below HR0_0.out HB.out) | (with_reducible refine Kd.C_alloc ?_ _) | (with_reducible refine Kd.C_drewN ?_ _) | (with_reducible refine Kd.C_drew ?_))) : P := h
theorem u5_2 {P : Prop} (h : P := by repeat (first | exact (Kd.C_below HR0_1.out u5_0) | (with_reducible refine Kd.C_alloc ?_ _) | (with_reducible refine Kd.C_drewN ?_ _) | (with_reducible refine Kd.C_drew ?_))) : P := h
theorem u5_3 {P : Prop} (h : P := by first | (with_reducible assumption) | assumption) : P := h
theorem u5_4 {P : Prop} (h : P := by repeat (first | (with_reducible first | exact HB.out | apply below_alloc | apply pw_below_drewN | apply below_drew1) | exact HB.out)) : P := h
theorem u5_5 {P : Prop} (h : P := by repeat (first | exact Drawn0.refl _ | apply Drawn0.step)) : P := h
theorem u5_6 {P : Prop} (h : P := by (with_reducible repeat (first | refine blk_drewN ?_ _ | refine blk_drew ?_ | refine blk_alloc ?_ _)); exact BK199.out) : P := h
theorem u5_7 {P : Prop} (h : P := by repeat (first | exact (Kd.C_below HR0_2.out u5_0) | (with_reducible refine Kd.C_alloc ?_ _) | (with_reducible refine Kd.C_drewN ?_ _) | (with_reducible refine Kd.C_drew ?_))) : P := h
theorem u5_8 {P : Prop} (h : P := by first | rfl | (simp; done) | (simp [*]; done)) : P := h
theorem u5_9 {P : Prop} (h : P := by repeat (first | exact (Kd.C_below HR0_0.out u5_0) | (with_reducible refine Kd.C_alloc ?_ _) | (with_reducible refine Kd.C_drewN ?_ _) | (with_reducible refine Kd.C_drew ?_))) : P := h
theorem u5_10 {P : Prop} (h : P := by repeat (first | exact HR0.out | (with_reducible refine Kd.C_alloc ?_ _) | (with_reducible refine Kd.C_drewN ?_ _) | (with_reducible refine Kd.C_drew ?_))) : P := h
theorem u5_11 {P : Prop} (h : P := by (try simp only [List.map_toArray, List.map_cons, List.map_nil]); first | done | rfl | (simp only [List.length_drop, List.length_take]; rfl)) : P := h
/-! ### spec_l06Same: function 57 -/
def spec_l06Same.l0 : Nat → List Int → List Int → Int → Option (Bool)
  | 0, _, _, _ => none
  | k + 1, x0, x1, x5 => if x5 < (x0.length : Int) then (if 0 ≤ x5 then (if x5 < (x1.length : Int) then (if (rd x0 x5) = (rd x1 x5) then (spec_l06Same.l0 k x0 x1 (wrap64 (x5 + 1))) else (some false)) else (none)) else (none)) else (some true)
def spec_l06Same.f (k : Nat) (l0 : List Int) (l1 : List Int) : Option (Bool) := if (l0.length : Int) = (l1.length : Int) then (spec_l06Same.l0 k l0 l1 0) else (some false)
theorem spec_l06Same.mono_l : ∀ k, (∀ y0 y1 y2, LeO (spec_l06Same.l0 k y0 y1 y2) (spec_l06Same.l0 (k + 1) y0 y1 y2))
  | 0 => fun _ _ _ r h => by simp [spec_l06Same.l0] at h
  | k + 1 => by
    have ih0 := spec_l06Same.mono_l k
    · intro y0 y1 y2
      unfold spec_l06Same.l0
      repeat' first
      | (with_reducible exact ih0 _ _ _)
      | (with_reducible exact LeO.refl _)
      | (with_reducible exact LeO.none _)
      | (with_reducible refine LeO.ite ?_ ?_)
      | (with_reducible refine LeO.bind ?_ (fun _ => ?_))
      | exact ih0 _ _ _
      | exact LeO.none _
      | refine LeO.ite ?_ ?_
      | refine LeO.bind ?_ (fun _ => ?_)
theorem spec_l06Same.mono : ∀ a0 a1 k, LeO (spec_l06Same.f k a0 a1) (spec_l06Same.f (k + 1) a0 a1) := by
  intro a0 a1 k
  have ih0 := spec_l06Same.mono_l k
  unfold spec_l06Same.f
  repeat' first
      | (with_reducible exact ih0 _ _ _)
      | (with_reducible exact LeO.refl _)
      | (with_reducible exact LeO.none _)
      | (with_reducible refine LeO.ite ?_ ?_)
      | (with_reducible refine LeO.bind ?_ (fun _ => ?_))
      | exact ih0 _ _ _
      | exact LeO.none _
      | refine LeO.ite ?_ ?_
      | refine LeO.bind ?_ (fun _ => ?_)
set_option maxHeartbeats 8000000 in
set_option maxRecDepth 100000 in
theorem spec_l06Same.calls (k : Nat) (A0 : Option Addr) (c0 : Nat) (l0 : List Int) (A1 : Option Addr) (c1 : Nat) (l1 : List Int) (r : Bool) (w : World) (hr0 : Kd.C (Kd.int .i64) w A0 l0.length l0) (hc0 : l0.length ≤ c0) (hr1 : Kd.C (Kd.int .i64) w A1 l1.length l1) (hc1 : l1.length ≤ c1) (h : spec_l06Same.f k l0 l1 = some r) :
    Calls Try.prog 57 #[.slice A0 l0.length c0, .slice A1 l1.length c1] w fun e w' => e = .returned (.bool r) ∧ Drawn0 w w' := by
  have HR0 := Aside0.mk hr0
  have HC0 := Aside0.mk hc0
  clear hr0 hc0
  have HR1 := Aside0.mk hr1
  have HC1 := Aside0.mk hc1
  clear hr1 hc1
  have H : (if (l0.length : Int) = (l1.length : Int) then (spec_l06Same.l0 k l0 l1 0) else (some false)) = some r := h
  clear h
  by_cases c3 : (l0.length : Int) = (l1.length : Int)
  rotate_left
  · rw [if_neg c3] at H
    have c3b0 : ((l0.length : Int) == (l1.length : Int)) = false := beq_eq_false_iff_ne.mpr c3
    have c3b1 : ((l0.length : Int) != (l1.length : Int)) = true := bne_iff_ne.mpr c3
    have c3b2 : (l0.length == l1.length) = false := by first | simpa using c3 | (simp at c3 ⊢; omega)
    obtain rfl := Option.some.inj H
    go_enter Try.func57, Try.ntmps57
    go_wp2
    repeat (go_quiet (fail); try go_wp2)
    go_ret
    exact ⟨by first | rfl | (simp; done) | (simp [*]; done), u5_5⟩
  rw [if_pos c3] at H
  have c3b0 : ((l0.length : Int) == (l1.length : Int)) = true := beq_iff_eq.mpr c3
  have c3b1 : ((l0.length : Int) != (l1.length : Int)) = false := bne_eq_false_iff_eq.mpr c3
  have c3b2 : (l0.length == l1.length) = true := by first | simpa using c3 | (simp at c3 ⊢; omega)
  clear c3
  have H' := Aside0.mk H
  clear H
  go_enter Try.func57, Try.ntmps57
  go_wp2
  repeat (go_quiet (fail); try go_wp2)
  go_loopg [5] k (fun kq v5 w' => ∃ (x5_1 : Int), v5 = .int .i64 x5_1 ∧ Aside0 (spec_l06Same.l0 kq l0 l1 x5_1 = some r) ∧ Aside0 (kq ≤ k) ∧ Drawn0 w w')
  case atStart => exact ⟨(0), u5_8, H', ⟨Nat.le_refl _⟩, u5_5⟩
  clear H'
  try clear c1
  try clear p2
  try clear c3
  try clear c3b0
  try clear c3b1
  try clear c3b2
  obtain ⟨x5_1, rfl, HA, HK1, ⟨m1, rfl⟩⟩ := hrel
  cases gk with
  | zero => exact absurd HA.out (by simp [spec_l06Same.l0])
  | succ k1 =>
    have H := HA.out
    clear HA
    simp only [spec_l06Same.l0] at H
    by_cases c4 : x5_1 < (l0.length : Int)
    rotate_left
    · rw [if_neg c4] at H
      have c4b0 : decide (x5_1 < (l0.length : Int)) = false := decide_eq_false c4
      clear c4
      obtain rfl := Option.some.inj H
      go_wp2
      repeat (go_quiet (fail); try go_wp2)
      go_ret
      exact ⟨by first | rfl | (simp; done) | (simp [*]; done), u5_5⟩
    rw [if_pos c4] at H
    have c4b0 : decide (x5_1 < (l0.length : Int)) = true := decide_eq_true c4
    clear c4
    by_cases c5 : 0 ≤ x5_1
    rotate_left
    · rw [if_neg c5] at H
      exact absurd H (by simp)
    rw [if_pos c5] at H
    have c5b0 : decide (0 ≤ x5_1) = true := decide_eq_true c5
    clear c5
    by_cases c6 : x5_1 < (l1.length : Int)
    rotate_left
    · rw [if_neg c6] at H
      exact absurd H (by simp)
    rw [if_pos c6] at H
    have c6b0 : decide (x5_1 < (l1.length : Int)) = true := decide_eq_true c6
    clear c6
    have H9 := Aside0.mk H
    clear H
    have p192 : 0 ≤ (x5_1 : Int) := of_decide_eq_true u5_3
    have q192 : x5_1 < (l0.length : Int) := of_decide_eq_true u5_3
    obtain ⟨ad192, e192, hx192_0⟩ := Kd.at_int HR0.out x5_1 p192 q192
    cases e192
    replace p192 := eq_true p192
    replace q192 := eq_true q192
    have p193 : 0 ≤ (x5_1 : Int) := of_decide_eq_true u5_3
    have q193 : x5_1 < (l1.length : Int) := of_decide_eq_true u5_3
    obtain ⟨ad193, e193, hx193_0⟩ := Kd.at_int HR1.out x5_1 p193 q193
    cases e193
    replace p193 := eq_true p193
    replace q193 := eq_true q193
    go_upto_if 25 with (fail)
    repeat (go_quiet (fail); go_upto_if 25 with (fail))
    have H := H9.out
    clear H9
    by_cases c7 : (rd l0 x5_1) = (rd l1 x5_1)
    rotate_left
    · rw [if_neg c7] at H
      have c7b0 : ((rd l0 x5_1) == (rd l1 x5_1)) = false := beq_eq_false_iff_ne.mpr c7
      have c7b1 : ((rd l0 x5_1) != (rd l1 x5_1)) = true := bne_iff_ne.mpr c7
      (first | rw [c7b0] | (simp only [i64_w, i32_w]; rw [c7b0]) | skip)
      obtain rfl := Option.some.inj H
      go_wp2
      repeat (go_quiet (fail); try go_wp2)
      go_ret
      exact ⟨by first | rfl | (simp; done) | (simp [*]; done), u5_5⟩
    rw [if_pos c7] at H
    have c7b0 : ((rd l0 x5_1) == (rd l1 x5_1)) = true := beq_iff_eq.mpr c7
    have c7b1 : ((rd l0 x5_1) != (rd l1 x5_1)) = false := bne_eq_false_iff_eq.mpr c7
    clear c7
    (first | rw [c7b0] | (simp only [i64_w, i32_w]; rw [c7b0]) | skip)
    have H' := Aside0.mk H
    clear H
    go_wp2
    repeat (go_quiet (fail); try go_wp2)
    go_roundg k1
    case measure => have := HK1.out; omega
    case rel => exact ⟨(wrap64 (x5_1 + 1)), u5_8, H', ⟨by have := HK1.out; omega⟩, u5_5⟩

/-! ### spec_l01In: function 104 -/
def spec_l01In.f (a0 : Int) (a1 : Int) (a2 : Int) : Option (Bool) := if a1 ≤ a0 then (some (decide (a0 ≤ a2))) else (some false)
set_option maxHeartbeats 8000000 in
set_option maxRecDepth 100000 in
theorem spec_l01In.calls (a0 : Int) (a1 : Int) (a2 : Int) (r : Bool) (w : World) (h : spec_l01In.f a0 a1 a2 = some r) :
    Calls Try.prog 104 #[.int .i64 a0, .int .i64 a1, .int .i64 a2] w fun e w' => e = .returned (.bool r) ∧ Drawn0 w w' := by
  have H : (if a1 ≤ a0 then (some (decide (a0 ≤ a2))) else (some false)) = some r := h
  clear h
  by_cases c4 : a1 ≤ a0
  · rw [if_pos c4] at H
    have c4b0 : decide (a1 ≤ a0) = true := decide_eq_true c4
    clear c4
    obtain rfl := Option.some.inj H
    go_enter Try.func104, Try.ntmps104
    go_wp2
    go_ret
    exact ⟨by first | rfl | (simp; done) | (simp [*]; done), u5_5⟩
  rw [if_neg c4] at H
  have c4b0 : decide (a1 ≤ a0) = false := decide_eq_false c4
  clear c4
  obtain rfl := Option.some.inj H
  go_enter Try.func104, Try.ntmps104
  go_wp2
  go_ret
  exact ⟨by first | rfl | (simp; done) | (simp [*]; done), u5_5⟩

/-! ### spec_l06Ids: function 82 -/
def spec_l06Ids.l0 : Nat → List Int → Int → Option (Bool)
  | 0, _, _ => none
  | k + 1, x0, x3 => if x3 < (x0.length : Int) then (if 0 ≤ x3 then ((spec_l01In.f (rd x0 x3) 0 99).bind fun t195 => (if t195 = true then (if x3 > 0 then (if 0 ≤ (wrap64 (x3 - 1)) then (if (wrap64 (x3 - 1)) < (x0.length : Int) then (if (rd x0 (wrap64 (x3 - 1))) ≥ (rd x0 x3) then (some false) else (spec_l06Ids.l0 k x0 (wrap64 (x3 + 1)))) else (none)) else (none)) else (spec_l06Ids.l0 k x0 (wrap64 (x3 + 1)))) else (some false))) else (none)) else (some (decide ((x0.length : Int) ≤ 7)))
def spec_l06Ids.f (k : Nat) (l0 : List Int) : Option (Bool) := spec_l06Ids.l0 k l0 0
theorem spec_l06Ids.mono_l : ∀ k, (∀ y0 y1, LeO (spec_l06Ids.l0 k y0 y1) (spec_l06Ids.l0 (k + 1) y0 y1))
  | 0 => fun _ _ r h => by simp [spec_l06Ids.l0] at h
  | k + 1 => by
    have ih0 := spec_l06Ids.mono_l k
    · intro y0 y1
      unfold spec_l06Ids.l0
      repeat' first
      | (with_reducible exact ih0 _ _)
      | (with_reducible exact LeO.refl _)
      | (with_reducible exact LeO.none _)
      | (with_reducible refine LeO.ite ?_ ?_)
      | (with_reducible refine LeO.bind ?_ (fun _ => ?_))
      | exact ih0 _ _
      | exact LeO.none _
      | refine LeO.ite ?_ ?_
      | refine LeO.bind ?_ (fun _ => ?_)
theorem spec_l06Ids.mono : ∀ a0 k, LeO (spec_l06Ids.f k a0) (spec_l06Ids.f (k + 1) a0) := by
  intro a0 k
  have ih0 := spec_l06Ids.mono_l k
  unfold spec_l06Ids.f
  repeat' first
      | (with_reducible exact ih0 _ _)
      | (with_reducible exact LeO.refl _)
      | (with_reducible exact LeO.none _)
      | (with_reducible refine LeO.ite ?_ ?_)
      | (with_reducible refine LeO.bind ?_ (fun _ => ?_))
      | exact ih0 _ _
      | exact LeO.none _
      | refine LeO.ite ?_ ?_
      | refine LeO.bind ?_ (fun _ => ?_)
set_option maxHeartbeats 8000000 in
set_option maxRecDepth 100000 in
theorem spec_l06Ids.calls (k : Nat) (A0 : Option Addr) (c0 : Nat) (l0 : List Int) (r : Bool) (w : World) (hr0 : Kd.C (Kd.int .i64) w A0 l0.length l0) (hc0 : l0.length ≤ c0) (h : spec_l06Ids.f k l0 = some r) :
    Calls Try.prog 82 #[.slice A0 l0.length c0] w fun e w' => e = .returned (.bool r) ∧ Drawn0 w w' := by
  have HR0 := Aside0.mk hr0
  have HC0 := Aside0.mk hc0
  clear hr0 hc0
  have H : (spec_l06Ids.l0 k l0 0) = some r := h
  clear h
  have H' := Aside0.mk H
  clear H
  go_enter Try.func82, Try.ntmps82
  go_wp2
  repeat (go_quiet (fail); try go_wp2)
  go_loopg [3] k (fun kq v3 w' => ∃ (x3_1 : Int), v3 = .int .i64 x3_1 ∧ Aside0 (spec_l06Ids.l0 kq l0 x3_1 = some r) ∧ Aside0 (kq ≤ k) ∧ Drawn0 w w')
  case atStart => exact ⟨(0), u5_8, H', ⟨Nat.le_refl _⟩, u5_5⟩
  clear H'
  obtain ⟨x3_1, rfl, HA, HK1, ⟨m1, rfl⟩⟩ := hrel
  cases gk with
  | zero => exact absurd HA.out (by simp [spec_l06Ids.l0])
  | succ k1 =>
    have H := HA.out
    clear HA
    simp only [spec_l06Ids.l0] at H
    by_cases c2 : x3_1 < (l0.length : Int)
    rotate_left
    · rw [if_neg c2] at H
      have c2b0 : decide (x3_1 < (l0.length : Int)) = false := decide_eq_false c2
      clear c2
      obtain rfl := Option.some.inj H
      go_wp2
      repeat (go_quiet (fail); try go_wp2)
      go_ret
      exact ⟨by first | rfl | (simp; done) | (simp [*]; done), u5_5⟩
    rw [if_pos c2] at H
    have c2b0 : decide (x3_1 < (l0.length : Int)) = true := decide_eq_true c2
    clear c2
    by_cases c3 : 0 ≤ x3_1
    rotate_left
    · rw [if_neg c3] at H
      exact absurd H (by simp)
    rw [if_pos c3] at H
    have c3b0 : decide (0 ≤ x3_1) = true := decide_eq_true c3
    clear c3
    replace H := Option.bind_eq_some_iff.mp H
    obtain ⟨t195, A40, H⟩ := H
    have A4 := Aside0.mk A40
    clear A40
    by_cases c5 : t195 = true
    rotate_left
    · replace c5 := Bool.eq_false_iff.mpr c5
      subst c5
      rw [if_neg (show ¬ (false = true) by decide)] at H
      obtain rfl := Option.some.inj H
      have p194 : 0 ≤ (x3_1 : Int) := of_decide_eq_true u5_3
      have q194 : x3_1 < (l0.length : Int) := of_decide_eq_true u5_3
      obtain ⟨ad194, e194, hx194_0⟩ := Kd.at_int HR0.out x3_1 p194 q194
      cases e194
      replace p194 := eq_true p194
      replace q194 := eq_true q194
      go_wp2_with (first | (first | (go_at_call 104; (with_reducible refine (spec_l01In.calls (rd l0 x3_1) 0 99 false _ A4.out).mono ?_); rintro e w' ⟨rfl, ⟨nd, rfl⟩⟩; (try first | exact ⟨rfl, _, World.drewN_drewN _ _ _⟩ | exact ⟨rfl, _, Eq.trans (World.drewN_drewN _ _ _) (congrArg (World.drewN _) (Nat.add_assoc _ _ _))⟩))) | go_quiet (first | (go_at_call 104; (with_reducible refine (spec_l01In.calls (rd l0 x3_1) 0 99 false _ A4.out).mono ?_); rintro e w' ⟨rfl, ⟨nd, rfl⟩⟩; (try first | exact ⟨rfl, _, World.drewN_drewN _ _ _⟩ | exact ⟨rfl, _, Eq.trans (World.drewN_drewN _ _ _) (congrArg (World.drewN _) (Nat.add_assoc _ _ _))⟩))))
      go_ret
      exact ⟨by first | rfl | (simp; done) | (simp [*]; done), u5_5⟩
    subst c5
    rw [if_pos rfl] at H
    by_cases c6 : x3_1 > 0
    rotate_left
    · rw [if_neg c6] at H
      have c6b0 : decide (0 < x3_1) = false := decide_eq_false c6
      clear c6
      have H' := Aside0.mk H
      clear H
      have p194 : 0 ≤ (x3_1 : Int) := of_decide_eq_true u5_3
      have q194 : x3_1 < (l0.length : Int) := of_decide_eq_true u5_3
      obtain ⟨ad194, e194, hx194_0⟩ := Kd.at_int HR0.out x3_1 p194 q194
      cases e194
      replace p194 := eq_true p194
      replace q194 := eq_true q194
      go_wp2_with (first | (first | (go_at_call 104; (with_reducible refine (spec_l01In.calls (rd l0 x3_1) 0 99 true _ A4.out).mono ?_); rintro e w' ⟨rfl, ⟨nd, rfl⟩⟩; (try first | exact ⟨rfl, _, World.drewN_drewN _ _ _⟩ | exact ⟨rfl, _, Eq.trans (World.drewN_drewN _ _ _) (congrArg (World.drewN _) (Nat.add_assoc _ _ _))⟩))) | go_quiet (first | (go_at_call 104; (with_reducible refine (spec_l01In.calls (rd l0 x3_1) 0 99 true _ A4.out).mono ?_); rintro e w' ⟨rfl, ⟨nd, rfl⟩⟩; (try first | exact ⟨rfl, _, World.drewN_drewN _ _ _⟩ | exact ⟨rfl, _, Eq.trans (World.drewN_drewN _ _ _) (congrArg (World.drewN _) (Nat.add_assoc _ _ _))⟩))))
      go_roundg k1
      case measure => have := HK1.out; omega
      case rel => exact ⟨(wrap64 (x3_1 + 1)), u5_8, H', ⟨by have := HK1.out; omega⟩, u5_5⟩
    rw [if_pos c6] at H
    have c6b0 : decide (0 < x3_1) = true := decide_eq_true c6
    clear c6
    obtain ⟨ji7, hji7⟩ : ∃ j_ : Int, (wrap64 (x3_1 - 1)) = j_ := ⟨_, rfl⟩
    replace H : (if 0 ≤ (ji7) then (if (ji7) < (l0.length : Int) then (if (rd l0 (ji7)) ≥ (rd l0 x3_1) then (some false) else (spec_l06Ids.l0 k1 l0 (wrap64 (x3_1 + 1)))) else (none)) else (none)) = some r := by first | (rw [hji7] at H; exact H) | (simp only [hji7] at H ⊢; exact H)
    (try rw [hji7] at A4)
    have hji7w : (IntKind.i64.wrap (x3_1 - 1)) = ji7 := (i64_w _).trans hji7
    by_cases c8 : 0 ≤ (ji7)
    rotate_left
    · rw [if_neg c8] at H
      exact absurd H (by simp)
    rw [if_pos c8] at H
    have c8b0 : decide (0 ≤ (ji7)) = true := decide_eq_true c8
    clear c8
    by_cases c9 : (ji7) < (l0.length : Int)
    rotate_left
    · rw [if_neg c9] at H
      exact absurd H (by simp)
    rw [if_pos c9] at H
    have c9b0 : decide ((ji7) < (l0.length : Int)) = true := decide_eq_true c9
    clear c9
    have H9 := Aside0.mk H
    clear H
    have p194 : 0 ≤ (x3_1 : Int) := of_decide_eq_true u5_3
    have q194 : x3_1 < (l0.length : Int) := of_decide_eq_true u5_3
    obtain ⟨ad194, e194, hx194_0⟩ := Kd.at_int HR0.out x3_1 p194 q194
    cases e194
    replace p194 := eq_true p194
    replace q194 := eq_true q194
    go_upto_if 31 with (first | (go_at_call 104; (with_reducible refine (spec_l01In.calls (rd l0 x3_1) 0 99 true _ A4.out).mono ?_); rintro e w' ⟨rfl, ⟨nd, rfl⟩⟩; (try first | exact ⟨rfl, _, World.drewN_drewN _ _ _⟩ | exact ⟨rfl, _, Eq.trans (World.drewN_drewN _ _ _) (congrArg (World.drewN _) (Nat.add_assoc _ _ _))⟩); have p196 : 0 ≤ ((ji7) : Int) := of_decide_eq_true u5_3; have q196 : (ji7) < (l0.length : Int) := of_decide_eq_true u5_3; obtain ⟨ad196, e196, hx196_0⟩ := Kd.at_int HR0.out (ji7) p196 q196; obtain rfl : ad194 = ad196 := (by injection e196); replace p196 := eq_true p196; replace q196 := eq_true q196; have p197 : 0 ≤ (x3_1 : Int) := of_decide_eq_true u5_3; have q197 : x3_1 < (l0.length : Int) := of_decide_eq_true u5_3; obtain ⟨ad197, e197, hx197_0⟩ := Kd.at_int HR0.out x3_1 p197 q197; obtain rfl : ad194 = ad197 := (by injection e197); replace p197 := eq_true p197; replace q197 := eq_true q197))
    repeat (go_quiet (first | (go_at_call 104; (with_reducible refine (spec_l01In.calls (rd l0 x3_1) 0 99 true _ A4.out).mono ?_); rintro e w' ⟨rfl, ⟨nd, rfl⟩⟩; (try first | exact ⟨rfl, _, World.drewN_drewN _ _ _⟩ | exact ⟨rfl, _, Eq.trans (World.drewN_drewN _ _ _) (congrArg (World.drewN _) (Nat.add_assoc _ _ _))⟩); have p196 : 0 ≤ ((ji7) : Int) := of_decide_eq_true u5_3; have q196 : (ji7) < (l0.length : Int) := of_decide_eq_true u5_3; obtain ⟨ad196, e196, hx196_0⟩ := Kd.at_int HR0.out (ji7) p196 q196; obtain rfl : ad194 = ad196 := (by injection e196); replace p196 := eq_true p196; replace q196 := eq_true q196; have p197 : 0 ≤ (x3_1 : Int) := of_decide_eq_true u5_3; have q197 : x3_1 < (l0.length : Int) := of_decide_eq_true u5_3; obtain ⟨ad197, e197, hx197_0⟩ := Kd.at_int HR0.out x3_1 p197 q197; obtain rfl : ad194 = ad197 := (by injection e197); replace p197 := eq_true p197; replace q197 := eq_true q197)); go_upto_if 31 with (first | (go_at_call 104; (with_reducible refine (spec_l01In.calls (rd l0 x3_1) 0 99 true _ A4.out).mono ?_); rintro e w' ⟨rfl, ⟨nd, rfl⟩⟩; (try first | exact ⟨rfl, _, World.drewN_drewN _ _ _⟩ | exact ⟨rfl, _, Eq.trans (World.drewN_drewN _ _ _) (congrArg (World.drewN _) (Nat.add_assoc _ _ _))⟩); have p196 : 0 ≤ ((ji7) : Int) := of_decide_eq_true u5_3; have q196 : (ji7) < (l0.length : Int) := of_decide_eq_true u5_3; obtain ⟨ad196, e196, hx196_0⟩ := Kd.at_int HR0.out (ji7) p196 q196; obtain rfl : ad194 = ad196 := (by injection e196); replace p196 := eq_true p196; replace q196 := eq_true q196; have p197 : 0 ≤ (x3_1 : Int) := of_decide_eq_true u5_3; have q197 : x3_1 < (l0.length : Int) := of_decide_eq_true u5_3; obtain ⟨ad197, e197, hx197_0⟩ := Kd.at_int HR0.out x3_1 p197 q197; obtain rfl : ad194 = ad197 := (by injection e197); replace p197 := eq_true p197; replace q197 := eq_true q197)))
    have H := H9.out
    clear H9
    by_cases c10 : (rd l0 (ji7)) ≥ (rd l0 x3_1)
    · rw [if_pos c10] at H
      have c10b0 : decide ((rd l0 x3_1) ≤ (rd l0 (ji7))) = true := decide_eq_true c10
      clear c10
      (first | rw [c10b0] | (simp only [i64_w, i32_w]; rw [c10b0]) | skip)
      obtain rfl := Option.some.inj H
      go_wp2
      repeat (go_quiet (fail); try go_wp2)
      go_ret
      exact ⟨by first | rfl | (simp; done) | (simp only [← hji7] <;> (first | rfl | simp)) | (simp [*]; done), u5_5⟩
    rw [if_neg c10] at H
    have c10b0 : decide ((rd l0 x3_1) ≤ (rd l0 (ji7))) = false := decide_eq_false c10
    clear c10
    (first | rw [c10b0] | (simp only [i64_w, i32_w]; rw [c10b0]) | skip)
    have H' := Aside0.mk H
    clear H
    go_wp2
    repeat (go_quiet (fail); try go_wp2)
    go_roundg k1
    case measure => have := HK1.out; omega
    case rel => exact ⟨(wrap64 (x3_1 + 1)), u5_8, H', ⟨by have := HK1.out; omega⟩, u5_5⟩

/-! ### spec_l06Set: function 81 -/
def spec_l06Set.f (k : Nat) (l0 : List Int) : Option (Bool) := (spec_l06Ids.f k l0).bind fun t198 => (if t198 = true then (some (decide ((l0.length : Int) > 0))) else (some false))
theorem spec_l06Set.mono : ∀ a0 k, LeO (spec_l06Set.f k a0) (spec_l06Set.f (k + 1) a0) := by
  intro a0 k
  unfold spec_l06Set.f
  repeat' first
      | (with_reducible exact spec_l06Ids.mono _ _)
      | (with_reducible exact LeO.refl _)
      | (with_reducible exact LeO.none _)
      | (with_reducible refine LeO.ite ?_ ?_)
      | (with_reducible refine LeO.bind ?_ (fun _ => ?_))
      | exact spec_l06Ids.mono _ _
      | exact LeO.none _
      | refine LeO.ite ?_ ?_
      | refine LeO.bind ?_ (fun _ => ?_)
set_option maxHeartbeats 8000000 in
set_option maxRecDepth 100000 in
theorem spec_l06Set.calls (k : Nat) (A0 : Option Addr) (c0 : Nat) (l0 : List Int) (r : Bool) (w : World) (hr0 : Kd.C (Kd.int .i64) w A0 l0.length l0) (hc0 : l0.length ≤ c0) (h : spec_l06Set.f k l0 = some r) :
    Calls Try.prog 81 #[.slice A0 l0.length c0] w fun e w' => e = .returned (.bool r) ∧ Drawn0 w w' := by
  have HR0 := Aside0.mk hr0
  have HC0 := Aside0.mk hc0
  clear hr0 hc0
  have H : ((spec_l06Ids.f k l0).bind fun t198 => (if t198 = true then (some (decide ((l0.length : Int) > 0))) else (some false))) = some r := h
  clear h
  replace H := Option.bind_eq_some_iff.mp H
  obtain ⟨t198, A20, H⟩ := H
  replace H : (if t198 = true then (some (decide ((l0.length : Int) > 0))) else (some false)) = some r := H
  have A2 := Aside0.mk A20
  clear A20
  by_cases c3 : t198 = true
  · subst c3
    rw [if_pos rfl] at H
    obtain rfl := Option.some.inj H
    go_enter Try.func81, Try.ntmps81
    go_wp2_with (first | ((with_reducible refine gate_callee (f := 82) rfl ?_); refine goesL_ (some 4) rfl rfl Try.func82 (by kernel_rfl) rfl #[.slice A0 l0.length c0] rfl u5_11 ?_; (with_reducible refine (spec_l06Ids.calls k _ _ l0 true _ ?side1 ?side2 A2.out).mono ?_); (case side1 => exact u5_10); (case side2 => exact HC0.out); rintro e w' ⟨rfl, ⟨nd, rfl⟩⟩; refine ⟨_, rfl, ?_⟩))
    go_ret
    exact ⟨by first | rfl | (simp; done) | (simp [*]; done), u5_5⟩
  replace c3 := Bool.eq_false_iff.mpr c3
  subst c3
  rw [if_neg (show ¬ (false = true) by decide)] at H
  obtain rfl := Option.some.inj H
  go_enter Try.func81, Try.ntmps81
  go_wp2_with (first | ((with_reducible refine gate_callee (f := 82) rfl ?_); refine goesL_ (some 4) rfl rfl Try.func82 (by kernel_rfl) rfl #[.slice A0 l0.length c0] rfl u5_11 ?_; (with_reducible refine (spec_l06Ids.calls k _ _ l0 false _ ?side1 ?side2 A2.out).mono ?_); (case side1 => exact u5_10); (case side2 => exact HC0.out); rintro e w' ⟨rfl, ⟨nd, rfl⟩⟩; refine ⟨_, rfl, ?_⟩))
  go_ret
  exact ⟨by first | rfl | (simp; done) | (simp [*]; done), u5_5⟩

/-! ### spec_ConfOk: function 53 -/
mutual
def spec_ConfOk.j0 : Nat → Bool → List Int → List Int → List Int → Option (Bool)
  | 0, _, _, _, _ => none
  | k + 1, x26, x200000, x200001, x200002 => if x26 = true then (some false) else (spec_ConfOk.l0 k 0 x200000 x200001 x200002)
def spec_ConfOk.l0 : Nat → Int → List Int → List Int → List Int → Option (Bool)
  | 0, _, _, _, _ => none
  | k + 1, x3, x200000, x200001, x200002 => if x3 < (x200002.length : Int) then (if 0 ≤ x3 then ((spec_l01Has.f k x200000 (rd x200002 x3)).bind fun t205 => (if t205 = true then (some false) else ((spec_l01Has.f k x200001 (rd x200002 x3)).bind fun t207 => (if t207 = true then (some false) else (spec_ConfOk.l0 k (wrap64 (x3 + 1)) x200000 x200001 x200002))))) else (none)) else (some true)
end
def spec_ConfOk.f (k : Nat) (l0_0 : List Int) (l0_1 : List Int) (l0_2 : List Int) : Option (Bool) := (spec_l06Set.f k l0_0).bind fun t200 => (if t200 = true then ((spec_l06Ids.f k l0_1).bind fun t201 => (if t201 = true then ((spec_l06Ids.f k l0_2).bind fun t202 => (if t202 = true then ((spec_l06Same.f k l0_0 l0_1).bind fun t203 => (spec_ConfOk.j0 k t203 l0_0 l0_1 l0_2)) else (spec_ConfOk.j0 k true l0_0 l0_1 l0_2))) else (spec_ConfOk.j0 k true l0_0 l0_1 l0_2))) else (spec_ConfOk.j0 k true l0_0 l0_1 l0_2))
theorem spec_ConfOk.mono_l : ∀ k, (∀ y0 y1 y2 y3, LeO (spec_ConfOk.j0 k y0 y1 y2 y3) (spec_ConfOk.j0 (k + 1) y0 y1 y2 y3)) ∧ (∀ y0 y1 y2 y3, LeO (spec_ConfOk.l0 k y0 y1 y2 y3) (spec_ConfOk.l0 (k + 1) y0 y1 y2 y3))
  | 0 => ⟨fun _ _ _ _ r h => by simp [spec_ConfOk.j0] at h, fun _ _ _ _ r h => by simp [spec_ConfOk.l0] at h⟩
  | k + 1 => by
    obtain ⟨ih0, ih1⟩ := spec_ConfOk.mono_l k
    refine ⟨?_, ?_⟩
    · intro y0 y1 y2 y3
      unfold spec_ConfOk.j0
      repeat' first
      | (with_reducible exact ih0 _ _ _ _)
      | (with_reducible exact ih1 _ _ _ _)
      | (with_reducible exact spec_l01Has.mono _ _ _)
      | (with_reducible exact spec_l06Ids.mono _ _)
      | (with_reducible exact spec_l06Same.mono _ _ _)
      | (with_reducible exact spec_l06Set.mono _ _)
      | (with_reducible exact LeO.refl _)
      | (with_reducible exact LeO.none _)
      | (with_reducible refine LeO.ite ?_ ?_)
      | (with_reducible refine LeO.bind ?_ (fun _ => ?_))
      | exact ih0 _ _ _ _
      | exact ih1 _ _ _ _
      | exact spec_l01Has.mono _ _ _
      | exact spec_l06Ids.mono _ _
      | exact spec_l06Same.mono _ _ _
      | exact spec_l06Set.mono _ _
      | exact LeO.none _
      | refine LeO.ite ?_ ?_
      | refine LeO.bind ?_ (fun _ => ?_)
    · intro y0 y1 y2 y3
      unfold spec_ConfOk.l0
      repeat' first
      | (with_reducible exact ih0 _ _ _ _)
      | (with_reducible exact ih1 _ _ _ _)
      | (with_reducible exact spec_l01Has.mono _ _ _)
      | (with_reducible exact spec_l06Ids.mono _ _)
      | (with_reducible exact spec_l06Same.mono _ _ _)
      | (with_reducible exact spec_l06Set.mono _ _)
      | (with_reducible exact LeO.refl _)
      | (with_reducible exact LeO.none _)
      | (with_reducible refine LeO.ite ?_ ?_)
      | (with_reducible refine LeO.bind ?_ (fun _ => ?_))
      | exact ih0 _ _ _ _
      | exact ih1 _ _ _ _
      | exact spec_l01Has.mono _ _ _
      | exact spec_l06Ids.mono _ _
      | exact spec_l06Same.mono _ _ _
      | exact spec_l06Set.mono _ _
      | exact LeO.none _
      | refine LeO.ite ?_ ?_
      | refine LeO.bind ?_ (fun _ => ?_)
theorem spec_ConfOk.mono : ∀ a0 a1 a2 k, LeO (spec_ConfOk.f k a0 a1 a2) (spec_ConfOk.f (k + 1) a0 a1 a2) := by
  intro a0 a1 a2 k
  obtain ⟨ih0, ih1⟩ := spec_ConfOk.mono_l k
  unfold spec_ConfOk.f
  repeat' first
      | (with_reducible exact ih0 _ _ _ _)
      | (with_reducible exact ih1 _ _ _ _)
      | (with_reducible exact spec_l01Has.mono _ _ _)
      | (with_reducible exact spec_l06Ids.mono _ _)
      | (with_reducible exact spec_l06Same.mono _ _ _)
      | (with_reducible exact spec_l06Set.mono _ _)
      | (with_reducible exact LeO.refl _)
      | (with_reducible exact LeO.none _)
      | (with_reducible refine LeO.ite ?_ ?_)
      | (with_reducible refine LeO.bind ?_ (fun _ => ?_))
      | exact ih0 _ _ _ _
      | exact ih1 _ _ _ _
      | exact spec_l01Has.mono _ _ _
      | exact spec_l06Ids.mono _ _
      | exact spec_l06Same.mono _ _ _
      | exact spec_l06Set.mono _ _
      | exact LeO.none _
      | refine LeO.ite ?_ ?_
      | refine LeO.bind ?_ (fun _ => ?_)
set_option maxHeartbeats 8000000 in
set_option maxRecDepth 100000 in
theorem spec_ConfOk.calls (k : Nat) (A0_0 : Option Addr) (c0_0 : Nat) (l0_0 : List Int) (A0_1 : Option Addr) (c0_1 : Nat) (l0_1 : List Int) (A0_2 : Option Addr) (c0_2 : Nat) (l0_2 : List Int) (r : Bool) (w : World) (hr0_0 : Kd.C (Kd.int .i64) w A0_0 l0_0.length l0_0) (hc0_0 : l0_0.length ≤ c0_0) (hr0_1 : Kd.C (Kd.int .i64) w A0_1 l0_1.length l0_1) (hc0_1 : l0_1.length ≤ c0_1) (hr0_2 : Kd.C (Kd.int .i64) w A0_2 l0_2.length l0_2) (hc0_2 : l0_2.length ≤ c0_2) (h : spec_ConfOk.f k l0_0 l0_1 l0_2 = some r) :
    Calls Try.prog 53 #[.agg #[.slice A0_0 l0_0.length c0_0, .slice A0_1 l0_1.length c0_1, .slice A0_2 l0_2.length c0_2]] w fun e w' => e = .returned (.bool r) ∧ Below w.heap.size w w' := by
  have hu26 := Try.underlying26
  have HR0_0 := Aside0.mk hr0_0
  have HC0_0 := Aside0.mk hc0_0
  clear hr0_0 hc0_0
  have HR0_1 := Aside0.mk hr0_1
  have HC0_1 := Aside0.mk hc0_1
  clear hr0_1 hc0_1
  have HR0_2 := Aside0.mk hr0_2
  have HC0_2 := Aside0.mk hc0_2
  clear hr0_2 hc0_2
  have HB := Aside0.mk (Below.refl w.heap.size w)
  have H : ((spec_l06Set.f k l0_0).bind fun t200 => (if t200 = true then ((spec_l06Ids.f k l0_1).bind fun t201 => (if t201 = true then ((spec_l06Ids.f k l0_2).bind fun t202 => (if t202 = true then ((spec_l06Same.f k l0_0 l0_1).bind fun t203 => (spec_ConfOk.j0 k t203 l0_0 l0_1 l0_2)) else (spec_ConfOk.j0 k true l0_0 l0_1 l0_2))) else (spec_ConfOk.j0 k true l0_0 l0_1 l0_2))) else (spec_ConfOk.j0 k true l0_0 l0_1 l0_2))) = some r := h
  clear h
  have HC2 := Aside0.mk H
  clear H
  go_enter Try.func53, Try.ntmps53
  go_upto_region 1 with (first | ((with_reducible refine gate_dst (N := 1) rfl ?_); refine box_event ?hg (N := 1) ?hd (cs := #[.slice A0_0 l0_0.length c0_0, .slice A0_1 l0_1.length c0_1, .slice A0_2 l0_2.length c0_2]) (t := 26) ?hr ?_; (case hd => rfl); (case hg => rfl); (case hr => first | (go_simp; done) | (go_simp; rfl)); intro gb199 hg w3 hbox hb; have n0_ := Aside0.mk (below_step u5_4 hb); have n1_ := Aside0.mk (hbox); have n2_ := Aside0.mk ((by rw [hg]; exact (below_size u5_4) : w.heap.size ≤ gb199)); have n3_ := Aside0.mk ((by rw [hg]; exact (below_size u5_4) : w.heap.size ≤ gb199)); clear HB; have HB := n0_; have BK199 := n1_; have GW199 := n2_; have GE199 := n3_; clear n0_ n1_ n2_ n3_; clear hb hbox hg))
  repeat (go_quiet (first | ((with_reducible refine gate_dst (N := 1) rfl ?_); refine box_event ?hg (N := 1) ?hd (cs := #[.slice A0_0 l0_0.length c0_0, .slice A0_1 l0_1.length c0_1, .slice A0_2 l0_2.length c0_2]) (t := 26) ?hr ?_; (case hd => rfl); (case hg => rfl); (case hr => first | (go_simp; done) | (go_simp; rfl)); intro gb199 hg w3 hbox hb; have n0_ := Aside0.mk (below_step u5_4 hb); have n1_ := Aside0.mk (hbox); have n2_ := Aside0.mk ((by rw [hg]; exact (below_size u5_4) : w.heap.size ≤ gb199)); have n3_ := Aside0.mk ((by rw [hg]; exact (below_size u5_4) : w.heap.size ≤ gb199)); clear HB; have HB := n0_; have BK199 := n1_; have GW199 := n2_; have GE199 := n3_; clear n0_ n1_ n2_ n3_; clear hb hbox hg)); go_upto_region 1 with (first | ((with_reducible refine gate_dst (N := 1) rfl ?_); refine box_event ?hg (N := 1) ?hd (cs := #[.slice A0_0 l0_0.length c0_0, .slice A0_1 l0_1.length c0_1, .slice A0_2 l0_2.length c0_2]) (t := 26) ?hr ?_; (case hd => rfl); (case hg => rfl); (case hr => first | (go_simp; done) | (go_simp; rfl)); intro gb199 hg w3 hbox hb; have n0_ := Aside0.mk (below_step u5_4 hb); have n1_ := Aside0.mk (hbox); have n2_ := Aside0.mk ((by rw [hg]; exact (below_size u5_4) : w.heap.size ≤ gb199)); have n3_ := Aside0.mk ((by rw [hg]; exact (below_size u5_4) : w.heap.size ≤ gb199)); clear HB; have HB := n0_; have BK199 := n1_; have GW199 := n2_; have GE199 := n3_; clear n0_ n1_ n2_ n3_; clear hb hbox hg)))
  (try simp only [Act.put, List.setIfInBounds_toArray, List.set_cons_zero, List.set_cons_succ])
  go_cut [26] (fun v26 wc => ∃ (kq : Nat) (x26_1 : Bool), v26 = .bool x26_1 ∧ Aside0 (spec_ConfOk.j0 kq x26_1 l0_0 l0_1 l0_2 = some r) ∧ Aside0 (kq ≤ k) ∧ Aside0 (wc.heap[gb199]? = some (.cells #[(.slice A0_0 l0_0.length c0_0), (.slice A0_1 l0_1.length c0_1), (.slice A0_2 l0_2.length c0_2)] 26 (0, 0))) ∧ Aside0 (Below w.heap.size w wc))
  case first =>
    have H := HC2.out
    clear HC2
    replace H := Option.bind_eq_some_iff.mp H
    obtain ⟨t200, A40, H⟩ := H
    have A4 := Aside0.mk A40
    clear A40
    by_cases c5 : t200 = true
    rotate_left
    · replace c5 := Bool.eq_false_iff.mpr c5
      subst c5
      rw [if_neg (show ¬ (false = true) by decide)] at H
      have H' := Aside0.mk H
      clear H
      have hcz14_0 : w3.cell? ⟨gb199, 0, none⟩ = some (.slice A0_0 l0_0.length c0_0) := (blk_cell BK199.out 0).trans rfl
      have hcz14_1 : w3.cell? ⟨gb199, 1, none⟩ = some (.slice A0_1 l0_1.length c0_1) := (blk_cell BK199.out 1).trans rfl
      have hcz14_2 : w3.cell? ⟨gb199, 2, none⟩ = some (.slice A0_2 l0_2.length c0_2) := (blk_cell BK199.out 2).trans rfl
      have hfz14_0 := blk_frozen BK199.out 0
      have hfz14_1 := blk_frozen BK199.out 1
      have hfz14_2 := blk_frozen BK199.out 2
      go_wp2_with (first | (first | (go_at_call 81; (with_reducible refine (spec_l06Set.calls k _ _ l0_0 false _ ?side1 ?side2 A4.out).mono ?_); (case side1 => exact u5_1); (case side2 => exact HC0_0.out); rintro e w' ⟨rfl, ⟨nd, rfl⟩⟩; (try first | exact ⟨rfl, _, World.drewN_drewN _ _ _⟩ | exact ⟨rfl, _, Eq.trans (World.drewN_drewN _ _ _) (congrArg (World.drewN _) (Nat.add_assoc _ _ _))⟩))) | go_quiet (first | (go_at_call 81; (with_reducible refine (spec_l06Set.calls k _ _ l0_0 false _ ?side1 ?side2 A4.out).mono ?_); (case side1 => exact u5_1); (case side2 => exact HC0_0.out); rintro e w' ⟨rfl, ⟨nd, rfl⟩⟩; (try first | exact ⟨rfl, _, World.drewN_drewN _ _ _⟩ | exact ⟨rfl, _, Eq.trans (World.drewN_drewN _ _ _) (congrArg (World.drewN _) (Nat.add_assoc _ _ _))⟩))))
      go_meet
      case rel => exact ⟨_, (true), u5_8, H', ⟨by first | omega | exact Nat.le_refl _⟩, ⟨u5_6⟩, ⟨u5_0⟩⟩
    subst c5
    rw [if_pos rfl] at H
    replace H := Option.bind_eq_some_iff.mp H
    obtain ⟨t201, A60, H⟩ := H
    have A6 := Aside0.mk A60
    clear A60
    by_cases c7 : t201 = true
    rotate_left
    · replace c7 := Bool.eq_false_iff.mpr c7
      subst c7
      rw [if_neg (show ¬ (false = true) by decide)] at H
      have H' := Aside0.mk H
      clear H
      have hcz13_0 : w3.cell? ⟨gb199, 0, none⟩ = some (.slice A0_0 l0_0.length c0_0) := (blk_cell BK199.out 0).trans rfl
      have hcz13_1 : w3.cell? ⟨gb199, 1, none⟩ = some (.slice A0_1 l0_1.length c0_1) := (blk_cell BK199.out 1).trans rfl
      have hcz13_2 : w3.cell? ⟨gb199, 2, none⟩ = some (.slice A0_2 l0_2.length c0_2) := (blk_cell BK199.out 2).trans rfl
      have hfz13_0 := blk_frozen BK199.out 0
      have hfz13_1 := blk_frozen BK199.out 1
      have hfz13_2 := blk_frozen BK199.out 2
      go_wp2_with (first | (first | (go_at_call 81; (with_reducible refine (spec_l06Set.calls k _ _ l0_0 true _ ?side1 ?side2 A4.out).mono ?_); (case side1 => exact u5_1); (case side2 => exact HC0_0.out); rintro e w' ⟨rfl, ⟨nd, rfl⟩⟩; (try first | exact ⟨rfl, _, World.drewN_drewN _ _ _⟩ | exact ⟨rfl, _, Eq.trans (World.drewN_drewN _ _ _) (congrArg (World.drewN _) (Nat.add_assoc _ _ _))⟩)) | (go_at_call 82; (with_reducible refine (spec_l06Ids.calls k _ _ l0_1 false _ ?side1 ?side2 A6.out).mono ?_); (case side1 => exact u5_2); (case side2 => exact HC0_1.out); rintro e w' ⟨rfl, ⟨nd, rfl⟩⟩; (try first | exact ⟨rfl, _, World.drewN_drewN _ _ _⟩ | exact ⟨rfl, _, Eq.trans (World.drewN_drewN _ _ _) (congrArg (World.drewN _) (Nat.add_assoc _ _ _))⟩))) | go_quiet (first | (go_at_call 81; (with_reducible refine (spec_l06Set.calls k _ _ l0_0 true _ ?side1 ?side2 A4.out).mono ?_); (case side1 => exact u5_1); (case side2 => exact HC0_0.out); rintro e w' ⟨rfl, ⟨nd, rfl⟩⟩; (try first | exact ⟨rfl, _, World.drewN_drewN _ _ _⟩ | exact ⟨rfl, _, Eq.trans (World.drewN_drewN _ _ _) (congrArg (World.drewN _) (Nat.add_assoc _ _ _))⟩)) | (go_at_call 82; (with_reducible refine (spec_l06Ids.calls k _ _ l0_1 false _ ?side1 ?side2 A6.out).mono ?_); (case side1 => exact u5_2); (case side2 => exact HC0_1.out); rintro e w' ⟨rfl, ⟨nd, rfl⟩⟩; (try first | exact ⟨rfl, _, World.drewN_drewN _ _ _⟩ | exact ⟨rfl, _, Eq.trans (World.drewN_drewN _ _ _) (congrArg (World.drewN _) (Nat.add_assoc _ _ _))⟩))))
      go_meet
      case rel => exact ⟨_, (true), u5_8, H', ⟨by first | omega | exact Nat.le_refl _⟩, ⟨u5_6⟩, ⟨u5_0⟩⟩
    subst c7
    rw [if_pos rfl] at H
    replace H := Option.bind_eq_some_iff.mp H
    obtain ⟨t202, A80, H⟩ := H
    have A8 := Aside0.mk A80
    clear A80
    by_cases c9 : t202 = true
    rotate_left
    · replace c9 := Bool.eq_false_iff.mpr c9
      subst c9
      rw [if_neg (show ¬ (false = true) by decide)] at H
      have H' := Aside0.mk H
      clear H
      have hcz12_0 : w3.cell? ⟨gb199, 0, none⟩ = some (.slice A0_0 l0_0.length c0_0) := (blk_cell BK199.out 0).trans rfl
      have hcz12_1 : w3.cell? ⟨gb199, 1, none⟩ = some (.slice A0_1 l0_1.length c0_1) := (blk_cell BK199.out 1).trans rfl
      have hcz12_2 : w3.cell? ⟨gb199, 2, none⟩ = some (.slice A0_2 l0_2.length c0_2) := (blk_cell BK199.out 2).trans rfl
      have hfz12_0 := blk_frozen BK199.out 0
      have hfz12_1 := blk_frozen BK199.out 1
      have hfz12_2 := blk_frozen BK199.out 2
      go_wp2_with (first | (first | (go_at_call 81; (with_reducible refine (spec_l06Set.calls k _ _ l0_0 true _ ?side1 ?side2 A4.out).mono ?_); (case side1 => exact u5_1); (case side2 => exact HC0_0.out); rintro e w' ⟨rfl, ⟨nd, rfl⟩⟩; (try first | exact ⟨rfl, _, World.drewN_drewN _ _ _⟩ | exact ⟨rfl, _, Eq.trans (World.drewN_drewN _ _ _) (congrArg (World.drewN _) (Nat.add_assoc _ _ _))⟩)) | (go_at_call 82; (with_reducible refine (spec_l06Ids.calls k _ _ l0_1 true _ ?side1 ?side2 A6.out).mono ?_); (case side1 => exact u5_2); (case side2 => exact HC0_1.out); rintro e w' ⟨rfl, ⟨nd, rfl⟩⟩; (try first | exact ⟨rfl, _, World.drewN_drewN _ _ _⟩ | exact ⟨rfl, _, Eq.trans (World.drewN_drewN _ _ _) (congrArg (World.drewN _) (Nat.add_assoc _ _ _))⟩)) | (go_at_call 82; (with_reducible refine (spec_l06Ids.calls k _ _ l0_2 false _ ?side1 ?side2 A8.out).mono ?_); (case side1 => exact u5_7); (case side2 => exact HC0_2.out); rintro e w' ⟨rfl, ⟨nd, rfl⟩⟩; (try first | exact ⟨rfl, _, World.drewN_drewN _ _ _⟩ | exact ⟨rfl, _, Eq.trans (World.drewN_drewN _ _ _) (congrArg (World.drewN _) (Nat.add_assoc _ _ _))⟩))) | go_quiet (first | (go_at_call 81; (with_reducible refine (spec_l06Set.calls k _ _ l0_0 true _ ?side1 ?side2 A4.out).mono ?_); (case side1 => exact u5_1); (case side2 => exact HC0_0.out); rintro e w' ⟨rfl, ⟨nd, rfl⟩⟩; (try first | exact ⟨rfl, _, World.drewN_drewN _ _ _⟩ | exact ⟨rfl, _, Eq.trans (World.drewN_drewN _ _ _) (congrArg (World.drewN _) (Nat.add_assoc _ _ _))⟩)) | (go_at_call 82; (with_reducible refine (spec_l06Ids.calls k _ _ l0_1 true _ ?side1 ?side2 A6.out).mono ?_); (case side1 => exact u5_2); (case side2 => exact HC0_1.out); rintro e w' ⟨rfl, ⟨nd, rfl⟩⟩; (try first | exact ⟨rfl, _, World.drewN_drewN _ _ _⟩ | exact ⟨rfl, _, Eq.trans (World.drewN_drewN _ _ _) (congrArg (World.drewN _) (Nat.add_assoc _ _ _))⟩)) | (go_at_call 82; (with_reducible refine (spec_l06Ids.calls k _ _ l0_2 false _ ?side1 ?side2 A8.out).mono ?_); (case side1 => exact u5_7); (case side2 => exact HC0_2.out); rintro e w' ⟨rfl, ⟨nd, rfl⟩⟩; (try first | exact ⟨rfl, _, World.drewN_drewN _ _ _⟩ | exact ⟨rfl, _, Eq.trans (World.drewN_drewN _ _ _) (congrArg (World.drewN _) (Nat.add_assoc _ _ _))⟩))))
      go_meet
      case rel => exact ⟨_, (true), u5_8, H', ⟨by first | omega | exact Nat.le_refl _⟩, ⟨u5_6⟩, ⟨u5_0⟩⟩
    subst c9
    rw [if_pos rfl] at H
    replace H := Option.bind_eq_some_iff.mp H
    obtain ⟨t203, A100, H⟩ := H
    replace H : (spec_ConfOk.j0 k t203 l0_0 l0_1 l0_2) = some r := H
    have A10 := Aside0.mk A100
    clear A100
    have H' := Aside0.mk H
    clear H
    have hcz11_0 : w3.cell? ⟨gb199, 0, none⟩ = some (.slice A0_0 l0_0.length c0_0) := (blk_cell BK199.out 0).trans rfl
    have hcz11_1 : w3.cell? ⟨gb199, 1, none⟩ = some (.slice A0_1 l0_1.length c0_1) := (blk_cell BK199.out 1).trans rfl
    have hcz11_2 : w3.cell? ⟨gb199, 2, none⟩ = some (.slice A0_2 l0_2.length c0_2) := (blk_cell BK199.out 2).trans rfl
    have hfz11_0 := blk_frozen BK199.out 0
    have hfz11_1 := blk_frozen BK199.out 1
    have hfz11_2 := blk_frozen BK199.out 2
    go_wp2_with (first | (first | (go_at_call 81; (with_reducible refine (spec_l06Set.calls k _ _ l0_0 true _ ?side1 ?side2 A4.out).mono ?_); (case side1 => exact u5_1); (case side2 => exact HC0_0.out); rintro e w' ⟨rfl, ⟨nd, rfl⟩⟩; (try first | exact ⟨rfl, _, World.drewN_drewN _ _ _⟩ | exact ⟨rfl, _, Eq.trans (World.drewN_drewN _ _ _) (congrArg (World.drewN _) (Nat.add_assoc _ _ _))⟩)) | (go_at_call 82; (with_reducible refine (spec_l06Ids.calls k _ _ l0_1 true _ ?side1 ?side2 A6.out).mono ?_); (case side1 => exact u5_2); (case side2 => exact HC0_1.out); rintro e w' ⟨rfl, ⟨nd, rfl⟩⟩; (try first | exact ⟨rfl, _, World.drewN_drewN _ _ _⟩ | exact ⟨rfl, _, Eq.trans (World.drewN_drewN _ _ _) (congrArg (World.drewN _) (Nat.add_assoc _ _ _))⟩)) | (go_at_call 82; (with_reducible refine (spec_l06Ids.calls k _ _ l0_2 true _ ?side1 ?side2 A8.out).mono ?_); (case side1 => exact u5_7); (case side2 => exact HC0_2.out); rintro e w' ⟨rfl, ⟨nd, rfl⟩⟩; (try first | exact ⟨rfl, _, World.drewN_drewN _ _ _⟩ | exact ⟨rfl, _, Eq.trans (World.drewN_drewN _ _ _) (congrArg (World.drewN _) (Nat.add_assoc _ _ _))⟩)) | (go_at_call 57; (with_reducible refine (spec_l06Same.calls k _ _ l0_0 _ _ l0_1 t203 _ ?side1 ?side2 ?side3 ?side4 A10.out).mono ?_); (case side1 => exact u5_9); (case side2 => exact HC0_0.out); (case side3 => exact u5_2); (case side4 => exact HC0_1.out); rintro e w' ⟨rfl, ⟨nd, rfl⟩⟩; (try first | exact ⟨rfl, _, World.drewN_drewN _ _ _⟩ | exact ⟨rfl, _, Eq.trans (World.drewN_drewN _ _ _) (congrArg (World.drewN _) (Nat.add_assoc _ _ _))⟩))) | go_quiet (first | (go_at_call 81; (with_reducible refine (spec_l06Set.calls k _ _ l0_0 true _ ?side1 ?side2 A4.out).mono ?_); (case side1 => exact u5_1); (case side2 => exact HC0_0.out); rintro e w' ⟨rfl, ⟨nd, rfl⟩⟩; (try first | exact ⟨rfl, _, World.drewN_drewN _ _ _⟩ | exact ⟨rfl, _, Eq.trans (World.drewN_drewN _ _ _) (congrArg (World.drewN _) (Nat.add_assoc _ _ _))⟩)) | (go_at_call 82; (with_reducible refine (spec_l06Ids.calls k _ _ l0_1 true _ ?side1 ?side2 A6.out).mono ?_); (case side1 => exact u5_2); (case side2 => exact HC0_1.out); rintro e w' ⟨rfl, ⟨nd, rfl⟩⟩; (try first | exact ⟨rfl, _, World.drewN_drewN _ _ _⟩ | exact ⟨rfl, _, Eq.trans (World.drewN_drewN _ _ _) (congrArg (World.drewN _) (Nat.add_assoc _ _ _))⟩)) | (go_at_call 82; (with_reducible refine (spec_l06Ids.calls k _ _ l0_2 true _ ?side1 ?side2 A8.out).mono ?_); (case side1 => exact u5_7); (case side2 => exact HC0_2.out); rintro e w' ⟨rfl, ⟨nd, rfl⟩⟩; (try first | exact ⟨rfl, _, World.drewN_drewN _ _ _⟩ | exact ⟨rfl, _, Eq.trans (World.drewN_drewN _ _ _) (congrArg (World.drewN _) (Nat.add_assoc _ _ _))⟩)) | (go_at_call 57; (with_reducible refine (spec_l06Same.calls k _ _ l0_0 _ _ l0_1 t203 _ ?side1 ?side2 ?side3 ?side4 A10.out).mono ?_); (case side1 => exact u5_9); (case side2 => exact HC0_0.out); (case side3 => exact u5_2); (case side4 => exact HC0_1.out); rintro e w' ⟨rfl, ⟨nd, rfl⟩⟩; (try first | exact ⟨rfl, _, World.drewN_drewN _ _ _⟩ | exact ⟨rfl, _, Eq.trans (World.drewN_drewN _ _ _) (congrArg (World.drewN _) (Nat.add_assoc _ _ _))⟩))))
    go_meet
    case rel => exact ⟨_, (t203), u5_8, H', ⟨by first | omega | exact Nat.le_refl _⟩, ⟨u5_6⟩, ⟨u5_0⟩⟩
  clear HC2
  try clear p2
  try clear c5
  try clear c7
  try clear c9
  try clear hcz11_0
  try clear hcz11_1
  try clear hcz11_2
  try clear hcz12_0
  try clear hcz12_1
  try clear hcz12_2
  try clear hcz13_0
  try clear hcz13_1
  try clear hcz13_2
  try clear hcz14_0
  try clear hcz14_1
  try clear hcz14_2
  try clear hfz11_0
  try clear hfz11_1
  try clear hfz11_2
  try clear hfz12_0
  try clear hfz12_1
  try clear hfz12_2
  try clear hfz13_0
  try clear hfz13_1
  try clear hfz13_2
  try clear hfz14_0
  try clear hfz14_1
  try clear hfz14_2
  obtain ⟨kq, x26_1, rfl, HA, HJ1, BK199, HB⟩ := hcut
  cases kq with
  | zero => exact absurd HA.out (by simp [spec_ConfOk.j0])
  | succ kj1 =>
    have H := HA.out
    clear HA
    simp only [spec_ConfOk.j0] at H
    by_cases c15 : x26_1 = true
    · subst c15
      rw [if_pos rfl] at H
      obtain rfl := Option.some.inj H
      go_wp2
      repeat (go_quiet (fail); try go_wp2)
      go_ret
      exact ⟨by first | rfl | (simp [errW_none, errW_some] <;> rfl) | (simp [*, errW_none, errW_some] <;> rfl), u5_0⟩
    replace c15 := Bool.eq_false_iff.mpr c15
    subst c15
    rw [if_neg (show ¬ (false = true) by decide)] at H
    have H' := Aside0.mk H
    clear H
    go_wp2
    repeat (go_quiet (fail); try go_wp2)
    go_loopg [3] kj1 (fun kq v3 w' => ∃ (x3_2 : Int), v3 = .int .i64 x3_2 ∧ Aside0 (spec_ConfOk.l0 kq x3_2 l0_0 l0_1 l0_2 = some r) ∧ Aside0 (kq ≤ kj1) ∧ Aside0 (w'.heap[gb199]? = some (.cells #[(.slice A0_0 l0_0.length c0_0), (.slice A0_1 l0_1.length c0_1), (.slice A0_2 l0_2.length c0_2)] 26 (0, 0))) ∧ Aside0 (Below w.heap.size w w'))
    case atStart => exact ⟨(0), u5_8, H', ⟨Nat.le_refl _⟩, ⟨u5_6⟩, ⟨u5_0⟩⟩
    clear H'
    try clear c1
    try clear p2
    try clear c5
    try clear c7
    try clear c9
    try clear c15
    try clear hcz11_0
    try clear hcz11_1
    try clear hcz11_2
    try clear hcz12_0
    try clear hcz12_1
    try clear hcz12_2
    try clear hcz13_0
    try clear hcz13_1
    try clear hcz13_2
    try clear hcz14_0
    try clear hcz14_1
    try clear hcz14_2
    try clear hfz11_0
    try clear hfz11_1
    try clear hfz11_2
    try clear hfz12_0
    try clear hfz12_1
    try clear hfz12_2
    try clear hfz13_0
    try clear hfz13_1
    try clear hfz13_2
    try clear hfz14_0
    try clear hfz14_1
    try clear hfz14_2
    try clear p2
    obtain ⟨x3_2, rfl, HA, HK2, BK199, HB⟩ := hrel
    cases gk with
    | zero => exact absurd HA.out (by simp [spec_ConfOk.l0])
    | succ k2 =>
      have H := HA.out
      clear HA
      simp only [spec_ConfOk.l0] at H
      by_cases c16 : x3_2 < (l0_2.length : Int)
      rotate_left
      · rw [if_neg c16] at H
        have c16b0 : decide (x3_2 < (l0_2.length : Int)) = false := decide_eq_false c16
        clear c16
        obtain rfl := Option.some.inj H
        have hcz24_0 : wr.cell? ⟨gb199, 0, none⟩ = some (.slice A0_0 l0_0.length c0_0) := (blk_cell BK199.out 0).trans rfl
        have hcz24_1 : wr.cell? ⟨gb199, 1, none⟩ = some (.slice A0_1 l0_1.length c0_1) := (blk_cell BK199.out 1).trans rfl
        have hcz24_2 : wr.cell? ⟨gb199, 2, none⟩ = some (.slice A0_2 l0_2.length c0_2) := (blk_cell BK199.out 2).trans rfl
        have hfz24_0 := blk_frozen BK199.out 0
        have hfz24_1 := blk_frozen BK199.out 1
        have hfz24_2 := blk_frozen BK199.out 2
        go_wp2
        repeat (go_quiet (fail); try go_wp2)
        go_ret
        exact ⟨by first | rfl | (simp [errW_none, errW_some] <;> rfl) | (simp [*, errW_none, errW_some] <;> rfl), u5_0⟩
      rw [if_pos c16] at H
      have c16b0 : decide (x3_2 < (l0_2.length : Int)) = true := decide_eq_true c16
      clear c16
      by_cases c17 : 0 ≤ x3_2
      rotate_left
      · rw [if_neg c17] at H
        exact absurd H (by simp)
      rw [if_pos c17] at H
      have c17b0 : decide (0 ≤ x3_2) = true := decide_eq_true c17
      clear c17
      replace H := Option.bind_eq_some_iff.mp H
      obtain ⟨t205, A180, H⟩ := H
      have A18 := Aside0.mk A180
      clear A180
      by_cases c19 : t205 = true
      · subst c19
        rw [if_pos rfl] at H
        obtain rfl := Option.some.inj H
        have hcz20_0 : wr.cell? ⟨gb199, 0, none⟩ = some (.slice A0_0 l0_0.length c0_0) := (blk_cell BK199.out 0).trans rfl
        have hcz20_1 : wr.cell? ⟨gb199, 1, none⟩ = some (.slice A0_1 l0_1.length c0_1) := (blk_cell BK199.out 1).trans rfl
        have hcz20_2 : wr.cell? ⟨gb199, 2, none⟩ = some (.slice A0_2 l0_2.length c0_2) := (blk_cell BK199.out 2).trans rfl
        have hfz20_0 := blk_frozen BK199.out 0
        have hfz20_1 := blk_frozen BK199.out 1
        have hfz20_2 := blk_frozen BK199.out 2
        have p204 : 0 ≤ (x3_2 : Int) := of_decide_eq_true u5_3
        have q204 : x3_2 < (l0_2.length : Int) := of_decide_eq_true u5_3
        obtain ⟨ad204, e204, hx204_0⟩ := Kd.at_int HR0_2.out x3_2 p204 q204
        cases e204
        replace hx204_0 := (HB.out.cell (World.block_lt_of_cell? w _ hx204_0)).trans hx204_0
        replace p204 := eq_true p204
        replace q204 := eq_true q204
        go_wp2_with (first | (first | (go_at_call 54; (with_reducible refine (spec_l01Has.calls k2 _ _ l0_0 (rd l0_2 x3_2) true _ ?side1 ?side2 A18.out).mono ?_); (case side1 => exact u5_1); (case side2 => exact HC0_0.out); rintro e w' ⟨rfl, ⟨nd, rfl⟩⟩; (try first | exact ⟨rfl, _, World.drewN_drewN _ _ _⟩ | exact ⟨rfl, _, Eq.trans (World.drewN_drewN _ _ _) (congrArg (World.drewN _) (Nat.add_assoc _ _ _))⟩))) | go_quiet (first | (go_at_call 54; (with_reducible refine (spec_l01Has.calls k2 _ _ l0_0 (rd l0_2 x3_2) true _ ?side1 ?side2 A18.out).mono ?_); (case side1 => exact u5_1); (case side2 => exact HC0_0.out); rintro e w' ⟨rfl, ⟨nd, rfl⟩⟩; (try first | exact ⟨rfl, _, World.drewN_drewN _ _ _⟩ | exact ⟨rfl, _, Eq.trans (World.drewN_drewN _ _ _) (congrArg (World.drewN _) (Nat.add_assoc _ _ _))⟩))))
        go_ret
        exact ⟨by first | rfl | (simp [errW_none, errW_some] <;> rfl) | (simp [*, errW_none, errW_some] <;> rfl), u5_0⟩
      replace c19 := Bool.eq_false_iff.mpr c19
      subst c19
      rw [if_neg (show ¬ (false = true) by decide)] at H
      replace H := Option.bind_eq_some_iff.mp H
      obtain ⟨t207, A210, H⟩ := H
      replace H : (if t207 = true then (some false) else (spec_ConfOk.l0 k2 (wrap64 (x3_2 + 1)) l0_0 l0_1 l0_2)) = some r := H
      have A21 := Aside0.mk A210
      clear A210
      have H9 := Aside0.mk H
      clear H
      have hcz22_0 : wr.cell? ⟨gb199, 0, none⟩ = some (.slice A0_0 l0_0.length c0_0) := (blk_cell BK199.out 0).trans rfl
      have hcz22_1 : wr.cell? ⟨gb199, 1, none⟩ = some (.slice A0_1 l0_1.length c0_1) := (blk_cell BK199.out 1).trans rfl
      have hcz22_2 : wr.cell? ⟨gb199, 2, none⟩ = some (.slice A0_2 l0_2.length c0_2) := (blk_cell BK199.out 2).trans rfl
      have hfz22_0 := blk_frozen BK199.out 0
      have hfz22_1 := blk_frozen BK199.out 1
      have hfz22_2 := blk_frozen BK199.out 2
      have p204 : 0 ≤ (x3_2 : Int) := of_decide_eq_true u5_3
      have q204 : x3_2 < (l0_2.length : Int) := of_decide_eq_true u5_3
      obtain ⟨ad204, e204, hx204_0⟩ := Kd.at_int HR0_2.out x3_2 p204 q204
      cases e204
      replace hx204_0 := (HB.out.cell (World.block_lt_of_cell? w _ hx204_0)).trans hx204_0
      replace p204 := eq_true p204
      replace q204 := eq_true q204
      go_upto_if 51 with (first | (go_at_call 54; (with_reducible refine (spec_l01Has.calls k2 _ _ l0_0 (rd l0_2 x3_2) false _ ?side1 ?side2 A18.out).mono ?_); (case side1 => exact u5_1); (case side2 => exact HC0_0.out); rintro e w' ⟨rfl, ⟨nd, rfl⟩⟩; (try first | exact ⟨rfl, _, World.drewN_drewN _ _ _⟩ | exact ⟨rfl, _, Eq.trans (World.drewN_drewN _ _ _) (congrArg (World.drewN _) (Nat.add_assoc _ _ _))⟩); have p206 : 0 ≤ (x3_2 : Int) := of_decide_eq_true u5_3; have q206 : x3_2 < (l0_2.length : Int) := of_decide_eq_true u5_3; obtain ⟨ad206, e206, hx206_0⟩ := Kd.at_int HR0_2.out x3_2 p206 q206; obtain rfl : ad204 = ad206 := (by injection e206); replace hx206_0 := (HB.out.cell (World.block_lt_of_cell? w _ hx206_0)).trans hx206_0; replace p206 := eq_true p206; replace q206 := eq_true q206) | (go_at_call 54; (with_reducible refine (spec_l01Has.calls k2 _ _ l0_1 (rd l0_2 x3_2) t207 _ ?side1 ?side2 A21.out).mono ?_); (case side1 => exact u5_2); (case side2 => exact HC0_1.out); rintro e w' ⟨rfl, ⟨nd, rfl⟩⟩; (try first | exact ⟨rfl, _, World.drewN_drewN _ _ _⟩ | exact ⟨rfl, _, Eq.trans (World.drewN_drewN _ _ _) (congrArg (World.drewN _) (Nat.add_assoc _ _ _))⟩)))
      repeat (go_quiet (first | (go_at_call 54; (with_reducible refine (spec_l01Has.calls k2 _ _ l0_0 (rd l0_2 x3_2) false _ ?side1 ?side2 A18.out).mono ?_); (case side1 => exact u5_1); (case side2 => exact HC0_0.out); rintro e w' ⟨rfl, ⟨nd, rfl⟩⟩; (try first | exact ⟨rfl, _, World.drewN_drewN _ _ _⟩ | exact ⟨rfl, _, Eq.trans (World.drewN_drewN _ _ _) (congrArg (World.drewN _) (Nat.add_assoc _ _ _))⟩); have p206 : 0 ≤ (x3_2 : Int) := of_decide_eq_true u5_3; have q206 : x3_2 < (l0_2.length : Int) := of_decide_eq_true u5_3; obtain ⟨ad206, e206, hx206_0⟩ := Kd.at_int HR0_2.out x3_2 p206 q206; obtain rfl : ad204 = ad206 := (by injection e206); replace hx206_0 := (HB.out.cell (World.block_lt_of_cell? w _ hx206_0)).trans hx206_0; replace p206 := eq_true p206; replace q206 := eq_true q206) | (go_at_call 54; (with_reducible refine (spec_l01Has.calls k2 _ _ l0_1 (rd l0_2 x3_2) t207 _ ?side1 ?side2 A21.out).mono ?_); (case side1 => exact u5_2); (case side2 => exact HC0_1.out); rintro e w' ⟨rfl, ⟨nd, rfl⟩⟩; (try first | exact ⟨rfl, _, World.drewN_drewN _ _ _⟩ | exact ⟨rfl, _, Eq.trans (World.drewN_drewN _ _ _) (congrArg (World.drewN _) (Nat.add_assoc _ _ _))⟩))); go_upto_if 51 with (first | (go_at_call 54; (with_reducible refine (spec_l01Has.calls k2 _ _ l0_0 (rd l0_2 x3_2) false _ ?side1 ?side2 A18.out).mono ?_); (case side1 => exact u5_1); (case side2 => exact HC0_0.out); rintro e w' ⟨rfl, ⟨nd, rfl⟩⟩; (try first | exact ⟨rfl, _, World.drewN_drewN _ _ _⟩ | exact ⟨rfl, _, Eq.trans (World.drewN_drewN _ _ _) (congrArg (World.drewN _) (Nat.add_assoc _ _ _))⟩); have p206 : 0 ≤ (x3_2 : Int) := of_decide_eq_true u5_3; have q206 : x3_2 < (l0_2.length : Int) := of_decide_eq_true u5_3; obtain ⟨ad206, e206, hx206_0⟩ := Kd.at_int HR0_2.out x3_2 p206 q206; obtain rfl : ad204 = ad206 := (by injection e206); replace hx206_0 := (HB.out.cell (World.block_lt_of_cell? w _ hx206_0)).trans hx206_0; replace p206 := eq_true p206; replace q206 := eq_true q206) | (go_at_call 54; (with_reducible refine (spec_l01Has.calls k2 _ _ l0_1 (rd l0_2 x3_2) t207 _ ?side1 ?side2 A21.out).mono ?_); (case side1 => exact u5_2); (case side2 => exact HC0_1.out); rintro e w' ⟨rfl, ⟨nd, rfl⟩⟩; (try first | exact ⟨rfl, _, World.drewN_drewN _ _ _⟩ | exact ⟨rfl, _, Eq.trans (World.drewN_drewN _ _ _) (congrArg (World.drewN _) (Nat.add_assoc _ _ _))⟩))))
      have H := H9.out
      clear H9
      by_cases c23 : t207 = true
      · subst c23
        rw [if_pos rfl] at H
        obtain rfl := Option.some.inj H
        go_wp2
        repeat (go_quiet (fail); try go_wp2)
        go_ret
        exact ⟨by first | rfl | (simp [errW_none, errW_some] <;> rfl) | (simp [*, errW_none, errW_some] <;> rfl), u5_0⟩
      replace c23 := Bool.eq_false_iff.mpr c23
      subst c23
      rw [if_neg (show ¬ (false = true) by decide)] at H
      have H' := Aside0.mk H
      clear H
      go_wp2
      repeat (go_quiet (fail); try go_wp2)
      go_roundg k2
      case measure => have := HJ1.out; have := HK2.out; omega
      case rel => exact ⟨(wrap64 (x3_2 + 1)), u5_8, H', ⟨(by have := HJ1.out; have := HK2.out; omega)⟩, ⟨u5_6⟩, ⟨u5_0⟩⟩

end Go.Proofs.Ytoemdmjdpikfbaa.QFnExactLearner
