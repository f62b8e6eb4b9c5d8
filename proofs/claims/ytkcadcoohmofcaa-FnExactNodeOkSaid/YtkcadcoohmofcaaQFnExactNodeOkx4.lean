-- Printed by the session's own program wip/prx.py.
import Derived.Test.YtkcadcoohmofcaaQFnExactNodeOkx0
import Derived.Test.YtkcadcoohmofcaaQFnExactNodeOkx3
namespace Go.Proofs.Ytkcadcoohmofcaa.QFnExactNodeOk
open Go.RowKit Go.Proofs.YtkcadcoohmofcaaW.PrintWords Go.Proofs.YtkcadcoohmofcaaW.PrintLast Go.Proofs.YtkcadcoohmofcaaW.PrintMore
attribute [local go_sem] max2_int min2_int max_two min_two max_three min_three max_four min_four Go.Proofs.Ytkcadcoohmofcaa.Set.isSome_setCell   -- for this text's walks alone
set_option linter.unusedVariables false
set_option linter.unusedSimpArgs false

-- squeezed
theorem u4_0 {P : Prop} (h : P := by first | (with_reducible assumption) | assumption) : P := h
theorem u4_1 {P : Prop} (h : P := by repeat (first | exact Drawn0.refl _ | apply Drawn0.step)) : P := h
theorem u4_2 {P : Prop} (h : P := by first | rfl | (simp; done) | (simp [*]; done)) : P := h
theorem u4_3 {P : Prop} (h : P := by repeat (first | exact HR0.out | (with_reducible refine Kd.C_alloc ?_ _) | (with_reducible refine Kd.C_drewN ?_ _) | (with_reducible refine Kd.C_drew ?_))) : P := h
theorem u4_4 {P : Prop} (h : P := by (try simp only [List.map_toArray, List.map_cons, List.map_nil]); first | done | rfl | (simp only [List.length_drop, List.length_take]; rfl)) : P := h
/-! ### spec_l06Ids: function 112 -/
def spec_l06Ids.l0 : Nat → List Int → Int → Option (Bool)
  | 0, _, _ => none
  | k + 1, x0, x3 => if x3 < (x0.length : Int) then (if 0 ≤ x3 then ((spec_l01In.f (rd x0 x3) 0 99).bind fun t142 => (if t142 = true then (if x3 > 0 then (if 0 ≤ (wrap64 (x3 - 1)) then (if (wrap64 (x3 - 1)) < (x0.length : Int) then (if (rd x0 (wrap64 (x3 - 1))) ≥ (rd x0 x3) then (some false) else (spec_l06Ids.l0 k x0 (wrap64 (x3 + 1)))) else (none)) else (none)) else (spec_l06Ids.l0 k x0 (wrap64 (x3 + 1)))) else (some false))) else (none)) else (some (decide ((x0.length : Int) ≤ 7)))
def spec_l06Ids.f (k : Nat) (l0 : List Int) : Option (Bool) := spec_l06Ids.l0 k l0 0
theorem spec_l06Ids.mono_l : ∀ k, (∀ y0 y1, LeO (spec_l06Ids.l0 k y0 y1) (spec_l06Ids.l0 (k + 1) y0 y1))
  | 0 => fun _ _ r h => by simp [spec_l06Ids.l0] at h
  | k + 1 => by
    have ih0 := spec_l06Ids.mono_l k
    · intro y0 y1
      unfold spec_l06Ids.l0
      repeat' first
      | (with_reducible exact ih0 _ _)
      | (with_reducible exact LeO.refl _)
      | (with_reducible exact LeO.none _)
      | (with_reducible refine LeO.ite ?_ ?_)
      | (with_reducible refine LeO.bind ?_ (fun _ => ?_))
      | exact ih0 _ _
      | exact LeO.none _
      | refine LeO.ite ?_ ?_
      | refine LeO.bind ?_ (fun _ => ?_)
theorem spec_l06Ids.mono : ∀ a0 k, LeO (spec_l06Ids.f k a0) (spec_l06Ids.f (k + 1) a0) := by
  intro a0 k
  have ih0 := spec_l06Ids.mono_l k
  unfold spec_l06Ids.f
  repeat' first
      | (with_reducible exact ih0 _ _)
      | (with_reducible exact LeO.refl _)
      | (with_reducible exact LeO.none _)
      | (with_reducible refine LeO.ite ?_ ?_)
      | (with_reducible refine LeO.bind ?_ (fun _ => ?_))
      | exact ih0 _ _
      | exact LeO.none _
      | refine LeO.ite ?_ ?_
      | refine LeO.bind ?_ (fun _ => ?_)
set_option maxHeartbeats 8000000 in
set_option maxRecDepth 100000 in
theorem spec_l06Ids.calls (k : Nat) (A0 : Option Addr) (c0 : Nat) (l0 : List Int) (r : Bool) (w : World) (hr0 : Kd.C (Kd.int .i64) w A0 l0.length l0) (hc0 : l0.length ≤ c0) (h : spec_l06Ids.f k l0 = some r) :
    Calls Try.prog 112 #[.slice A0 l0.length c0] w fun e w' => e = .returned (.bool r) ∧ Drawn0 w w' := by
  have HR0 := Aside0.mk hr0
  have HC0 := Aside0.mk hc0
  clear hr0 hc0
  have H : (spec_l06Ids.l0 k l0 0) = some r := h
  clear h
  have H' := Aside0.mk H
  clear H
  go_enter Try.func112, Try.ntmps112
  go_wp2
  repeat (go_quiet (fail); try go_wp2)
  go_loopg [3] k (fun kq v3 w' => ∃ (x3_1 : Int), v3 = .int .i64 x3_1 ∧ Aside0 (spec_l06Ids.l0 kq l0 x3_1 = some r) ∧ Aside0 (kq ≤ k) ∧ Drawn0 w w')
  case atStart => exact ⟨(0), u4_2, H', ⟨Nat.le_refl _⟩, u4_1⟩
  clear H'
  try clear c1
  obtain ⟨x3_1, rfl, HA, HK1, ⟨m1, rfl⟩⟩ := hrel
  cases gk with
  | zero => exact absurd HA.out (by simp [spec_l06Ids.l0])
  | succ k1 =>
    have H := HA.out
    clear HA
    simp only [spec_l06Ids.l0] at H
    by_cases c2 : x3_1 < (l0.length : Int)
    rotate_left
    · rw [if_neg c2] at H
      have c2b0 : decide (x3_1 < (l0.length : Int)) = false := decide_eq_false c2
      clear c2
      obtain rfl := Option.some.inj H
      go_wp2
      repeat (go_quiet (fail); try go_wp2)
      go_ret
      exact ⟨by first | rfl | (simp; done) | (simp [*]; done), u4_1⟩
    rw [if_pos c2] at H
    have c2b0 : decide (x3_1 < (l0.length : Int)) = true := decide_eq_true c2
    clear c2
    by_cases c3 : 0 ≤ x3_1
    rotate_left
    · rw [if_neg c3] at H
      exact absurd H (by simp)
    rw [if_pos c3] at H
    have c3b0 : decide (0 ≤ x3_1) = true := decide_eq_true c3
    clear c3
    replace H := Option.bind_eq_some_iff.mp H
    obtain ⟨t142, A40, H⟩ := H
    have A4 := Aside0.mk A40
    clear A40
    by_cases c5 : t142 = true
    rotate_left
    · replace c5 := Bool.eq_false_iff.mpr c5
      subst c5
      rw [if_neg (show ¬ (false = true) by decide)] at H
      obtain rfl := Option.some.inj H
      have p141 : 0 ≤ (x3_1 : Int) := of_decide_eq_true u4_0
      have q141 : x3_1 < (l0.length : Int) := of_decide_eq_true u4_0
      obtain ⟨ad141, e141, hx141_0⟩ := Kd.at_int HR0.out x3_1 p141 q141
      cases e141
      replace p141 := eq_true p141
      replace q141 := eq_true q141
      go_wp2_with (first | (first | (go_at_call 63; (with_reducible refine (spec_l01In.calls (rd l0 x3_1) 0 99 false _ A4.out).mono ?_); rintro e w' ⟨rfl, ⟨nd, rfl⟩⟩; (try first | exact ⟨rfl, _, World.drewN_drewN _ _ _⟩ | exact ⟨rfl, _, Eq.trans (World.drewN_drewN _ _ _) (congrArg (World.drewN _) (Nat.add_assoc _ _ _))⟩))) | go_quiet (first | (go_at_call 63; (with_reducible refine (spec_l01In.calls (rd l0 x3_1) 0 99 false _ A4.out).mono ?_); rintro e w' ⟨rfl, ⟨nd, rfl⟩⟩; (try first | exact ⟨rfl, _, World.drewN_drewN _ _ _⟩ | exact ⟨rfl, _, Eq.trans (World.drewN_drewN _ _ _) (congrArg (World.drewN _) (Nat.add_assoc _ _ _))⟩))))
      go_ret
      exact ⟨by first | rfl | (simp; done) | (simp [*]; done), u4_1⟩
    subst c5
    rw [if_pos rfl] at H
    by_cases c6 : x3_1 > 0
    rotate_left
    · rw [if_neg c6] at H
      have c6b0 : decide (0 < x3_1) = false := decide_eq_false c6
      clear c6
      have H' := Aside0.mk H
      clear H
      have p141 : 0 ≤ (x3_1 : Int) := of_decide_eq_true u4_0
      have q141 : x3_1 < (l0.length : Int) := of_decide_eq_true u4_0
      obtain ⟨ad141, e141, hx141_0⟩ := Kd.at_int HR0.out x3_1 p141 q141
      cases e141
      replace p141 := eq_true p141
      replace q141 := eq_true q141
      go_wp2_with (first | (first | (go_at_call 63; (with_reducible refine (spec_l01In.calls (rd l0 x3_1) 0 99 true _ A4.out).mono ?_); rintro e w' ⟨rfl, ⟨nd, rfl⟩⟩; (try first | exact ⟨rfl, _, World.drewN_drewN _ _ _⟩ | exact ⟨rfl, _, Eq.trans (World.drewN_drewN _ _ _) (congrArg (World.drewN _) (Nat.add_assoc _ _ _))⟩))) | go_quiet (first | (go_at_call 63; (with_reducible refine (spec_l01In.calls (rd l0 x3_1) 0 99 true _ A4.out).mono ?_); rintro e w' ⟨rfl, ⟨nd, rfl⟩⟩; (try first | exact ⟨rfl, _, World.drewN_drewN _ _ _⟩ | exact ⟨rfl, _, Eq.trans (World.drewN_drewN _ _ _) (congrArg (World.drewN _) (Nat.add_assoc _ _ _))⟩))))
      go_roundg k1
      case measure => have := HK1.out; omega
      case rel => exact ⟨(wrap64 (x3_1 + 1)), u4_2, H', ⟨by have := HK1.out; omega⟩, u4_1⟩
    rw [if_pos c6] at H
    have c6b0 : decide (0 < x3_1) = true := decide_eq_true c6
    clear c6
    obtain ⟨ji7, hji7⟩ : ∃ j_ : Int, (wrap64 (x3_1 - 1)) = j_ := ⟨_, rfl⟩
    replace H : (if 0 ≤ (ji7) then (if (ji7) < (l0.length : Int) then (if (rd l0 (ji7)) ≥ (rd l0 x3_1) then (some false) else (spec_l06Ids.l0 k1 l0 (wrap64 (x3_1 + 1)))) else (none)) else (none)) = some r := by first | (rw [hji7] at H; exact H) | (simp only [hji7] at H ⊢; exact H)
    (try rw [hji7] at A4)
    have hji7w : (IntKind.i64.wrap (x3_1 - 1)) = ji7 := (i64_w _).trans hji7
    by_cases c8 : 0 ≤ (ji7)
    rotate_left
    · rw [if_neg c8] at H
      exact absurd H (by simp)
    rw [if_pos c8] at H
    have c8b0 : decide (0 ≤ (ji7)) = true := decide_eq_true c8
    clear c8
    by_cases c9 : (ji7) < (l0.length : Int)
    rotate_left
    · rw [if_neg c9] at H
      exact absurd H (by simp)
    rw [if_pos c9] at H
    have c9b0 : decide ((ji7) < (l0.length : Int)) = true := decide_eq_true c9
    clear c9
    have H9 := Aside0.mk H
    clear H
    have p141 : 0 ≤ (x3_1 : Int) := of_decide_eq_true u4_0
    have q141 : x3_1 < (l0.length : Int) := of_decide_eq_true u4_0
    obtain ⟨ad141, e141, hx141_0⟩ := Kd.at_int HR0.out x3_1 p141 q141
    cases e141
    replace p141 := eq_true p141
    replace q141 := eq_true q141
    go_upto_if 31 with (first | (go_at_call 63; (with_reducible refine (spec_l01In.calls (rd l0 x3_1) 0 99 true _ A4.out).mono ?_); rintro e w' ⟨rfl, ⟨nd, rfl⟩⟩; (try first | exact ⟨rfl, _, World.drewN_drewN _ _ _⟩ | exact ⟨rfl, _, Eq.trans (World.drewN_drewN _ _ _) (congrArg (World.drewN _) (Nat.add_assoc _ _ _))⟩); have p143 : 0 ≤ ((ji7) : Int) := of_decide_eq_true u4_0; have q143 : (ji7) < (l0.length : Int) := of_decide_eq_true u4_0; obtain ⟨ad143, e143, hx143_0⟩ := Kd.at_int HR0.out (ji7) p143 q143; obtain rfl : ad141 = ad143 := (by injection e143); replace p143 := eq_true p143; replace q143 := eq_true q143; have p144 : 0 ≤ (x3_1 : Int) := of_decide_eq_true u4_0; have q144 : x3_1 < (l0.length : Int) := of_decide_eq_true u4_0; obtain ⟨ad144, e144, hx144_0⟩ := Kd.at_int HR0.out x3_1 p144 q144; obtain rfl : ad141 = ad144 := (by injection e144); replace p144 := eq_true p144; replace q144 := eq_true q144))
    repeat (go_quiet (first | (go_at_call 63; (with_reducible refine (spec_l01In.calls (rd l0 x3_1) 0 99 true _ A4.out).mono ?_); rintro e w' ⟨rfl, ⟨nd, rfl⟩⟩; (try first | exact ⟨rfl, _, World.drewN_drewN _ _ _⟩ | exact ⟨rfl, _, Eq.trans (World.drewN_drewN _ _ _) (congrArg (World.drewN _) (Nat.add_assoc _ _ _))⟩); have p143 : 0 ≤ ((ji7) : Int) := of_decide_eq_true u4_0; have q143 : (ji7) < (l0.length : Int) := of_decide_eq_true u4_0; obtain ⟨ad143, e143, hx143_0⟩ := Kd.at_int HR0.out (ji7) p143 q143; obtain rfl : ad141 = ad143 := (by injection e143); replace p143 := eq_true p143; replace q143 := eq_true q143; have p144 : 0 ≤ (x3_1 : Int) := of_decide_eq_true u4_0; have q144 : x3_1 < (l0.length : Int) := of_decide_eq_true u4_0; obtain ⟨ad144, e144, hx144_0⟩ := Kd.at_int HR0.out x3_1 p144 q144; obtain rfl : ad141 = ad144 := (by injection e144); replace p144 := eq_true p144; replace q144 := eq_true q144)); go_upto_if 31 with (first | (go_at_call 63; (with_reducible refine (spec_l01In.calls (rd l0 x3_1) 0 99 true _ A4.out).mono ?_); rintro e w' ⟨rfl, ⟨nd, rfl⟩⟩; (try first | exact ⟨rfl, _, World.drewN_drewN _ _ _⟩ | exact ⟨rfl, _, Eq.trans (World.drewN_drewN _ _ _) (congrArg (World.drewN _) (Nat.add_assoc _ _ _))⟩); have p143 : 0 ≤ ((ji7) : Int) := of_decide_eq_true u4_0; have q143 : (ji7) < (l0.length : Int) := of_decide_eq_true u4_0; obtain ⟨ad143, e143, hx143_0⟩ := Kd.at_int HR0.out (ji7) p143 q143; obtain rfl : ad141 = ad143 := (by injection e143); replace p143 := eq_true p143; replace q143 := eq_true q143; have p144 : 0 ≤ (x3_1 : Int) := of_decide_eq_true u4_0; have q144 : x3_1 < (l0.length : Int) := of_decide_eq_true u4_0; obtain ⟨ad144, e144, hx144_0⟩ := Kd.at_int HR0.out x3_1 p144 q144; obtain rfl : ad141 = ad144 := (by injection e144); replace p144 := eq_true p144; replace q144 := eq_true q144)))
    have H := H9.out
    clear H9
    by_cases c10 : (rd l0 (ji7)) ≥ (rd l0 x3_1)
    · rw [if_pos c10] at H
      have c10b0 : decide ((rd l0 x3_1) ≤ (rd l0 (ji7))) = true := decide_eq_true c10
      clear c10
      (first | rw [c10b0] | (simp only [i64_w, i32_w]; rw [c10b0]) | skip)
      obtain rfl := Option.some.inj H
      go_wp2
      repeat (go_quiet (fail); try go_wp2)
      go_ret
      exact ⟨by first | rfl | (simp; done) | (simp only [← hji7] <;> (first | rfl | simp)) | (simp [*]; done), u4_1⟩
    rw [if_neg c10] at H
    have c10b0 : decide ((rd l0 x3_1) ≤ (rd l0 (ji7))) = false := decide_eq_false c10
    clear c10
    (first | rw [c10b0] | (simp only [i64_w, i32_w]; rw [c10b0]) | skip)
    have H' := Aside0.mk H
    clear H
    go_wp2
    repeat (go_quiet (fail); try go_wp2)
    go_roundg k1
    case measure => have := HK1.out; omega
    case rel => exact ⟨(wrap64 (x3_1 + 1)), u4_2, H', ⟨by have := HK1.out; omega⟩, u4_1⟩

/-! ### spec_l06Set: function 74 -/
def spec_l06Set.f (k : Nat) (l0 : List Int) : Option (Bool) := (spec_l06Ids.f k l0).bind fun t145 => (if t145 = true then (some (decide ((l0.length : Int) > 0))) else (some false))
theorem spec_l06Set.mono : ∀ a0 k, LeO (spec_l06Set.f k a0) (spec_l06Set.f (k + 1) a0) := by
  intro a0 k
  unfold spec_l06Set.f
  repeat' first
      | (with_reducible exact spec_l06Ids.mono _ _)
      | (with_reducible exact LeO.refl _)
      | (with_reducible exact LeO.none _)
      | (with_reducible refine LeO.ite ?_ ?_)
      | (with_reducible refine LeO.bind ?_ (fun _ => ?_))
      | exact spec_l06Ids.mono _ _
      | exact LeO.none _
      | refine LeO.ite ?_ ?_
      | refine LeO.bind ?_ (fun _ => ?_)
set_option maxHeartbeats 8000000 in
set_option maxRecDepth 100000 in
theorem spec_l06Set.calls (k : Nat) (A0 : Option Addr) (c0 : Nat) (l0 : List Int) (r : Bool) (w : World) (hr0 : Kd.C (Kd.int .i64) w A0 l0.length l0) (hc0 : l0.length ≤ c0) (h : spec_l06Set.f k l0 = some r) :
    Calls Try.prog 74 #[.slice A0 l0.length c0] w fun e w' => e = .returned (.bool r) ∧ Drawn0 w w' := by
  have HR0 := Aside0.mk hr0
  have HC0 := Aside0.mk hc0
  clear hr0 hc0
  have H : ((spec_l06Ids.f k l0).bind fun t145 => (if t145 = true then (some (decide ((l0.length : Int) > 0))) else (some false))) = some r := h
  clear h
  replace H := Option.bind_eq_some_iff.mp H
  obtain ⟨t145, A20, H⟩ := H
  replace H : (if t145 = true then (some (decide ((l0.length : Int) > 0))) else (some false)) = some r := H
  have A2 := Aside0.mk A20
  clear A20
  by_cases c3 : t145 = true
  · subst c3
    rw [if_pos rfl] at H
    obtain rfl := Option.some.inj H
    go_enter Try.func74, Try.ntmps74
    go_wp2_with (first | ((with_reducible refine gate_callee (f := 112) rfl ?_); refine goesL_ (some 4) rfl rfl Try.func112 (by kernel_rfl) rfl #[.slice A0 l0.length c0] rfl u4_4 ?_; (with_reducible refine (spec_l06Ids.calls k _ _ l0 true _ ?side1 ?side2 A2.out).mono ?_); (case side1 => exact u4_3); (case side2 => exact HC0.out); rintro e w' ⟨rfl, ⟨nd, rfl⟩⟩; refine ⟨_, rfl, ?_⟩))
    go_ret
    exact ⟨by first | rfl | (simp; done) | (simp [*]; done), u4_1⟩
  replace c3 := Bool.eq_false_iff.mpr c3
  subst c3
  rw [if_neg (show ¬ (false = true) by decide)] at H
  obtain rfl := Option.some.inj H
  go_enter Try.func74, Try.ntmps74
  go_wp2_with (first | ((with_reducible refine gate_callee (f := 112) rfl ?_); refine goesL_ (some 4) rfl rfl Try.func112 (by kernel_rfl) rfl #[.slice A0 l0.length c0] rfl u4_4 ?_; (with_reducible refine (spec_l06Ids.calls k _ _ l0 false _ ?side1 ?side2 A2.out).mono ?_); (case side1 => exact u4_3); (case side2 => exact HC0.out); rintro e w' ⟨rfl, ⟨nd, rfl⟩⟩; refine ⟨_, rfl, ?_⟩))
  go_ret
  exact ⟨by first | rfl | (simp; done) | (simp [*]; done), u4_1⟩

/-! ### spec_l01Has: function 75 -/
def spec_l01Has.l0 : Nat → List Int → Int → Int → Option (Bool)
  | 0, _, _, _ => none
  | k + 1, x0, x1, x5 => if x5 < (x0.length : Int) then (if 0 ≤ x5 then (if (rd x0 x5) = x1 then (some true) else (spec_l01Has.l0 k x0 x1 (wrap64 (x5 + 1)))) else (none)) else (some false)
def spec_l01Has.f (k : Nat) (l0 : List Int) (a1 : Int) : Option (Bool) := spec_l01Has.l0 k l0 a1 0
theorem spec_l01Has.mono_l : ∀ k, (∀ y0 y1 y2, LeO (spec_l01Has.l0 k y0 y1 y2) (spec_l01Has.l0 (k + 1) y0 y1 y2))
  | 0 => fun _ _ _ r h => by simp [spec_l01Has.l0] at h
  | k + 1 => by
    have ih0 := spec_l01Has.mono_l k
    · intro y0 y1 y2
      unfold spec_l01Has.l0
      repeat' first
      | (with_reducible exact ih0 _ _ _)
      | (with_reducible exact LeO.refl _)
      | (with_reducible exact LeO.none _)
      | (with_reducible refine LeO.ite ?_ ?_)
      | (with_reducible refine LeO.bind ?_ (fun _ => ?_))
      | exact ih0 _ _ _
      | exact LeO.none _
      | refine LeO.ite ?_ ?_
      | refine LeO.bind ?_ (fun _ => ?_)
theorem spec_l01Has.mono : ∀ a0 a1 k, LeO (spec_l01Has.f k a0 a1) (spec_l01Has.f (k + 1) a0 a1) := by
  intro a0 a1 k
  have ih0 := spec_l01Has.mono_l k
  unfold spec_l01Has.f
  repeat' first
      | (with_reducible exact ih0 _ _ _)
      | (with_reducible exact LeO.refl _)
      | (with_reducible exact LeO.none _)
      | (with_reducible refine LeO.ite ?_ ?_)
      | (with_reducible refine LeO.bind ?_ (fun _ => ?_))
      | exact ih0 _ _ _
      | exact LeO.none _
      | refine LeO.ite ?_ ?_
      | refine LeO.bind ?_ (fun _ => ?_)
set_option maxHeartbeats 8000000 in
set_option maxRecDepth 100000 in
theorem spec_l01Has.calls (k : Nat) (A0 : Option Addr) (c0 : Nat) (l0 : List Int) (a1 : Int) (r : Bool) (w : World) (hr0 : Kd.C (Kd.int .i64) w A0 l0.length l0) (hc0 : l0.length ≤ c0) (h : spec_l01Has.f k l0 a1 = some r) :
    Calls Try.prog 75 #[.slice A0 l0.length c0, .int .i64 a1] w fun e w' => e = .returned (.bool r) ∧ Drawn0 w w' := by
  have HR0 := Aside0.mk hr0
  have HC0 := Aside0.mk hc0
  clear hr0 hc0
  have H : (spec_l01Has.l0 k l0 a1 0) = some r := h
  clear h
  have H' := Aside0.mk H
  clear H
  go_enter Try.func75, Try.ntmps75
  go_wp2
  go_loopg [5] k (fun kq v5 w' => ∃ (x5_1 : Int), v5 = .int .i64 x5_1 ∧ Aside0 (spec_l01Has.l0 kq l0 a1 x5_1 = some r) ∧ Aside0 (kq ≤ k) ∧ Drawn0 w w')
  case atStart => exact ⟨(0), u4_2, H', ⟨Nat.le_refl _⟩, u4_1⟩
  clear H'
  try clear p2
  obtain ⟨x5_1, rfl, HA, HK1, ⟨m1, rfl⟩⟩ := hrel
  cases gk with
  | zero => exact absurd HA.out (by simp [spec_l01Has.l0])
  | succ k1 =>
    have H := HA.out
    clear HA
    simp only [spec_l01Has.l0] at H
    by_cases c3 : x5_1 < (l0.length : Int)
    rotate_left
    · rw [if_neg c3] at H
      have c3b0 : decide (x5_1 < (l0.length : Int)) = false := decide_eq_false c3
      clear c3
      obtain rfl := Option.some.inj H
      go_wp2
      go_ret
      exact ⟨by first | rfl | (simp; done) | (simp [*]; done), u4_1⟩
    rw [if_pos c3] at H
    have c3b0 : decide (x5_1 < (l0.length : Int)) = true := decide_eq_true c3
    clear c3
    by_cases c4 : 0 ≤ x5_1
    rotate_left
    · rw [if_neg c4] at H
      exact absurd H (by simp)
    rw [if_pos c4] at H
    have c4b0 : decide (0 ≤ x5_1) = true := decide_eq_true c4
    clear c4
    have H9 := Aside0.mk H
    clear H
    have p146 : 0 ≤ (x5_1 : Int) := of_decide_eq_true u4_0
    have q146 : x5_1 < (l0.length : Int) := of_decide_eq_true u4_0
    obtain ⟨ad146, e146, hx146_0⟩ := Kd.at_int HR0.out x5_1 p146 q146
    cases e146
    replace p146 := eq_true p146
    replace q146 := eq_true q146
    go_upto_if 17 with (fail)
    have H := H9.out
    clear H9
    by_cases c5 : (rd l0 x5_1) = a1
    · rw [if_pos c5] at H
      have c5b0 : ((rd l0 x5_1) == a1) = true := beq_iff_eq.mpr c5
      have c5b1 : ((rd l0 x5_1) != a1) = false := bne_eq_false_iff_eq.mpr c5
      clear c5
      (first | rw [c5b0] | (simp only [i64_w, i32_w]; rw [c5b0]) | skip)
      obtain rfl := Option.some.inj H
      go_wp2
      go_ret
      exact ⟨by first | rfl | (simp; done) | (simp [*]; done), u4_1⟩
    rw [if_neg c5] at H
    have c5b0 : ((rd l0 x5_1) == a1) = false := beq_eq_false_iff_ne.mpr c5
    have c5b1 : ((rd l0 x5_1) != a1) = true := bne_iff_ne.mpr c5
    (first | rw [c5b0] | (simp only [i64_w, i32_w]; rw [c5b0]) | skip)
    have H' := Aside0.mk H
    clear H
    go_wp2
    go_roundg k1
    case measure => have := HK1.out; omega
    case rel => exact ⟨(wrap64 (x5_1 + 1)), u4_2, H', ⟨by have := HK1.out; omega⟩, u4_1⟩

end Go.Proofs.Ytkcadcoohmofcaa.QFnExactNodeOk
