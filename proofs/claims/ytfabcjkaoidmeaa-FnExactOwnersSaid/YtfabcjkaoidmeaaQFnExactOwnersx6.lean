-- Printed by the session's own program wip/prx.py.
import Derived.Test.YtfabcjkaoidmeaaQFnExactOwnersx0
import Derived.Test.YtfabcjkaoidmeaaQFnExactOwnersx1
import Derived.Test.YtfabcjkaoidmeaaQFnExactOwnersx3
import Derived.Test.YtfabcjkaoidmeaaQFnExactOwnersx5
namespace Go.Proofs.Ytfabcjkaoidmeaa.QFnExactOwners
open Go.RowKit Go.Proofs.YtfabcjkaoidmeaaW.PrintWords Go.Proofs.YtfabcjkaoidmeaaW.PrintLast Go.Proofs.YtfabcjkaoidmeaaW.PrintMore
attribute [local go_sem] max2_int min2_int max_two min_two max_three min_three max_four min_four Go.Proofs.Ytfabcjkaoidmeaa.Set.isSome_setCell   -- for this text's walks alone
set_option linter.unusedVariables false
set_option linter.unusedSimpArgs false

-- squeezed
theorem u6_0 {P : Prop} (h : P := by repeat (first | (with_reducible first | exact HB.out | apply below_alloc | apply pw_below_drewN | apply below_drew1) | exact HB.out)) : P := h
theorem u6_1 {P : Prop} (h : P := by (try simp only [List.map_toArray, List.map_cons, List.map_nil]); first | done | rfl | (simp only [List.length_drop, List.length_take]; rfl)) : P := h
theorem u6_2 {P : Prop} (h : P := by (with_reducible repeat (first | apply Kd.R_alloc | apply Kd.R_drewN | apply Kd.R_drew)); exact HO164.out) : P := h
theorem u6_3 {P : Prop} (h : P := by (with_reducible repeat (first | apply Kd.R_alloc | apply Kd.R_drewN | apply Kd.R_drew)); exact HO167.out) : P := h
theorem u6_4 {P : Prop} (h : P := by (with_reducible repeat (first | apply Kd.R_alloc | apply Kd.R_drewN | apply Kd.R_drew)); exact HO170.out) : P := h
theorem u6_5 {P : Prop} (h : P := by repeat (first | exact (Kd.R_reads' HO173.out).2.2 | (with_reducible refine Kd.C_alloc ?_ _) | (with_reducible refine Kd.C_drewN ?_ _) | (with_reducible refine Kd.C_drew ?_))) : P := h
theorem u6_6 {P : Prop} (h : P := by (with_reducible repeat (first | apply Kd.R_alloc | apply Kd.R_drewN | apply Kd.R_drew)); exact HO173.out) : P := h
theorem u6_7 {P : Prop} (h : P := by repeat (first | exact (Kd.R_reads' HO167.out).2.2 | (with_reducible refine Kd.C_alloc ?_ _) | (with_reducible refine Kd.C_drewN ?_ _) | (with_reducible refine Kd.C_drew ?_))) : P := h
theorem u6_8 {P : Prop} (h : P := by (with_reducible repeat (first | apply Kd.R_alloc | apply Kd.R_drewN | apply Kd.R_drew)); exact HO177.out) : P := h
theorem u6_9 {P : Prop} (h : P := by (try simp only [List.map_toArray, List.map_cons, List.map_nil]); first | done | (rw [show t183.length = t171.length from (Kd.R_reads' HO173.out).1.symm] <;> rfl) | rfl | (simp only [List.length_drop, List.length_take]; rfl)) : P := h
theorem u6_10 {P : Prop} (h : P := by repeat (first | exact (Kd.C_below HR0.out HB.out) | (with_reducible refine Kd.C_alloc ?_ _) | (with_reducible refine Kd.C_drewN ?_ _) | (with_reducible refine Kd.C_drew ?_))) : P := h
theorem u6_11 {P : Prop} (h : P := by repeat (first | exact (Kd.R_reads' HO170.out).2.2 | (with_reducible refine Kd.C_alloc ?_ _) | (with_reducible refine Kd.C_drewN ?_ _) | (with_reducible refine Kd.C_drew ?_))) : P := h
theorem u6_12 {P : Prop} (h : P := by repeat (first | exact (Kd.C_below HR0.out u6_0) | (with_reducible refine Kd.C_alloc ?_ _) | (with_reducible refine Kd.C_drewN ?_ _) | (with_reducible refine Kd.C_drew ?_))) : P := h
theorem u6_13 {P : Prop} (h : P := by rw [show t183.length = t171.length from (Kd.R_reads' HO173.out).1.symm]; exact (Kd.R_reads' HO173.out).2.1) : P := h
/-! ### laws_FnExactOwners: function 14 -/
def laws_FnExactOwners.f (k : Nat) (l0 : List (S24)) : Option (Bool) := (laws_szRangeS.f l0 1048576).bind fun t161 => (if t161 < 0 then (some true) else ((laws_toRangeS.f k l0).bind fun t162 => ((spec_Owners.f k t162).bind fun t165 => ((laws_toRangeS.f k l0).bind fun t168 => ((impl_Owners.f k t168).bind fun t171 => ((laws_eqIntS.f k t171 t165).bind fun t174 => (if t174 = true then ((laws_toRangeS.f k l0).bind fun t175 => ((laws_eqRangeS.f k t168 t175).bind fun t178 => (if t178 = true then ((laws_markRangeS.f k t168 1).bind fun bt179 => (if bt179.1 < 0 then (some false) else ((laws_eqIntS.f k t171 t165).bind fun t181 => (if t181 = true then ((laws_markIntS.f k t171 1).bind fun bt182 => ((laws_heldIntS.f k bt182.2 1).bind fun t184 => (if t184 < 0 then (some false) else (if t184 = bt182.1 then ((laws_toRangeS.f k l0).bind fun t185 => ((impl_Owners.f k t185).bind fun t188 => ((laws_eqIntS.f k t188 t165).bind fun t191 => (if t191 = true then ((laws_heldIntS.f k bt182.2 1).bind fun t192 => (if t192 < 0 then (some false) else (if t192 = bt182.1 then (some true) else (some false)))) else (some false))))) else (some false))))) else (some false))))) else (some false)))) else (some false))))))))
theorem laws_FnExactOwners.mono : ∀ a0 k, LeO (laws_FnExactOwners.f k a0) (laws_FnExactOwners.f (k + 1) a0) := by
  intro a0 k
  unfold laws_FnExactOwners.f
  repeat' first
      | (with_reducible exact impl_Owners.mono _ _)
      | (with_reducible exact laws_eqIntS.mono _ _ _)
      | (with_reducible exact laws_eqRangeS.mono _ _ _)
      | (with_reducible exact laws_heldIntS.mono _ _ _)
      | (with_reducible exact laws_markIntS.mono _ _ _)
      | (with_reducible exact laws_markRangeS.mono _ _ _)
      | (with_reducible exact laws_toRangeS.mono _ _)
      | (with_reducible exact spec_Owners.mono _ _)
      | (with_reducible exact LeO.refl _)
      | (with_reducible exact LeO.none _)
      | (with_reducible refine LeO.ite ?_ ?_)
      | (with_reducible refine LeO.bind ?_ (fun _ => ?_))
      | exact impl_Owners.mono _ _
      | exact laws_eqIntS.mono _ _ _
      | exact laws_eqRangeS.mono _ _ _
      | exact laws_heldIntS.mono _ _ _
      | exact laws_markIntS.mono _ _ _
      | exact laws_markRangeS.mono _ _ _
      | exact laws_toRangeS.mono _ _
      | exact spec_Owners.mono _ _
      | exact LeO.none _
      | refine LeO.ite ?_ ?_
      | refine LeO.bind ?_ (fun _ => ?_)
set_option maxHeartbeats 8000000 in
set_option maxRecDepth 100000 in
theorem laws_FnExactOwners.calls (k : Nat) (A0 : Option Addr) (c0 : Nat) (l0 : List (S24)) (r : Bool) (w : World) (hr0 : Kd.C k24 w A0 l0.length l0) (hc0 : l0.length ≤ c0) (h : laws_FnExactOwners.f k l0 = some r) (hr_ : Aside0 (r = true)) :
    Calls Try.prog 14 #[.slice A0 l0.length c0] w fun e w' => e = .returned (.bool r) ∧ Below w.heap.size w w' := by
  have HR0 := Aside0.mk hr0
  have HC0 := Aside0.mk hc0
  clear hr0 hc0
  have HB := Aside0.mk (Below.refl w.heap.size w)
  have H : ((laws_szRangeS.f l0 1048576).bind fun t161 => (if t161 < 0 then (some true) else ((laws_toRangeS.f k l0).bind fun t162 => ((spec_Owners.f k t162).bind fun t165 => ((laws_toRangeS.f k l0).bind fun t168 => ((impl_Owners.f k t168).bind fun t171 => ((laws_eqIntS.f k t171 t165).bind fun t174 => (if t174 = true then ((laws_toRangeS.f k l0).bind fun t175 => ((laws_eqRangeS.f k t168 t175).bind fun t178 => (if t178 = true then ((laws_markRangeS.f k t168 1).bind fun bt179 => (if bt179.1 < 0 then (some false) else ((laws_eqIntS.f k t171 t165).bind fun t181 => (if t181 = true then ((laws_markIntS.f k t171 1).bind fun bt182 => ((laws_heldIntS.f k bt182.2 1).bind fun t184 => (if t184 < 0 then (some false) else (if t184 = bt182.1 then ((laws_toRangeS.f k l0).bind fun t185 => ((impl_Owners.f k t185).bind fun t188 => ((laws_eqIntS.f k t188 t165).bind fun t191 => (if t191 = true then ((laws_heldIntS.f k bt182.2 1).bind fun t192 => (if t192 < 0 then (some false) else (if t192 = bt182.1 then (some true) else (some false)))) else (some false))))) else (some false))))) else (some false))))) else (some false)))) else (some false))))))))) = some r := h
  clear h
  replace H := Option.bind_eq_some_iff.mp H
  obtain ⟨t161, A20, H⟩ := H
  replace H : (if t161 < 0 then (some true) else ((laws_toRangeS.f k l0).bind fun t162 => ((spec_Owners.f k t162).bind fun t165 => ((laws_toRangeS.f k l0).bind fun t168 => ((impl_Owners.f k t168).bind fun t171 => ((laws_eqIntS.f k t171 t165).bind fun t174 => (if t174 = true then ((laws_toRangeS.f k l0).bind fun t175 => ((laws_eqRangeS.f k t168 t175).bind fun t178 => (if t178 = true then ((laws_markRangeS.f k t168 1).bind fun bt179 => (if bt179.1 < 0 then (some false) else ((laws_eqIntS.f k t171 t165).bind fun t181 => (if t181 = true then ((laws_markIntS.f k t171 1).bind fun bt182 => ((laws_heldIntS.f k bt182.2 1).bind fun t184 => (if t184 < 0 then (some false) else (if t184 = bt182.1 then ((laws_toRangeS.f k l0).bind fun t185 => ((impl_Owners.f k t185).bind fun t188 => ((laws_eqIntS.f k t188 t165).bind fun t191 => (if t191 = true then ((laws_heldIntS.f k bt182.2 1).bind fun t192 => (if t192 < 0 then (some false) else (if t192 = bt182.1 then (some true) else (some false)))) else (some false))))) else (some false))))) else (some false))))) else (some false)))) else (some false)))))))) = some r := H
  have A2 := Aside0.mk A20
  clear A20
  have H9 := Aside0.mk H
  clear H
  go_enter Try.func14, Try.ntmps14
  go_upto_if 15 with (first | ((with_reducible refine gate_callee (f := 18) rfl ?_); refine goesL_ (some 13) rfl rfl Try.func18 (by kernel_rfl) rfl #[.slice A0 l0.length c0, .int .i64 1048576] rfl u6_1 ?_; (with_reducible refine (laws_szRangeS.calls _ _ l0 1048576 t161 _ ?side1 ?side2 A2.out).mono ?_); (case side1 => exact (by repeat (first | exact HR0.out | (with_reducible refine Kd.C_alloc ?_ _) | (with_reducible refine Kd.C_drewN ?_ _) | (with_reducible refine Kd.C_drew ?_)))); (case side2 => exact HC0.out); rintro e w' ⟨rfl, ⟨nd, rfl⟩⟩; refine ⟨_, rfl, ?_⟩))
  have H := H9.out
  clear H9
  by_cases c3 : t161 < 0
  · rw [if_pos c3] at H
    have c3b0 : decide (t161 < 0) = true := decide_eq_true c3
    clear c3
    (first | rw [c3b0] | (simp only [i64_w, i32_w]; rw [c3b0]) | skip)
    obtain rfl := Option.some.inj H
    go_wp2
    go_ret
    exact ⟨by first | rfl | (simp [errW_none, errW_some] <;> rfl) | (simp [*, errW_none, errW_some] <;> rfl), u6_0⟩
  rw [if_neg c3] at H
  have c3b0 : decide (t161 < 0) = false := decide_eq_false c3
  clear c3
  (first | rw [c3b0] | (simp only [i64_w, i32_w]; rw [c3b0]) | skip)
  replace H := Option.bind_eq_some_iff.mp H
  obtain ⟨t162, A40, H⟩ := H
  replace H : ((spec_Owners.f k t162).bind fun t165 => ((laws_toRangeS.f k l0).bind fun t168 => ((impl_Owners.f k t168).bind fun t171 => ((laws_eqIntS.f k t171 t165).bind fun t174 => (if t174 = true then ((laws_toRangeS.f k l0).bind fun t175 => ((laws_eqRangeS.f k t168 t175).bind fun t178 => (if t178 = true then ((laws_markRangeS.f k t168 1).bind fun bt179 => (if bt179.1 < 0 then (some false) else ((laws_eqIntS.f k t171 t165).bind fun t181 => (if t181 = true then ((laws_markIntS.f k t171 1).bind fun bt182 => ((laws_heldIntS.f k bt182.2 1).bind fun t184 => (if t184 < 0 then (some false) else (if t184 = bt182.1 then ((laws_toRangeS.f k l0).bind fun t185 => ((impl_Owners.f k t185).bind fun t188 => ((laws_eqIntS.f k t188 t165).bind fun t191 => (if t191 = true then ((laws_heldIntS.f k bt182.2 1).bind fun t192 => (if t192 < 0 then (some false) else (if t192 = bt182.1 then (some true) else (some false)))) else (some false))))) else (some false))))) else (some false))))) else (some false)))) else (some false)))))) = some r := H
  have A4 := Aside0.mk A40
  clear A40
  replace H := Option.bind_eq_some_iff.mp H
  obtain ⟨t165, A50, H⟩ := H
  replace H : ((laws_toRangeS.f k l0).bind fun t168 => ((impl_Owners.f k t168).bind fun t171 => ((laws_eqIntS.f k t171 t165).bind fun t174 => (if t174 = true then ((laws_toRangeS.f k l0).bind fun t175 => ((laws_eqRangeS.f k t168 t175).bind fun t178 => (if t178 = true then ((laws_markRangeS.f k t168 1).bind fun bt179 => (if bt179.1 < 0 then (some false) else ((laws_eqIntS.f k t171 t165).bind fun t181 => (if t181 = true then ((laws_markIntS.f k t171 1).bind fun bt182 => ((laws_heldIntS.f k bt182.2 1).bind fun t184 => (if t184 < 0 then (some false) else (if t184 = bt182.1 then ((laws_toRangeS.f k l0).bind fun t185 => ((impl_Owners.f k t185).bind fun t188 => ((laws_eqIntS.f k t188 t165).bind fun t191 => (if t191 = true then ((laws_heldIntS.f k bt182.2 1).bind fun t192 => (if t192 < 0 then (some false) else (if t192 = bt182.1 then (some true) else (some false)))) else (some false))))) else (some false))))) else (some false))))) else (some false)))) else (some false))))) = some r := H
  have A5 := Aside0.mk A50
  clear A50
  replace H := Option.bind_eq_some_iff.mp H
  obtain ⟨t168, A60, H⟩ := H
  replace H : ((impl_Owners.f k t168).bind fun t171 => ((laws_eqIntS.f k t171 t165).bind fun t174 => (if t174 = true then ((laws_toRangeS.f k l0).bind fun t175 => ((laws_eqRangeS.f k t168 t175).bind fun t178 => (if t178 = true then ((laws_markRangeS.f k t168 1).bind fun bt179 => (if bt179.1 < 0 then (some false) else ((laws_eqIntS.f k t171 t165).bind fun t181 => (if t181 = true then ((laws_markIntS.f k t171 1).bind fun bt182 => ((laws_heldIntS.f k bt182.2 1).bind fun t184 => (if t184 < 0 then (some false) else (if t184 = bt182.1 then ((laws_toRangeS.f k l0).bind fun t185 => ((impl_Owners.f k t185).bind fun t188 => ((laws_eqIntS.f k t188 t165).bind fun t191 => (if t191 = true then ((laws_heldIntS.f k bt182.2 1).bind fun t192 => (if t192 < 0 then (some false) else (if t192 = bt182.1 then (some true) else (some false)))) else (some false))))) else (some false))))) else (some false))))) else (some false)))) else (some false)))) = some r := H
  have A6 := Aside0.mk A60
  clear A60
  replace H := Option.bind_eq_some_iff.mp H
  obtain ⟨t171, A70, H⟩ := H
  replace H : ((laws_eqIntS.f k t171 t165).bind fun t174 => (if t174 = true then ((laws_toRangeS.f k l0).bind fun t175 => ((laws_eqRangeS.f k t168 t175).bind fun t178 => (if t178 = true then ((laws_markRangeS.f k t168 1).bind fun bt179 => (if bt179.1 < 0 then (some false) else ((laws_eqIntS.f k t171 t165).bind fun t181 => (if t181 = true then ((laws_markIntS.f k t171 1).bind fun bt182 => ((laws_heldIntS.f k bt182.2 1).bind fun t184 => (if t184 < 0 then (some false) else (if t184 = bt182.1 then ((laws_toRangeS.f k l0).bind fun t185 => ((impl_Owners.f k t185).bind fun t188 => ((laws_eqIntS.f k t188 t165).bind fun t191 => (if t191 = true then ((laws_heldIntS.f k bt182.2 1).bind fun t192 => (if t192 < 0 then (some false) else (if t192 = bt182.1 then (some true) else (some false)))) else (some false))))) else (some false))))) else (some false))))) else (some false)))) else (some false))) = some r := H
  have A7 := Aside0.mk A70
  clear A70
  replace H := Option.bind_eq_some_iff.mp H
  obtain ⟨t174, A80, H⟩ := H
  replace H : (if t174 = true then ((laws_toRangeS.f k l0).bind fun t175 => ((laws_eqRangeS.f k t168 t175).bind fun t178 => (if t178 = true then ((laws_markRangeS.f k t168 1).bind fun bt179 => (if bt179.1 < 0 then (some false) else ((laws_eqIntS.f k t171 t165).bind fun t181 => (if t181 = true then ((laws_markIntS.f k t171 1).bind fun bt182 => ((laws_heldIntS.f k bt182.2 1).bind fun t184 => (if t184 < 0 then (some false) else (if t184 = bt182.1 then ((laws_toRangeS.f k l0).bind fun t185 => ((impl_Owners.f k t185).bind fun t188 => ((laws_eqIntS.f k t188 t165).bind fun t191 => (if t191 = true then ((laws_heldIntS.f k bt182.2 1).bind fun t192 => (if t192 < 0 then (some false) else (if t192 = bt182.1 then (some true) else (some false)))) else (some false))))) else (some false))))) else (some false))))) else (some false)))) else (some false)) = some r := H
  have A8 := Aside0.mk A80
  clear A80
  by_cases c9 : t174 = true
  rotate_left
  · replace c9 := Bool.eq_false_iff.mpr c9
    subst c9
    have H1 : (some false) = some r := by rw [if_neg (show ¬ (false = true) by decide)] at H; exact H
    clear H
    have H := H1
    clear H1
    exact absurd ((Option.some.inj H).trans hr_.out) (by decide)
  subst c9
  have H1 : ((laws_toRangeS.f k l0).bind fun t175 => ((laws_eqRangeS.f k t168 t175).bind fun t178 => (if t178 = true then ((laws_markRangeS.f k t168 1).bind fun bt179 => (if bt179.1 < 0 then (some false) else ((laws_eqIntS.f k t171 t165).bind fun t181 => (if t181 = true then ((laws_markIntS.f k t171 1).bind fun bt182 => ((laws_heldIntS.f k bt182.2 1).bind fun t184 => (if t184 < 0 then (some false) else (if t184 = bt182.1 then ((laws_toRangeS.f k l0).bind fun t185 => ((impl_Owners.f k t185).bind fun t188 => ((laws_eqIntS.f k t188 t165).bind fun t191 => (if t191 = true then ((laws_heldIntS.f k bt182.2 1).bind fun t192 => (if t192 < 0 then (some false) else (if t192 = bt182.1 then (some true) else (some false)))) else (some false))))) else (some false))))) else (some false))))) else (some false)))) = some r := by rw [if_pos rfl] at H; exact H
  clear H
  have H := H1
  clear H1
  replace H := Option.bind_eq_some_iff.mp H
  obtain ⟨t175, A100, H⟩ := H
  replace H : ((laws_eqRangeS.f k t168 t175).bind fun t178 => (if t178 = true then ((laws_markRangeS.f k t168 1).bind fun bt179 => (if bt179.1 < 0 then (some false) else ((laws_eqIntS.f k t171 t165).bind fun t181 => (if t181 = true then ((laws_markIntS.f k t171 1).bind fun bt182 => ((laws_heldIntS.f k bt182.2 1).bind fun t184 => (if t184 < 0 then (some false) else (if t184 = bt182.1 then ((laws_toRangeS.f k l0).bind fun t185 => ((impl_Owners.f k t185).bind fun t188 => ((laws_eqIntS.f k t188 t165).bind fun t191 => (if t191 = true then ((laws_heldIntS.f k bt182.2 1).bind fun t192 => (if t192 < 0 then (some false) else (if t192 = bt182.1 then (some true) else (some false)))) else (some false))))) else (some false))))) else (some false))))) else (some false))) = some r := H
  have A10 := Aside0.mk A100
  clear A100
  replace H := Option.bind_eq_some_iff.mp H
  obtain ⟨t178, A110, H⟩ := H
  replace H : (if t178 = true then ((laws_markRangeS.f k t168 1).bind fun bt179 => (if bt179.1 < 0 then (some false) else ((laws_eqIntS.f k t171 t165).bind fun t181 => (if t181 = true then ((laws_markIntS.f k t171 1).bind fun bt182 => ((laws_heldIntS.f k bt182.2 1).bind fun t184 => (if t184 < 0 then (some false) else (if t184 = bt182.1 then ((laws_toRangeS.f k l0).bind fun t185 => ((impl_Owners.f k t185).bind fun t188 => ((laws_eqIntS.f k t188 t165).bind fun t191 => (if t191 = true then ((laws_heldIntS.f k bt182.2 1).bind fun t192 => (if t192 < 0 then (some false) else (if t192 = bt182.1 then (some true) else (some false)))) else (some false))))) else (some false))))) else (some false))))) else (some false)) = some r := H
  have A11 := Aside0.mk A110
  clear A110
  by_cases c12 : t178 = true
  rotate_left
  · replace c12 := Bool.eq_false_iff.mpr c12
    subst c12
    have H1 : (some false) = some r := by rw [if_neg (show ¬ (false = true) by decide)] at H; exact H
    clear H
    have H := H1
    clear H1
    exact absurd ((Option.some.inj H).trans hr_.out) (by decide)
  subst c12
  have H1 : ((laws_markRangeS.f k t168 1).bind fun bt179 => (if bt179.1 < 0 then (some false) else ((laws_eqIntS.f k t171 t165).bind fun t181 => (if t181 = true then ((laws_markIntS.f k t171 1).bind fun bt182 => ((laws_heldIntS.f k bt182.2 1).bind fun t184 => (if t184 < 0 then (some false) else (if t184 = bt182.1 then ((laws_toRangeS.f k l0).bind fun t185 => ((impl_Owners.f k t185).bind fun t188 => ((laws_eqIntS.f k t188 t165).bind fun t191 => (if t191 = true then ((laws_heldIntS.f k bt182.2 1).bind fun t192 => (if t192 < 0 then (some false) else (if t192 = bt182.1 then (some true) else (some false)))) else (some false))))) else (some false))))) else (some false))))) = some r := by rw [if_pos rfl] at H; exact H
  clear H
  have H := H1
  clear H1
  replace H := Option.bind_eq_some_iff.mp H
  obtain ⟨⟨t179, t180⟩, A130, H⟩ := H
  replace H : (if t179 < 0 then (some false) else ((laws_eqIntS.f k t171 t165).bind fun t181 => (if t181 = true then ((laws_markIntS.f k t171 1).bind fun bt182 => ((laws_heldIntS.f k bt182.2 1).bind fun t184 => (if t184 < 0 then (some false) else (if t184 = bt182.1 then ((laws_toRangeS.f k l0).bind fun t185 => ((impl_Owners.f k t185).bind fun t188 => ((laws_eqIntS.f k t188 t165).bind fun t191 => (if t191 = true then ((laws_heldIntS.f k bt182.2 1).bind fun t192 => (if t192 < 0 then (some false) else (if t192 = bt182.1 then (some true) else (some false)))) else (some false))))) else (some false))))) else (some false)))) = some r := H
  have A13 := Aside0.mk A130
  clear A130
  by_cases c14 : t179 < 0
  · rw [if_pos c14] at H
    have c14b0 : decide (t179 < 0) = true := decide_eq_true c14
    clear c14
    exact absurd ((Option.some.inj H).trans hr_.out) (by decide)
  rw [if_neg c14] at H
  have c14b0 : decide (t179 < 0) = false := decide_eq_false c14
  clear c14
  replace H := Option.bind_eq_some_iff.mp H
  obtain ⟨t181, A150, H⟩ := H
  replace H : (if t181 = true then ((laws_markIntS.f k t171 1).bind fun bt182 => ((laws_heldIntS.f k bt182.2 1).bind fun t184 => (if t184 < 0 then (some false) else (if t184 = bt182.1 then ((laws_toRangeS.f k l0).bind fun t185 => ((impl_Owners.f k t185).bind fun t188 => ((laws_eqIntS.f k t188 t165).bind fun t191 => (if t191 = true then ((laws_heldIntS.f k bt182.2 1).bind fun t192 => (if t192 < 0 then (some false) else (if t192 = bt182.1 then (some true) else (some false)))) else (some false))))) else (some false))))) else (some false)) = some r := H
  have A15 := Aside0.mk A150
  clear A150
  by_cases c16 : t181 = true
  rotate_left
  · replace c16 := Bool.eq_false_iff.mpr c16
    subst c16
    have H1 : (some false) = some r := by rw [if_neg (show ¬ (false = true) by decide)] at H; exact H
    clear H
    have H := H1
    clear H1
    exact absurd ((Option.some.inj H).trans hr_.out) (by decide)
  subst c16
  have H1 : ((laws_markIntS.f k t171 1).bind fun bt182 => ((laws_heldIntS.f k bt182.2 1).bind fun t184 => (if t184 < 0 then (some false) else (if t184 = bt182.1 then ((laws_toRangeS.f k l0).bind fun t185 => ((impl_Owners.f k t185).bind fun t188 => ((laws_eqIntS.f k t188 t165).bind fun t191 => (if t191 = true then ((laws_heldIntS.f k bt182.2 1).bind fun t192 => (if t192 < 0 then (some false) else (if t192 = bt182.1 then (some true) else (some false)))) else (some false))))) else (some false))))) = some r := by rw [if_pos rfl] at H; exact H
  clear H
  have H := H1
  clear H1
  replace H := Option.bind_eq_some_iff.mp H
  obtain ⟨⟨t182, t183⟩, A170, H⟩ := H
  replace H : ((laws_heldIntS.f k t183 1).bind fun t184 => (if t184 < 0 then (some false) else (if t184 = t182 then ((laws_toRangeS.f k l0).bind fun t185 => ((impl_Owners.f k t185).bind fun t188 => ((laws_eqIntS.f k t188 t165).bind fun t191 => (if t191 = true then ((laws_heldIntS.f k t183 1).bind fun t192 => (if t192 < 0 then (some false) else (if t192 = t182 then (some true) else (some false)))) else (some false))))) else (some false)))) = some r := H
  have A17 := Aside0.mk A170
  clear A170
  replace H := Option.bind_eq_some_iff.mp H
  obtain ⟨t184, A180, H⟩ := H
  replace H : (if t184 < 0 then (some false) else (if t184 = t182 then ((laws_toRangeS.f k l0).bind fun t185 => ((impl_Owners.f k t185).bind fun t188 => ((laws_eqIntS.f k t188 t165).bind fun t191 => (if t191 = true then ((laws_heldIntS.f k t183 1).bind fun t192 => (if t192 < 0 then (some false) else (if t192 = t182 then (some true) else (some false)))) else (some false))))) else (some false))) = some r := H
  have A18 := Aside0.mk A180
  clear A180
  by_cases c19 : t184 < 0
  · rw [if_pos c19] at H
    have c19b0 : decide (t184 < 0) = true := decide_eq_true c19
    clear c19
    exact absurd ((Option.some.inj H).trans hr_.out) (by decide)
  rw [if_neg c19] at H
  have c19b0 : decide (t184 < 0) = false := decide_eq_false c19
  clear c19
  by_cases c20 : t184 = t182
  rotate_left
  · rw [if_neg c20] at H
    have c20b0 : (t184 == t182) = false := beq_eq_false_iff_ne.mpr c20
    have c20b1 : (t184 != t182) = true := bne_iff_ne.mpr c20
    exact absurd ((Option.some.inj H).trans hr_.out) (by decide)
  rw [if_pos c20] at H
  have c20b0 : (t184 == t182) = true := beq_iff_eq.mpr c20
  have c20b1 : (t184 != t182) = false := bne_eq_false_iff_eq.mpr c20
  clear c20
  replace H := Option.bind_eq_some_iff.mp H
  obtain ⟨t185, A210, H⟩ := H
  replace H : ((impl_Owners.f k t185).bind fun t188 => ((laws_eqIntS.f k t188 t165).bind fun t191 => (if t191 = true then ((laws_heldIntS.f k t183 1).bind fun t192 => (if t192 < 0 then (some false) else (if t192 = t182 then (some true) else (some false)))) else (some false)))) = some r := H
  have A21 := Aside0.mk A210
  clear A210
  replace H := Option.bind_eq_some_iff.mp H
  obtain ⟨t188, A220, H⟩ := H
  replace H : ((laws_eqIntS.f k t188 t165).bind fun t191 => (if t191 = true then ((laws_heldIntS.f k t183 1).bind fun t192 => (if t192 < 0 then (some false) else (if t192 = t182 then (some true) else (some false)))) else (some false))) = some r := H
  have A22 := Aside0.mk A220
  clear A220
  replace H := Option.bind_eq_some_iff.mp H
  obtain ⟨t191, A230, H⟩ := H
  replace H : (if t191 = true then ((laws_heldIntS.f k t183 1).bind fun t192 => (if t192 < 0 then (some false) else (if t192 = t182 then (some true) else (some false)))) else (some false)) = some r := H
  have A23 := Aside0.mk A230
  clear A230
  by_cases c24 : t191 = true
  rotate_left
  · replace c24 := Bool.eq_false_iff.mpr c24
    subst c24
    have H1 : (some false) = some r := by rw [if_neg (show ¬ (false = true) by decide)] at H; exact H
    clear H
    have H := H1
    clear H1
    exact absurd ((Option.some.inj H).trans hr_.out) (by decide)
  subst c24
  have H1 : ((laws_heldIntS.f k t183 1).bind fun t192 => (if t192 < 0 then (some false) else (if t192 = t182 then (some true) else (some false)))) = some r := by rw [if_pos rfl] at H; exact H
  clear H
  have H := H1
  clear H1
  replace H := Option.bind_eq_some_iff.mp H
  obtain ⟨t192, A250, H⟩ := H
  replace H : (if t192 < 0 then (some false) else (if t192 = t182 then (some true) else (some false))) = some r := H
  have A25 := Aside0.mk A250
  clear A250
  by_cases c26 : t192 < 0
  · rw [if_pos c26] at H
    have c26b0 : decide (t192 < 0) = true := decide_eq_true c26
    clear c26
    exact absurd ((Option.some.inj H).trans hr_.out) (by decide)
  rw [if_neg c26] at H
  have c26b0 : decide (t192 < 0) = false := decide_eq_false c26
  clear c26
  by_cases c27 : t192 = t182
  rotate_left
  · rw [if_neg c27] at H
    have c27b0 : (t192 == t182) = false := beq_eq_false_iff_ne.mpr c27
    have c27b1 : (t192 != t182) = true := bne_iff_ne.mpr c27
    exact absurd ((Option.some.inj H).trans hr_.out) (by decide)
  rw [if_pos c27] at H
  have c27b0 : (t192 == t182) = true := beq_iff_eq.mpr c27
  have c27b1 : (t192 != t182) = false := bne_eq_false_iff_eq.mpr c27
  clear c27
  obtain rfl := Option.some.inj H
  go_wp2_with (first | ((with_reducible refine gate_callee (f := 20) rfl ?_); refine goesL_ (some 17) rfl rfl Try.func20 (by kernel_rfl) rfl #[.slice A0 l0.length c0] rfl u6_1 ?_; (with_reducible refine (laws_toRangeS.calls k _ _ l0 t162 _ ?side1 ?side2 A4.out).mono ?_); (case side1 => exact u6_10); (case side2 => exact HC0.out); rintro e w28 ⟨v163, rfl, ho0, hb⟩; refine ⟨_, rfl, ?_⟩; have n0_ := Aside0.mk (Kd.R_lower ho0 (below_size u6_0)); have n1_ := Aside0.mk (below_step u6_0 hb); clear HB; have HO164 := n0_; have HB := n1_; clear n0_ n1_; (try clear hb); (try clear hb2); (try clear hk); (try clear hi); (try clear ho0); obtain ⟨Ao29, co29, eo29⟩ := Kd.R_slice HO164.out; subst eo29) | ((with_reducible refine gate_callee (f := 51) rfl ?_); refine goesL_ (some 18) rfl rfl Try.func51 (by kernel_rfl) rfl #[.slice Ao29 t162.length co29] rfl u6_1 ?_; (with_reducible refine (spec_Owners.calls k _ _ t162 t165 _ ?side1 ?side2 A5.out).mono ?_); (case side1 => exact (by repeat (first | exact (Kd.R_reads' HO164.out).2.2 | (with_reducible refine Kd.C_alloc ?_ _) | (with_reducible refine Kd.C_drewN ?_ _) | (with_reducible refine Kd.C_drew ?_)))); (case side2 => exact (Kd.R_reads' HO164.out).2.1); rintro e w30 ⟨v166, rfl, ho0, hb⟩; refine ⟨_, rfl, ?_⟩; have n0_ := Aside0.mk (Kd.R_below u6_2 hb); have n1_ := Aside0.mk (Kd.R_lower ho0 (below_size u6_0)); have n2_ := Aside0.mk (below_step u6_0 hb); clear HO164; clear HB; have HO164 := n0_; have HO167 := n1_; have HB := n2_; clear n0_ n1_ n2_; (try clear hb); (try clear hb2); (try clear hk); (try clear hi); (try clear ho0)) | ((with_reducible refine gate_callee (f := 20) rfl ?_); refine goesL_ (some 20) rfl rfl Try.func20 (by kernel_rfl) rfl #[.slice A0 l0.length c0] rfl u6_1 ?_; (with_reducible refine (laws_toRangeS.calls k _ _ l0 t168 _ ?side1 ?side2 A6.out).mono ?_); (case side1 => exact u6_10); (case side2 => exact HC0.out); rintro e w31 ⟨v169, rfl, ho0, hb⟩; refine ⟨_, rfl, ?_⟩; have n0_ := Aside0.mk (Kd.R_elder' u6_2 (Kd.R_base ho0) hb); have n1_ := Aside0.mk (Kd.R_below u6_3 hb); have n2_ := Aside0.mk (Kd.R_lower (Kd.R_new' ho0 (Kd.R_lt u6_2)) (below_size u6_0)); have n3_ := Aside0.mk (below_step u6_0 hb); clear HO164; clear HO167; clear HB; have HO164 := n0_; have HO167 := n1_; have HO170 := n2_; have HB := n3_; clear n0_ n1_ n2_ n3_; (try clear hb); (try clear hb2); (try clear hk); (try clear hi); (try clear ho0); obtain ⟨Ao32, co32, eo32⟩ := Kd.R_slice HO170.out; subst eo32) | ((with_reducible refine gate_callee (f := 37) rfl ?_); refine goesL_ (some 22) rfl rfl Try.func37 (by kernel_rfl) rfl #[.slice Ao32 t168.length co32] rfl u6_1 ?_; (with_reducible refine (impl_Owners.calls k _ _ t168 t171 _ ?side1 ?side2 A7.out).mono ?_); (case side1 => exact u6_11); (case side2 => exact (Kd.R_reads' HO170.out).2.1); rintro e w33 ⟨v172, rfl, ho0, hb⟩; refine ⟨_, rfl, ?_⟩; have n0_ := Aside0.mk (Kd.R_below u6_2 hb); have n1_ := Aside0.mk (Kd.R_elder' u6_3 (Kd.R_base ho0) hb); have n2_ := Aside0.mk (Kd.R_below u6_4 hb); have n3_ := Aside0.mk (Kd.R_lower (Kd.R_new' ho0 (Kd.R_lt u6_3)) (below_size u6_0)); have n4_ := Aside0.mk (below_step u6_0 hb); clear HO164; clear HO167; clear HO170; clear HB; have HO164 := n0_; have HO167 := n1_; have HO170 := n2_; have HO173 := n3_; have HB := n4_; clear n0_ n1_ n2_ n3_ n4_; (try clear hb); (try clear hb2); (try clear hk); (try clear hi); (try clear ho0); obtain ⟨Ao34, co34, eo34⟩ := Kd.R_slice HO173.out; subst eo34; obtain ⟨Ao35, co35, eo35⟩ := Kd.R_slice HO167.out; subst eo35) | ((with_reducible refine gate_callee (f := 52) rfl ?_); refine goesL_ (some 25) rfl rfl Try.func52 (by kernel_rfl) rfl #[.slice Ao34 t171.length co34, .slice Ao35 t165.length co35] rfl u6_1 ?_; (with_reducible refine (laws_eqIntS.calls k _ _ t171 _ _ t165 true _ ?side1 ?side2 ?side3 ?side4 A8.out).mono ?_); (case side1 => exact u6_5); (case side2 => exact (Kd.R_reads' HO173.out).2.1); (case side3 => exact u6_7); (case side4 => exact (Kd.R_reads' HO167.out).2.1); rintro e w' ⟨rfl, ⟨nd, rfl⟩⟩; refine ⟨_, rfl, ?_⟩) | ((with_reducible refine gate_callee (f := 20) rfl ?_); refine goesL_ (some 29) rfl rfl Try.func20 (by kernel_rfl) rfl #[.slice A0 l0.length c0] rfl u6_1 ?_; (with_reducible refine (laws_toRangeS.calls k _ _ l0 t175 _ ?side1 ?side2 A10.out).mono ?_); (case side1 => exact u6_12); (case side2 => exact HC0.out); rintro e w36 ⟨v176, rfl, ho0, hb⟩; refine ⟨_, rfl, ?_⟩; have n0_ := Aside0.mk (Kd.R_elder' u6_2 (Kd.R_base ho0) hb); have n1_ := Aside0.mk (Kd.R_below u6_3 hb); have n2_ := Aside0.mk (Kd.R_elder' u6_4 (Kd.R_base ho0) hb); have n3_ := Aside0.mk (Kd.R_below u6_6 hb); have n4_ := Aside0.mk (Kd.R_lower (Kd.R_new' (Kd.R_new' ho0 (Kd.R_lt u6_2)) (Kd.R_lt u6_4)) (below_size u6_0)); have n5_ := Aside0.mk (below_step u6_0 hb); clear HO164; clear HO167; clear HO170; clear HO173; clear HB; have HO164 := n0_; have HO167 := n1_; have HO170 := n2_; have HO173 := n3_; have HO177 := n4_; have HB := n5_; clear n0_ n1_ n2_ n3_ n4_ n5_; (try clear hb); (try clear hb2); (try clear hk); (try clear hi); (try clear ho0); obtain ⟨Ao37, co37, eo37⟩ := Kd.R_slice HO177.out; subst eo37) | ((with_reducible refine gate_callee (f := 22) rfl ?_); refine goesL_ (some 30) rfl rfl Try.func22 (by kernel_rfl) rfl #[.slice Ao32 t168.length co32, .slice Ao37 t175.length co37] rfl u6_1 ?_; (with_reducible refine (laws_eqRangeS.calls k _ _ t168 _ _ t175 true _ ?side1 ?side2 ?side3 ?side4 A11.out).mono ?_); (case side1 => exact u6_11); (case side2 => exact (Kd.R_reads' HO170.out).2.1); (case side3 => exact (by repeat (first | exact (Kd.R_reads' HO177.out).2.2 | (with_reducible refine Kd.C_alloc ?_ _) | (with_reducible refine Kd.C_drewN ?_ _) | (with_reducible refine Kd.C_drew ?_)))); (case side4 => exact (Kd.R_reads' HO177.out).2.1); rintro e w38 ⟨rfl, hb⟩; refine ⟨_, rfl, ?_⟩; have n0_ := Aside0.mk (Kd.R_below u6_2 hb); have n1_ := Aside0.mk (Kd.R_below u6_3 hb); have n2_ := Aside0.mk (Kd.R_below u6_4 hb); have n3_ := Aside0.mk (Kd.R_below u6_6 hb); have n4_ := Aside0.mk (Kd.R_below u6_8 hb); have n5_ := Aside0.mk (below_step u6_0 hb); clear HO164; clear HO167; clear HO170; clear HO173; clear HO177; clear HB; have HO164 := n0_; have HO167 := n1_; have HO170 := n2_; have HO173 := n3_; have HO177 := n4_; have HB := n5_; clear n0_ n1_ n2_ n3_ n4_ n5_; (try clear hb); (try clear hb2); (try clear hk); (try clear hi)) | ((with_reducible refine gate_callee (f := 32) rfl ?_); refine goesL_ (some 34) rfl rfl Try.func32 (by kernel_rfl) rfl #[.slice Ao32 t168.length co32, .int .i64 1] rfl u6_1 ?_; (with_reducible refine (laws_markRangeS.calls k (fun k_ => some k_ = (.slice Ao32 t168.length co32 : Value).ownBlock) (.slice Ao32 t168.length co32) t168 1 t179 t180 w _ ?side1 ?side2 A13.out).mono ?_); (case side1 => exact u6_0); (case side2 => exact Kd.R_tight rfl HO170.out); rintro e w39 ⟨rfl, hy0, hb, hkp⟩; refine ⟨_, rfl, ?_⟩; have n0_ := Aside0.mk (Kd.R_mono (ok' := fun k_ => some k_ ≠ (.slice Ao32 t168.length co32 : Value).ownBlock ∧ some k_ ≠ (.slice Ao37 t175.length co37 : Value).ownBlock) (Kd.R_keptB (HO164.out) hkp (fun k_ hk_ hs_ => (hk_.1.2) hs_)) (fun k_ hk_ => ⟨hk_.1.1.2, hk_.1.2⟩)); have n1_ := Aside0.mk (Kd.R_mono (ok' := fun k_ => some k_ ≠ (.slice Ao34 t171.length co34 : Value).ownBlock) (Kd.R_keptB ((Kd.R_apart' HO167.out (Kd.R_typed HO170.out) (by decide))) hkp (fun k_ hk_ hs_ => (hk_.2) hs_)) (fun k_ hk_ => hk_.1.1.2)); have n2_ := Aside0.mk (Kd.R_reok rfl hy0 (fun k_ e_ => HO170.out.1 k_ e_)); have n3_ := Aside0.mk (Kd.R_mono (ok' := fun k_ => some k_ ≠ (.slice Ao35 t165.length co35 : Value).ownBlock) (Kd.R_keptB ((Kd.R_apart' HO173.out (Kd.R_typed HO170.out) (by decide))) hkp (fun k_ hk_ hs_ => (hk_.2) hs_)) (fun k_ hk_ => hk_.1.1.2)); have n4_ := Aside0.mk (Kd.R_mono (ok' := fun k_ => some k_ ≠ (.slice Ao29 t162.length co29 : Value).ownBlock ∧ some k_ ≠ (.slice Ao32 t168.length co32 : Value).ownBlock) (Kd.R_keptB (HO177.out) hkp (fun k_ hk_ hs_ => (hk_.2) hs_)) (fun k_ hk_ => ⟨hk_.1.1.2, hk_.1.2⟩)); have n5_ := Aside0.mk (hb); clear HO164; clear HO167; clear HO170; clear HO173; clear HO177; clear HB; have HO164 := n0_; have HO167 := n1_; have HO170 := n2_; have HO173 := n3_; have HO177 := n4_; have HB := n5_; clear n0_ n1_ n2_ n3_ n4_ n5_; (try clear hb); (try clear hkp); (try clear hy0)) | (go_at_call 52; (with_reducible refine (laws_eqIntS.calls k _ _ t171 _ _ t165 true _ ?side1 ?side2 ?side3 ?side4 A15.out).mono ?_); (case side1 => exact u6_5); (case side2 => exact (Kd.R_reads' HO173.out).2.1); (case side3 => exact u6_7); (case side4 => exact (Kd.R_reads' HO167.out).2.1); rintro e w' ⟨rfl, ⟨nd, rfl⟩⟩) | ((with_reducible refine gate_callee (f := 53) rfl ?_); refine goesL_ (some 45) rfl rfl Try.func53 (by kernel_rfl) rfl #[.slice Ao34 t171.length co34, .int .i64 1] rfl u6_1 ?_; (with_reducible refine (laws_markIntS.calls k (fun k_ => some k_ = (.slice Ao34 t171.length co34 : Value).ownBlock) (.slice Ao34 t171.length co34) t171 1 t182 t183 w _ ?side1 ?side2 A17.out).mono ?_); (case side1 => exact u6_0); (case side2 => exact Kd.R_tight rfl HO173.out); rintro e w40 ⟨rfl, hy0, hb, hkp⟩; refine ⟨_, rfl, ?_⟩; have n0_ := Aside0.mk (Kd.R_mono (ok' := fun k_ => some k_ ≠ (.slice Ao32 t168.length co32 : Value).ownBlock ∧ some k_ ≠ (.slice Ao37 t175.length co37 : Value).ownBlock) (Kd.R_keptB ((Kd.R_apart' HO164.out (Kd.R_typed HO173.out) (by decide))) hkp (fun k_ hk_ hs_ => (hk_.2) hs_)) (fun k_ hk_ => ⟨hk_.1.1.1, hk_.1.1.2⟩)); have n1_ := Aside0.mk (Kd.R_mono (ok' := fun k_ => some k_ ≠ (.slice Ao34 t171.length co34 : Value).ownBlock) (Kd.R_keptB (HO167.out) hkp (fun k_ hk_ hs_ => (hk_) hs_)) (fun k_ hk_ => hk_.1)); have n2_ := Aside0.mk (Kd.R_mono (ok' := fun k_ => some k_ ≠ (.slice Ao29 t162.length co29 : Value).ownBlock ∧ some k_ ≠ (.slice Ao37 t175.length co37 : Value).ownBlock) (Kd.R_keptB ((Kd.R_apart' HO170.out (Kd.R_typed HO173.out) (by decide))) hkp (fun k_ hk_ hs_ => (hk_.2) hs_)) (fun k_ hk_ => ⟨hk_.1.1.1.2, hk_.1.1.2⟩)); have n3_ := Aside0.mk (Kd.R_reok rfl hy0 (fun k_ e_ => HO173.out.1 k_ e_)); have n4_ := Aside0.mk (Kd.R_mono (ok' := fun k_ => some k_ ≠ (.slice Ao29 t162.length co29 : Value).ownBlock ∧ some k_ ≠ (.slice Ao32 t168.length co32 : Value).ownBlock) (Kd.R_keptB ((Kd.R_apart' HO177.out (Kd.R_typed HO173.out) (by decide))) hkp (fun k_ hk_ hs_ => (hk_.2) hs_)) (fun k_ hk_ => ⟨hk_.1.1.1, hk_.1.1.2⟩)); have n5_ := Aside0.mk (hb); clear HO164; clear HO167; clear HO170; clear HO173; clear HO177; clear HB; have HO164 := n0_; have HO167 := n1_; have HO170 := n2_; have HO173 := n3_; have HO177 := n4_; have HB := n5_; clear n0_ n1_ n2_ n3_ n4_ n5_; (try clear hb); (try clear hkp); (try clear hy0)) | ((with_reducible refine gate_callee (f := 54) rfl ?_); refine goesL_ (some 48) rfl rfl Try.func54 (by kernel_rfl) rfl #[.slice Ao34 t183.length co34, .int .i64 1] rfl u6_9 ?_; (with_reducible refine (laws_heldIntS.calls k _ _ t183 1 t184 _ ?side1 ?side2 A18.out).mono ?_); (case side1 => exact u6_5); (case side2 => exact u6_13); rintro e w' ⟨rfl, ⟨nd, rfl⟩⟩; refine ⟨_, rfl, ?_⟩) | ((with_reducible refine gate_callee (f := 20) rfl ?_); refine goesL_ (some 55) rfl rfl Try.func20 (by kernel_rfl) rfl #[.slice A0 l0.length c0] rfl u6_1 ?_; (with_reducible refine (laws_toRangeS.calls k _ _ l0 t185 _ ?side1 ?side2 A21.out).mono ?_); (case side1 => exact u6_12); (case side2 => exact HC0.out); rintro e w41 ⟨v186, rfl, ho0, hb⟩; refine ⟨_, rfl, ?_⟩; have n0_ := Aside0.mk (Kd.R_elder' u6_2 (Kd.R_base ho0) hb); have n1_ := Aside0.mk (Kd.R_below u6_3 hb); have n2_ := Aside0.mk (Kd.R_elder' u6_4 (Kd.R_base ho0) hb); have n3_ := Aside0.mk (Kd.R_below u6_6 hb); have n4_ := Aside0.mk (Kd.R_elder' u6_8 (Kd.R_base ho0) hb); have n5_ := Aside0.mk (Kd.R_lower (Kd.R_new' (Kd.R_new' (Kd.R_new' ho0 (Kd.R_lt u6_2)) (Kd.R_lt u6_4)) (Kd.R_lt u6_8)) (below_size u6_0)); have n6_ := Aside0.mk (below_step u6_0 hb); clear HO164; clear HO167; clear HO170; clear HO173; clear HO177; clear HB; have HO164 := n0_; have HO167 := n1_; have HO170 := n2_; have HO173 := n3_; have HO177 := n4_; have HO187 := n5_; have HB := n6_; clear n0_ n1_ n2_ n3_ n4_ n5_ n6_; (try clear hb); (try clear hb2); (try clear hk); (try clear hi); (try clear ho0); obtain ⟨Ao42, co42, eo42⟩ := Kd.R_slice HO187.out; subst eo42) | ((with_reducible refine gate_callee (f := 37) rfl ?_); refine goesL_ (some 56) rfl rfl Try.func37 (by kernel_rfl) rfl #[.slice Ao42 t185.length co42] rfl u6_1 ?_; (with_reducible refine (impl_Owners.calls k _ _ t185 t188 _ ?side1 ?side2 A22.out).mono ?_); (case side1 => exact (by repeat (first | exact (Kd.R_reads' HO187.out).2.2 | (with_reducible refine Kd.C_alloc ?_ _) | (with_reducible refine Kd.C_drewN ?_ _) | (with_reducible refine Kd.C_drew ?_)))); (case side2 => exact (Kd.R_reads' HO187.out).2.1); rintro e w43 ⟨v189, rfl, ho0, hb⟩; refine ⟨_, rfl, ?_⟩; have n0_ := Aside0.mk (Kd.R_below u6_2 hb); have n1_ := Aside0.mk (Kd.R_elder' u6_3 (Kd.R_base ho0) hb); have n2_ := Aside0.mk (Kd.R_below u6_4 hb); have n3_ := Aside0.mk (Kd.R_elder' u6_6 (Kd.R_base ho0) hb); have n4_ := Aside0.mk (Kd.R_below u6_8 hb); have n5_ := Aside0.mk (Kd.R_below (by (with_reducible repeat (first | apply Kd.R_alloc | apply Kd.R_drewN | apply Kd.R_drew)); exact HO187.out) hb); have n6_ := Aside0.mk (Kd.R_lower (Kd.R_new' (Kd.R_new' ho0 (Kd.R_lt u6_3)) (Kd.R_lt u6_6)) (below_size u6_0)); have n7_ := Aside0.mk (below_step u6_0 hb); clear HO164; clear HO167; clear HO170; clear HO173; clear HO177; clear HO187; clear HB; have HO164 := n0_; have HO167 := n1_; have HO170 := n2_; have HO173 := n3_; have HO177 := n4_; have HO187 := n5_; have HO190 := n6_; have HB := n7_; clear n0_ n1_ n2_ n3_ n4_ n5_ n6_ n7_; (try clear hb); (try clear hb2); (try clear hk); (try clear hi); (try clear ho0); obtain ⟨Ao44, co44, eo44⟩ := Kd.R_slice HO190.out; subst eo44) | ((with_reducible refine gate_callee (f := 52) rfl ?_); refine goesL_ (some 59) rfl rfl Try.func52 (by kernel_rfl) rfl #[.slice Ao44 t188.length co44, .slice Ao35 t165.length co35] rfl u6_1 ?_; (with_reducible refine (laws_eqIntS.calls k _ _ t188 _ _ t165 true _ ?side1 ?side2 ?side3 ?side4 A23.out).mono ?_); (case side1 => exact (by repeat (first | exact (Kd.R_reads' HO190.out).2.2 | (with_reducible refine Kd.C_alloc ?_ _) | (with_reducible refine Kd.C_drewN ?_ _) | (with_reducible refine Kd.C_drew ?_)))); (case side2 => exact (Kd.R_reads' HO190.out).2.1); (case side3 => exact u6_7); (case side4 => exact (Kd.R_reads' HO167.out).2.1); rintro e w' ⟨rfl, ⟨nd, rfl⟩⟩; refine ⟨_, rfl, ?_⟩) | ((with_reducible refine gate_callee (f := 54) rfl ?_); refine goesL_ (some 63) rfl rfl Try.func54 (by kernel_rfl) rfl #[.slice Ao34 t183.length co34, .int .i64 1] rfl u6_9 ?_; (with_reducible refine (laws_heldIntS.calls k _ _ t183 1 t192 _ ?side1 ?side2 A25.out).mono ?_); (case side1 => exact u6_5); (case side2 => exact u6_13); rintro e w' ⟨rfl, ⟨nd, rfl⟩⟩; refine ⟨_, rfl, ?_⟩))
  go_ret
  exact ⟨by first | rfl | (simp [errW_none, errW_some] <;> rfl) | (simp [*, errW_none, errW_some] <;> rfl), u6_0⟩

end Go.Proofs.Ytfabcjkaoidmeaa.QFnExactOwners
