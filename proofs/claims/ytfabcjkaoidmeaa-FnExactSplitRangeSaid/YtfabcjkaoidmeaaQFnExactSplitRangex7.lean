-- Printed by the session's own program wip/prx.py.
import Derived.Test.YtfabcjkaoidmeaaQFnExactSplitRangex0
import Derived.Test.YtfabcjkaoidmeaaQFnExactSplitRangex1
import Derived.Test.YtfabcjkaoidmeaaQFnExactSplitRangex2
import Derived.Test.YtfabcjkaoidmeaaQFnExactSplitRangex4
import Derived.Test.YtfabcjkaoidmeaaQFnExactSplitRangex6
namespace Go.Proofs.Ytfabcjkaoidmeaa.QFnExactSplitRange
open Go.RowKit Go.Proofs.YtfabcjkaoidmeaaW.PrintWords Go.Proofs.YtfabcjkaoidmeaaW.PrintLast Go.Proofs.YtfabcjkaoidmeaaW.PrintMore
attribute [local go_sem] max2_int min2_int max_two min_two max_three min_three max_four min_four Go.Proofs.Ytfabcjkaoidmeaa.Set.isSome_setCell   -- for this text's walks alone
set_option linter.unusedVariables false
set_option linter.unusedSimpArgs false

-- squeezed
theorem u7_0 {P : Prop} (h : P := by repeat (first | (with_reducible first | exact HB.out | apply below_alloc | apply pw_below_drewN | apply below_drew1) | exact HB.out)) : P := h
theorem u7_1 {P : Prop} (h : P := by (try simp only [List.map_toArray, List.map_cons, List.map_nil]); first | done | rfl | (simp only [List.length_drop, List.length_take]; rfl)) : P := h
theorem u7_2 {P : Prop} (h : P := by (with_reducible repeat (first | apply Kd.R_alloc | apply Kd.R_drewN | apply Kd.R_drew)); exact HO185.out) : P := h
theorem u7_3 {P : Prop} (h : P := by (with_reducible repeat (first | apply Kd.R_alloc | apply Kd.R_drewN | apply Kd.R_drew)); exact HO189.out) : P := h
theorem u7_4 {P : Prop} (h : P := by (with_reducible repeat (first | apply Kd.R_alloc | apply Kd.R_drewN | apply Kd.R_drew)); exact HO192.out) : P := h
theorem u7_5 {P : Prop} (h : P := by (with_reducible repeat (first | apply Kd.R_alloc | apply Kd.R_drewN | apply Kd.R_drew)); exact HO196.out) : P := h
theorem u7_6 {P : Prop} (h : P := by (with_reducible repeat (first | apply Kd.R_alloc | apply Kd.R_drewN | apply Kd.R_drew)); exact HO200.out) : P := h
theorem u7_7 {P : Prop} (h : P := by (try simp only [List.map_toArray, List.map_cons, List.map_nil]); first | done | (rw [show t206.length = t193.length from (Kd.R_reads' HO196.out).1.symm] <;> rfl) | rfl | (simp only [List.length_drop, List.length_take]; rfl)) : P := h
theorem u7_8 {P : Prop} (h : P := by (with_reducible repeat (first | apply Kd.R_alloc | apply Kd.R_drewN | apply Kd.R_drew)); exact HO210.out) : P := h
/-! ### laws_FnExactSplitRange: function 13 -/
def laws_FnExactSplitRange.f (k : Nat) (l0 : List (S24)) (a1 : Int) (a2 : Int) : Option (Bool) := (laws_szRangeS.f l0 1048576).bind fun t182 => (if t182 < 0 then (some true) else ((laws_toRangeS.f k l0).bind fun t183 => ((spec_SplitRange.f k t183 a1 a2).bind fun bt186 => ((laws_toRangeS.f k l0).bind fun t190 => ((impl_SplitRange.f k t190 a1 a2).bind fun bt193 => ((laws_eqRangeS.f k bt193.1 bt186.1).bind fun t197 => (if t197 = true then (if (bt193.2 != bt186.2) = true then (some false) else ((laws_toRangeS.f k l0).bind fun t198 => ((laws_eqRangeS.f k t190 t198).bind fun t201 => (if t201 = true then ((laws_markRangeS.f k t190 1).bind fun bt202 => (if bt202.1 < 0 then (some false) else ((laws_eqRangeS.f k bt193.1 bt186.1).bind fun t204 => (if t204 = true then ((laws_markRangeS.f k bt193.1 1).bind fun bt205 => ((laws_heldRangeS.f k bt205.2 1).bind fun t207 => (if t207 < 0 then (some false) else (if t207 = bt205.1 then ((laws_toRangeS.f k l0).bind fun t208 => ((impl_SplitRange.f k t208 a1 a2).bind fun bt211 => ((laws_eqRangeS.f k bt211.1 bt186.1).bind fun t215 => (if t215 = true then (if (bt211.2 != bt186.2) = true then (some false) else ((laws_heldRangeS.f k bt205.2 1).bind fun t216 => (if t216 < 0 then (some false) else (if t216 = bt205.1 then (some true) else (some false))))) else (some false))))) else (some false))))) else (some false))))) else (some false))))) else (some false))))))))
theorem laws_FnExactSplitRange.mono : ∀ a0 a1 a2 k, LeO (laws_FnExactSplitRange.f k a0 a1 a2) (laws_FnExactSplitRange.f (k + 1) a0 a1 a2) := by
  intro a0 a1 a2 k
  unfold laws_FnExactSplitRange.f
  repeat' first
      | (with_reducible exact impl_SplitRange.mono _ _ _ _)
      | (with_reducible exact laws_eqRangeS.mono _ _ _)
      | (with_reducible exact laws_heldRangeS.mono _ _ _)
      | (with_reducible exact laws_markRangeS.mono _ _ _)
      | (with_reducible exact laws_toRangeS.mono _ _)
      | (with_reducible exact spec_SplitRange.mono _ _ _ _)
      | (with_reducible exact LeO.refl _)
      | (with_reducible exact LeO.none _)
      | (with_reducible refine LeO.ite ?_ ?_)
      | (with_reducible refine LeO.bind ?_ (fun _ => ?_))
      | exact impl_SplitRange.mono _ _ _ _
      | exact laws_eqRangeS.mono _ _ _
      | exact laws_heldRangeS.mono _ _ _
      | exact laws_markRangeS.mono _ _ _
      | exact laws_toRangeS.mono _ _
      | exact spec_SplitRange.mono _ _ _ _
      | exact LeO.none _
      | refine LeO.ite ?_ ?_
      | refine LeO.bind ?_ (fun _ => ?_)
set_option maxHeartbeats 8000000 in
set_option maxRecDepth 100000 in
theorem laws_FnExactSplitRange.calls (k : Nat) (A0 : Option Addr) (c0 : Nat) (l0 : List (S24)) (a1 : Int) (a2 : Int) (r : Bool) (w : World) (hr0 : Kd.C k24 w A0 l0.length l0) (hc0 : l0.length ≤ c0) (h : laws_FnExactSplitRange.f k l0 a1 a2 = some r) (hr_ : Aside0 (r = true)) :
    Calls Try.prog 13 #[.slice A0 l0.length c0, .int .u64 a1, .int .i64 a2] w fun e w' => e = .returned (.bool r) ∧ Below w.heap.size w w' := by
  have HR0 := Aside0.mk hr0
  have HC0 := Aside0.mk hc0
  clear hr0 hc0
  have HB := Aside0.mk (Below.refl w.heap.size w)
  have H : ((laws_szRangeS.f l0 1048576).bind fun t182 => (if t182 < 0 then (some true) else ((laws_toRangeS.f k l0).bind fun t183 => ((spec_SplitRange.f k t183 a1 a2).bind fun bt186 => ((laws_toRangeS.f k l0).bind fun t190 => ((impl_SplitRange.f k t190 a1 a2).bind fun bt193 => ((laws_eqRangeS.f k bt193.1 bt186.1).bind fun t197 => (if t197 = true then (if (bt193.2 != bt186.2) = true then (some false) else ((laws_toRangeS.f k l0).bind fun t198 => ((laws_eqRangeS.f k t190 t198).bind fun t201 => (if t201 = true then ((laws_markRangeS.f k t190 1).bind fun bt202 => (if bt202.1 < 0 then (some false) else ((laws_eqRangeS.f k bt193.1 bt186.1).bind fun t204 => (if t204 = true then ((laws_markRangeS.f k bt193.1 1).bind fun bt205 => ((laws_heldRangeS.f k bt205.2 1).bind fun t207 => (if t207 < 0 then (some false) else (if t207 = bt205.1 then ((laws_toRangeS.f k l0).bind fun t208 => ((impl_SplitRange.f k t208 a1 a2).bind fun bt211 => ((laws_eqRangeS.f k bt211.1 bt186.1).bind fun t215 => (if t215 = true then (if (bt211.2 != bt186.2) = true then (some false) else ((laws_heldRangeS.f k bt205.2 1).bind fun t216 => (if t216 < 0 then (some false) else (if t216 = bt205.1 then (some true) else (some false))))) else (some false))))) else (some false))))) else (some false))))) else (some false))))) else (some false))))))))) = some r := h
  clear h
  replace H := Option.bind_eq_some_iff.mp H
  obtain ⟨t182, A40, H⟩ := H
  replace H : (if t182 < 0 then (some true) else ((laws_toRangeS.f k l0).bind fun t183 => ((spec_SplitRange.f k t183 a1 a2).bind fun bt186 => ((laws_toRangeS.f k l0).bind fun t190 => ((impl_SplitRange.f k t190 a1 a2).bind fun bt193 => ((laws_eqRangeS.f k bt193.1 bt186.1).bind fun t197 => (if t197 = true then (if (bt193.2 != bt186.2) = true then (some false) else ((laws_toRangeS.f k l0).bind fun t198 => ((laws_eqRangeS.f k t190 t198).bind fun t201 => (if t201 = true then ((laws_markRangeS.f k t190 1).bind fun bt202 => (if bt202.1 < 0 then (some false) else ((laws_eqRangeS.f k bt193.1 bt186.1).bind fun t204 => (if t204 = true then ((laws_markRangeS.f k bt193.1 1).bind fun bt205 => ((laws_heldRangeS.f k bt205.2 1).bind fun t207 => (if t207 < 0 then (some false) else (if t207 = bt205.1 then ((laws_toRangeS.f k l0).bind fun t208 => ((impl_SplitRange.f k t208 a1 a2).bind fun bt211 => ((laws_eqRangeS.f k bt211.1 bt186.1).bind fun t215 => (if t215 = true then (if (bt211.2 != bt186.2) = true then (some false) else ((laws_heldRangeS.f k bt205.2 1).bind fun t216 => (if t216 < 0 then (some false) else (if t216 = bt205.1 then (some true) else (some false))))) else (some false))))) else (some false))))) else (some false))))) else (some false))))) else (some false)))))))) = some r := H
  have A4 := Aside0.mk A40
  clear A40
  by_cases c5 : t182 < 0
  · rw [if_pos c5] at H
    have c5b0 : decide (t182 < 0) = true := decide_eq_true c5
    clear c5
    obtain rfl := Option.some.inj H
    go_enter Try.func13, Try.ntmps13
    go_wp2_with (first | ((with_reducible refine gate_callee (f := 18) rfl ?_); refine goesL_ (some 20) rfl rfl Try.func18 (by kernel_rfl) rfl #[.slice A0 l0.length c0, .int .i64 1048576] rfl u7_1 ?_; (with_reducible refine (laws_szRangeS.calls _ _ l0 1048576 t182 _ ?side1 ?side2 A4.out).mono ?_); (case side1 => repeat (first | exact HR0.out | (with_reducible refine Kd.C_alloc ?_ _) | (with_reducible refine Kd.C_drewN ?_ _) | (with_reducible refine Kd.C_drew ?_))); (case side2 => exact HC0.out); rintro e w' ⟨rfl, ⟨nd, rfl⟩⟩; refine ⟨_, rfl, ?_⟩))
    go_ret
    exact ⟨by first | rfl | (simp [errW_none, errW_some] <;> rfl) | (simp [*, errW_none, errW_some] <;> rfl), by repeat (first | (with_reducible first | exact HB.out | apply below_alloc | apply pw_below_drewN | apply below_drew1) | exact HB.out)⟩
  · rw [if_neg c5] at H
    have c5b0 : decide (t182 < 0) = false := decide_eq_false c5
    clear c5
    replace H := Option.bind_eq_some_iff.mp H
    obtain ⟨t183, A60, H⟩ := H
    replace H : ((spec_SplitRange.f k t183 a1 a2).bind fun bt186 => ((laws_toRangeS.f k l0).bind fun t190 => ((impl_SplitRange.f k t190 a1 a2).bind fun bt193 => ((laws_eqRangeS.f k bt193.1 bt186.1).bind fun t197 => (if t197 = true then (if (bt193.2 != bt186.2) = true then (some false) else ((laws_toRangeS.f k l0).bind fun t198 => ((laws_eqRangeS.f k t190 t198).bind fun t201 => (if t201 = true then ((laws_markRangeS.f k t190 1).bind fun bt202 => (if bt202.1 < 0 then (some false) else ((laws_eqRangeS.f k bt193.1 bt186.1).bind fun t204 => (if t204 = true then ((laws_markRangeS.f k bt193.1 1).bind fun bt205 => ((laws_heldRangeS.f k bt205.2 1).bind fun t207 => (if t207 < 0 then (some false) else (if t207 = bt205.1 then ((laws_toRangeS.f k l0).bind fun t208 => ((impl_SplitRange.f k t208 a1 a2).bind fun bt211 => ((laws_eqRangeS.f k bt211.1 bt186.1).bind fun t215 => (if t215 = true then (if (bt211.2 != bt186.2) = true then (some false) else ((laws_heldRangeS.f k bt205.2 1).bind fun t216 => (if t216 < 0 then (some false) else (if t216 = bt205.1 then (some true) else (some false))))) else (some false))))) else (some false))))) else (some false))))) else (some false))))) else (some false)))))) = some r := H
    have A6 := Aside0.mk A60
    clear A60
    replace H := Option.bind_eq_some_iff.mp H
    obtain ⟨⟨t186, t187⟩, A70, H⟩ := H
    replace H : ((laws_toRangeS.f k l0).bind fun t190 => ((impl_SplitRange.f k t190 a1 a2).bind fun bt193 => ((laws_eqRangeS.f k bt193.1 t186).bind fun t197 => (if t197 = true then (if (bt193.2 != t187) = true then (some false) else ((laws_toRangeS.f k l0).bind fun t198 => ((laws_eqRangeS.f k t190 t198).bind fun t201 => (if t201 = true then ((laws_markRangeS.f k t190 1).bind fun bt202 => (if bt202.1 < 0 then (some false) else ((laws_eqRangeS.f k bt193.1 t186).bind fun t204 => (if t204 = true then ((laws_markRangeS.f k bt193.1 1).bind fun bt205 => ((laws_heldRangeS.f k bt205.2 1).bind fun t207 => (if t207 < 0 then (some false) else (if t207 = bt205.1 then ((laws_toRangeS.f k l0).bind fun t208 => ((impl_SplitRange.f k t208 a1 a2).bind fun bt211 => ((laws_eqRangeS.f k bt211.1 t186).bind fun t215 => (if t215 = true then (if (bt211.2 != t187) = true then (some false) else ((laws_heldRangeS.f k bt205.2 1).bind fun t216 => (if t216 < 0 then (some false) else (if t216 = bt205.1 then (some true) else (some false))))) else (some false))))) else (some false))))) else (some false))))) else (some false))))) else (some false))))) = some r := H
    have A7 := Aside0.mk A70
    clear A70
    replace H := Option.bind_eq_some_iff.mp H
    obtain ⟨t190, A80, H⟩ := H
    replace H : ((impl_SplitRange.f k t190 a1 a2).bind fun bt193 => ((laws_eqRangeS.f k bt193.1 t186).bind fun t197 => (if t197 = true then (if (bt193.2 != t187) = true then (some false) else ((laws_toRangeS.f k l0).bind fun t198 => ((laws_eqRangeS.f k t190 t198).bind fun t201 => (if t201 = true then ((laws_markRangeS.f k t190 1).bind fun bt202 => (if bt202.1 < 0 then (some false) else ((laws_eqRangeS.f k bt193.1 t186).bind fun t204 => (if t204 = true then ((laws_markRangeS.f k bt193.1 1).bind fun bt205 => ((laws_heldRangeS.f k bt205.2 1).bind fun t207 => (if t207 < 0 then (some false) else (if t207 = bt205.1 then ((laws_toRangeS.f k l0).bind fun t208 => ((impl_SplitRange.f k t208 a1 a2).bind fun bt211 => ((laws_eqRangeS.f k bt211.1 t186).bind fun t215 => (if t215 = true then (if (bt211.2 != t187) = true then (some false) else ((laws_heldRangeS.f k bt205.2 1).bind fun t216 => (if t216 < 0 then (some false) else (if t216 = bt205.1 then (some true) else (some false))))) else (some false))))) else (some false))))) else (some false))))) else (some false))))) else (some false)))) = some r := H
    have A8 := Aside0.mk A80
    clear A80
    replace H := Option.bind_eq_some_iff.mp H
    obtain ⟨⟨t193, t194⟩, A90, H⟩ := H
    replace H : ((laws_eqRangeS.f k t193 t186).bind fun t197 => (if t197 = true then (if (t194 != t187) = true then (some false) else ((laws_toRangeS.f k l0).bind fun t198 => ((laws_eqRangeS.f k t190 t198).bind fun t201 => (if t201 = true then ((laws_markRangeS.f k t190 1).bind fun bt202 => (if bt202.1 < 0 then (some false) else ((laws_eqRangeS.f k t193 t186).bind fun t204 => (if t204 = true then ((laws_markRangeS.f k t193 1).bind fun bt205 => ((laws_heldRangeS.f k bt205.2 1).bind fun t207 => (if t207 < 0 then (some false) else (if t207 = bt205.1 then ((laws_toRangeS.f k l0).bind fun t208 => ((impl_SplitRange.f k t208 a1 a2).bind fun bt211 => ((laws_eqRangeS.f k bt211.1 t186).bind fun t215 => (if t215 = true then (if (bt211.2 != t187) = true then (some false) else ((laws_heldRangeS.f k bt205.2 1).bind fun t216 => (if t216 < 0 then (some false) else (if t216 = bt205.1 then (some true) else (some false))))) else (some false))))) else (some false))))) else (some false))))) else (some false))))) else (some false))) = some r := H
    have A9 := Aside0.mk A90
    clear A90
    replace H := Option.bind_eq_some_iff.mp H
    obtain ⟨t197, A100, H⟩ := H
    replace H : (if t197 = true then (if (t194 != t187) = true then (some false) else ((laws_toRangeS.f k l0).bind fun t198 => ((laws_eqRangeS.f k t190 t198).bind fun t201 => (if t201 = true then ((laws_markRangeS.f k t190 1).bind fun bt202 => (if bt202.1 < 0 then (some false) else ((laws_eqRangeS.f k t193 t186).bind fun t204 => (if t204 = true then ((laws_markRangeS.f k t193 1).bind fun bt205 => ((laws_heldRangeS.f k bt205.2 1).bind fun t207 => (if t207 < 0 then (some false) else (if t207 = bt205.1 then ((laws_toRangeS.f k l0).bind fun t208 => ((impl_SplitRange.f k t208 a1 a2).bind fun bt211 => ((laws_eqRangeS.f k bt211.1 t186).bind fun t215 => (if t215 = true then (if (bt211.2 != t187) = true then (some false) else ((laws_heldRangeS.f k bt205.2 1).bind fun t216 => (if t216 < 0 then (some false) else (if t216 = bt205.1 then (some true) else (some false))))) else (some false))))) else (some false))))) else (some false))))) else (some false))))) else (some false)) = some r := H
    have A10 := Aside0.mk A100
    clear A100
    by_cases c11 : t197 = true
    · subst c11
      have H1 : (if (t194 != t187) = true then (some false) else ((laws_toRangeS.f k l0).bind fun t198 => ((laws_eqRangeS.f k t190 t198).bind fun t201 => (if t201 = true then ((laws_markRangeS.f k t190 1).bind fun bt202 => (if bt202.1 < 0 then (some false) else ((laws_eqRangeS.f k t193 t186).bind fun t204 => (if t204 = true then ((laws_markRangeS.f k t193 1).bind fun bt205 => ((laws_heldRangeS.f k bt205.2 1).bind fun t207 => (if t207 < 0 then (some false) else (if t207 = bt205.1 then ((laws_toRangeS.f k l0).bind fun t208 => ((impl_SplitRange.f k t208 a1 a2).bind fun bt211 => ((laws_eqRangeS.f k bt211.1 t186).bind fun t215 => (if t215 = true then (if (bt211.2 != t187) = true then (some false) else ((laws_heldRangeS.f k bt205.2 1).bind fun t216 => (if t216 < 0 then (some false) else (if t216 = bt205.1 then (some true) else (some false))))) else (some false))))) else (some false))))) else (some false))))) else (some false))))) = some r := by rw [if_pos rfl] at H; exact H
      clear H
      have H := H1
      clear H1
      by_cases c12 : (t194 != t187) = true
      · rw [if_pos c12] at H
        have c12b0 : (t194 != t187) = true := c12
        (try (have c12b1 : decide (t194 = t187) = false := by simpa using c12))
        (try (have c12b2 : (t194 == t187) = false := by simpa using c12))
        (try (have c12b3 : ¬ (t194 = t187) := by simpa using c12))
        clear c12
        exact absurd ((Option.some.inj H).trans hr_.out) (by decide)
      · rw [if_neg c12] at H
        have c12b0 : (t194 != t187) = false := by simpa using c12
        (try (have c12b1 : decide (t194 = t187) = true := by simpa using c12))
        (try (have c12b2 : (t194 == t187) = true := by simpa using c12))
        clear c12
        replace H := Option.bind_eq_some_iff.mp H
        obtain ⟨t198, A130, H⟩ := H
        replace H : ((laws_eqRangeS.f k t190 t198).bind fun t201 => (if t201 = true then ((laws_markRangeS.f k t190 1).bind fun bt202 => (if bt202.1 < 0 then (some false) else ((laws_eqRangeS.f k t193 t186).bind fun t204 => (if t204 = true then ((laws_markRangeS.f k t193 1).bind fun bt205 => ((laws_heldRangeS.f k bt205.2 1).bind fun t207 => (if t207 < 0 then (some false) else (if t207 = bt205.1 then ((laws_toRangeS.f k l0).bind fun t208 => ((impl_SplitRange.f k t208 a1 a2).bind fun bt211 => ((laws_eqRangeS.f k bt211.1 t186).bind fun t215 => (if t215 = true then (if (bt211.2 != t187) = true then (some false) else ((laws_heldRangeS.f k bt205.2 1).bind fun t216 => (if t216 < 0 then (some false) else (if t216 = bt205.1 then (some true) else (some false))))) else (some false))))) else (some false))))) else (some false))))) else (some false))) = some r := H
        have A13 := Aside0.mk A130
        clear A130
        replace H := Option.bind_eq_some_iff.mp H
        obtain ⟨t201, A140, H⟩ := H
        replace H : (if t201 = true then ((laws_markRangeS.f k t190 1).bind fun bt202 => (if bt202.1 < 0 then (some false) else ((laws_eqRangeS.f k t193 t186).bind fun t204 => (if t204 = true then ((laws_markRangeS.f k t193 1).bind fun bt205 => ((laws_heldRangeS.f k bt205.2 1).bind fun t207 => (if t207 < 0 then (some false) else (if t207 = bt205.1 then ((laws_toRangeS.f k l0).bind fun t208 => ((impl_SplitRange.f k t208 a1 a2).bind fun bt211 => ((laws_eqRangeS.f k bt211.1 t186).bind fun t215 => (if t215 = true then (if (bt211.2 != t187) = true then (some false) else ((laws_heldRangeS.f k bt205.2 1).bind fun t216 => (if t216 < 0 then (some false) else (if t216 = bt205.1 then (some true) else (some false))))) else (some false))))) else (some false))))) else (some false))))) else (some false)) = some r := H
        have A14 := Aside0.mk A140
        clear A140
        by_cases c15 : t201 = true
        · subst c15
          have H1 : ((laws_markRangeS.f k t190 1).bind fun bt202 => (if bt202.1 < 0 then (some false) else ((laws_eqRangeS.f k t193 t186).bind fun t204 => (if t204 = true then ((laws_markRangeS.f k t193 1).bind fun bt205 => ((laws_heldRangeS.f k bt205.2 1).bind fun t207 => (if t207 < 0 then (some false) else (if t207 = bt205.1 then ((laws_toRangeS.f k l0).bind fun t208 => ((impl_SplitRange.f k t208 a1 a2).bind fun bt211 => ((laws_eqRangeS.f k bt211.1 t186).bind fun t215 => (if t215 = true then (if (bt211.2 != t187) = true then (some false) else ((laws_heldRangeS.f k bt205.2 1).bind fun t216 => (if t216 < 0 then (some false) else (if t216 = bt205.1 then (some true) else (some false))))) else (some false))))) else (some false))))) else (some false))))) = some r := by rw [if_pos rfl] at H; exact H
          clear H
          have H := H1
          clear H1
          replace H := Option.bind_eq_some_iff.mp H
          obtain ⟨⟨t202, t203⟩, A160, H⟩ := H
          replace H : (if t202 < 0 then (some false) else ((laws_eqRangeS.f k t193 t186).bind fun t204 => (if t204 = true then ((laws_markRangeS.f k t193 1).bind fun bt205 => ((laws_heldRangeS.f k bt205.2 1).bind fun t207 => (if t207 < 0 then (some false) else (if t207 = bt205.1 then ((laws_toRangeS.f k l0).bind fun t208 => ((impl_SplitRange.f k t208 a1 a2).bind fun bt211 => ((laws_eqRangeS.f k bt211.1 t186).bind fun t215 => (if t215 = true then (if (bt211.2 != t187) = true then (some false) else ((laws_heldRangeS.f k bt205.2 1).bind fun t216 => (if t216 < 0 then (some false) else (if t216 = bt205.1 then (some true) else (some false))))) else (some false))))) else (some false))))) else (some false)))) = some r := H
          have A16 := Aside0.mk A160
          clear A160
          by_cases c17 : t202 < 0
          · rw [if_pos c17] at H
            have c17b0 : decide (t202 < 0) = true := decide_eq_true c17
            clear c17
            exact absurd ((Option.some.inj H).trans hr_.out) (by decide)
          · rw [if_neg c17] at H
            have c17b0 : decide (t202 < 0) = false := decide_eq_false c17
            clear c17
            replace H := Option.bind_eq_some_iff.mp H
            obtain ⟨t204, A180, H⟩ := H
            replace H : (if t204 = true then ((laws_markRangeS.f k t193 1).bind fun bt205 => ((laws_heldRangeS.f k bt205.2 1).bind fun t207 => (if t207 < 0 then (some false) else (if t207 = bt205.1 then ((laws_toRangeS.f k l0).bind fun t208 => ((impl_SplitRange.f k t208 a1 a2).bind fun bt211 => ((laws_eqRangeS.f k bt211.1 t186).bind fun t215 => (if t215 = true then (if (bt211.2 != t187) = true then (some false) else ((laws_heldRangeS.f k bt205.2 1).bind fun t216 => (if t216 < 0 then (some false) else (if t216 = bt205.1 then (some true) else (some false))))) else (some false))))) else (some false))))) else (some false)) = some r := H
            have A18 := Aside0.mk A180
            clear A180
            by_cases c19 : t204 = true
            · subst c19
              have H1 : ((laws_markRangeS.f k t193 1).bind fun bt205 => ((laws_heldRangeS.f k bt205.2 1).bind fun t207 => (if t207 < 0 then (some false) else (if t207 = bt205.1 then ((laws_toRangeS.f k l0).bind fun t208 => ((impl_SplitRange.f k t208 a1 a2).bind fun bt211 => ((laws_eqRangeS.f k bt211.1 t186).bind fun t215 => (if t215 = true then (if (bt211.2 != t187) = true then (some false) else ((laws_heldRangeS.f k bt205.2 1).bind fun t216 => (if t216 < 0 then (some false) else (if t216 = bt205.1 then (some true) else (some false))))) else (some false))))) else (some false))))) = some r := by rw [if_pos rfl] at H; exact H
              clear H
              have H := H1
              clear H1
              replace H := Option.bind_eq_some_iff.mp H
              obtain ⟨⟨t205, t206⟩, A200, H⟩ := H
              replace H : ((laws_heldRangeS.f k t206 1).bind fun t207 => (if t207 < 0 then (some false) else (if t207 = t205 then ((laws_toRangeS.f k l0).bind fun t208 => ((impl_SplitRange.f k t208 a1 a2).bind fun bt211 => ((laws_eqRangeS.f k bt211.1 t186).bind fun t215 => (if t215 = true then (if (bt211.2 != t187) = true then (some false) else ((laws_heldRangeS.f k t206 1).bind fun t216 => (if t216 < 0 then (some false) else (if t216 = t205 then (some true) else (some false))))) else (some false))))) else (some false)))) = some r := H
              have A20 := Aside0.mk A200
              clear A200
              replace H := Option.bind_eq_some_iff.mp H
              obtain ⟨t207, A210, H⟩ := H
              replace H : (if t207 < 0 then (some false) else (if t207 = t205 then ((laws_toRangeS.f k l0).bind fun t208 => ((impl_SplitRange.f k t208 a1 a2).bind fun bt211 => ((laws_eqRangeS.f k bt211.1 t186).bind fun t215 => (if t215 = true then (if (bt211.2 != t187) = true then (some false) else ((laws_heldRangeS.f k t206 1).bind fun t216 => (if t216 < 0 then (some false) else (if t216 = t205 then (some true) else (some false))))) else (some false))))) else (some false))) = some r := H
              have A21 := Aside0.mk A210
              clear A210
              by_cases c22 : t207 < 0
              · rw [if_pos c22] at H
                have c22b0 : decide (t207 < 0) = true := decide_eq_true c22
                clear c22
                exact absurd ((Option.some.inj H).trans hr_.out) (by decide)
              · rw [if_neg c22] at H
                have c22b0 : decide (t207 < 0) = false := decide_eq_false c22
                clear c22
                by_cases c23 : t207 = t205
                · rw [if_pos c23] at H
                  have c23b0 : (t207 == t205) = true := beq_iff_eq.mpr c23
                  have c23b1 : (t207 != t205) = false := bne_eq_false_iff_eq.mpr c23
                  clear c23
                  replace H := Option.bind_eq_some_iff.mp H
                  obtain ⟨t208, A240, H⟩ := H
                  replace H : ((impl_SplitRange.f k t208 a1 a2).bind fun bt211 => ((laws_eqRangeS.f k bt211.1 t186).bind fun t215 => (if t215 = true then (if (bt211.2 != t187) = true then (some false) else ((laws_heldRangeS.f k t206 1).bind fun t216 => (if t216 < 0 then (some false) else (if t216 = t205 then (some true) else (some false))))) else (some false)))) = some r := H
                  have A24 := Aside0.mk A240
                  clear A240
                  replace H := Option.bind_eq_some_iff.mp H
                  obtain ⟨⟨t211, t212⟩, A250, H⟩ := H
                  replace H : ((laws_eqRangeS.f k t211 t186).bind fun t215 => (if t215 = true then (if (t212 != t187) = true then (some false) else ((laws_heldRangeS.f k t206 1).bind fun t216 => (if t216 < 0 then (some false) else (if t216 = t205 then (some true) else (some false))))) else (some false))) = some r := H
                  have A25 := Aside0.mk A250
                  clear A250
                  replace H := Option.bind_eq_some_iff.mp H
                  obtain ⟨t215, A260, H⟩ := H
                  replace H : (if t215 = true then (if (t212 != t187) = true then (some false) else ((laws_heldRangeS.f k t206 1).bind fun t216 => (if t216 < 0 then (some false) else (if t216 = t205 then (some true) else (some false))))) else (some false)) = some r := H
                  have A26 := Aside0.mk A260
                  clear A260
                  by_cases c27 : t215 = true
                  · subst c27
                    have H1 : (if (t212 != t187) = true then (some false) else ((laws_heldRangeS.f k t206 1).bind fun t216 => (if t216 < 0 then (some false) else (if t216 = t205 then (some true) else (some false))))) = some r := by rw [if_pos rfl] at H; exact H
                    clear H
                    have H := H1
                    clear H1
                    by_cases c28 : (t212 != t187) = true
                    · rw [if_pos c28] at H
                      have c28b0 : (t212 != t187) = true := c28
                      (try (have c28b1 : decide (t212 = t187) = false := by simpa using c28))
                      (try (have c28b2 : (t212 == t187) = false := by simpa using c28))
                      (try (have c28b3 : ¬ (t212 = t187) := by simpa using c28))
                      clear c28
                      exact absurd ((Option.some.inj H).trans hr_.out) (by decide)
                    · rw [if_neg c28] at H
                      have c28b0 : (t212 != t187) = false := by simpa using c28
                      (try (have c28b1 : decide (t212 = t187) = true := by simpa using c28))
                      (try (have c28b2 : (t212 == t187) = true := by simpa using c28))
                      clear c28
                      replace H := Option.bind_eq_some_iff.mp H
                      obtain ⟨t216, A290, H⟩ := H
                      replace H : (if t216 < 0 then (some false) else (if t216 = t205 then (some true) else (some false))) = some r := H
                      have A29 := Aside0.mk A290
                      clear A290
                      by_cases c30 : t216 < 0
                      · rw [if_pos c30] at H
                        have c30b0 : decide (t216 < 0) = true := decide_eq_true c30
                        clear c30
                        exact absurd ((Option.some.inj H).trans hr_.out) (by decide)
                      · rw [if_neg c30] at H
                        have c30b0 : decide (t216 < 0) = false := decide_eq_false c30
                        clear c30
                        by_cases c31 : t216 = t205
                        · rw [if_pos c31] at H
                          have c31b0 : (t216 == t205) = true := beq_iff_eq.mpr c31
                          have c31b1 : (t216 != t205) = false := bne_eq_false_iff_eq.mpr c31
                          clear c31
                          obtain rfl := Option.some.inj H
                          go_enter Try.func13, Try.ntmps13
                          go_wp2_with (first | ((with_reducible refine gate_callee (f := 18) rfl ?_); refine goesL_ (some 20) rfl rfl Try.func18 (by kernel_rfl) rfl #[.slice A0 l0.length c0, .int .i64 1048576] rfl u7_1 ?_; (with_reducible refine (laws_szRangeS.calls _ _ l0 1048576 t182 _ ?side1 ?side2 A4.out).mono ?_); (case side1 => repeat (first | exact HR0.out | (with_reducible refine Kd.C_alloc ?_ _) | (with_reducible refine Kd.C_drewN ?_ _) | (with_reducible refine Kd.C_drew ?_))); (case side2 => exact HC0.out); rintro e w' ⟨rfl, ⟨nd, rfl⟩⟩; refine ⟨_, rfl, ?_⟩) | ((with_reducible refine gate_callee (f := 20) rfl ?_); refine goesL_ (some 25) rfl rfl Try.func20 (by kernel_rfl) rfl #[.slice A0 l0.length c0] rfl u7_1 ?_; (with_reducible refine (laws_toRangeS.calls k _ _ l0 t183 _ ?side1 ?side2 A6.out).mono ?_); (case side1 => repeat (first | exact HR0.out | (with_reducible refine Kd.C_alloc ?_ _) | (with_reducible refine Kd.C_drewN ?_ _) | (with_reducible refine Kd.C_drew ?_))); (case side2 => exact HC0.out); rintro e w32 ⟨v184, rfl, ho0, hb⟩; refine ⟨_, rfl, ?_⟩; have n0_ := Aside0.mk (Kd.R_lower ho0 (below_size u7_0)); have n1_ := Aside0.mk (below_step u7_0 hb); clear HB; have HO185 := n0_; have HB := n1_; clear n0_ n1_; (try clear hb); (try clear hb2); (try clear hk); (try clear hi); (try clear ho0); obtain ⟨Ao33, co33, eo33⟩ := Kd.R_slice HO185.out; subst eo33) | ((with_reducible refine gate_callee (f := 50) rfl ?_); refine goesL_ (some 28) rfl rfl Try.func50 (by kernel_rfl) rfl #[.slice Ao33 t183.length co33, .int .u64 a1, .int .i64 a2] rfl u7_1 ?_; (with_reducible refine (spec_SplitRange.calls k _ _ t183 a1 a2 t186 t187 _ ?side1 ?side2 A7.out).mono ?_); (case side1 => repeat (first | exact (Kd.R_reads' HO185.out).2.2 | (with_reducible refine Kd.C_alloc ?_ _) | (with_reducible refine Kd.C_drewN ?_ _) | (with_reducible refine Kd.C_drew ?_))); (case side2 => exact (Kd.R_reads' HO185.out).2.1); rintro e w34 ⟨v188, rfl, ho0, hb⟩; refine ⟨_, rfl, ?_⟩; have n0_ := Aside0.mk (Kd.R_elder' u7_2 (Kd.R_base ho0) hb); have n1_ := Aside0.mk (Kd.R_lower (Kd.R_new' ho0 (Kd.R_lt u7_2)) (below_size u7_0)); have n2_ := Aside0.mk (below_step u7_0 hb); clear HO185; clear HB; have HO185 := n0_; have HO189 := n1_; have HB := n2_; clear n0_ n1_ n2_; (try clear hb); (try clear hb2); (try clear hk); (try clear hi); (try clear ho0)) | ((with_reducible refine gate_callee (f := 20) rfl ?_); refine goesL_ (some 32) rfl rfl Try.func20 (by kernel_rfl) rfl #[.slice A0 l0.length c0] rfl u7_1 ?_; (with_reducible refine (laws_toRangeS.calls k _ _ l0 t190 _ ?side1 ?side2 A8.out).mono ?_); (case side1 => repeat (first | exact (Kd.C_below HR0.out HB.out) | (with_reducible refine Kd.C_alloc ?_ _) | (with_reducible refine Kd.C_drewN ?_ _) | (with_reducible refine Kd.C_drew ?_))); (case side2 => exact HC0.out); rintro e w35 ⟨v191, rfl, ho0, hb⟩; refine ⟨_, rfl, ?_⟩; have n0_ := Aside0.mk (Kd.R_elder' u7_2 (Kd.R_base ho0) hb); have n1_ := Aside0.mk (Kd.R_elder' u7_3 (Kd.R_base ho0) hb); have n2_ := Aside0.mk (Kd.R_lower (Kd.R_new' (Kd.R_new' ho0 (Kd.R_lt u7_2)) (Kd.R_lt u7_3)) (below_size u7_0)); have n3_ := Aside0.mk (below_step u7_0 hb); clear HO185; clear HO189; clear HB; have HO185 := n0_; have HO189 := n1_; have HO192 := n2_; have HB := n3_; clear n0_ n1_ n2_ n3_; (try clear hb); (try clear hb2); (try clear hk); (try clear hi); (try clear ho0); obtain ⟨Ao36, co36, eo36⟩ := Kd.R_slice HO192.out; subst eo36) | ((with_reducible refine gate_callee (f := 40) rfl ?_); refine goesL_ (some 37) rfl rfl Try.func40 (by kernel_rfl) rfl #[.slice Ao36 t190.length co36, .int .u64 a1, .int .i64 a2] rfl u7_1 ?_; (with_reducible refine (impl_SplitRange.calls k _ _ t190 a1 a2 t193 t194 _ ?side1 ?side2 A9.out).mono ?_); (case side1 => repeat (first | exact (Kd.R_reads' HO192.out).2.2 | (with_reducible refine Kd.C_alloc ?_ _) | (with_reducible refine Kd.C_drewN ?_ _) | (with_reducible refine Kd.C_drew ?_))); (case side2 => exact (Kd.R_reads' HO192.out).2.1); rintro e w37 ⟨v195, rfl, ho0, hb⟩; refine ⟨_, rfl, ?_⟩; have n0_ := Aside0.mk (Kd.R_elder' u7_2 (Kd.R_base ho0) hb); have n1_ := Aside0.mk (Kd.R_elder' u7_3 (Kd.R_base ho0) hb); have n2_ := Aside0.mk (Kd.R_elder' u7_4 (Kd.R_base ho0) hb); have n3_ := Aside0.mk (Kd.R_lower (Kd.R_new' (Kd.R_new' (Kd.R_new' ho0 (Kd.R_lt u7_2)) (Kd.R_lt u7_3)) (Kd.R_lt u7_4)) (below_size u7_0)); have n4_ := Aside0.mk (below_step u7_0 hb); clear HO185; clear HO189; clear HO192; clear HB; have HO185 := n0_; have HO189 := n1_; have HO192 := n2_; have HO196 := n3_; have HB := n4_; clear n0_ n1_ n2_ n3_ n4_; (try clear hb); (try clear hb2); (try clear hk); (try clear hi); (try clear ho0); obtain ⟨Ao38, co38, eo38⟩ := Kd.R_slice HO196.out; subst eo38; obtain ⟨Ao39, co39, eo39⟩ := Kd.R_slice HO189.out; subst eo39) | ((with_reducible refine gate_callee (f := 22) rfl ?_); refine goesL_ (some 42) rfl rfl Try.func22 (by kernel_rfl) rfl #[.slice Ao38 t193.length co38, .slice Ao39 t186.length co39] rfl u7_1 ?_; (with_reducible refine (laws_eqRangeS.calls k _ _ t193 _ _ t186 true _ ?side1 ?side2 ?side3 ?side4 A10.out).mono ?_); (case side1 => repeat (first | exact (Kd.R_reads' HO196.out).2.2 | (with_reducible refine Kd.C_alloc ?_ _) | (with_reducible refine Kd.C_drewN ?_ _) | (with_reducible refine Kd.C_drew ?_))); (case side2 => exact (Kd.R_reads' HO196.out).2.1); (case side3 => repeat (first | exact (Kd.R_reads' HO189.out).2.2 | (with_reducible refine Kd.C_alloc ?_ _) | (with_reducible refine Kd.C_drewN ?_ _) | (with_reducible refine Kd.C_drew ?_))); (case side4 => exact (Kd.R_reads' HO189.out).2.1); rintro e w40 ⟨rfl, hb⟩; refine ⟨_, rfl, ?_⟩; have n0_ := Aside0.mk (Kd.R_below u7_2 hb); have n1_ := Aside0.mk (Kd.R_below u7_3 hb); have n2_ := Aside0.mk (Kd.R_below u7_4 hb); have n3_ := Aside0.mk (Kd.R_below u7_5 hb); have n4_ := Aside0.mk (below_step u7_0 hb); clear HO185; clear HO189; clear HO192; clear HO196; clear HB; have HO185 := n0_; have HO189 := n1_; have HO192 := n2_; have HO196 := n3_; have HB := n4_; clear n0_ n1_ n2_ n3_ n4_; (try clear hb); (try clear hb2); (try clear hk); (try clear hi)) | ((with_reducible refine gate_callee (f := 20) rfl ?_); refine goesL_ (some 51) rfl rfl Try.func20 (by kernel_rfl) rfl #[.slice A0 l0.length c0] rfl u7_1 ?_; (with_reducible refine (laws_toRangeS.calls k _ _ l0 t198 _ ?side1 ?side2 A13.out).mono ?_); (case side1 => repeat (first | exact (Kd.C_below HR0.out HB.out) | (with_reducible refine Kd.C_alloc ?_ _) | (with_reducible refine Kd.C_drewN ?_ _) | (with_reducible refine Kd.C_drew ?_))); (case side2 => exact HC0.out); rintro e w41 ⟨v199, rfl, ho0, hb⟩; refine ⟨_, rfl, ?_⟩; have n0_ := Aside0.mk (Kd.R_elder' u7_2 (Kd.R_base ho0) hb); have n1_ := Aside0.mk (Kd.R_elder' u7_3 (Kd.R_base ho0) hb); have n2_ := Aside0.mk (Kd.R_elder' u7_4 (Kd.R_base ho0) hb); have n3_ := Aside0.mk (Kd.R_elder' u7_5 (Kd.R_base ho0) hb); have n4_ := Aside0.mk (Kd.R_lower (Kd.R_new' (Kd.R_new' (Kd.R_new' (Kd.R_new' ho0 (Kd.R_lt u7_2)) (Kd.R_lt u7_3)) (Kd.R_lt u7_4)) (Kd.R_lt u7_5)) (below_size u7_0)); have n5_ := Aside0.mk (below_step u7_0 hb); clear HO185; clear HO189; clear HO192; clear HO196; clear HB; have HO185 := n0_; have HO189 := n1_; have HO192 := n2_; have HO196 := n3_; have HO200 := n4_; have HB := n5_; clear n0_ n1_ n2_ n3_ n4_ n5_; (try clear hb); (try clear hb2); (try clear hk); (try clear hi); (try clear ho0); obtain ⟨Ao42, co42, eo42⟩ := Kd.R_slice HO200.out; subst eo42) | ((with_reducible refine gate_callee (f := 22) rfl ?_); refine goesL_ (some 52) rfl rfl Try.func22 (by kernel_rfl) rfl #[.slice Ao36 t190.length co36, .slice Ao42 t198.length co42] rfl u7_1 ?_; (with_reducible refine (laws_eqRangeS.calls k _ _ t190 _ _ t198 true _ ?side1 ?side2 ?side3 ?side4 A14.out).mono ?_); (case side1 => repeat (first | exact (Kd.R_reads' HO192.out).2.2 | (with_reducible refine Kd.C_alloc ?_ _) | (with_reducible refine Kd.C_drewN ?_ _) | (with_reducible refine Kd.C_drew ?_))); (case side2 => exact (Kd.R_reads' HO192.out).2.1); (case side3 => repeat (first | exact (Kd.R_reads' HO200.out).2.2 | (with_reducible refine Kd.C_alloc ?_ _) | (with_reducible refine Kd.C_drewN ?_ _) | (with_reducible refine Kd.C_drew ?_))); (case side4 => exact (Kd.R_reads' HO200.out).2.1); rintro e w43 ⟨rfl, hb⟩; refine ⟨_, rfl, ?_⟩; have n0_ := Aside0.mk (Kd.R_below u7_2 hb); have n1_ := Aside0.mk (Kd.R_below u7_3 hb); have n2_ := Aside0.mk (Kd.R_below u7_4 hb); have n3_ := Aside0.mk (Kd.R_below u7_5 hb); have n4_ := Aside0.mk (Kd.R_below u7_6 hb); have n5_ := Aside0.mk (below_step u7_0 hb); clear HO185; clear HO189; clear HO192; clear HO196; clear HO200; clear HB; have HO185 := n0_; have HO189 := n1_; have HO192 := n2_; have HO196 := n3_; have HO200 := n4_; have HB := n5_; clear n0_ n1_ n2_ n3_ n4_ n5_; (try clear hb); (try clear hb2); (try clear hk); (try clear hi)) | ((with_reducible refine gate_callee (f := 32) rfl ?_); refine goesL_ (some 56) rfl rfl Try.func32 (by kernel_rfl) rfl #[.slice Ao36 t190.length co36, .int .i64 1] rfl u7_1 ?_; (with_reducible refine (laws_markRangeS.calls k (fun k_ => some k_ = (.slice Ao36 t190.length co36 : Value).ownBlock) (.slice Ao36 t190.length co36) t190 1 t202 t203 w _ ?side1 ?side2 A16.out).mono ?_); (case side1 => repeat (first | (with_reducible first | exact HB.out | apply below_alloc | apply pw_below_drewN | apply below_drew1) | exact HB.out)); (case side2 => exact Kd.R_tight rfl HO192.out); rintro e w44 ⟨rfl, hy0, hb, hkp⟩; refine ⟨_, rfl, ?_⟩; have n0_ := Aside0.mk (Kd.R_mono (ok' := fun k_ => some k_ ≠ (.slice Ao39 t186.length co39 : Value).ownBlock ∧ some k_ ≠ (.slice Ao36 t190.length co36 : Value).ownBlock ∧ some k_ ≠ (.slice Ao38 t193.length co38 : Value).ownBlock ∧ some k_ ≠ (.slice Ao42 t198.length co42 : Value).ownBlock) (Kd.R_keptB (HO185.out) hkp (fun k_ hk_ hs_ => (hk_.1.1.2) hs_)) (fun k_ hk_ => ⟨hk_.1.1.1.1.2, hk_.1.1.1.2, hk_.1.1.2, hk_.1.2⟩)); have n1_ := Aside0.mk (Kd.R_mono (ok' := fun k_ => some k_ ≠ (.slice Ao33 t183.length co33 : Value).ownBlock ∧ some k_ ≠ (.slice Ao36 t190.length co36 : Value).ownBlock ∧ some k_ ≠ (.slice Ao38 t193.length co38 : Value).ownBlock ∧ some k_ ≠ (.slice Ao42 t198.length co42 : Value).ownBlock) (Kd.R_keptB (HO189.out) hkp (fun k_ hk_ hs_ => (hk_.1.1.2) hs_)) (fun k_ hk_ => ⟨hk_.1.1.1.1.2, hk_.1.1.1.2, hk_.1.1.2, hk_.1.2⟩)); have n2_ := Aside0.mk (Kd.R_reok rfl hy0 (fun k_ e_ => HO192.out.1 k_ e_)); have n3_ := Aside0.mk (Kd.R_mono (ok' := fun k_ => some k_ ≠ (.slice Ao33 t183.length co33 : Value).ownBlock ∧ some k_ ≠ (.slice Ao39 t186.length co39 : Value).ownBlock ∧ some k_ ≠ (.slice Ao36 t190.length co36 : Value).ownBlock ∧ some k_ ≠ (.slice Ao42 t198.length co42 : Value).ownBlock) (Kd.R_keptB (HO196.out) hkp (fun k_ hk_ hs_ => (hk_.1.2) hs_)) (fun k_ hk_ => ⟨hk_.1.1.1.1.2, hk_.1.1.1.2, hk_.1.1.2, hk_.1.2⟩)); have n4_ := Aside0.mk (Kd.R_mono (ok' := fun k_ => some k_ ≠ (.slice Ao33 t183.length co33 : Value).ownBlock ∧ some k_ ≠ (.slice Ao39 t186.length co39 : Value).ownBlock ∧ some k_ ≠ (.slice Ao36 t190.length co36 : Value).ownBlock ∧ some k_ ≠ (.slice Ao38 t193.length co38 : Value).ownBlock) (Kd.R_keptB (HO200.out) hkp (fun k_ hk_ hs_ => (hk_.1.2) hs_)) (fun k_ hk_ => ⟨hk_.1.1.1.1.2, hk_.1.1.1.2, hk_.1.1.2, hk_.1.2⟩)); have n5_ := Aside0.mk (hb); clear HO185; clear HO189; clear HO192; clear HO196; clear HO200; clear HB; have HO185 := n0_; have HO189 := n1_; have HO192 := n2_; have HO196 := n3_; have HO200 := n4_; have HB := n5_; clear n0_ n1_ n2_ n3_ n4_ n5_; (try clear hb); (try clear hkp); (try clear hy0)) | (go_at_call 22; (with_reducible refine (laws_eqRangeS.calls k _ _ t193 _ _ t186 true _ ?side1 ?side2 ?side3 ?side4 A18.out).mono ?_); (case side1 => repeat (first | exact (Kd.R_reads' HO196.out).2.2 | (with_reducible refine Kd.C_alloc ?_ _) | (with_reducible refine Kd.C_drewN ?_ _) | (with_reducible refine Kd.C_drew ?_))); (case side2 => exact (Kd.R_reads' HO196.out).2.1); (case side3 => repeat (first | exact (Kd.R_reads' HO189.out).2.2 | (with_reducible refine Kd.C_alloc ?_ _) | (with_reducible refine Kd.C_drewN ?_ _) | (with_reducible refine Kd.C_drew ?_))); (case side4 => exact (Kd.R_reads' HO189.out).2.1); rintro e w45 ⟨rfl, hb⟩; have n0_ := Aside0.mk (Kd.R_below u7_2 hb); have n1_ := Aside0.mk (Kd.R_below u7_3 hb); have n2_ := Aside0.mk (Kd.R_below u7_4 hb); have n3_ := Aside0.mk (Kd.R_below u7_5 hb); have n4_ := Aside0.mk (Kd.R_below u7_6 hb); have n5_ := Aside0.mk (below_step u7_0 hb); clear HO185; clear HO189; clear HO192; clear HO196; clear HO200; clear HB; have HO185 := n0_; have HO189 := n1_; have HO192 := n2_; have HO196 := n3_; have HO200 := n4_; have HB := n5_; clear n0_ n1_ n2_ n3_ n4_ n5_; (try clear hb); (try clear hb2); (try clear hk); (try clear hi)) | ((with_reducible refine gate_callee (f := 32) rfl ?_); refine goesL_ (some 72) rfl rfl Try.func32 (by kernel_rfl) rfl #[.slice Ao38 t193.length co38, .int .i64 1] rfl u7_1 ?_; (with_reducible refine (laws_markRangeS.calls k (fun k_ => some k_ = (.slice Ao38 t193.length co38 : Value).ownBlock) (.slice Ao38 t193.length co38) t193 1 t205 t206 w _ ?side1 ?side2 A20.out).mono ?_); (case side1 => repeat (first | (with_reducible first | exact HB.out | apply below_alloc | apply pw_below_drewN | apply below_drew1) | exact HB.out)); (case side2 => exact Kd.R_tight rfl HO196.out); rintro e w46 ⟨rfl, hy0, hb, hkp⟩; refine ⟨_, rfl, ?_⟩; have n0_ := Aside0.mk (Kd.R_mono (ok' := fun k_ => some k_ ≠ (.slice Ao39 t186.length co39 : Value).ownBlock ∧ some k_ ≠ (.slice Ao36 t190.length co36 : Value).ownBlock ∧ some k_ ≠ (.slice Ao38 t193.length co38 : Value).ownBlock ∧ some k_ ≠ (.slice Ao42 t198.length co42 : Value).ownBlock) (Kd.R_keptB (HO185.out) hkp (fun k_ hk_ hs_ => (hk_.2.2.1) hs_)) (fun k_ hk_ => ⟨hk_.1.1, hk_.1.2.1, hk_.1.2.2.1, hk_.1.2.2.2⟩)); have n1_ := Aside0.mk (Kd.R_mono (ok' := fun k_ => some k_ ≠ (.slice Ao33 t183.length co33 : Value).ownBlock ∧ some k_ ≠ (.slice Ao36 t190.length co36 : Value).ownBlock ∧ some k_ ≠ (.slice Ao38 t193.length co38 : Value).ownBlock ∧ some k_ ≠ (.slice Ao42 t198.length co42 : Value).ownBlock) (Kd.R_keptB (HO189.out) hkp (fun k_ hk_ hs_ => (hk_.2.2.1) hs_)) (fun k_ hk_ => ⟨hk_.1.1, hk_.1.2.1, hk_.1.2.2.1, hk_.1.2.2.2⟩)); have n2_ := Aside0.mk (Kd.R_mono (ok' := fun k_ => some k_ ≠ (.slice Ao33 t183.length co33 : Value).ownBlock ∧ some k_ ≠ (.slice Ao39 t186.length co39 : Value).ownBlock ∧ some k_ ≠ (.slice Ao38 t193.length co38 : Value).ownBlock ∧ some k_ ≠ (.slice Ao42 t198.length co42 : Value).ownBlock) (Kd.R_keptB (HO192.out) hkp (fun k_ hk_ hs_ => (hk_.1.2) hs_)) (fun k_ hk_ => ⟨hk_.1.1.1.1.2, hk_.1.1.1.2, hk_.1.1.2, hk_.1.2⟩)); have n3_ := Aside0.mk (Kd.R_reok rfl hy0 (fun k_ e_ => HO196.out.1 k_ e_)); have n4_ := Aside0.mk (Kd.R_mono (ok' := fun k_ => some k_ ≠ (.slice Ao33 t183.length co33 : Value).ownBlock ∧ some k_ ≠ (.slice Ao39 t186.length co39 : Value).ownBlock ∧ some k_ ≠ (.slice Ao36 t190.length co36 : Value).ownBlock ∧ some k_ ≠ (.slice Ao38 t193.length co38 : Value).ownBlock) (Kd.R_keptB (HO200.out) hkp (fun k_ hk_ hs_ => (hk_.2.2.2) hs_)) (fun k_ hk_ => ⟨hk_.1.1, hk_.1.2.1, hk_.1.2.2.1, hk_.1.2.2.2⟩)); have n5_ := Aside0.mk (hb); clear HO185; clear HO189; clear HO192; clear HO196; clear HO200; clear HB; have HO185 := n0_; have HO189 := n1_; have HO192 := n2_; have HO196 := n3_; have HO200 := n4_; have HB := n5_; clear n0_ n1_ n2_ n3_ n4_ n5_; (try clear hb); (try clear hkp); (try clear hy0)) | ((with_reducible refine gate_callee (f := 33) rfl ?_); refine goesL_ (some 75) rfl rfl Try.func33 (by kernel_rfl) rfl #[.slice Ao38 t206.length co38, .int .i64 1] rfl u7_7 ?_; (with_reducible refine (laws_heldRangeS.calls k _ _ t206 1 t207 _ ?side1 ?side2 A21.out).mono ?_); (case side1 => repeat (first | exact (Kd.R_reads' HO196.out).2.2 | (with_reducible refine Kd.C_alloc ?_ _) | (with_reducible refine Kd.C_drewN ?_ _) | (with_reducible refine Kd.C_drew ?_))); (case side2 => rw [show t206.length = t193.length from (Kd.R_reads' HO196.out).1.symm]; exact (Kd.R_reads' HO196.out).2.1); rintro e w' ⟨rfl, ⟨nd, rfl⟩⟩; refine ⟨_, rfl, ?_⟩) | ((with_reducible refine gate_callee (f := 20) rfl ?_); refine goesL_ (some 83) rfl rfl Try.func20 (by kernel_rfl) rfl #[.slice A0 l0.length c0] rfl u7_1 ?_; (with_reducible refine (laws_toRangeS.calls k _ _ l0 t208 _ ?side1 ?side2 A24.out).mono ?_); (case side1 => repeat (first | exact (Kd.C_below HR0.out u7_0) | (with_reducible refine Kd.C_alloc ?_ _) | (with_reducible refine Kd.C_drewN ?_ _) | (with_reducible refine Kd.C_drew ?_))); (case side2 => exact HC0.out); rintro e w47 ⟨v209, rfl, ho0, hb⟩; refine ⟨_, rfl, ?_⟩; have n0_ := Aside0.mk (Kd.R_elder' u7_2 (Kd.R_base ho0) hb); have n1_ := Aside0.mk (Kd.R_elder' u7_3 (Kd.R_base ho0) hb); have n2_ := Aside0.mk (Kd.R_elder' u7_4 (Kd.R_base ho0) hb); have n3_ := Aside0.mk (Kd.R_elder' u7_5 (Kd.R_base ho0) hb); have n4_ := Aside0.mk (Kd.R_elder' u7_6 (Kd.R_base ho0) hb); have n5_ := Aside0.mk (Kd.R_lower (Kd.R_new' (Kd.R_new' (Kd.R_new' (Kd.R_new' (Kd.R_new' ho0 (Kd.R_lt u7_2)) (Kd.R_lt u7_3)) (Kd.R_lt u7_4)) (Kd.R_lt u7_5)) (Kd.R_lt u7_6)) (below_size u7_0)); have n6_ := Aside0.mk (below_step u7_0 hb); clear HO185; clear HO189; clear HO192; clear HO196; clear HO200; clear HB; have HO185 := n0_; have HO189 := n1_; have HO192 := n2_; have HO196 := n3_; have HO200 := n4_; have HO210 := n5_; have HB := n6_; clear n0_ n1_ n2_ n3_ n4_ n5_ n6_; (try clear hb); (try clear hb2); (try clear hk); (try clear hi); (try clear ho0); obtain ⟨Ao48, co48, eo48⟩ := Kd.R_slice HO210.out; subst eo48) | ((with_reducible refine gate_callee (f := 40) rfl ?_); refine goesL_ (some 86) rfl rfl Try.func40 (by kernel_rfl) rfl #[.slice Ao48 t208.length co48, .int .u64 a1, .int .i64 a2] rfl u7_1 ?_; (with_reducible refine (impl_SplitRange.calls k _ _ t208 a1 a2 t211 t212 _ ?side1 ?side2 A25.out).mono ?_); (case side1 => repeat (first | exact (Kd.R_reads' HO210.out).2.2 | (with_reducible refine Kd.C_alloc ?_ _) | (with_reducible refine Kd.C_drewN ?_ _) | (with_reducible refine Kd.C_drew ?_))); (case side2 => exact (Kd.R_reads' HO210.out).2.1); rintro e w49 ⟨v213, rfl, ho0, hb⟩; refine ⟨_, rfl, ?_⟩; have n0_ := Aside0.mk (Kd.R_elder' u7_2 (Kd.R_base ho0) hb); have n1_ := Aside0.mk (Kd.R_elder' u7_3 (Kd.R_base ho0) hb); have n2_ := Aside0.mk (Kd.R_elder' u7_4 (Kd.R_base ho0) hb); have n3_ := Aside0.mk (Kd.R_elder' u7_5 (Kd.R_base ho0) hb); have n4_ := Aside0.mk (Kd.R_elder' u7_6 (Kd.R_base ho0) hb); have n5_ := Aside0.mk (Kd.R_elder' u7_8 (Kd.R_base ho0) hb); have n6_ := Aside0.mk (Kd.R_lower (Kd.R_new' (Kd.R_new' (Kd.R_new' (Kd.R_new' (Kd.R_new' (Kd.R_new' ho0 (Kd.R_lt u7_2)) (Kd.R_lt u7_3)) (Kd.R_lt u7_4)) (Kd.R_lt u7_5)) (Kd.R_lt u7_6)) (Kd.R_lt u7_8)) (below_size u7_0)); have n7_ := Aside0.mk (below_step u7_0 hb); clear HO185; clear HO189; clear HO192; clear HO196; clear HO200; clear HO210; clear HB; have HO185 := n0_; have HO189 := n1_; have HO192 := n2_; have HO196 := n3_; have HO200 := n4_; have HO210 := n5_; have HO214 := n6_; have HB := n7_; clear n0_ n1_ n2_ n3_ n4_ n5_ n6_ n7_; (try clear hb); (try clear hb2); (try clear hk); (try clear hi); (try clear ho0); obtain ⟨Ao50, co50, eo50⟩ := Kd.R_slice HO214.out; subst eo50) | ((with_reducible refine gate_callee (f := 22) rfl ?_); refine goesL_ (some 91) rfl rfl Try.func22 (by kernel_rfl) rfl #[.slice Ao50 t211.length co50, .slice Ao39 t186.length co39] rfl u7_1 ?_; (with_reducible refine (laws_eqRangeS.calls k _ _ t211 _ _ t186 true _ ?side1 ?side2 ?side3 ?side4 A26.out).mono ?_); (case side1 => repeat (first | exact (Kd.R_reads' HO214.out).2.2 | (with_reducible refine Kd.C_alloc ?_ _) | (with_reducible refine Kd.C_drewN ?_ _) | (with_reducible refine Kd.C_drew ?_))); (case side2 => exact (Kd.R_reads' HO214.out).2.1); (case side3 => repeat (first | exact (Kd.R_reads' HO189.out).2.2 | (with_reducible refine Kd.C_alloc ?_ _) | (with_reducible refine Kd.C_drewN ?_ _) | (with_reducible refine Kd.C_drew ?_))); (case side4 => exact (Kd.R_reads' HO189.out).2.1); rintro e w51 ⟨rfl, hb⟩; refine ⟨_, rfl, ?_⟩; have n0_ := Aside0.mk (Kd.R_below u7_2 hb); have n1_ := Aside0.mk (Kd.R_below u7_3 hb); have n2_ := Aside0.mk (Kd.R_below u7_4 hb); have n3_ := Aside0.mk (Kd.R_below u7_5 hb); have n4_ := Aside0.mk (Kd.R_below u7_6 hb); have n5_ := Aside0.mk (Kd.R_below u7_8 hb); have n6_ := Aside0.mk (Kd.R_below (by (with_reducible repeat (first | apply Kd.R_alloc | apply Kd.R_drewN | apply Kd.R_drew)); exact HO214.out) hb); have n7_ := Aside0.mk (below_step u7_0 hb); clear HO185; clear HO189; clear HO192; clear HO196; clear HO200; clear HO210; clear HO214; clear HB; have HO185 := n0_; have HO189 := n1_; have HO192 := n2_; have HO196 := n3_; have HO200 := n4_; have HO210 := n5_; have HO214 := n6_; have HB := n7_; clear n0_ n1_ n2_ n3_ n4_ n5_ n6_ n7_; (try clear hb); (try clear hb2); (try clear hk); (try clear hi)) | ((with_reducible refine gate_callee (f := 33) rfl ?_); refine goesL_ (some 100) rfl rfl Try.func33 (by kernel_rfl) rfl #[.slice Ao38 t206.length co38, .int .i64 1] rfl u7_7 ?_; (with_reducible refine (laws_heldRangeS.calls k _ _ t206 1 t216 _ ?side1 ?side2 A29.out).mono ?_); (case side1 => repeat (first | exact (Kd.R_reads' HO196.out).2.2 | (with_reducible refine Kd.C_alloc ?_ _) | (with_reducible refine Kd.C_drewN ?_ _) | (with_reducible refine Kd.C_drew ?_))); (case side2 => rw [show t206.length = t193.length from (Kd.R_reads' HO196.out).1.symm]; exact (Kd.R_reads' HO196.out).2.1); rintro e w' ⟨rfl, ⟨nd, rfl⟩⟩; refine ⟨_, rfl, ?_⟩))
                          go_ret
                          exact ⟨by first | rfl | (simp [errW_none, errW_some] <;> rfl) | (simp [*, errW_none, errW_some] <;> rfl), by repeat (first | (with_reducible first | exact HB.out | apply below_alloc | apply pw_below_drewN | apply below_drew1) | exact HB.out)⟩
                        · rw [if_neg c31] at H
                          have c31b0 : (t216 == t205) = false := beq_eq_false_iff_ne.mpr c31
                          have c31b1 : (t216 != t205) = true := bne_iff_ne.mpr c31
                          exact absurd ((Option.some.inj H).trans hr_.out) (by decide)
                  · replace c27 := Bool.eq_false_iff.mpr c27
                    subst c27
                    have H1 : (some false) = some r := by rw [if_neg (show ¬ (false = true) by decide)] at H; exact H
                    clear H
                    have H := H1
                    clear H1
                    exact absurd ((Option.some.inj H).trans hr_.out) (by decide)
                · rw [if_neg c23] at H
                  have c23b0 : (t207 == t205) = false := beq_eq_false_iff_ne.mpr c23
                  have c23b1 : (t207 != t205) = true := bne_iff_ne.mpr c23
                  exact absurd ((Option.some.inj H).trans hr_.out) (by decide)
            · replace c19 := Bool.eq_false_iff.mpr c19
              subst c19
              have H1 : (some false) = some r := by rw [if_neg (show ¬ (false = true) by decide)] at H; exact H
              clear H
              have H := H1
              clear H1
              exact absurd ((Option.some.inj H).trans hr_.out) (by decide)
        · replace c15 := Bool.eq_false_iff.mpr c15
          subst c15
          have H1 : (some false) = some r := by rw [if_neg (show ¬ (false = true) by decide)] at H; exact H
          clear H
          have H := H1
          clear H1
          exact absurd ((Option.some.inj H).trans hr_.out) (by decide)
    · replace c11 := Bool.eq_false_iff.mpr c11
      subst c11
      have H1 : (some false) = some r := by rw [if_neg (show ¬ (false = true) by decide)] at H; exact H
      clear H
      have H := H1
      clear H1
      exact absurd ((Option.some.inj H).trans hr_.out) (by decide)

end Go.Proofs.Ytfabcjkaoidmeaa.QFnExactSplitRange
