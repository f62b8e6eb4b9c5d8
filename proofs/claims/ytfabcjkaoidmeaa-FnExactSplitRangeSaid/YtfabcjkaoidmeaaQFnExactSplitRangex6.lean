-- Printed by the session's own program wip/prx.py.
import Derived.Test.YtfabcjkaoidmeaaQFnExactSplitRangex0
import Derived.Test.YtfabcjkaoidmeaaQFnExactSplitRangex4
import Derived.Test.YtfabcjkaoidmeaaQFnExactSplitRangex5
namespace Go.Proofs.Ytfabcjkaoidmeaa.QFnExactSplitRange
open Go.RowKit Go.Proofs.YtfabcjkaoidmeaaW.PrintWords Go.Proofs.YtfabcjkaoidmeaaW.PrintLast Go.Proofs.YtfabcjkaoidmeaaW.PrintMore
attribute [local go_sem] max2_int min2_int max_two min_two max_three min_three max_four min_four Go.Proofs.Ytfabcjkaoidmeaa.Set.isSome_setCell   -- for this text's walks alone
set_option linter.unusedVariables false
set_option linter.unusedSimpArgs false

-- squeezed
theorem u6_0 {P : Prop} (h : P := by repeat (first | (with_reducible first | exact HB.out | apply below_alloc | apply pw_below_drewN | apply below_drew1) | exact HB.out)) : P := h
theorem u6_1 {P : Prop} (h : P := by first | (with_reducible assumption) | assumption) : P := h
theorem u6_2 {P : Prop} (h : P := by first | rfl | (simp; done) | (simp [*]; done)) : P := h
theorem u6_3 {P : Prop} (h : P := by (try simp only [List.map_toArray, List.map_cons, List.map_nil]); first | done | rfl | (simp only [List.length_drop, List.length_take]; rfl)) : P := h
theorem u6_4 {P : Prop} (h : P := by (with_reducible repeat (first | apply Kd.R_alloc | apply Kd.R_drewN | apply Kd.R_drew)); exact HO_9.out) : P := h
/-! ### spec_FindRange: function 28 -/
mutual
def spec_FindRange.l0 : Nat → List (S26) → Int → Int → Option (Int)
  | 0, _, _, _ => none
  | k + 1, x0, x1, x5 => if x5 < (x0.length : Int) then ((spec_RangesOk.f k x0).bind fun t160 => (spec_FindRange.j1 k x0 x1 x5 t160)) else (spec_FindRange.j1 k x0 x1 x5 false)
def spec_FindRange.j1 : Nat → List (S26) → Int → Int → Bool → Option (Int)
  | 0, _, _, _, _ => none
  | k + 1, x0, x1, x5, x13 => if x13 = true then (if 0 ≤ x5 then (if x5 < (x0.length : Int) then ((spec_Covers.f ((rd_T26 x0 x5).f0) ((rd_T26 x0 x5).f1) ((rd_T26 x0 x5).f2) x1).bind fun t162 => (if t162 = true then (some x5) else (spec_FindRange.l0 k x0 x1 (wrap64 (x5 + 1))))) else (none)) else (none)) else (some (-1))
end
def spec_FindRange.f (k : Nat) (l0 : List (S26)) (a1 : Int) : Option (Int) := spec_FindRange.l0 k l0 a1 0
theorem spec_FindRange.mono_l : ∀ k, (∀ y0 y1 y2, LeO (spec_FindRange.l0 k y0 y1 y2) (spec_FindRange.l0 (k + 1) y0 y1 y2)) ∧ (∀ y0 y1 y2 y3, LeO (spec_FindRange.j1 k y0 y1 y2 y3) (spec_FindRange.j1 (k + 1) y0 y1 y2 y3))
  | 0 => ⟨fun _ _ _ r h => by simp [spec_FindRange.l0] at h, fun _ _ _ _ r h => by simp [spec_FindRange.j1] at h⟩
  | k + 1 => by
    obtain ⟨ih0, ih1⟩ := spec_FindRange.mono_l k
    refine ⟨?_, ?_⟩
    · intro y0 y1 y2
      unfold spec_FindRange.l0
      repeat' first
      | (with_reducible exact ih0 _ _ _)
      | (with_reducible exact ih1 _ _ _ _)
      | (with_reducible exact spec_RangesOk.mono _ _)
      | (with_reducible exact LeO.refl _)
      | (with_reducible exact LeO.none _)
      | (with_reducible refine LeO.ite ?_ ?_)
      | (with_reducible refine LeO.bind ?_ (fun _ => ?_))
      | exact ih0 _ _ _
      | exact ih1 _ _ _ _
      | exact spec_RangesOk.mono _ _
      | exact LeO.none _
      | refine LeO.ite ?_ ?_
      | refine LeO.bind ?_ (fun _ => ?_)
    · intro y0 y1 y2 y3
      unfold spec_FindRange.j1
      repeat' first
      | (with_reducible exact ih0 _ _ _)
      | (with_reducible exact ih1 _ _ _ _)
      | (with_reducible exact spec_RangesOk.mono _ _)
      | (with_reducible exact LeO.refl _)
      | (with_reducible exact LeO.none _)
      | (with_reducible refine LeO.ite ?_ ?_)
      | (with_reducible refine LeO.bind ?_ (fun _ => ?_))
      | exact ih0 _ _ _
      | exact ih1 _ _ _ _
      | exact spec_RangesOk.mono _ _
      | exact LeO.none _
      | refine LeO.ite ?_ ?_
      | refine LeO.bind ?_ (fun _ => ?_)
theorem spec_FindRange.mono : ∀ a0 a1 k, LeO (spec_FindRange.f k a0 a1) (spec_FindRange.f (k + 1) a0 a1) := by
  intro a0 a1 k
  obtain ⟨ih0, ih1⟩ := spec_FindRange.mono_l k
  unfold spec_FindRange.f
  repeat' first
      | (with_reducible exact ih0 _ _ _)
      | (with_reducible exact ih1 _ _ _ _)
      | (with_reducible exact spec_RangesOk.mono _ _)
      | (with_reducible exact LeO.refl _)
      | (with_reducible exact LeO.none _)
      | (with_reducible refine LeO.ite ?_ ?_)
      | (with_reducible refine LeO.bind ?_ (fun _ => ?_))
      | exact ih0 _ _ _
      | exact ih1 _ _ _ _
      | exact spec_RangesOk.mono _ _
      | exact LeO.none _
      | refine LeO.ite ?_ ?_
      | refine LeO.bind ?_ (fun _ => ?_)
set_option maxHeartbeats 8000000 in
set_option maxRecDepth 100000 in
theorem spec_FindRange.calls (k : Nat) (A0 : Option Addr) (c0 : Nat) (l0 : List (S26)) (a1 : Int) (r : Int) (w : World) (hr0 : Kd.C k26 w A0 l0.length l0) (hc0 : l0.length ≤ c0) (h : spec_FindRange.f k l0 a1 = some r) :
    Calls Try.prog 28 #[.slice A0 l0.length c0, .int .u64 a1] w fun e w' => e = .returned (.int .i64 r) ∧ Below w.heap.size w w' := by
  have hu26 := Try.underlying26
  have HR0 := Aside0.mk hr0
  have HC0 := Aside0.mk hc0
  clear hr0 hc0
  have HB := Aside0.mk (Below.refl w.heap.size w)
  have H : (spec_FindRange.l0 k l0 a1 0) = some r := h
  clear h
  have H' := Aside0.mk H
  clear H
  go_enter Try.func28, Try.ntmps28
  go_wp2
  go_loopg [5] k (fun kq v5 w' => ∃ (x5_1 : Int), v5 = .int .i64 x5_1 ∧ Aside0 (spec_FindRange.l0 kq l0 a1 x5_1 = some r) ∧ Aside0 (kq ≤ k) ∧ Aside0 (Below w.heap.size w w'))
  case atStart => exact ⟨(0), u6_2, H', ⟨Nat.le_refl _⟩, ⟨by repeat (first | (with_reducible first | exact HB.out | apply below_alloc | apply pw_below_drewN | apply below_drew1) | exact HB.out)⟩⟩
  case round =>
    clear H'
    try clear c2
    try clear p2
    obtain ⟨x5_1, rfl, HA, HK1, HB⟩ := hrel
    cases gk with
    | zero => exact absurd HA.out (by simp [spec_FindRange.l0])
    | succ k1 =>
      have H := HA.out
      clear HA
      simp only [spec_FindRange.l0] at H
      have HC3 := Aside0.mk H
      clear H
      go_upto_region 2 with (fail)
      go_cut [13] (fun v13 wc => ∃ (kq : Nat) (x13_2 : Bool), v13 = .bool x13_2 ∧ Aside0 (spec_FindRange.j1 kq l0 a1 x5_1 x13_2 = some r) ∧ Aside0 (kq ≤ k1) ∧ Aside0 (Below w.heap.size w wc))
      case first =>
        have H := HC3.out
        clear HC3
        by_cases c4 : x5_1 < (l0.length : Int)
        · rw [if_pos c4] at H
          have c4b0 : decide (x5_1 < (l0.length : Int)) = true := decide_eq_true c4
          clear c4
          (first | rw [c4b0] | (simp only [i64_w, i32_w]; rw [c4b0]) | skip)
          replace H := Option.bind_eq_some_iff.mp H
          obtain ⟨t160, A50, H⟩ := H
          replace H : (spec_FindRange.j1 k1 l0 a1 x5_1 t160) = some r := H
          have A5 := Aside0.mk A50
          clear A50
          have H' := Aside0.mk H
          clear H
          go_wp2_with (first | (go_at_call 19; (with_reducible refine (spec_RangesOk.calls k1 _ _ l0 t160 _ ?side1 ?side2 A5.out).mono ?_); (case side1 => repeat (first | exact (Kd.C_below HR0.out HB.out) | (with_reducible refine Kd.C_alloc ?_ _) | (with_reducible refine Kd.C_drewN ?_ _) | (with_reducible refine Kd.C_drew ?_))); (case side2 => exact HC0.out); rintro e w6 ⟨rfl, hb⟩; have n0_ := Aside0.mk (below_step u6_0 hb); clear HB; have HB := n0_; clear n0_; (try clear hb); (try clear hb2); (try clear hk); (try clear hi)))
          go_meet
          case rel => exact ⟨_, (t160), u6_2, H', ⟨by have := HK1.out; first | omega | exact Nat.le_refl _⟩, ⟨by repeat (first | (with_reducible first | exact HB.out | apply below_alloc | apply pw_below_drewN | apply below_drew1) | exact HB.out)⟩⟩
        · rw [if_neg c4] at H
          have c4b0 : decide (x5_1 < (l0.length : Int)) = false := decide_eq_false c4
          clear c4
          (first | rw [c4b0] | (simp only [i64_w, i32_w]; rw [c4b0]) | skip)
          have H' := Aside0.mk H
          clear H
          go_wp2
          go_meet
          case rel => exact ⟨_, (false), u6_2, H', ⟨by have := HK1.out; first | omega | exact Nat.le_refl _⟩, ⟨by repeat (first | (with_reducible first | exact HB.out | apply below_alloc | apply pw_below_drewN | apply below_drew1) | exact HB.out)⟩⟩
      case rest =>
        clear HC3
        try clear c2
        try clear p2
        try clear c4
        try clear c4b0
        try clear p2
        obtain ⟨kq, x13_2, rfl, HA, HJ2, HB⟩ := hcut
        cases kq with
        | zero => exact absurd HA.out (by simp [spec_FindRange.j1])
        | succ kj2 =>
          have H := HA.out
          clear HA
          simp only [spec_FindRange.j1] at H
          by_cases c7 : x13_2 = true
          · subst c7
            have H1 : (if 0 ≤ x5_1 then (if x5_1 < (l0.length : Int) then ((spec_Covers.f ((rd_T26 l0 x5_1).f0) ((rd_T26 l0 x5_1).f1) ((rd_T26 l0 x5_1).f2) a1).bind fun t162 => (if t162 = true then (some x5_1) else (spec_FindRange.l0 kj2 l0 a1 (wrap64 (x5_1 + 1))))) else (none)) else (none)) = some r := by rw [if_pos rfl] at H; exact H
            clear H
            have H := H1
            clear H1
            by_cases c8 : 0 ≤ x5_1
            · rw [if_pos c8] at H
              have c8b0 : decide (0 ≤ x5_1) = true := decide_eq_true c8
              clear c8
              by_cases c9 : x5_1 < (l0.length : Int)
              · rw [if_pos c9] at H
                have c9b0 : decide (x5_1 < (l0.length : Int)) = true := decide_eq_true c9
                clear c9
                replace H := Option.bind_eq_some_iff.mp H
                obtain ⟨t162, A100, H⟩ := H
                replace H : (if t162 = true then (some x5_1) else (spec_FindRange.l0 kj2 l0 a1 (wrap64 (x5_1 + 1)))) = some r := H
                have A10 := Aside0.mk A100
                clear A100
                by_cases c11 : t162 = true
                · subst c11
                  have H1 : (some x5_1) = some r := by rw [if_pos rfl] at H; exact H
                  clear H
                  have H := H1
                  clear H1
                  obtain rfl := Option.some.inj H
                  have p161 : 0 ≤ (x5_1 : Int) := of_decide_eq_true u6_1
                  have q161 : x5_1 < (l0.length : Int) := of_decide_eq_true u6_1
                  obtain ⟨ad161, e161, hx161_0, hx161_1, hx161_2⟩ := at_T26 HR0.out x5_1 p161 q161
                  cases e161
                  replace hx161_0 := (HB.out.cell (World.block_lt_of_cell? w _ hx161_0)).trans hx161_0
                  replace hx161_1 := (HB.out.cell (World.block_lt_of_cell? w _ hx161_1)).trans hx161_1
                  replace hx161_2 := (HB.out.cell (World.block_lt_of_cell? w _ hx161_2)).trans hx161_2
                  replace p161 := eq_true p161
                  replace q161 := eq_true q161
                  go_wp2_with (first | ((with_reducible refine gate_callee (f := 15) rfl ?_); refine goesL_ (some 21) rfl rfl Try.func15 (by kernel_rfl) rfl #[.agg #[.int .u64 ((rd_T26 l0 x5_1).f0), .int .u64 ((rd_T26 l0 x5_1).f1), .int .i64 ((rd_T26 l0 x5_1).f2)], .int .u64 a1] rfl u6_3 ?_; (with_reducible refine (spec_Covers.calls ((rd_T26 l0 x5_1).f0) ((rd_T26 l0 x5_1).f1) ((rd_T26 l0 x5_1).f2) a1 true _ A10.out).mono ?_); rintro e w12 ⟨rfl, hb⟩; refine ⟨_, rfl, ?_⟩; have n0_ := Aside0.mk (below_step u6_0 hb); clear HB; have HB := n0_; clear n0_; (try clear hb); (try clear hb2); (try clear hk); (try clear hi)))
                  go_ret
                  exact ⟨by first | rfl | (simp [errW_none, errW_some] <;> rfl) | (simp [*, errW_none, errW_some] <;> rfl), by repeat (first | (with_reducible first | exact HB.out | apply below_alloc | apply pw_below_drewN | apply below_drew1) | exact HB.out)⟩
                · replace c11 := Bool.eq_false_iff.mpr c11
                  subst c11
                  have H1 : (spec_FindRange.l0 kj2 l0 a1 (wrap64 (x5_1 + 1))) = some r := by rw [if_neg (show ¬ (false = true) by decide)] at H; exact H
                  clear H
                  have H := H1
                  clear H1
                  have H' := Aside0.mk H
                  clear H
                  have p161 : 0 ≤ (x5_1 : Int) := of_decide_eq_true u6_1
                  have q161 : x5_1 < (l0.length : Int) := of_decide_eq_true u6_1
                  obtain ⟨ad161, e161, hx161_0, hx161_1, hx161_2⟩ := at_T26 HR0.out x5_1 p161 q161
                  cases e161
                  replace hx161_0 := (HB.out.cell (World.block_lt_of_cell? w _ hx161_0)).trans hx161_0
                  replace hx161_1 := (HB.out.cell (World.block_lt_of_cell? w _ hx161_1)).trans hx161_1
                  replace hx161_2 := (HB.out.cell (World.block_lt_of_cell? w _ hx161_2)).trans hx161_2
                  replace p161 := eq_true p161
                  replace q161 := eq_true q161
                  go_wp2_with (first | ((with_reducible refine gate_callee (f := 15) rfl ?_); refine goesL_ (some 21) rfl rfl Try.func15 (by kernel_rfl) rfl #[.agg #[.int .u64 ((rd_T26 l0 x5_1).f0), .int .u64 ((rd_T26 l0 x5_1).f1), .int .i64 ((rd_T26 l0 x5_1).f2)], .int .u64 a1] rfl u6_3 ?_; (with_reducible refine (spec_Covers.calls ((rd_T26 l0 x5_1).f0) ((rd_T26 l0 x5_1).f1) ((rd_T26 l0 x5_1).f2) a1 false _ A10.out).mono ?_); rintro e w13 ⟨rfl, hb⟩; refine ⟨_, rfl, ?_⟩; have n0_ := Aside0.mk (below_step u6_0 hb); clear HB; have HB := n0_; clear n0_; (try clear hb); (try clear hb2); (try clear hk); (try clear hi)))
                  go_roundg kj2
                  case measure => have := HK1.out; have := HJ2.out; omega
                  case rel => exact ⟨(wrap64 (x5_1 + 1)), u6_2, H', ⟨by have := HK1.out; have := HJ2.out; omega⟩, ⟨by repeat (first | (with_reducible first | exact HB.out | apply below_alloc | apply pw_below_drewN | apply below_drew1) | exact HB.out)⟩⟩
              · rw [if_neg c9] at H
                exact absurd H (by simp)
            · rw [if_neg c8] at H
              exact absurd H (by simp)
          · replace c7 := Bool.eq_false_iff.mpr c7
            subst c7
            have H1 : (some (-1)) = some r := by rw [if_neg (show ¬ (false = true) by decide)] at H; exact H
            clear H
            have H := H1
            clear H1
            obtain rfl := Option.some.inj H
            go_wp2
            go_ret
            exact ⟨by first | rfl | (simp [errW_none, errW_some] <;> rfl) | (simp [*, errW_none, errW_some] <;> rfl), by repeat (first | (with_reducible first | exact HB.out | apply below_alloc | apply pw_below_drewN | apply below_drew1) | exact HB.out)⟩

/-! ### spec_SplitRange: function 50 -/
mutual
def spec_SplitRange.j0 : Nat → List (S26) → Int → Int → Int → Bool → Option ((List (S26)) × Bool)
  | 0, _, _, _, _, _ => none
  | k + 1, x0, x1, x2, x8, x34 => if x34 = true then (some (([] : List (S26)), false)) else (spec_SplitRange.l0 k x0 x1 x2 x8 (([] : List (S26))) 0)
def spec_SplitRange.l0 : Nat → List (S26) → Int → Int → Int → List (S26) → Int → Option ((List (S26)) × Bool)
  | 0, _, _, _, _, _, _ => none
  | k + 1, x0, x1, x2, x8, x9, x10 => if x10 < (x0.length : Int) then (if x10 = x8 then (if 0 ≤ x10 then (if x9.length < 5864062014805 then ((some (x9 ++ [(⟨(rd_T26 x0 x10).f0, IntKind.u64.wrap (x1 - 1), (rd_T26 x0 x10).f2⟩ : S26)] : List (S26))).bind fun y171 => (if y171.length < 5864062014805 then (spec_SplitRange.l0 k x0 x1 x2 x8 (y171 ++ [(⟨x1, (rd_T26 x0 x10).f1, x2⟩ : S26)]) (wrap64 (x10 + 1))) else (none))) else (none)) else (none)) else (if 0 ≤ x10 then (if x9.length < 5864062014805 then (spec_SplitRange.l0 k x0 x1 x2 x8 (x9 ++ [(⟨(rd_T26 x0 x10).f0, (rd_T26 x0 x10).f1, (rd_T26 x0 x10).f2⟩ : S26)]) (wrap64 (x10 + 1))) else (none)) else (none))) else (some (x9, true))
end
def spec_SplitRange.f (k : Nat) (l0 : List (S26)) (a1 : Int) (a2 : Int) : Option ((List (S26)) × Bool) := (spec_FindRange.f k l0 a1).bind fun t163 => (if t163 < 0 then (spec_SplitRange.j0 k l0 a1 a2 t163 true) else (if 0 ≤ t163 then (if t163 < (l0.length : Int) then (if ((rd_T26 l0 t163).f0) = a1 then (spec_SplitRange.j0 k l0 a1 a2 t163 true) else ((spec_l01In.f a2 0 99).bind fun t165 => (if t165 = true then (spec_SplitRange.j0 k l0 a1 a2 t163 ((l0.length : Int) == 24)) else (spec_SplitRange.j0 k l0 a1 a2 t163 true)))) else (none)) else (none)))
theorem spec_SplitRange.mono_l : ∀ k, (∀ y0 y1 y2 y3 y4, LeO (spec_SplitRange.j0 k y0 y1 y2 y3 y4) (spec_SplitRange.j0 (k + 1) y0 y1 y2 y3 y4)) ∧ (∀ y0 y1 y2 y3 y4 y5, LeO (spec_SplitRange.l0 k y0 y1 y2 y3 y4 y5) (spec_SplitRange.l0 (k + 1) y0 y1 y2 y3 y4 y5))
  | 0 => ⟨fun _ _ _ _ _ r h => by simp [spec_SplitRange.j0] at h, fun _ _ _ _ _ _ r h => by simp [spec_SplitRange.l0] at h⟩
  | k + 1 => by
    obtain ⟨ih0, ih1⟩ := spec_SplitRange.mono_l k
    refine ⟨?_, ?_⟩
    · intro y0 y1 y2 y3 y4
      unfold spec_SplitRange.j0
      repeat' first
      | (with_reducible exact ih0 _ _ _ _ _)
      | (with_reducible exact ih1 _ _ _ _ _ _)
      | (with_reducible exact spec_FindRange.mono _ _ _)
      | (with_reducible exact LeO.refl _)
      | (with_reducible exact LeO.none _)
      | (with_reducible refine LeO.ite ?_ ?_)
      | (with_reducible refine LeO.bind ?_ (fun _ => ?_))
      | exact ih0 _ _ _ _ _
      | exact ih1 _ _ _ _ _ _
      | exact spec_FindRange.mono _ _ _
      | exact LeO.none _
      | refine LeO.ite ?_ ?_
      | refine LeO.bind ?_ (fun _ => ?_)
    · intro y0 y1 y2 y3 y4 y5
      unfold spec_SplitRange.l0
      repeat' first
      | (with_reducible exact ih0 _ _ _ _ _)
      | (with_reducible exact ih1 _ _ _ _ _ _)
      | (with_reducible exact spec_FindRange.mono _ _ _)
      | (with_reducible exact LeO.refl _)
      | (with_reducible exact LeO.none _)
      | (with_reducible refine LeO.ite ?_ ?_)
      | (with_reducible refine LeO.bind ?_ (fun _ => ?_))
      | exact ih0 _ _ _ _ _
      | exact ih1 _ _ _ _ _ _
      | exact spec_FindRange.mono _ _ _
      | exact LeO.none _
      | refine LeO.ite ?_ ?_
      | refine LeO.bind ?_ (fun _ => ?_)
theorem spec_SplitRange.mono : ∀ a0 a1 a2 k, LeO (spec_SplitRange.f k a0 a1 a2) (spec_SplitRange.f (k + 1) a0 a1 a2) := by
  intro a0 a1 a2 k
  obtain ⟨ih0, ih1⟩ := spec_SplitRange.mono_l k
  unfold spec_SplitRange.f
  repeat' first
      | (with_reducible exact ih0 _ _ _ _ _)
      | (with_reducible exact ih1 _ _ _ _ _ _)
      | (with_reducible exact spec_FindRange.mono _ _ _)
      | (with_reducible exact LeO.refl _)
      | (with_reducible exact LeO.none _)
      | (with_reducible refine LeO.ite ?_ ?_)
      | (with_reducible refine LeO.bind ?_ (fun _ => ?_))
      | exact ih0 _ _ _ _ _
      | exact ih1 _ _ _ _ _ _
      | exact spec_FindRange.mono _ _ _
      | exact LeO.none _
      | refine LeO.ite ?_ ?_
      | refine LeO.bind ?_ (fun _ => ?_)
def spec_SplitRange.T10 : Bool × List (List Nat × List Nat) := (true, [([], []), ([], []), ([], []), ([1, 2], [1, 2]), ([3], [3]), ([4], [4]), ([], []), ([6], [6]), ([], []), ([], []), ([8, 9], [8, 9]), ([10], [10]), ([11], [11]), ([5, 7, 12], [5, 7, 12]), ([13], [13]), ([0, 14], [0, 14]), ([15, 15, 0, 1, 2, 3, 4, 5, 6, 7, 8, 9, 10, 11, 12, 13, 14, 15], [0, 15])])
def spec_SplitRange.B10 : List Nat := [0, 0, 0, 6, 14, 30, 0, 64, 0, 0, 768, 1792, 3840, 8190, 16382, 32767, 65535]
theorem spec_SplitRange.tab10 : rtab .any (opsOf Try.f50 10) = spec_SplitRange.T10 := by kernel_rfl
theorem spec_SplitRange.bits10 : waitsOk spec_SplitRange.T10.2 spec_SplitRange.B10 = true := by kernel_rfl
set_option maxHeartbeats 8000000 in
set_option maxRecDepth 100000 in
theorem spec_SplitRange.calls (k : Nat) (A0 : Option Addr) (c0 : Nat) (l0 : List (S26)) (a1 : Int) (a2 : Int) (r1 : List (S26)) (r2 : Bool) (w : World) (hr0 : Kd.C k26 w A0 l0.length l0) (hc0 : l0.length ≤ c0) (h : spec_SplitRange.f k l0 a1 a2 = some (r1, r2)) :
    Calls Try.prog 50 #[.slice A0 l0.length c0, .int .u64 a1, .int .i64 a2] w fun e w' => ∃ v0_ : Value, e = .returned (.tuple #[v0_, .bool r2]) ∧ Kd.R k26 26 w' w.heap.size (fun _ => True) v0_ r1 ∧ Below w.heap.size w w' := by
  have hu26 := Try.underlying26
  have HR0 := Aside0.mk hr0
  have HC0 := Aside0.mk hc0
  clear hr0 hc0
  have HB := Aside0.mk (Below.refl w.heap.size w)
  have H : ((spec_FindRange.f k l0 a1).bind fun t163 => (if t163 < 0 then (spec_SplitRange.j0 k l0 a1 a2 t163 true) else (if 0 ≤ t163 then (if t163 < (l0.length : Int) then (if ((rd_T26 l0 t163).f0) = a1 then (spec_SplitRange.j0 k l0 a1 a2 t163 true) else ((spec_l01In.f a2 0 99).bind fun t165 => (if t165 = true then (spec_SplitRange.j0 k l0 a1 a2 t163 ((l0.length : Int) == 24)) else (spec_SplitRange.j0 k l0 a1 a2 t163 true)))) else (none)) else (none)))) = some (r1, r2) := h
  clear h
  replace H := Option.bind_eq_some_iff.mp H
  obtain ⟨t163, A40, H⟩ := H
  replace H : (if t163 < 0 then (spec_SplitRange.j0 k l0 a1 a2 t163 true) else (if 0 ≤ t163 then (if t163 < (l0.length : Int) then (if ((rd_T26 l0 t163).f0) = a1 then (spec_SplitRange.j0 k l0 a1 a2 t163 true) else ((spec_l01In.f a2 0 99).bind fun t165 => (if t165 = true then (spec_SplitRange.j0 k l0 a1 a2 t163 ((l0.length : Int) == 24)) else (spec_SplitRange.j0 k l0 a1 a2 t163 true)))) else (none)) else (none))) = some (r1, r2) := H
  have A4 := Aside0.mk A40
  clear A40
  have HC5 := Aside0.mk H
  clear H
  go_enter Try.func50, Try.ntmps50
  go_upto_region 2 with (first | ((with_reducible refine gate_callee (f := 28) rfl ?_); refine goesL_ (some 13) rfl rfl Try.func28 (by kernel_rfl) rfl #[.slice A0 l0.length c0, .int .u64 a1] rfl u6_3 ?_; (with_reducible refine (spec_FindRange.calls k _ _ l0 a1 t163 _ ?side1 ?side2 A4.out).mono ?_); (case side1 => repeat (first | exact HR0.out | (with_reducible refine Kd.C_alloc ?_ _) | (with_reducible refine Kd.C_drewN ?_ _) | (with_reducible refine Kd.C_drew ?_))); (case side2 => exact HC0.out); rintro e w6 ⟨rfl, hb⟩; refine ⟨_, rfl, ?_⟩; have n0_ := Aside0.mk (below_step u6_0 hb); clear HB; have HB := n0_; clear n0_; (try clear hb); (try clear hb2); (try clear hk); (try clear hi)))
  (try simp only [Act.put, List.setIfInBounds_toArray, List.set_cons_zero, List.set_cons_succ])
  go_cut [34] (fun v34 wc => ∃ (kq : Nat) (x34_4 : Bool), v34 = .bool x34_4 ∧ Aside0 (spec_SplitRange.j0 kq l0 a1 a2 t163 x34_4 = some (r1, r2)) ∧ Aside0 (kq ≤ k) ∧ Aside0 (Below w.heap.size w wc))
  case first =>
    have H := HC5.out
    clear HC5
    by_cases c7 : t163 < 0
    · rw [if_pos c7] at H
      have c7b0 : decide (t163 < 0) = true := decide_eq_true c7
      clear c7
      (first | rw [c7b0] | (simp only [i64_w, i32_w]; rw [c7b0]) | skip)
      have H' := Aside0.mk H
      clear H
      go_wp2
      go_meet
      case rel => exact ⟨_, (true), u6_2, H', ⟨by first | omega | exact Nat.le_refl _⟩, ⟨by repeat (first | (with_reducible first | exact HB.out | apply below_alloc | apply pw_below_drewN | apply below_drew1) | exact HB.out)⟩⟩
    · rw [if_neg c7] at H
      have c7b0 : decide (t163 < 0) = false := decide_eq_false c7
      clear c7
      (first | rw [c7b0] | (simp only [i64_w, i32_w]; rw [c7b0]) | skip)
      by_cases c8 : 0 ≤ t163
      · rw [if_pos c8] at H
        have c8b0 : decide (0 ≤ t163) = true := decide_eq_true c8
        clear c8
        by_cases c9 : t163 < (l0.length : Int)
        · rw [if_pos c9] at H
          have c9b0 : decide (t163 < (l0.length : Int)) = true := decide_eq_true c9
          clear c9
          by_cases c10 : ((rd_T26 l0 t163).f0) = a1
          · rw [if_pos c10] at H
            have c10b0 : (((rd_T26 l0 t163).f0) == a1) = true := beq_iff_eq.mpr c10
            have c10b1 : (((rd_T26 l0 t163).f0) != a1) = false := bne_eq_false_iff_eq.mpr c10
            clear c10
            have H' := Aside0.mk H
            clear H
            have p164 : 0 ≤ (t163 : Int) := of_decide_eq_true u6_1
            have q164 : t163 < (l0.length : Int) := of_decide_eq_true u6_1
            obtain ⟨ad164, e164, hx164_0, hx164_1, hx164_2⟩ := at_T26 HR0.out t163 p164 q164
            cases e164
            replace hx164_0 := (HB.out.cell (World.block_lt_of_cell? w _ hx164_0)).trans hx164_0
            replace hx164_1 := (HB.out.cell (World.block_lt_of_cell? w _ hx164_1)).trans hx164_1
            replace hx164_2 := (HB.out.cell (World.block_lt_of_cell? w _ hx164_2)).trans hx164_2
            replace p164 := eq_true p164
            replace q164 := eq_true q164
            go_wp2
            go_meet
            case rel => exact ⟨_, (true), u6_2, H', ⟨by first | omega | exact Nat.le_refl _⟩, ⟨by repeat (first | (with_reducible first | exact HB.out | apply below_alloc | apply pw_below_drewN | apply below_drew1) | exact HB.out)⟩⟩
          · rw [if_neg c10] at H
            have c10b0 : (((rd_T26 l0 t163).f0) == a1) = false := beq_eq_false_iff_ne.mpr c10
            have c10b1 : (((rd_T26 l0 t163).f0) != a1) = true := bne_iff_ne.mpr c10
            replace H := Option.bind_eq_some_iff.mp H
            obtain ⟨t165, A110, H⟩ := H
            replace H : (if t165 = true then (spec_SplitRange.j0 k l0 a1 a2 t163 ((l0.length : Int) == 24)) else (spec_SplitRange.j0 k l0 a1 a2 t163 true)) = some (r1, r2) := H
            have A11 := Aside0.mk A110
            clear A110
            by_cases c12 : t165 = true
            · subst c12
              have H1 : (spec_SplitRange.j0 k l0 a1 a2 t163 ((l0.length : Int) == 24)) = some (r1, r2) := by rw [if_pos rfl] at H; exact H
              clear H
              have H := H1
              clear H1
              have H' := Aside0.mk H
              clear H
              have p164 : 0 ≤ (t163 : Int) := of_decide_eq_true u6_1
              have q164 : t163 < (l0.length : Int) := of_decide_eq_true u6_1
              obtain ⟨ad164, e164, hx164_0, hx164_1, hx164_2⟩ := at_T26 HR0.out t163 p164 q164
              cases e164
              replace hx164_0 := (HB.out.cell (World.block_lt_of_cell? w _ hx164_0)).trans hx164_0
              replace hx164_1 := (HB.out.cell (World.block_lt_of_cell? w _ hx164_1)).trans hx164_1
              replace hx164_2 := (HB.out.cell (World.block_lt_of_cell? w _ hx164_2)).trans hx164_2
              replace p164 := eq_true p164
              replace q164 := eq_true q164
              go_wp2_with (first | (go_at_call 55; (with_reducible refine (spec_l01In.calls a2 0 99 true _ A11.out).mono ?_); rintro e w' ⟨rfl, ⟨nd, rfl⟩⟩))
              go_meet
              case rel => exact ⟨_, (((l0.length : Int) == 24)), u6_2, H', ⟨by first | omega | exact Nat.le_refl _⟩, ⟨by repeat (first | (with_reducible first | exact HB.out | apply below_alloc | apply pw_below_drewN | apply below_drew1) | exact HB.out)⟩⟩
            · replace c12 := Bool.eq_false_iff.mpr c12
              subst c12
              have H1 : (spec_SplitRange.j0 k l0 a1 a2 t163 true) = some (r1, r2) := by rw [if_neg (show ¬ (false = true) by decide)] at H; exact H
              clear H
              have H := H1
              clear H1
              have H' := Aside0.mk H
              clear H
              have p164 : 0 ≤ (t163 : Int) := of_decide_eq_true u6_1
              have q164 : t163 < (l0.length : Int) := of_decide_eq_true u6_1
              obtain ⟨ad164, e164, hx164_0, hx164_1, hx164_2⟩ := at_T26 HR0.out t163 p164 q164
              cases e164
              replace hx164_0 := (HB.out.cell (World.block_lt_of_cell? w _ hx164_0)).trans hx164_0
              replace hx164_1 := (HB.out.cell (World.block_lt_of_cell? w _ hx164_1)).trans hx164_1
              replace hx164_2 := (HB.out.cell (World.block_lt_of_cell? w _ hx164_2)).trans hx164_2
              replace p164 := eq_true p164
              replace q164 := eq_true q164
              go_wp2_with (first | (go_at_call 55; (with_reducible refine (spec_l01In.calls a2 0 99 false _ A11.out).mono ?_); rintro e w' ⟨rfl, ⟨nd, rfl⟩⟩))
              go_meet
              case rel => exact ⟨_, (true), u6_2, H', ⟨by first | omega | exact Nat.le_refl _⟩, ⟨by repeat (first | (with_reducible first | exact HB.out | apply below_alloc | apply pw_below_drewN | apply below_drew1) | exact HB.out)⟩⟩
        · rw [if_neg c9] at H
          exact absurd H (by simp)
      · rw [if_neg c8] at H
        exact absurd H (by simp)
  case rest =>
    clear HC5
    try clear c1
    try clear p1
    try clear q1
    try clear hx1
    try clear c2
    try clear p2
    try clear c5
    try clear c7
    try clear c7b0
    try clear c8
    try clear c8b0
    try clear c9
    try clear c9b0
    try clear c10
    try clear c10b0
    try clear c10b1
    try clear c12
    try clear hx164_0
    try clear hx164_1
    try clear hx164_2
    try clear p164
    try clear q164
    obtain ⟨kq, x34_4, rfl, HA, HJ4, HB⟩ := hcut
    cases kq with
    | zero => exact absurd HA.out (by simp [spec_SplitRange.j0])
    | succ kj4 =>
      have H := HA.out
      clear HA
      simp only [spec_SplitRange.j0] at H
      by_cases c13 : x34_4 = true
      · subst c13
        have H1 : (some (([] : List (S26)), false)) = some (r1, r2) := by rw [if_pos rfl] at H; exact H
        clear H
        have H := H1
        clear H1
        simp only [Option.some.injEq, Prod.mk.injEq] at H
        obtain ⟨rfl, rfl⟩ := H
        go_wp2
        go_ret2
        exact ⟨_, by first | rfl | (simp [errW_none, errW_some] <;> rfl) | (simp [*, errW_none, errW_some] <;> rfl), by first | exact Kd.R_nil _ _ _ _ _ | exact Kd.N_nil _ _ _ _ _ | exact Kd.V_nil _ _ _ _ _ | exact Kd.Q_nil _ _ _ _ _ | exact Kd.S_nil _ _ _ _ _, by repeat (first | (with_reducible first | exact HB.out | apply below_alloc | apply pw_below_drewN | apply below_drew1) | exact HB.out)⟩
      · replace c13 := Bool.eq_false_iff.mpr c13
        subst c13
        have H1 : (spec_SplitRange.l0 kj4 l0 a1 a2 t163 (([] : List (S26))) 0) = some (r1, r2) := by rw [if_neg (show ¬ (false = true) by decide)] at H; exact H
        clear H
        have H := H1
        clear H1
        obtain ⟨y166, hy166⟩ : ∃ y_ : List (S26), y_ = (([] : List (S26))) := ⟨_, rfl⟩
        replace H : (spec_SplitRange.l0 kj4 l0 a1 a2 t163 y166 0) = some (r1, r2) := by first | (rw [hy166]; with_reducible exact H) | (have H2_ := (Option.bind_some _ _).symm.trans H; rw [hy166]; with_reducible exact H2_) | (have H2_ := (Option.bind_some _ _).symm.trans H; with_reducible exact H2_) | with_reducible exact H | (rw [hy166]; exact H) | exact H
        have Ny166 := Aside0.mk hy166
        clear hy166
        have H' := Aside0.mk H
        clear H
        go_wp2_with (first | ((with_reducible refine gate_dst (N := 35) rfl ?_); (try (refine gate_guard (by rfl) ?_; dsimp only)); refine Kd.R_lit k26 _ 26 ?hg (N := 35) ?hd (xs := ([] : List (S26))) (inner := []) (ok := fun _ => True) (okp := fun _ => True) ?hr ?hp (fun _ hk => hk) trivial (Below.refl _ _) (Nat.le_refl _) (by simp) ?_; (case hd => rfl); (case hg => rfl); (case hr => first | (go_simp; done) | (go_simp; rfl)); (case hp => exact (Reps.none _ _)); intro v167 w14 ho15 hb hg_ hnew_; clear hg_ hnew_; (first | rw [← Ny166.out] at ho15 | (simp only [Int.reduceToNat] at ho15; rw [← Ny166.out] at ho15)); have n0_ := Aside0.mk (Kd.R_lower ho15 (below_size u6_0)); have n1_ := Aside0.mk (below_step u6_0 hb); clear HB; have HO168 := n0_; have HB := n1_; clear n0_ n1_; clear hb ho15))
        go_loopg [9, 10] kj4 (fun kq v9 v10 w' => ∃ (x9_2 : List (S26)) (x10_2 : Int), v10 = .int .i64 x10_2 ∧ Aside0 (spec_SplitRange.l0 kq l0 a1 a2 t163 x9_2 x10_2 = some (r1, r2)) ∧ Aside0 (kq ≤ kj4) ∧ Aside0 (Kd.R k26 26 w' w.heap.size (fun _ => True) v9 x9_2) ∧ Aside0 (Below w.heap.size w w'))
        case atStart => exact ⟨(y166), (0), u6_2, H', ⟨Nat.le_refl _⟩, ⟨by (with_reducible repeat (first | apply Kd.R_alloc | apply Kd.R_drewN | apply Kd.R_drew)); exact HO168.out⟩, ⟨by repeat (first | (with_reducible first | exact HB.out | apply below_alloc | apply pw_below_drewN | apply below_drew1) | exact HB.out)⟩⟩
        case round =>
          clear H'
          try clear c1
          try clear p1
          try clear q1
          try clear hx1
          try clear c2
          try clear p2
          try clear c5
          try clear c7
          try clear c7b0
          try clear c8
          try clear c8b0
          try clear c9
          try clear c9b0
          try clear c10
          try clear c10b0
          try clear c10b1
          try clear c12
          try clear c13
          try clear hx164_0
          try clear hx164_1
          try clear hx164_2
          try clear p1
          try clear p164
          try clear p2
          try clear q1
          try clear q164
          obtain ⟨x9_2, x10_2, rfl, HA, HK2, HO_9, HB⟩ := hrel
          cases gk with
          | zero => exact absurd HA.out (by simp [spec_SplitRange.l0])
          | succ k2 =>
            have H := HA.out
            clear HA
            simp only [spec_SplitRange.l0] at H
            by_cases c16 : x10_2 < (l0.length : Int)
            · rw [if_pos c16] at H
              have c16b0 : decide (x10_2 < (l0.length : Int)) = true := decide_eq_true c16
              clear c16
              by_cases c17 : x10_2 = t163
              · rw [if_pos c17] at H
                have c17b0 : (x10_2 == t163) = true := beq_iff_eq.mpr c17
                have c17b1 : (x10_2 != t163) = false := bne_eq_false_iff_eq.mpr c17
                clear c17
                by_cases c18 : 0 ≤ x10_2
                · rw [if_pos c18] at H
                  have c18b0 : decide (0 ≤ x10_2) = true := decide_eq_true c18
                  clear c18
                  by_cases c19 : x9_2.length < 5864062014805
                  · rw [if_pos c19] at H
                    have LMc19 := Aside0.mk c19
                    clear c19
                    obtain ⟨y171, hy171⟩ : ∃ y_ : List (S26), y_ = (x9_2 ++ [(⟨(rd_T26 l0 x10_2).f0, IntKind.u64.wrap (a1 - 1), (rd_T26 l0 x10_2).f2⟩ : S26)]) := ⟨_, rfl⟩
                    replace H : (if y171.length < 5864062014805 then (spec_SplitRange.l0 k2 l0 a1 a2 t163 (y171 ++ [(⟨a1, (rd_T26 l0 x10_2).f1, a2⟩ : S26)]) (wrap64 (x10_2 + 1))) else (none)) = some (r1, r2) := by first | (rw [hy171]; with_reducible exact H) | (have H2_ := (Option.bind_some _ _).symm.trans H; rw [hy171]; with_reducible exact H2_) | (have H2_ := (Option.bind_some _ _).symm.trans H; with_reducible exact H2_) | with_reducible exact H | (rw [hy171]; exact H) | exact H
                    have Ny171 := Aside0.mk hy171
                    clear hy171
                    by_cases c20 : y171.length < 5864062014805
                    · rw [if_pos c20] at H
                      have LMc20 := Aside0.mk c20
                      clear c20
                      obtain ⟨y175, hy175⟩ : ∃ y_ : List (S26), y_ = (y171 ++ [(⟨a1, (rd_T26 l0 x10_2).f1, a2⟩ : S26)]) := ⟨_, rfl⟩
                      replace H : (spec_SplitRange.l0 k2 l0 a1 a2 t163 y175 (wrap64 (x10_2 + 1))) = some (r1, r2) := by first | (rw [hy175]; with_reducible exact H) | (have H2_ := (Option.bind_some _ _).symm.trans H; rw [hy175]; with_reducible exact H2_) | (have H2_ := (Option.bind_some _ _).symm.trans H; with_reducible exact H2_) | with_reducible exact H | (rw [hy175]; exact H) | exact H
                      have Ny175 := Aside0.mk hy175
                      clear hy175
                      have H' := Aside0.mk H
                      clear H
                      try go_wp2
                      have n0_ := Aside0.mk (Kd.R_drew HO_9.out)
                      have n1_ := Aside0.mk (below_drew1 HB.out)
                      clear HO_9
                      clear HB
                      have HO_9 := n0_
                      have HB := n1_
                      clear n0_ n1_
                      have p169 : 0 ≤ (x10_2 : Int) := of_decide_eq_true u6_1
                      have q169 : x10_2 < (l0.length : Int) := of_decide_eq_true u6_1
                      obtain ⟨ad169, e169, hx169_0, hx169_1, hx169_2⟩ := at_T26 HR0.out x10_2 p169 q169
                      have hw169_2 := hx169_2
                      have hw169_1 := hx169_1
                      have hw169_0 := hx169_0
                      cases e169
                      replace hx169_0 := (HB.out.cell (World.block_lt_of_cell? w _ hx169_0)).trans hx169_0
                      replace hx169_1 := (HB.out.cell (World.block_lt_of_cell? w _ hx169_1)).trans hx169_1
                      replace hx169_2 := (HB.out.cell (World.block_lt_of_cell? w _ hx169_2)).trans hx169_2
                      replace p169 := eq_true p169
                      replace q169 := eq_true q169
                      have p170 : 0 ≤ (x10_2 : Int) := of_decide_eq_true u6_1
                      have q170 : x10_2 < (l0.length : Int) := of_decide_eq_true u6_1
                      obtain ⟨ad170, e170, hx170_0, hx170_1, hx170_2⟩ := at_T26 HR0.out x10_2 p170 q170
                      have hw170_2 := hx170_2
                      have hw170_1 := hx170_1
                      have hw170_0 := hx170_0
                      obtain rfl : ad169 = ad170 := (by injection e170)
                      replace hx170_0 := (HB.out.cell (World.block_lt_of_cell? w _ hx170_0)).trans hx170_0
                      replace hx170_1 := (HB.out.cell (World.block_lt_of_cell? w _ hx170_1)).trans hx170_1
                      replace hx170_2 := (HB.out.cell (World.block_lt_of_cell? w _ hx170_2)).trans hx170_2
                      replace p170 := eq_true p170
                      replace q170 := eq_true q170
                      refine start_ (n := 17) (S := fun w' => w'.cell? (ad169.add ((x10_2).toNat * 3)) = some (.int .u64 ((rd_T26 l0 x10_2).f0)) ∧ w'.cell? ⟨(ad169.add ((x10_2).toNat * 3)).block, (ad169.add ((x10_2).toNat * 3)).off + 1, none⟩ = some (.int .u64 ((rd_T26 l0 x10_2).f1)) ∧ w'.cell? ⟨(ad169.add ((x10_2).toNat * 3)).block, (ad169.add ((x10_2).toNat * 3)).off + 2, none⟩ = some (.int .i64 ((rd_T26 l0 x10_2).f2)) ∧ w'.cell? (ad169.add ((x10_2).toNat * 3)) = some (.int .u64 ((rd_T26 l0 x10_2).f0)) ∧ w'.cell? ⟨(ad169.add ((x10_2).toNat * 3)).block, (ad169.add ((x10_2).toNat * 3)).off + 1, none⟩ = some (.int .u64 ((rd_T26 l0 x10_2).f1)) ∧ w'.cell? ⟨(ad169.add ((x10_2).toNat * 3)).block, (ad169.add ((x10_2).toNat * 3)).off + 2, none⟩ = some (.int .i64 ((rd_T26 l0 x10_2).f2))) (ds := []) #[false, false, false, false, false, false, false, false, false, false, false, false, false, false, false, false, false] (by kernel_rfl) rfl rfl ⟨((HB.out.cell (World.block_lt_of_cell? w _ hw169_0)).trans hw169_0), ((HB.out.cell (World.block_lt_of_cell? w _ hw169_1)).trans hw169_1), ((HB.out.cell (World.block_lt_of_cell? w _ hw169_2)).trans hw169_2), ((HB.out.cell (World.block_lt_of_cell? w _ hw170_0)).trans hw170_0), ((HB.out.cell (World.block_lt_of_cell? w _ hw170_1)).trans hw170_1), ((HB.out.cell (World.block_lt_of_cell? w _ hw170_2)).trans hw170_2)⟩ (fun hHeld => ?_); refine with_tabW spec_SplitRange.tab10 spec_SplitRange.bits10 (fun HT_ HW_ => ?_)
                      generalize wr.drew = w21 at HO_9 HB hx169_0 hx169_1 hx169_2 hx170_0 hx170_1 hx170_2 hHeld ⊢
                      refine pure_ (i := 0) (N := some 52) (v := ?_) (a' := ?_) #[true, false, false, false, false, false, false, false, false, false, false, false, false, false, false, false, false] rfl rfl (any_of HT_.out (by kernel_rfl)) (fun _ _ _ h => h) (Or.inl ⟨by rfl, ?_⟩) ?_ ?_
                      rotate_left
                      · intro w'
                        go_simp
                        with_reducible rfl
                      rotate_left
                      · simp only [Act.put, List.setIfInBounds_toArray, List.set_cons_zero, List.set_cons_succ, i64_w, i32_w]
                        rfl
                      refine pure_ (i := 1) (N := some 53) (v := ?_) (a' := ?_) #[true, true, false, false, false, false, false, false, false, false, false, false, false, false, false, false, false] rfl rfl (any_of HT_.out (by kernel_rfl)) (fun _ _ _ h => h) (Or.inl ⟨by rfl, ?_⟩) ?_ ?_
                      rotate_left
                      · intro w'
                        go_simp
                        with_reducible rfl
                      rotate_left
                      · simp only [Act.put, List.setIfInBounds_toArray, List.set_cons_zero, List.set_cons_succ, i64_w, i32_w]
                        rfl
                      refine pure_ (i := 2) (N := some 54) (v := ?_) (a' := ?_) #[true, true, true, false, false, false, false, false, false, false, false, false, false, false, false, false, false] rfl rfl (any_of HT_.out (by kernel_rfl)) (fun _ _ _ h => h) (Or.inl ⟨by rfl, ?_⟩) ?_ ?_
                      rotate_left
                      · intro w'
                        go_simp
                        with_reducible rfl
                      rotate_left
                      · simp only [Act.put, List.setIfInBounds_toArray, List.set_cons_zero, List.set_cons_succ, i64_w, i32_w]
                        rfl
                      refine pure_ (i := 3) (N := some 55) (v := ?_) (a' := ?_) #[true, true, true, true, false, false, false, false, false, false, false, false, false, false, false, false, false] rfl rfl (any_of HT_.out (by kernel_rfl)) (fun _ _ _ h => h) (Or.inl ⟨by rfl, ?_⟩) ?_ ?_
                      rotate_left
                      · intro w'
                        go_simp
                        with_reducible rfl
                      rotate_left
                      · simp only [Act.put, List.setIfInBounds_toArray, List.set_cons_zero, List.set_cons_succ, i64_w, i32_w]
                        rfl
                      refine pure_ (i := 4) (N := some 56) (v := ?_) (a' := ?_) #[true, true, true, true, true, false, false, false, false, false, false, false, false, false, false, false, false] rfl rfl (any_of HT_.out (by kernel_rfl)) (fun _ _ _ h => h) (Or.inl ⟨by rfl, ?_⟩) ?_ ?_
                      rotate_left
                      · intro w'
                        go_simp
                        with_reducible rfl
                      rotate_left
                      · simp only [Act.put, List.setIfInBounds_toArray, List.set_cons_zero, List.set_cons_succ, i64_w, i32_w]
                        rfl
                      refine pure_ (i := 6) (N := some 58) (v := ?_) (a' := ?_) #[true, true, true, true, true, false, true, false, false, false, false, false, false, false, false, false, false] rfl rfl (any_of HT_.out (by kernel_rfl)) (fun _ _ _ h => h) (Or.inl ⟨by rfl, ?_⟩) ?_ ?_
                      rotate_left
                      · intro w'
                        go_simp
                        with_reducible rfl
                      rotate_left
                      · simp only [Act.put, List.setIfInBounds_toArray, List.set_cons_zero, List.set_cons_succ, i64_w, i32_w]
                        rfl
                      refine pure_ (i := 7) (N := some 59) (v := ?_) (a' := ?_) #[true, true, true, true, true, false, true, true, false, false, false, false, false, false, false, false, false] rfl rfl (any_of HT_.out (by kernel_rfl)) (fun _ _ _ h => h) (Or.inl ⟨by rfl, ?_⟩) ?_ ?_
                      rotate_left
                      · intro w'
                        go_simp
                        with_reducible rfl
                      rotate_left
                      · simp only [Act.put, List.setIfInBounds_toArray, List.set_cons_zero, List.set_cons_succ, i64_w, i32_w]
                        rfl
                      refine pure_ (i := 8) (N := some 60) (v := ?_) (a' := ?_) #[true, true, true, true, true, false, true, true, true, false, false, false, false, false, false, false, false] rfl rfl (any_of HT_.out (by kernel_rfl)) (fun _ _ _ h => h) (Or.inl ⟨by rfl, ?_⟩) ?_ ?_
                      rotate_left
                      · intro w'
                        go_simp
                        with_reducible rfl
                      rotate_left
                      · simp only [Act.put, List.setIfInBounds_toArray, List.set_cons_zero, List.set_cons_succ, i64_w, i32_w]
                        rfl
                      refine pure_ (i := 9) (N := some 61) (v := ?_) (a' := ?_) #[true, true, true, true, true, false, true, true, true, true, false, false, false, false, false, false, false] rfl rfl (any_of HT_.out (by kernel_rfl)) (fun _ _ _ h => h) (Or.inl ⟨by rfl, ?_⟩) ?_ ?_
                      rotate_left
                      · intro w'
                        go_simp
                        with_reducible rfl
                      rotate_left
                      · simp only [Act.put, List.setIfInBounds_toArray, List.set_cons_zero, List.set_cons_succ, i64_w, i32_w]
                        rfl
                      refine pure_ (i := 10) (N := some 62) (v := ?_) (a' := ?_) #[true, true, true, true, true, false, true, true, true, true, true, false, false, false, false, false, false] rfl rfl (any_of HT_.out (by kernel_rfl)) (fun _ _ _ h => h) (Or.inl ⟨by rfl, ?_⟩) ?_ ?_
                      rotate_left
                      · intro w'
                        go_simp
                        with_reducible rfl
                      rotate_left
                      · simp only [Act.put, List.setIfInBounds_toArray, List.set_cons_zero, List.set_cons_succ, i64_w, i32_w]
                        rfl
                      refine pure_ (i := 11) (N := some 63) (v := ?_) (a' := ?_) #[true, true, true, true, true, false, true, true, true, true, true, true, false, false, false, false, false] rfl rfl (any_of HT_.out (by kernel_rfl)) (fun _ _ _ h => h) (Or.inl ⟨by rfl, ?_⟩) ?_ ?_
                      rotate_left
                      · intro w'
                        go_simp
                        with_reducible rfl
                      rotate_left
                      · simp only [Act.put, List.setIfInBounds_toArray, List.set_cons_zero, List.set_cons_succ, i64_w, i32_w]
                        rfl
                      refine take_ (i := 5) (N := some 57) (v := ?_) (a' := ?_) #[true, true, true, true, true, true, true, true, true, true, true, true, false, false, false, false, false] rfl rfl (take_ofW HT_.out HW_.out (by kernel_rfl)) (fun _ _ _ h => h) (Or.inl ⟨by rfl, ?_⟩) hHeld ?_ ?_
                      rotate_left
                      · rintro w' ⟨s0, s1, s2, s3, s4, s5⟩
                        go_simp
                        with_reducible rfl
                      rotate_left
                      · simp only [Act.put, List.setIfInBounds_toArray, List.set_cons_zero, List.set_cons_succ, i64_w, i32_w]
                        rfl
                      refine take_ (i := 12) (N := some 64) (v := ?_) (a' := ?_) #[true, true, true, true, true, true, true, true, true, true, true, true, true, false, false, false, false] rfl rfl (take_ofW HT_.out HW_.out (by kernel_rfl)) (fun _ _ _ h => h) (Or.inl ⟨by rfl, ?_⟩) hHeld ?_ ?_
                      rotate_left
                      · rintro w' ⟨s0, s1, s2, s3, s4, s5⟩
                        go_simp
                        with_reducible rfl
                      rotate_left
                      · simp only [Act.put, List.setIfInBounds_toArray, List.set_cons_zero, List.set_cons_succ, i64_w, i32_w]
                        rfl
                      refine pure_ (i := 13) (N := some 65) (v := ?_) (a' := ?_) #[true, true, true, true, true, true, true, true, true, true, true, true, true, true, false, false, false] rfl rfl (any_of HT_.out (by kernel_rfl)) (fun _ _ _ h => h) (Or.inl ⟨by rfl, ?_⟩) ?_ ?_
                      rotate_left
                      · intro w'
                        go_simp
                        with_reducible rfl
                      rotate_left
                      · simp only [Act.put, List.setIfInBounds_toArray, List.set_cons_zero, List.set_cons_succ, i64_w, i32_w]
                        rfl
                      refine one_ (i := 14) (N := some 66) #[true, true, true, true, true, true, true, true, true, true, true, true, true, true, true, false, false] rfl rfl (one_of HT_.out (by kernel_rfl)) (by decide) (fun K hK => ?_)
                      refine value_ (w1 := ?_) (v := ?_) (by rfl) rfl ?_ ?_
                      rotate_left 2
                      · go_simp
                        constructor
                        · rfl
                        · rfl
                      refine hK.out _ _ ⟨(World.cell?_alloc_lt _ _ _ (World.block_lt_of_cell? _ _ (((HB.out.cell (World.block_lt_of_cell? w _ hw169_0)).trans hw169_0)))).trans (((HB.out.cell (World.block_lt_of_cell? w _ hw169_0)).trans hw169_0)), (World.cell?_alloc_lt _ _ _ (World.block_lt_of_cell? _ _ (((HB.out.cell (World.block_lt_of_cell? w _ hw169_1)).trans hw169_1)))).trans (((HB.out.cell (World.block_lt_of_cell? w _ hw169_1)).trans hw169_1)), (World.cell?_alloc_lt _ _ _ (World.block_lt_of_cell? _ _ (((HB.out.cell (World.block_lt_of_cell? w _ hw169_2)).trans hw169_2)))).trans (((HB.out.cell (World.block_lt_of_cell? w _ hw169_2)).trans hw169_2)), (World.cell?_alloc_lt _ _ _ (World.block_lt_of_cell? _ _ (((HB.out.cell (World.block_lt_of_cell? w _ hw170_0)).trans hw170_0)))).trans (((HB.out.cell (World.block_lt_of_cell? w _ hw170_0)).trans hw170_0)), (World.cell?_alloc_lt _ _ _ (World.block_lt_of_cell? _ _ (((HB.out.cell (World.block_lt_of_cell? w _ hw170_1)).trans hw170_1)))).trans (((HB.out.cell (World.block_lt_of_cell? w _ hw170_1)).trans hw170_1)), (World.cell?_alloc_lt _ _ _ (World.block_lt_of_cell? _ _ (((HB.out.cell (World.block_lt_of_cell? w _ hw170_2)).trans hw170_2)))).trans (((HB.out.cell (World.block_lt_of_cell? w _ hw170_2)).trans hw170_2))⟩ (fun hHeld => ?_)
                      clear hK K
                      refine norm_ (a' := ?_) ?_ ?_
                      rotate_left
                      · show Act.put _ (some 66) _ = _
                        simp only [Act.put, List.setIfInBounds_toArray, List.set_cons_zero, List.set_cons_succ, i64_w, i32_w]
                        rfl
                      refine one_ (i := 15) (N := some 67) #[true, true, true, true, true, true, true, true, true, true, true, true, true, true, true, true, false] rfl rfl (one_of HT_.out (by kernel_rfl)) (by decide) (fun K hK => ?_)
                      refine Kd.R_append_step k26 (w0 := w) w.heap.size (by rfl) (.tmp 52) (.tmp 66) 32 26 (.agg #[(.int .u64 0), (.int .u64 0), (.int .i64 0)]) 24 rfl Try.underlying32 info26 rfl (by decide) (by omega) u9 x9_2 (⟨(rd_T26 l0 x10_2).f0, IntKind.u64.wrap (a1 - 1), (rd_T26 l0 x10_2).f2⟩ : S26) [.int .u64 ((rd_T26 l0 x10_2).f0), .int .u64 (IntKind.u64.wrap (a1 - 1)), .int .i64 ((rd_T26 l0 x10_2).f2)] (fun _ => True) (fun _ => False) rfl rfl ?aP (fun _ hk => hk.elim) ?aF ?aO ?aB ?aS ?aL ?_
                      (case aP => exact k26_mkM _ _ _ (⟨(rd_T26 l0 x10_2).f0, IntKind.u64.wrap (a1 - 1), (rd_T26 l0 x10_2).f2⟩ : S26))
                      (case aB => exact u6_0)
                      (case aF => exact (fun _ _ => trivial))
                      (case aO => exact u6_4)
                      (case aS => exact (below_size u6_0))
                      (case aL => have := LMc19.out; omega)
                      intro v172 w22 ho hb hg hat
                      rw [← Ny171.out] at ho
                      have n0_ := Aside0.mk (hb)
                      have n1_ := Aside0.mk (ho)
                      clear HB
                      clear HO_9
                      have HB := n0_
                      have HO173 := n1_
                      clear n0_ n1_
                      clear ho hb hg hat
                      refine hK.out _ _ ⟨((HB.out.cell (World.block_lt_of_cell? w _ hw169_0)).trans hw169_0), ((HB.out.cell (World.block_lt_of_cell? w _ hw169_1)).trans hw169_1), ((HB.out.cell (World.block_lt_of_cell? w _ hw169_2)).trans hw169_2), ((HB.out.cell (World.block_lt_of_cell? w _ hw170_0)).trans hw170_0), ((HB.out.cell (World.block_lt_of_cell? w _ hw170_1)).trans hw170_1), ((HB.out.cell (World.block_lt_of_cell? w _ hw170_2)).trans hw170_2)⟩ (fun hHeld => ?_)
                      clear hK K
                      refine norm_ (a' := ?_) ?_ ?_
                      rotate_left
                      · show Act.put _ (some 67) _ = _
                        simp only [Act.put, List.setIfInBounds_toArray, List.set_cons_zero, List.set_cons_succ, i64_w, i32_w]
                        rfl
                      refine pure_ (i := 16) (N := some 9) (v := ?_) (a' := ?_) #[true, true, true, true, true, true, true, true, true, true, true, true, true, true, true, true, true] rfl rfl (any_of HT_.out (by kernel_rfl)) (fun _ _ _ h => h) (Or.inl ⟨by rfl, ?_⟩) ?_ ?_
                      rotate_left
                      · intro w'
                        go_simp
                        with_reducible rfl
                      rotate_left
                      · simp only [Act.put, List.setIfInBounds_toArray, List.set_cons_zero, List.set_cons_succ, i64_w, i32_w]
                        rfl
                      refine done_ (done_of HT_.out (by kernel_rfl)) ?_
                      have p174 : 0 ≤ (x10_2 : Int) := of_decide_eq_true u6_1
                      have q174 : x10_2 < (l0.length : Int) := of_decide_eq_true u6_1
                      obtain ⟨ad174, e174, hx174_0, hx174_1, hx174_2⟩ := at_T26 HR0.out x10_2 p174 q174
                      obtain rfl : ad169 = ad174 := (by injection e174)
                      replace hx174_0 := (HB.out.cell (World.block_lt_of_cell? w _ hx174_0)).trans hx174_0
                      replace hx174_1 := (HB.out.cell (World.block_lt_of_cell? w _ hx174_1)).trans hx174_1
                      replace hx174_2 := (HB.out.cell (World.block_lt_of_cell? w _ hx174_2)).trans hx174_2
                      replace p174 := eq_true p174
                      replace q174 := eq_true q174
                      try go_wp2_with (first | ((with_reducible refine gate_builtin (b := .append) (xs := #[.tmp 68, .tmp 77]) rfl ?_); (try (refine gate_guard (by rfl) ?_; dsimp only)); at_builtin; refine Kd.R_append k26 (w0 := w) w.heap.size rfl (.tmp 68) (.tmp 77) 32 26 (.agg #[(.int .u64 0), (.int .u64 0), (.int .i64 0)]) 24 rfl Try.underlying32 info26 rfl (by decide) (by omega) v172 y171 (⟨a1, (rd_T26 l0 x10_2).f1, a2⟩ : S26) [.int .u64 a1, .int .u64 ((rd_T26 l0 x10_2).f1), .int .i64 a2] (fun _ => True) (fun _ => False) rfl rfl ?aP (fun _ hk => hk.elim) ?aF ?aO ?aB ?aS ?aL ?_; (case aP => exact k26_mkM _ _ _ (⟨a1, (rd_T26 l0 x10_2).f1, a2⟩ : S26)); (case aB => exact u6_0); (case aF => exact (fun _ _ => trivial)); (case aO => exact (by (with_reducible repeat (first | apply Kd.R_alloc | apply Kd.R_drewN | apply Kd.R_drew)); exact HO173.out)); (case aS => exact (below_size u6_0)); (case aL => have := LMc20.out; omega); intro v176 w23 ho hb hg hat; rw [← Ny175.out] at ho; have n0_ := Aside0.mk (hb); have n1_ := Aside0.mk (ho); clear HB; clear HO173; have HB := n0_; have HO177 := n1_; clear n0_ n1_; clear ho hb hg hat))
                      go_roundg k2
                      case measure => have := HJ4.out; have := HK2.out; omega
                      case rel => exact ⟨(y175), (wrap64 (x10_2 + 1)), u6_2, H', ⟨by have := HJ4.out; have := HK2.out; omega⟩, ⟨by (with_reducible repeat (first | apply Kd.R_alloc | apply Kd.R_drewN | apply Kd.R_drew)); exact HO177.out⟩, ⟨by repeat (first | (with_reducible first | exact HB.out | apply below_alloc | apply pw_below_drewN | apply below_drew1) | exact HB.out)⟩⟩
                    · rw [if_neg c20] at H
                      exact absurd H (by simp)
                  · rw [if_neg c19] at H
                    exact absurd H (by simp)
                · rw [if_neg c18] at H
                  exact absurd H (by simp)
              · rw [if_neg c17] at H
                have c17b0 : (x10_2 == t163) = false := beq_eq_false_iff_ne.mpr c17
                have c17b1 : (x10_2 != t163) = true := bne_iff_ne.mpr c17
                by_cases c24 : 0 ≤ x10_2
                · rw [if_pos c24] at H
                  have c24b0 : decide (0 ≤ x10_2) = true := decide_eq_true c24
                  clear c24
                  by_cases c25 : x9_2.length < 5864062014805
                  · rw [if_pos c25] at H
                    have LMc25 := Aside0.mk c25
                    clear c25
                    obtain ⟨y179, hy179⟩ : ∃ y_ : List (S26), y_ = (x9_2 ++ [(⟨(rd_T26 l0 x10_2).f0, (rd_T26 l0 x10_2).f1, (rd_T26 l0 x10_2).f2⟩ : S26)]) := ⟨_, rfl⟩
                    replace H : (spec_SplitRange.l0 k2 l0 a1 a2 t163 y179 (wrap64 (x10_2 + 1))) = some (r1, r2) := by first | (rw [hy179]; with_reducible exact H) | (have H2_ := (Option.bind_some _ _).symm.trans H; rw [hy179]; with_reducible exact H2_) | (have H2_ := (Option.bind_some _ _).symm.trans H; with_reducible exact H2_) | with_reducible exact H | (rw [hy179]; exact H) | exact H
                    have Ny179 := Aside0.mk hy179
                    clear hy179
                    have H' := Aside0.mk H
                    clear H
                    have p178 : 0 ≤ (x10_2 : Int) := of_decide_eq_true u6_1
                    have q178 : x10_2 < (l0.length : Int) := of_decide_eq_true u6_1
                    obtain ⟨ad178, e178, hx178_0, hx178_1, hx178_2⟩ := at_T26 HR0.out x10_2 p178 q178
                    cases e178
                    replace hx178_0 := (HB.out.cell (World.block_lt_of_cell? w _ hx178_0)).trans hx178_0
                    replace hx178_1 := (HB.out.cell (World.block_lt_of_cell? w _ hx178_1)).trans hx178_1
                    replace hx178_2 := (HB.out.cell (World.block_lt_of_cell? w _ hx178_2)).trans hx178_2
                    replace p178 := eq_true p178
                    replace q178 := eq_true q178
                    go_wp2_with (first | ((with_reducible refine gate_builtin (b := .append) (xs := #[.tmp 45, .tmp 50]) rfl ?_); (try (refine gate_guard (by rfl) ?_; dsimp only)); at_builtin; refine Kd.R_append k26 (w0 := w) w.heap.size rfl (.tmp 45) (.tmp 50) 32 26 (.agg #[(.int .u64 0), (.int .u64 0), (.int .i64 0)]) 24 rfl Try.underlying32 info26 rfl (by decide) (by omega) u9 x9_2 (⟨(rd_T26 l0 x10_2).f0, (rd_T26 l0 x10_2).f1, (rd_T26 l0 x10_2).f2⟩ : S26) [.int .u64 ((rd_T26 l0 x10_2).f0), .int .u64 ((rd_T26 l0 x10_2).f1), .int .i64 ((rd_T26 l0 x10_2).f2)] (fun _ => True) (fun _ => False) rfl rfl ?aP (fun _ hk => hk.elim) ?aF ?aO ?aB ?aS ?aL ?_; (case aP => exact k26_mkM _ _ _ (⟨(rd_T26 l0 x10_2).f0, (rd_T26 l0 x10_2).f1, (rd_T26 l0 x10_2).f2⟩ : S26)); (case aB => exact u6_0); (case aF => exact (fun _ _ => trivial)); (case aO => exact u6_4); (case aS => exact (below_size u6_0)); (case aL => have := LMc25.out; omega); intro v180 w26 ho hb hg hat; rw [← Ny179.out] at ho; have n0_ := Aside0.mk (hb); have n1_ := Aside0.mk (ho); clear HB; clear HO_9; have HB := n0_; have HO181 := n1_; clear n0_ n1_; clear ho hb hg hat))
                    go_roundg k2
                    case measure => have := HJ4.out; have := HK2.out; omega
                    case rel => exact ⟨(y179), (wrap64 (x10_2 + 1)), u6_2, H', ⟨by have := HJ4.out; have := HK2.out; omega⟩, ⟨by (with_reducible repeat (first | apply Kd.R_alloc | apply Kd.R_drewN | apply Kd.R_drew)); exact HO181.out⟩, ⟨by repeat (first | (with_reducible first | exact HB.out | apply below_alloc | apply pw_below_drewN | apply below_drew1) | exact HB.out)⟩⟩
                  · rw [if_neg c25] at H
                    exact absurd H (by simp)
                · rw [if_neg c24] at H
                  exact absurd H (by simp)
            · rw [if_neg c16] at H
              have c16b0 : decide (x10_2 < (l0.length : Int)) = false := decide_eq_false c16
              clear c16
              simp only [Option.some.injEq, Prod.mk.injEq] at H
              obtain ⟨rfl, rfl⟩ := H
              go_wp2
              go_ret2
              exact ⟨_, by first | rfl | (simp [errW_none, errW_some] <;> rfl) | (simp [*, errW_none, errW_some] <;> rfl), by (with_reducible repeat (first | apply Kd.R_alloc | apply Kd.R_drewN | apply Kd.R_drew)); exact HO_9.out, by repeat (first | (with_reducible first | exact HB.out | apply below_alloc | apply pw_below_drewN | apply below_drew1) | exact HB.out)⟩

end Go.Proofs.Ytfabcjkaoidmeaa.QFnExactSplitRange
