-- Printed by the session's own program wip/prx.py.
import Derived.Test.YtkcadcoohmofcaaQFnExactNewGroupx0
import Derived.Test.YtkcadcoohmofcaaQFnExactNewGroupx1
import Derived.Test.YtkcadcoohmofcaaQFnExactNewGroupx5
import Derived.Test.YtkcadcoohmofcaaQFnExactNewGroupx6
namespace Go.Proofs.Ytkcadcoohmofcaa.QFnExactNewGroup
open Go.RowKit Go.Proofs.YtkcadcoohmofcaaW.PrintWords Go.Proofs.YtkcadcoohmofcaaW.PrintLast Go.Proofs.YtkcadcoohmofcaaW.PrintMore
attribute [local go_sem] max2_int min2_int max_two min_two max_three min_three max_four min_four Go.Proofs.Ytkcadcoohmofcaa.Set.isSome_setCell   -- for this text's walks alone
set_option linter.unusedVariables false
set_option linter.unusedSimpArgs false

/-! ### laws_heldNodeS: function 82 -/
def laws_heldNodeS.l0 : Nat → List (S37) → Int → Int → Option (Int)
  | 0, _, _, _ => none
  | k + 1, x0, x1, x5 => if x5 < (x0.length : Int) then (if 0 ≤ x5 then (if ((rd_T37 x0 x5).f0) = x1 then (if ((rd_T37 x0 x5).f1) = (wrap64 (x1 + 1)) then (if ((rd_T37 x0 x5).f2) = (wrap64 ((wrap64 (x1 + 1)) + 1)) then (if ((rd_T37 x0 x5).f3) = (wrap64 ((wrap64 ((wrap64 (x1 + 1)) + 1)) + 1)) then (if ((rd_T37 x0 x5).f4) = (wrap64 ((wrap64 ((wrap64 ((wrap64 (x1 + 1)) + 1)) + 1)) + 1)) then (if ((rd_T37 x0 x5).f5.f0) = (wrap64 ((wrap64 ((wrap64 ((wrap64 ((wrap64 (x1 + 1)) + 1)) + 1)) + 1)) + 1)) then (if ((rd_T37 x0 x5).f5.f1) = (wrap64 ((wrap64 ((wrap64 ((wrap64 ((wrap64 ((wrap64 (x1 + 1)) + 1)) + 1)) + 1)) + 1)) + 1)) then ((laws_heldEntryS.f k ((rd_T37 x0 x5).f5.f2) (wrap64 ((wrap64 ((wrap64 ((wrap64 ((wrap64 ((wrap64 ((wrap64 (x1 + 1)) + 1)) + 1)) + 1)) + 1)) + 1)) + 1))).bind fun t220 => (if t220 < 0 then (some (-1)) else ((laws_heldIntS.f k ((rd_T37 x0 x5).f6) t220).bind fun t222 => (if t222 < 0 then (some (-1)) else ((laws_heldIntS.f k ((rd_T37 x0 x5).f7) t222).bind fun t224 => (if t224 < 0 then (some (-1)) else (laws_heldNodeS.l0 k x0 t224 (wrap64 (x5 + 1))))))))) else (some (-1))) else (some (-1))) else (some (-1))) else (some (-1))) else (some (-1))) else (some (-1))) else (some (-1))) else (none)) else (some x1)
def laws_heldNodeS.f (k : Nat) (l0 : List (S37)) (a1 : Int) : Option (Int) := laws_heldNodeS.l0 k l0 a1 0
theorem laws_heldNodeS.mono_l : ∀ k, (∀ y0 y1 y2, LeO (laws_heldNodeS.l0 k y0 y1 y2) (laws_heldNodeS.l0 (k + 1) y0 y1 y2))
  | 0 => fun _ _ _ r h => by simp [laws_heldNodeS.l0] at h
  | k + 1 => by
    have ih0 := laws_heldNodeS.mono_l k
    · intro y0 y1 y2
      unfold laws_heldNodeS.l0
      repeat' first
      | (with_reducible exact ih0 _ _ _)
      | (with_reducible exact laws_heldEntryS.mono _ _ _)
      | (with_reducible exact laws_heldIntS.mono _ _ _)
      | (with_reducible exact LeO.refl _)
      | (with_reducible exact LeO.none _)
      | (with_reducible refine LeO.ite ?_ ?_)
      | (with_reducible refine LeO.bind ?_ (fun _ => ?_))
      | exact ih0 _ _ _
      | exact laws_heldEntryS.mono _ _ _
      | exact laws_heldIntS.mono _ _ _
      | exact LeO.none _
      | refine LeO.ite ?_ ?_
      | refine LeO.bind ?_ (fun _ => ?_)
theorem laws_heldNodeS.mono : ∀ a0 a1 k, LeO (laws_heldNodeS.f k a0 a1) (laws_heldNodeS.f (k + 1) a0 a1) := by
  intro a0 a1 k
  have ih0 := laws_heldNodeS.mono_l k
  unfold laws_heldNodeS.f
  repeat' first
      | (with_reducible exact ih0 _ _ _)
      | (with_reducible exact laws_heldEntryS.mono _ _ _)
      | (with_reducible exact laws_heldIntS.mono _ _ _)
      | (with_reducible exact LeO.refl _)
      | (with_reducible exact LeO.none _)
      | (with_reducible refine LeO.ite ?_ ?_)
      | (with_reducible refine LeO.bind ?_ (fun _ => ?_))
      | exact ih0 _ _ _
      | exact laws_heldEntryS.mono _ _ _
      | exact laws_heldIntS.mono _ _ _
      | exact LeO.none _
      | refine LeO.ite ?_ ?_
      | refine LeO.bind ?_ (fun _ => ?_)
set_option maxHeartbeats 8000000 in
set_option maxRecDepth 100000 in
theorem laws_heldNodeS.calls (k : Nat) (A0 : Option Addr) (c0 : Nat) (l0 : List (S37)) (a1 : Int) (r : Int) (w : World) (hr0 : Kd.C k37 w A0 l0.length l0) (hc0 : l0.length ≤ c0) (h : laws_heldNodeS.f k l0 a1 = some r) :
    Calls Try.prog 82 #[.slice A0 l0.length c0, .int .i64 a1] w fun e w' => e = .returned (.int .i64 r) ∧ Below w.heap.size w w' := by
  have HR0 := Aside0.mk hr0
  have HC0 := Aside0.mk hc0
  clear hr0 hc0
  have HB := Aside0.mk (Below.refl w.heap.size w)
  have H : (laws_heldNodeS.l0 k l0 a1 0) = some r := h
  clear h
  have H' := Aside0.mk H
  clear H
  go_enter Try.func82, Try.ntmps82
  go_wp2
  go_loopg [1, 5] k (fun kq v1 v5 w' => ∃ (x1_1 : Int) (x5_1 : Int), v1 = .int .i64 x1_1 ∧ v5 = .int .i64 x5_1 ∧ Aside0 (laws_heldNodeS.l0 kq l0 x1_1 x5_1 = some r) ∧ Aside0 (kq ≤ k) ∧ Aside0 (Below w.heap.size w w'))
  case atStart => exact ⟨(a1), (0), (by first | rfl | (simp; done) | (simp [*]; done)), (by first | rfl | (simp; done) | (simp [*]; done)), H', ⟨Nat.le_refl _⟩, ⟨by repeat (first | (with_reducible first | exact HB.out | apply below_alloc | apply pw_below_drewN | apply below_drew1) | exact HB.out)⟩⟩
  case round =>
    clear H'
    try clear p2
    obtain ⟨x1_1, x5_1, rfl, rfl, HA, HK1, HB⟩ := hrel
    cases gk with
    | zero => exact absurd HA.out (by simp [laws_heldNodeS.l0])
    | succ k1 =>
      have H := HA.out
      clear HA
      simp only [laws_heldNodeS.l0] at H
      by_cases c3 : x5_1 < (l0.length : Int)
      · rw [if_pos c3] at H
        have c3b0 : decide (x5_1 < (l0.length : Int)) = true := decide_eq_true c3
        clear c3
        by_cases c4 : 0 ≤ x5_1
        · rw [if_pos c4] at H
          have c4b0 : decide (0 ≤ x5_1) = true := decide_eq_true c4
          clear c4
          have H9 := Aside0.mk H
          clear H
          have p212 : 0 ≤ (x5_1 : Int) := of_decide_eq_true (by first | (with_reducible assumption) | assumption)
          have q212 : x5_1 < (l0.length : Int) := of_decide_eq_true (by first | (with_reducible assumption) | assumption)
          obtain ⟨ad212, A212_7, c212_7, A212_8, c212_8, A212_9, c212_9, e212, hx212_0, hx212_1, hx212_2, hx212_3, hx212_4, hx212_5, hx212_6, hx212_7, hx212_8, hx212_9, hl212_7, hi212_7, hl212_8, hi212_8, hl212_9, hi212_9⟩ := at_T37 HR0.out x5_1 p212 q212
          cases e212
          replace hx212_0 := (HB.out.cell (World.block_lt_of_cell? w _ hx212_0)).trans hx212_0
          replace hx212_1 := (HB.out.cell (World.block_lt_of_cell? w _ hx212_1)).trans hx212_1
          replace hx212_2 := (HB.out.cell (World.block_lt_of_cell? w _ hx212_2)).trans hx212_2
          replace hx212_3 := (HB.out.cell (World.block_lt_of_cell? w _ hx212_3)).trans hx212_3
          replace hx212_4 := (HB.out.cell (World.block_lt_of_cell? w _ hx212_4)).trans hx212_4
          replace hx212_5 := (HB.out.cell (World.block_lt_of_cell? w _ hx212_5)).trans hx212_5
          replace hx212_6 := (HB.out.cell (World.block_lt_of_cell? w _ hx212_6)).trans hx212_6
          replace hx212_7 := (HB.out.cell (World.block_lt_of_cell? w _ hx212_7)).trans hx212_7
          replace hx212_8 := (HB.out.cell (World.block_lt_of_cell? w _ hx212_8)).trans hx212_8
          replace hx212_9 := (HB.out.cell (World.block_lt_of_cell? w _ hx212_9)).trans hx212_9
          have HR212_7 := Aside0.mk hi212_7
          have HC212_7 := Aside0.mk hl212_7
          clear hi212_7 hl212_7
          have HR212_8 := Aside0.mk hi212_8
          have HC212_8 := Aside0.mk hl212_8
          clear hi212_8 hl212_8
          have HR212_9 := Aside0.mk hi212_9
          have HC212_9 := Aside0.mk hl212_9
          clear hi212_9 hl212_9
          replace p212 := eq_true p212
          replace q212 := eq_true q212
          go_upto_if 18 with (fail)
          have H := H9.out
          clear H9
          by_cases c5 : ((rd_T37 l0 x5_1).f0) = x1_1
          · rw [if_pos c5] at H
            have c5b0 : (((rd_T37 l0 x5_1).f0) == x1_1) = true := beq_iff_eq.mpr c5
            have c5b1 : (((rd_T37 l0 x5_1).f0) != x1_1) = false := bne_eq_false_iff_eq.mpr c5
            clear c5
            (first | rw [c5b0] | (simp only [i64_w, i32_w]; rw [c5b0]) | skip)
            have H9 := Aside0.mk H
            clear H
            have p213 : 0 ≤ (x5_1 : Int) := of_decide_eq_true (by first | (with_reducible assumption) | assumption)
            have q213 : x5_1 < (l0.length : Int) := of_decide_eq_true (by first | (with_reducible assumption) | assumption)
            obtain ⟨ad213, A213_7, c213_7, A213_8, c213_8, A213_9, c213_9, e213, hx213_0, hx213_1, hx213_2, hx213_3, hx213_4, hx213_5, hx213_6, hx213_7, hx213_8, hx213_9, hl213_7, hi213_7, hl213_8, hi213_8, hl213_9, hi213_9⟩ := at_T37 HR0.out x5_1 p213 q213
            (try clear hx212_7 hx212_8 hx212_9)
            obtain rfl : ad212 = ad213 := (by injection e213)
            replace hx213_0 := (HB.out.cell (World.block_lt_of_cell? w _ hx213_0)).trans hx213_0
            replace hx213_1 := (HB.out.cell (World.block_lt_of_cell? w _ hx213_1)).trans hx213_1
            replace hx213_2 := (HB.out.cell (World.block_lt_of_cell? w _ hx213_2)).trans hx213_2
            replace hx213_3 := (HB.out.cell (World.block_lt_of_cell? w _ hx213_3)).trans hx213_3
            replace hx213_4 := (HB.out.cell (World.block_lt_of_cell? w _ hx213_4)).trans hx213_4
            replace hx213_5 := (HB.out.cell (World.block_lt_of_cell? w _ hx213_5)).trans hx213_5
            replace hx213_6 := (HB.out.cell (World.block_lt_of_cell? w _ hx213_6)).trans hx213_6
            replace hx213_7 := (HB.out.cell (World.block_lt_of_cell? w _ hx213_7)).trans hx213_7
            replace hx213_8 := (HB.out.cell (World.block_lt_of_cell? w _ hx213_8)).trans hx213_8
            replace hx213_9 := (HB.out.cell (World.block_lt_of_cell? w _ hx213_9)).trans hx213_9
            have HR213_7 := Aside0.mk hi213_7
            have HC213_7 := Aside0.mk hl213_7
            clear hi213_7 hl213_7
            have HR213_8 := Aside0.mk hi213_8
            have HC213_8 := Aside0.mk hl213_8
            clear hi213_8 hl213_8
            have HR213_9 := Aside0.mk hi213_9
            have HC213_9 := Aside0.mk hl213_9
            clear hi213_9 hl213_9
            replace p213 := eq_true p213
            replace q213 := eq_true q213
            go_upto_if 27 with (fail)
            have H := H9.out
            clear H9
            by_cases c6 : ((rd_T37 l0 x5_1).f1) = (wrap64 (x1_1 + 1))
            · rw [if_pos c6] at H
              have c6b0 : (((rd_T37 l0 x5_1).f1) == (wrap64 (x1_1 + 1))) = true := beq_iff_eq.mpr c6
              have c6b1 : (((rd_T37 l0 x5_1).f1) != (wrap64 (x1_1 + 1))) = false := bne_eq_false_iff_eq.mpr c6
              clear c6
              (first | rw [c6b0] | (simp only [i64_w, i32_w]; rw [c6b0]) | skip)
              have H9 := Aside0.mk H
              clear H
              have p214 : 0 ≤ (x5_1 : Int) := of_decide_eq_true (by first | (with_reducible assumption) | assumption)
              have q214 : x5_1 < (l0.length : Int) := of_decide_eq_true (by first | (with_reducible assumption) | assumption)
              obtain ⟨ad214, A214_7, c214_7, A214_8, c214_8, A214_9, c214_9, e214, hx214_0, hx214_1, hx214_2, hx214_3, hx214_4, hx214_5, hx214_6, hx214_7, hx214_8, hx214_9, hl214_7, hi214_7, hl214_8, hi214_8, hl214_9, hi214_9⟩ := at_T37 HR0.out x5_1 p214 q214
              (try clear hx213_7 hx213_8 hx213_9)
              obtain rfl : ad212 = ad214 := (by injection e214)
              replace hx214_0 := (HB.out.cell (World.block_lt_of_cell? w _ hx214_0)).trans hx214_0
              replace hx214_1 := (HB.out.cell (World.block_lt_of_cell? w _ hx214_1)).trans hx214_1
              replace hx214_2 := (HB.out.cell (World.block_lt_of_cell? w _ hx214_2)).trans hx214_2
              replace hx214_3 := (HB.out.cell (World.block_lt_of_cell? w _ hx214_3)).trans hx214_3
              replace hx214_4 := (HB.out.cell (World.block_lt_of_cell? w _ hx214_4)).trans hx214_4
              replace hx214_5 := (HB.out.cell (World.block_lt_of_cell? w _ hx214_5)).trans hx214_5
              replace hx214_6 := (HB.out.cell (World.block_lt_of_cell? w _ hx214_6)).trans hx214_6
              replace hx214_7 := (HB.out.cell (World.block_lt_of_cell? w _ hx214_7)).trans hx214_7
              replace hx214_8 := (HB.out.cell (World.block_lt_of_cell? w _ hx214_8)).trans hx214_8
              replace hx214_9 := (HB.out.cell (World.block_lt_of_cell? w _ hx214_9)).trans hx214_9
              have HR214_7 := Aside0.mk hi214_7
              have HC214_7 := Aside0.mk hl214_7
              clear hi214_7 hl214_7
              have HR214_8 := Aside0.mk hi214_8
              have HC214_8 := Aside0.mk hl214_8
              clear hi214_8 hl214_8
              have HR214_9 := Aside0.mk hi214_9
              have HC214_9 := Aside0.mk hl214_9
              clear hi214_9 hl214_9
              replace p214 := eq_true p214
              replace q214 := eq_true q214
              go_upto_if 36 with (fail)
              have H := H9.out
              clear H9
              by_cases c7 : ((rd_T37 l0 x5_1).f2) = (wrap64 ((wrap64 (x1_1 + 1)) + 1))
              · rw [if_pos c7] at H
                have c7b0 : (((rd_T37 l0 x5_1).f2) == (wrap64 ((wrap64 (x1_1 + 1)) + 1))) = true := beq_iff_eq.mpr c7
                have c7b1 : (((rd_T37 l0 x5_1).f2) != (wrap64 ((wrap64 (x1_1 + 1)) + 1))) = false := bne_eq_false_iff_eq.mpr c7
                clear c7
                (first | rw [c7b0] | (simp only [i64_w, i32_w]; rw [c7b0]) | skip)
                have H9 := Aside0.mk H
                clear H
                have p215 : 0 ≤ (x5_1 : Int) := of_decide_eq_true (by first | (with_reducible assumption) | assumption)
                have q215 : x5_1 < (l0.length : Int) := of_decide_eq_true (by first | (with_reducible assumption) | assumption)
                obtain ⟨ad215, A215_7, c215_7, A215_8, c215_8, A215_9, c215_9, e215, hx215_0, hx215_1, hx215_2, hx215_3, hx215_4, hx215_5, hx215_6, hx215_7, hx215_8, hx215_9, hl215_7, hi215_7, hl215_8, hi215_8, hl215_9, hi215_9⟩ := at_T37 HR0.out x5_1 p215 q215
                (try clear hx214_7 hx214_8 hx214_9)
                obtain rfl : ad212 = ad215 := (by injection e215)
                replace hx215_0 := (HB.out.cell (World.block_lt_of_cell? w _ hx215_0)).trans hx215_0
                replace hx215_1 := (HB.out.cell (World.block_lt_of_cell? w _ hx215_1)).trans hx215_1
                replace hx215_2 := (HB.out.cell (World.block_lt_of_cell? w _ hx215_2)).trans hx215_2
                replace hx215_3 := (HB.out.cell (World.block_lt_of_cell? w _ hx215_3)).trans hx215_3
                replace hx215_4 := (HB.out.cell (World.block_lt_of_cell? w _ hx215_4)).trans hx215_4
                replace hx215_5 := (HB.out.cell (World.block_lt_of_cell? w _ hx215_5)).trans hx215_5
                replace hx215_6 := (HB.out.cell (World.block_lt_of_cell? w _ hx215_6)).trans hx215_6
                replace hx215_7 := (HB.out.cell (World.block_lt_of_cell? w _ hx215_7)).trans hx215_7
                replace hx215_8 := (HB.out.cell (World.block_lt_of_cell? w _ hx215_8)).trans hx215_8
                replace hx215_9 := (HB.out.cell (World.block_lt_of_cell? w _ hx215_9)).trans hx215_9
                have HR215_7 := Aside0.mk hi215_7
                have HC215_7 := Aside0.mk hl215_7
                clear hi215_7 hl215_7
                have HR215_8 := Aside0.mk hi215_8
                have HC215_8 := Aside0.mk hl215_8
                clear hi215_8 hl215_8
                have HR215_9 := Aside0.mk hi215_9
                have HC215_9 := Aside0.mk hl215_9
                clear hi215_9 hl215_9
                replace p215 := eq_true p215
                replace q215 := eq_true q215
                go_upto_if 45 with (fail)
                have H := H9.out
                clear H9
                by_cases c8 : ((rd_T37 l0 x5_1).f3) = (wrap64 ((wrap64 ((wrap64 (x1_1 + 1)) + 1)) + 1))
                · rw [if_pos c8] at H
                  have c8b0 : (((rd_T37 l0 x5_1).f3) == (wrap64 ((wrap64 ((wrap64 (x1_1 + 1)) + 1)) + 1))) = true := beq_iff_eq.mpr c8
                  have c8b1 : (((rd_T37 l0 x5_1).f3) != (wrap64 ((wrap64 ((wrap64 (x1_1 + 1)) + 1)) + 1))) = false := bne_eq_false_iff_eq.mpr c8
                  clear c8
                  (first | rw [c8b0] | (simp only [i64_w, i32_w]; rw [c8b0]) | skip)
                  have H9 := Aside0.mk H
                  clear H
                  have p216 : 0 ≤ (x5_1 : Int) := of_decide_eq_true (by first | (with_reducible assumption) | assumption)
                  have q216 : x5_1 < (l0.length : Int) := of_decide_eq_true (by first | (with_reducible assumption) | assumption)
                  obtain ⟨ad216, A216_7, c216_7, A216_8, c216_8, A216_9, c216_9, e216, hx216_0, hx216_1, hx216_2, hx216_3, hx216_4, hx216_5, hx216_6, hx216_7, hx216_8, hx216_9, hl216_7, hi216_7, hl216_8, hi216_8, hl216_9, hi216_9⟩ := at_T37 HR0.out x5_1 p216 q216
                  (try clear hx215_7 hx215_8 hx215_9)
                  obtain rfl : ad212 = ad216 := (by injection e216)
                  replace hx216_0 := (HB.out.cell (World.block_lt_of_cell? w _ hx216_0)).trans hx216_0
                  replace hx216_1 := (HB.out.cell (World.block_lt_of_cell? w _ hx216_1)).trans hx216_1
                  replace hx216_2 := (HB.out.cell (World.block_lt_of_cell? w _ hx216_2)).trans hx216_2
                  replace hx216_3 := (HB.out.cell (World.block_lt_of_cell? w _ hx216_3)).trans hx216_3
                  replace hx216_4 := (HB.out.cell (World.block_lt_of_cell? w _ hx216_4)).trans hx216_4
                  replace hx216_5 := (HB.out.cell (World.block_lt_of_cell? w _ hx216_5)).trans hx216_5
                  replace hx216_6 := (HB.out.cell (World.block_lt_of_cell? w _ hx216_6)).trans hx216_6
                  replace hx216_7 := (HB.out.cell (World.block_lt_of_cell? w _ hx216_7)).trans hx216_7
                  replace hx216_8 := (HB.out.cell (World.block_lt_of_cell? w _ hx216_8)).trans hx216_8
                  replace hx216_9 := (HB.out.cell (World.block_lt_of_cell? w _ hx216_9)).trans hx216_9
                  have HR216_7 := Aside0.mk hi216_7
                  have HC216_7 := Aside0.mk hl216_7
                  clear hi216_7 hl216_7
                  have HR216_8 := Aside0.mk hi216_8
                  have HC216_8 := Aside0.mk hl216_8
                  clear hi216_8 hl216_8
                  have HR216_9 := Aside0.mk hi216_9
                  have HC216_9 := Aside0.mk hl216_9
                  clear hi216_9 hl216_9
                  replace p216 := eq_true p216
                  replace q216 := eq_true q216
                  go_upto_if 54 with (fail)
                  have H := H9.out
                  clear H9
                  by_cases c9 : ((rd_T37 l0 x5_1).f4) = (wrap64 ((wrap64 ((wrap64 ((wrap64 (x1_1 + 1)) + 1)) + 1)) + 1))
                  · rw [if_pos c9] at H
                    have c9b0 : (((rd_T37 l0 x5_1).f4) == (wrap64 ((wrap64 ((wrap64 ((wrap64 (x1_1 + 1)) + 1)) + 1)) + 1))) = true := beq_iff_eq.mpr c9
                    have c9b1 : (((rd_T37 l0 x5_1).f4) != (wrap64 ((wrap64 ((wrap64 ((wrap64 (x1_1 + 1)) + 1)) + 1)) + 1))) = false := bne_eq_false_iff_eq.mpr c9
                    clear c9
                    (first | rw [c9b0] | (simp only [i64_w, i32_w]; rw [c9b0]) | skip)
                    have H9 := Aside0.mk H
                    clear H
                    have p217 : 0 ≤ (x5_1 : Int) := of_decide_eq_true (by first | (with_reducible assumption) | assumption)
                    have q217 : x5_1 < (l0.length : Int) := of_decide_eq_true (by first | (with_reducible assumption) | assumption)
                    obtain ⟨ad217, A217_7, c217_7, A217_8, c217_8, A217_9, c217_9, e217, hx217_0, hx217_1, hx217_2, hx217_3, hx217_4, hx217_5, hx217_6, hx217_7, hx217_8, hx217_9, hl217_7, hi217_7, hl217_8, hi217_8, hl217_9, hi217_9⟩ := at_T37 HR0.out x5_1 p217 q217
                    (try clear hx216_7 hx216_8 hx216_9)
                    obtain rfl : ad212 = ad217 := (by injection e217)
                    replace hx217_0 := (HB.out.cell (World.block_lt_of_cell? w _ hx217_0)).trans hx217_0
                    replace hx217_1 := (HB.out.cell (World.block_lt_of_cell? w _ hx217_1)).trans hx217_1
                    replace hx217_2 := (HB.out.cell (World.block_lt_of_cell? w _ hx217_2)).trans hx217_2
                    replace hx217_3 := (HB.out.cell (World.block_lt_of_cell? w _ hx217_3)).trans hx217_3
                    replace hx217_4 := (HB.out.cell (World.block_lt_of_cell? w _ hx217_4)).trans hx217_4
                    replace hx217_5 := (HB.out.cell (World.block_lt_of_cell? w _ hx217_5)).trans hx217_5
                    replace hx217_6 := (HB.out.cell (World.block_lt_of_cell? w _ hx217_6)).trans hx217_6
                    replace hx217_7 := (HB.out.cell (World.block_lt_of_cell? w _ hx217_7)).trans hx217_7
                    replace hx217_8 := (HB.out.cell (World.block_lt_of_cell? w _ hx217_8)).trans hx217_8
                    replace hx217_9 := (HB.out.cell (World.block_lt_of_cell? w _ hx217_9)).trans hx217_9
                    have HR217_7 := Aside0.mk hi217_7
                    have HC217_7 := Aside0.mk hl217_7
                    clear hi217_7 hl217_7
                    have HR217_8 := Aside0.mk hi217_8
                    have HC217_8 := Aside0.mk hl217_8
                    clear hi217_8 hl217_8
                    have HR217_9 := Aside0.mk hi217_9
                    have HC217_9 := Aside0.mk hl217_9
                    clear hi217_9 hl217_9
                    replace p217 := eq_true p217
                    replace q217 := eq_true q217
                    go_upto_if 64 with (fail)
                    have H := H9.out
                    clear H9
                    by_cases c10 : ((rd_T37 l0 x5_1).f5.f0) = (wrap64 ((wrap64 ((wrap64 ((wrap64 ((wrap64 (x1_1 + 1)) + 1)) + 1)) + 1)) + 1))
                    · rw [if_pos c10] at H
                      have c10b0 : (((rd_T37 l0 x5_1).f5.f0) == (wrap64 ((wrap64 ((wrap64 ((wrap64 ((wrap64 (x1_1 + 1)) + 1)) + 1)) + 1)) + 1))) = true := beq_iff_eq.mpr c10
                      have c10b1 : (((rd_T37 l0 x5_1).f5.f0) != (wrap64 ((wrap64 ((wrap64 ((wrap64 ((wrap64 (x1_1 + 1)) + 1)) + 1)) + 1)) + 1))) = false := bne_eq_false_iff_eq.mpr c10
                      clear c10
                      (first | rw [c10b0] | (simp only [i64_w, i32_w]; rw [c10b0]) | skip)
                      have H9 := Aside0.mk H
                      clear H
                      have p218 : 0 ≤ (x5_1 : Int) := of_decide_eq_true (by first | (with_reducible assumption) | assumption)
                      have q218 : x5_1 < (l0.length : Int) := of_decide_eq_true (by first | (with_reducible assumption) | assumption)
                      obtain ⟨ad218, A218_7, c218_7, A218_8, c218_8, A218_9, c218_9, e218, hx218_0, hx218_1, hx218_2, hx218_3, hx218_4, hx218_5, hx218_6, hx218_7, hx218_8, hx218_9, hl218_7, hi218_7, hl218_8, hi218_8, hl218_9, hi218_9⟩ := at_T37 HR0.out x5_1 p218 q218
                      (try clear hx217_7 hx217_8 hx217_9)
                      obtain rfl : ad212 = ad218 := (by injection e218)
                      replace hx218_0 := (HB.out.cell (World.block_lt_of_cell? w _ hx218_0)).trans hx218_0
                      replace hx218_1 := (HB.out.cell (World.block_lt_of_cell? w _ hx218_1)).trans hx218_1
                      replace hx218_2 := (HB.out.cell (World.block_lt_of_cell? w _ hx218_2)).trans hx218_2
                      replace hx218_3 := (HB.out.cell (World.block_lt_of_cell? w _ hx218_3)).trans hx218_3
                      replace hx218_4 := (HB.out.cell (World.block_lt_of_cell? w _ hx218_4)).trans hx218_4
                      replace hx218_5 := (HB.out.cell (World.block_lt_of_cell? w _ hx218_5)).trans hx218_5
                      replace hx218_6 := (HB.out.cell (World.block_lt_of_cell? w _ hx218_6)).trans hx218_6
                      replace hx218_7 := (HB.out.cell (World.block_lt_of_cell? w _ hx218_7)).trans hx218_7
                      replace hx218_8 := (HB.out.cell (World.block_lt_of_cell? w _ hx218_8)).trans hx218_8
                      replace hx218_9 := (HB.out.cell (World.block_lt_of_cell? w _ hx218_9)).trans hx218_9
                      have HR218_7 := Aside0.mk hi218_7
                      have HC218_7 := Aside0.mk hl218_7
                      clear hi218_7 hl218_7
                      have HR218_8 := Aside0.mk hi218_8
                      have HC218_8 := Aside0.mk hl218_8
                      clear hi218_8 hl218_8
                      have HR218_9 := Aside0.mk hi218_9
                      have HC218_9 := Aside0.mk hl218_9
                      clear hi218_9 hl218_9
                      replace p218 := eq_true p218
                      replace q218 := eq_true q218
                      go_upto_if 74 with (fail)
                      have H := H9.out
                      clear H9
                      by_cases c11 : ((rd_T37 l0 x5_1).f5.f1) = (wrap64 ((wrap64 ((wrap64 ((wrap64 ((wrap64 ((wrap64 (x1_1 + 1)) + 1)) + 1)) + 1)) + 1)) + 1))
                      · rw [if_pos c11] at H
                        have c11b0 : (((rd_T37 l0 x5_1).f5.f1) == (wrap64 ((wrap64 ((wrap64 ((wrap64 ((wrap64 ((wrap64 (x1_1 + 1)) + 1)) + 1)) + 1)) + 1)) + 1))) = true := beq_iff_eq.mpr c11
                        have c11b1 : (((rd_T37 l0 x5_1).f5.f1) != (wrap64 ((wrap64 ((wrap64 ((wrap64 ((wrap64 ((wrap64 (x1_1 + 1)) + 1)) + 1)) + 1)) + 1)) + 1))) = false := bne_eq_false_iff_eq.mpr c11
                        clear c11
                        (first | rw [c11b0] | (simp only [i64_w, i32_w]; rw [c11b0]) | skip)
                        replace H := Option.bind_eq_some_iff.mp H
                        obtain ⟨t220, A120, H⟩ := H
                        replace H : (if t220 < 0 then (some (-1)) else ((laws_heldIntS.f k1 ((rd_T37 l0 x5_1).f6) t220).bind fun t222 => (if t222 < 0 then (some (-1)) else ((laws_heldIntS.f k1 ((rd_T37 l0 x5_1).f7) t222).bind fun t224 => (if t224 < 0 then (some (-1)) else (laws_heldNodeS.l0 k1 l0 t224 (wrap64 (x5_1 + 1)))))))) = some r := H
                        have A12 := Aside0.mk A120
                        clear A120
                        have H9 := Aside0.mk H
                        clear H
                        have p219 : 0 ≤ (x5_1 : Int) := of_decide_eq_true (by first | (with_reducible assumption) | assumption)
                        have q219 : x5_1 < (l0.length : Int) := of_decide_eq_true (by first | (with_reducible assumption) | assumption)
                        obtain ⟨ad219, A219_7, c219_7, A219_8, c219_8, A219_9, c219_9, e219, hx219_0, hx219_1, hx219_2, hx219_3, hx219_4, hx219_5, hx219_6, hx219_7, hx219_8, hx219_9, hl219_7, hi219_7, hl219_8, hi219_8, hl219_9, hi219_9⟩ := at_T37 HR0.out x5_1 p219 q219
                        (try clear hx218_7 hx218_8 hx218_9)
                        obtain rfl : ad212 = ad219 := (by injection e219)
                        replace hx219_0 := (HB.out.cell (World.block_lt_of_cell? w _ hx219_0)).trans hx219_0
                        replace hx219_1 := (HB.out.cell (World.block_lt_of_cell? w _ hx219_1)).trans hx219_1
                        replace hx219_2 := (HB.out.cell (World.block_lt_of_cell? w _ hx219_2)).trans hx219_2
                        replace hx219_3 := (HB.out.cell (World.block_lt_of_cell? w _ hx219_3)).trans hx219_3
                        replace hx219_4 := (HB.out.cell (World.block_lt_of_cell? w _ hx219_4)).trans hx219_4
                        replace hx219_5 := (HB.out.cell (World.block_lt_of_cell? w _ hx219_5)).trans hx219_5
                        replace hx219_6 := (HB.out.cell (World.block_lt_of_cell? w _ hx219_6)).trans hx219_6
                        replace hx219_7 := (HB.out.cell (World.block_lt_of_cell? w _ hx219_7)).trans hx219_7
                        replace hx219_8 := (HB.out.cell (World.block_lt_of_cell? w _ hx219_8)).trans hx219_8
                        replace hx219_9 := (HB.out.cell (World.block_lt_of_cell? w _ hx219_9)).trans hx219_9
                        have HR219_7 := Aside0.mk hi219_7
                        have HC219_7 := Aside0.mk hl219_7
                        clear hi219_7 hl219_7
                        have HR219_8 := Aside0.mk hi219_8
                        have HC219_8 := Aside0.mk hl219_8
                        clear hi219_8 hl219_8
                        have HR219_9 := Aside0.mk hi219_9
                        have HC219_9 := Aside0.mk hl219_9
                        clear hi219_9 hl219_9
                        replace p219 := eq_true p219
                        replace q219 := eq_true q219
                        go_upto_if 86 with (first | ((with_reducible refine gate_callee (f := 60) rfl ?_); refine goesL_ (some 84) rfl rfl Try.func60 (by kernel_rfl) rfl #[.slice A219_7 ((rd_T37 l0 x5_1).f5.f2).length c219_7, .int .i64 (wrap64 ((wrap64 ((wrap64 ((wrap64 ((wrap64 ((wrap64 ((wrap64 (x1_1 + 1)) + 1)) + 1)) + 1)) + 1)) + 1)) + 1))] rfl (by (try simp only [List.map_toArray, List.map_cons, List.map_nil]); first | done | rfl | (simp only [List.length_drop, List.length_take]; rfl)) ?_; (with_reducible refine (laws_heldEntryS.calls k1 _ _ ((rd_T37 l0 x5_1).f5.f2) (wrap64 ((wrap64 ((wrap64 ((wrap64 ((wrap64 ((wrap64 ((wrap64 (x1_1 + 1)) + 1)) + 1)) + 1)) + 1)) + 1)) + 1)) t220 _ ?side1 ?side2 A12.out).mono ?_); (case side1 => repeat (first | exact (Kd.C_below HR219_7.out HB.out) | (with_reducible refine Kd.C_alloc ?_ _) | (with_reducible refine Kd.C_drewN ?_ _) | (with_reducible refine Kd.C_drew ?_))); (case side2 => exact HC219_7.out); rintro e w13 ⟨rfl, hb⟩; refine ⟨_, rfl, ?_⟩; have n0_ := Aside0.mk (below_step (by repeat (first | (with_reducible first | exact HB.out | apply below_alloc | apply pw_below_drewN | apply below_drew1) | exact HB.out)) hb); clear HB; have HB := n0_; clear n0_; (try clear hb); (try clear hb2); (try clear hk); (try clear hi)))
                        have H := H9.out
                        clear H9
                        by_cases c14 : t220 < 0
                        · rw [if_pos c14] at H
                          have c14b0 : decide (t220 < 0) = true := decide_eq_true c14
                          clear c14
                          (first | rw [c14b0] | (simp only [i64_w, i32_w]; rw [c14b0]) | skip)
                          obtain rfl := Option.some.inj H
                          go_wp2
                          go_ret
                          exact ⟨by first | rfl | (simp [errW_none, errW_some] <;> rfl) | (simp [*, errW_none, errW_some] <;> rfl), by repeat (first | (with_reducible first | exact HB.out | apply below_alloc | apply pw_below_drewN | apply below_drew1) | exact HB.out)⟩
                        · rw [if_neg c14] at H
                          have c14b0 : decide (t220 < 0) = false := decide_eq_false c14
                          clear c14
                          (first | rw [c14b0] | (simp only [i64_w, i32_w]; rw [c14b0]) | skip)
                          replace H := Option.bind_eq_some_iff.mp H
                          obtain ⟨t222, A150, H⟩ := H
                          replace H : (if t222 < 0 then (some (-1)) else ((laws_heldIntS.f k1 ((rd_T37 l0 x5_1).f7) t222).bind fun t224 => (if t224 < 0 then (some (-1)) else (laws_heldNodeS.l0 k1 l0 t224 (wrap64 (x5_1 + 1)))))) = some r := H
                          have A15 := Aside0.mk A150
                          clear A150
                          have H9 := Aside0.mk H
                          clear H
                          have p221 : 0 ≤ (x5_1 : Int) := of_decide_eq_true (by first | (with_reducible assumption) | assumption)
                          have q221 : x5_1 < (l0.length : Int) := of_decide_eq_true (by first | (with_reducible assumption) | assumption)
                          obtain ⟨ad221, A221_7, c221_7, A221_8, c221_8, A221_9, c221_9, e221, hx221_0, hx221_1, hx221_2, hx221_3, hx221_4, hx221_5, hx221_6, hx221_7, hx221_8, hx221_9, hl221_7, hi221_7, hl221_8, hi221_8, hl221_9, hi221_9⟩ := at_T37 HR0.out x5_1 p221 q221
                          (try clear hx219_7 hx219_8 hx219_9)
                          obtain rfl : ad212 = ad221 := (by injection e221)
                          replace hx221_0 := (HB.out.cell (World.block_lt_of_cell? w _ hx221_0)).trans hx221_0
                          replace hx221_1 := (HB.out.cell (World.block_lt_of_cell? w _ hx221_1)).trans hx221_1
                          replace hx221_2 := (HB.out.cell (World.block_lt_of_cell? w _ hx221_2)).trans hx221_2
                          replace hx221_3 := (HB.out.cell (World.block_lt_of_cell? w _ hx221_3)).trans hx221_3
                          replace hx221_4 := (HB.out.cell (World.block_lt_of_cell? w _ hx221_4)).trans hx221_4
                          replace hx221_5 := (HB.out.cell (World.block_lt_of_cell? w _ hx221_5)).trans hx221_5
                          replace hx221_6 := (HB.out.cell (World.block_lt_of_cell? w _ hx221_6)).trans hx221_6
                          replace hx221_7 := (HB.out.cell (World.block_lt_of_cell? w _ hx221_7)).trans hx221_7
                          replace hx221_8 := (HB.out.cell (World.block_lt_of_cell? w _ hx221_8)).trans hx221_8
                          replace hx221_9 := (HB.out.cell (World.block_lt_of_cell? w _ hx221_9)).trans hx221_9
                          have HR221_7 := Aside0.mk hi221_7
                          have HC221_7 := Aside0.mk hl221_7
                          clear hi221_7 hl221_7
                          have HR221_8 := Aside0.mk hi221_8
                          have HC221_8 := Aside0.mk hl221_8
                          clear hi221_8 hl221_8
                          have HR221_9 := Aside0.mk hi221_9
                          have HC221_9 := Aside0.mk hl221_9
                          clear hi221_9 hl221_9
                          replace p221 := eq_true p221
                          replace q221 := eq_true q221
                          go_upto_if 95 with (first | ((with_reducible refine gate_callee (f := 55) rfl ?_); refine goesL_ (some 93) rfl rfl Try.func55 (by kernel_rfl) rfl #[.slice A221_8 ((rd_T37 l0 x5_1).f6).length c221_8, .int .i64 t220] rfl (by (try simp only [List.map_toArray, List.map_cons, List.map_nil]); first | done | rfl | (simp only [List.length_drop, List.length_take]; rfl)) ?_; (with_reducible refine (laws_heldIntS.calls k1 _ _ ((rd_T37 l0 x5_1).f6) t220 t222 _ ?side1 ?side2 A15.out).mono ?_); (case side1 => repeat (first | exact (Kd.C_below HR221_8.out HB.out) | (with_reducible refine Kd.C_alloc ?_ _) | (with_reducible refine Kd.C_drewN ?_ _) | (with_reducible refine Kd.C_drew ?_))); (case side2 => exact HC221_8.out); rintro e w' ⟨rfl, ⟨nd, rfl⟩⟩; refine ⟨_, rfl, ?_⟩))
                          have H := H9.out
                          clear H9
                          by_cases c16 : t222 < 0
                          · rw [if_pos c16] at H
                            have c16b0 : decide (t222 < 0) = true := decide_eq_true c16
                            clear c16
                            (first | rw [c16b0] | (simp only [i64_w, i32_w]; rw [c16b0]) | skip)
                            obtain rfl := Option.some.inj H
                            go_wp2
                            go_ret
                            exact ⟨by first | rfl | (simp [errW_none, errW_some] <;> rfl) | (simp [*, errW_none, errW_some] <;> rfl), by repeat (first | (with_reducible first | exact HB.out | apply below_alloc | apply pw_below_drewN | apply below_drew1) | exact HB.out)⟩
                          · rw [if_neg c16] at H
                            have c16b0 : decide (t222 < 0) = false := decide_eq_false c16
                            clear c16
                            (first | rw [c16b0] | (simp only [i64_w, i32_w]; rw [c16b0]) | skip)
                            replace H := Option.bind_eq_some_iff.mp H
                            obtain ⟨t224, A170, H⟩ := H
                            replace H : (if t224 < 0 then (some (-1)) else (laws_heldNodeS.l0 k1 l0 t224 (wrap64 (x5_1 + 1)))) = some r := H
                            have A17 := Aside0.mk A170
                            clear A170
                            have H9 := Aside0.mk H
                            clear H
                            have p223 : 0 ≤ (x5_1 : Int) := of_decide_eq_true (by first | (with_reducible assumption) | assumption)
                            have q223 : x5_1 < (l0.length : Int) := of_decide_eq_true (by first | (with_reducible assumption) | assumption)
                            obtain ⟨ad223, A223_7, c223_7, A223_8, c223_8, A223_9, c223_9, e223, hx223_0, hx223_1, hx223_2, hx223_3, hx223_4, hx223_5, hx223_6, hx223_7, hx223_8, hx223_9, hl223_7, hi223_7, hl223_8, hi223_8, hl223_9, hi223_9⟩ := at_T37 HR0.out x5_1 p223 q223
                            (try clear hx221_7 hx221_8 hx221_9)
                            obtain rfl : ad212 = ad223 := (by injection e223)
                            replace hx223_0 := (HB.out.cell (World.block_lt_of_cell? w _ hx223_0)).trans hx223_0
                            replace hx223_1 := (HB.out.cell (World.block_lt_of_cell? w _ hx223_1)).trans hx223_1
                            replace hx223_2 := (HB.out.cell (World.block_lt_of_cell? w _ hx223_2)).trans hx223_2
                            replace hx223_3 := (HB.out.cell (World.block_lt_of_cell? w _ hx223_3)).trans hx223_3
                            replace hx223_4 := (HB.out.cell (World.block_lt_of_cell? w _ hx223_4)).trans hx223_4
                            replace hx223_5 := (HB.out.cell (World.block_lt_of_cell? w _ hx223_5)).trans hx223_5
                            replace hx223_6 := (HB.out.cell (World.block_lt_of_cell? w _ hx223_6)).trans hx223_6
                            replace hx223_7 := (HB.out.cell (World.block_lt_of_cell? w _ hx223_7)).trans hx223_7
                            replace hx223_8 := (HB.out.cell (World.block_lt_of_cell? w _ hx223_8)).trans hx223_8
                            replace hx223_9 := (HB.out.cell (World.block_lt_of_cell? w _ hx223_9)).trans hx223_9
                            have HR223_7 := Aside0.mk hi223_7
                            have HC223_7 := Aside0.mk hl223_7
                            clear hi223_7 hl223_7
                            have HR223_8 := Aside0.mk hi223_8
                            have HC223_8 := Aside0.mk hl223_8
                            clear hi223_8 hl223_8
                            have HR223_9 := Aside0.mk hi223_9
                            have HC223_9 := Aside0.mk hl223_9
                            clear hi223_9 hl223_9
                            replace p223 := eq_true p223
                            replace q223 := eq_true q223
                            go_upto_if 104 with (first | ((with_reducible refine gate_callee (f := 55) rfl ?_); refine goesL_ (some 102) rfl rfl Try.func55 (by kernel_rfl) rfl #[.slice A223_9 ((rd_T37 l0 x5_1).f7).length c223_9, .int .i64 t222] rfl (by (try simp only [List.map_toArray, List.map_cons, List.map_nil]); first | done | rfl | (simp only [List.length_drop, List.length_take]; rfl)) ?_; (with_reducible refine (laws_heldIntS.calls k1 _ _ ((rd_T37 l0 x5_1).f7) t222 t224 _ ?side1 ?side2 A17.out).mono ?_); (case side1 => repeat (first | exact (Kd.C_below HR223_9.out HB.out) | (with_reducible refine Kd.C_alloc ?_ _) | (with_reducible refine Kd.C_drewN ?_ _) | (with_reducible refine Kd.C_drew ?_))); (case side2 => exact HC223_9.out); rintro e w' ⟨rfl, ⟨nd, rfl⟩⟩; refine ⟨_, rfl, ?_⟩))
                            have H := H9.out
                            clear H9
                            by_cases c18 : t224 < 0
                            · rw [if_pos c18] at H
                              have c18b0 : decide (t224 < 0) = true := decide_eq_true c18
                              clear c18
                              (first | rw [c18b0] | (simp only [i64_w, i32_w]; rw [c18b0]) | skip)
                              obtain rfl := Option.some.inj H
                              go_wp2
                              go_ret
                              exact ⟨by first | rfl | (simp [errW_none, errW_some] <;> rfl) | (simp [*, errW_none, errW_some] <;> rfl), by repeat (first | (with_reducible first | exact HB.out | apply below_alloc | apply pw_below_drewN | apply below_drew1) | exact HB.out)⟩
                            · rw [if_neg c18] at H
                              have c18b0 : decide (t224 < 0) = false := decide_eq_false c18
                              clear c18
                              (first | rw [c18b0] | (simp only [i64_w, i32_w]; rw [c18b0]) | skip)
                              have H' := Aside0.mk H
                              clear H
                              go_wp2
                              go_roundg k1
                              case measure => have := HK1.out; omega
                              case rel => exact ⟨(t224), (wrap64 (x5_1 + 1)), (by first | rfl | (simp; done) | (simp [*]; done)), (by first | rfl | (simp; done) | (simp [*]; done)), H', ⟨by have := HK1.out; omega⟩, ⟨by repeat (first | (with_reducible first | exact HB.out | apply below_alloc | apply pw_below_drewN | apply below_drew1) | exact HB.out)⟩⟩
                      · rw [if_neg c11] at H
                        have c11b0 : (((rd_T37 l0 x5_1).f5.f1) == (wrap64 ((wrap64 ((wrap64 ((wrap64 ((wrap64 ((wrap64 (x1_1 + 1)) + 1)) + 1)) + 1)) + 1)) + 1))) = false := beq_eq_false_iff_ne.mpr c11
                        have c11b1 : (((rd_T37 l0 x5_1).f5.f1) != (wrap64 ((wrap64 ((wrap64 ((wrap64 ((wrap64 ((wrap64 (x1_1 + 1)) + 1)) + 1)) + 1)) + 1)) + 1))) = true := bne_iff_ne.mpr c11
                        (first | rw [c11b0] | (simp only [i64_w, i32_w]; rw [c11b0]) | skip)
                        obtain rfl := Option.some.inj H
                        go_wp2
                        go_ret
                        exact ⟨by first | rfl | (simp [errW_none, errW_some] <;> rfl) | (simp [*, errW_none, errW_some] <;> rfl), by repeat (first | (with_reducible first | exact HB.out | apply below_alloc | apply pw_below_drewN | apply below_drew1) | exact HB.out)⟩
                    · rw [if_neg c10] at H
                      have c10b0 : (((rd_T37 l0 x5_1).f5.f0) == (wrap64 ((wrap64 ((wrap64 ((wrap64 ((wrap64 (x1_1 + 1)) + 1)) + 1)) + 1)) + 1))) = false := beq_eq_false_iff_ne.mpr c10
                      have c10b1 : (((rd_T37 l0 x5_1).f5.f0) != (wrap64 ((wrap64 ((wrap64 ((wrap64 ((wrap64 (x1_1 + 1)) + 1)) + 1)) + 1)) + 1))) = true := bne_iff_ne.mpr c10
                      (first | rw [c10b0] | (simp only [i64_w, i32_w]; rw [c10b0]) | skip)
                      obtain rfl := Option.some.inj H
                      go_wp2
                      go_ret
                      exact ⟨by first | rfl | (simp [errW_none, errW_some] <;> rfl) | (simp [*, errW_none, errW_some] <;> rfl), by repeat (first | (with_reducible first | exact HB.out | apply below_alloc | apply pw_below_drewN | apply below_drew1) | exact HB.out)⟩
                  · rw [if_neg c9] at H
                    have c9b0 : (((rd_T37 l0 x5_1).f4) == (wrap64 ((wrap64 ((wrap64 ((wrap64 (x1_1 + 1)) + 1)) + 1)) + 1))) = false := beq_eq_false_iff_ne.mpr c9
                    have c9b1 : (((rd_T37 l0 x5_1).f4) != (wrap64 ((wrap64 ((wrap64 ((wrap64 (x1_1 + 1)) + 1)) + 1)) + 1))) = true := bne_iff_ne.mpr c9
                    (first | rw [c9b0] | (simp only [i64_w, i32_w]; rw [c9b0]) | skip)
                    obtain rfl := Option.some.inj H
                    go_wp2
                    go_ret
                    exact ⟨by first | rfl | (simp [errW_none, errW_some] <;> rfl) | (simp [*, errW_none, errW_some] <;> rfl), by repeat (first | (with_reducible first | exact HB.out | apply below_alloc | apply pw_below_drewN | apply below_drew1) | exact HB.out)⟩
                · rw [if_neg c8] at H
                  have c8b0 : (((rd_T37 l0 x5_1).f3) == (wrap64 ((wrap64 ((wrap64 (x1_1 + 1)) + 1)) + 1))) = false := beq_eq_false_iff_ne.mpr c8
                  have c8b1 : (((rd_T37 l0 x5_1).f3) != (wrap64 ((wrap64 ((wrap64 (x1_1 + 1)) + 1)) + 1))) = true := bne_iff_ne.mpr c8
                  (first | rw [c8b0] | (simp only [i64_w, i32_w]; rw [c8b0]) | skip)
                  obtain rfl := Option.some.inj H
                  go_wp2
                  go_ret
                  exact ⟨by first | rfl | (simp [errW_none, errW_some] <;> rfl) | (simp [*, errW_none, errW_some] <;> rfl), by repeat (first | (with_reducible first | exact HB.out | apply below_alloc | apply pw_below_drewN | apply below_drew1) | exact HB.out)⟩
              · rw [if_neg c7] at H
                have c7b0 : (((rd_T37 l0 x5_1).f2) == (wrap64 ((wrap64 (x1_1 + 1)) + 1))) = false := beq_eq_false_iff_ne.mpr c7
                have c7b1 : (((rd_T37 l0 x5_1).f2) != (wrap64 ((wrap64 (x1_1 + 1)) + 1))) = true := bne_iff_ne.mpr c7
                (first | rw [c7b0] | (simp only [i64_w, i32_w]; rw [c7b0]) | skip)
                obtain rfl := Option.some.inj H
                go_wp2
                go_ret
                exact ⟨by first | rfl | (simp [errW_none, errW_some] <;> rfl) | (simp [*, errW_none, errW_some] <;> rfl), by repeat (first | (with_reducible first | exact HB.out | apply below_alloc | apply pw_below_drewN | apply below_drew1) | exact HB.out)⟩
            · rw [if_neg c6] at H
              have c6b0 : (((rd_T37 l0 x5_1).f1) == (wrap64 (x1_1 + 1))) = false := beq_eq_false_iff_ne.mpr c6
              have c6b1 : (((rd_T37 l0 x5_1).f1) != (wrap64 (x1_1 + 1))) = true := bne_iff_ne.mpr c6
              (first | rw [c6b0] | (simp only [i64_w, i32_w]; rw [c6b0]) | skip)
              obtain rfl := Option.some.inj H
              go_wp2
              go_ret
              exact ⟨by first | rfl | (simp [errW_none, errW_some] <;> rfl) | (simp [*, errW_none, errW_some] <;> rfl), by repeat (first | (with_reducible first | exact HB.out | apply below_alloc | apply pw_below_drewN | apply below_drew1) | exact HB.out)⟩
          · rw [if_neg c5] at H
            have c5b0 : (((rd_T37 l0 x5_1).f0) == x1_1) = false := beq_eq_false_iff_ne.mpr c5
            have c5b1 : (((rd_T37 l0 x5_1).f0) != x1_1) = true := bne_iff_ne.mpr c5
            (first | rw [c5b0] | (simp only [i64_w, i32_w]; rw [c5b0]) | skip)
            obtain rfl := Option.some.inj H
            go_wp2
            go_ret
            exact ⟨by first | rfl | (simp [errW_none, errW_some] <;> rfl) | (simp [*, errW_none, errW_some] <;> rfl), by repeat (first | (with_reducible first | exact HB.out | apply below_alloc | apply pw_below_drewN | apply below_drew1) | exact HB.out)⟩
        · rw [if_neg c4] at H
          exact absurd H (by simp)
      · rw [if_neg c3] at H
        have c3b0 : decide (x5_1 < (l0.length : Int)) = false := decide_eq_false c3
        clear c3
        obtain rfl := Option.some.inj H
        go_wp2
        go_ret
        exact ⟨by first | rfl | (simp [errW_none, errW_some] <;> rfl) | (simp [*, errW_none, errW_some] <;> rfl), by repeat (first | (with_reducible first | exact HB.out | apply below_alloc | apply pw_below_drewN | apply below_drew1) | exact HB.out)⟩

/-! ### laws_heldGroup: function 33 -/
def laws_heldGroup.f (k : Nat) (a0_0 : Int) (l0_1 : List (S37)) (l0_2 : List (S29)) (a1 : Int) : Option (Int) := (laws_heldNodeS.f k l0_1 a1).bind fun t226 => (if t226 < 0 then (some (-1)) else ((laws_heldMsgS.f k l0_2 t226).bind fun t227 => (if t227 < 0 then (some (-1)) else (some t227))))
theorem laws_heldGroup.mono : ∀ a0 a1 a2 a3 k, LeO (laws_heldGroup.f k a0 a1 a2 a3) (laws_heldGroup.f (k + 1) a0 a1 a2 a3) := by
  intro a0 a1 a2 a3 k
  unfold laws_heldGroup.f
  repeat' first
      | (with_reducible exact laws_heldMsgS.mono _ _ _)
      | (with_reducible exact laws_heldNodeS.mono _ _ _)
      | (with_reducible exact LeO.refl _)
      | (with_reducible exact LeO.none _)
      | (with_reducible refine LeO.ite ?_ ?_)
      | (with_reducible refine LeO.bind ?_ (fun _ => ?_))
      | exact laws_heldMsgS.mono _ _ _
      | exact laws_heldNodeS.mono _ _ _
      | exact LeO.none _
      | refine LeO.ite ?_ ?_
      | refine LeO.bind ?_ (fun _ => ?_)
set_option maxHeartbeats 8000000 in
set_option maxRecDepth 100000 in
theorem laws_heldGroup.calls (k : Nat) (a0_0 : Int) (A0_1 : Option Addr) (c0_1 : Nat) (l0_1 : List (S37)) (A0_2 : Option Addr) (c0_2 : Nat) (l0_2 : List (S29)) (a1 : Int) (r : Int) (w : World) (hr0_1 : Kd.C k37 w A0_1 l0_1.length l0_1) (hc0_1 : l0_1.length ≤ c0_1) (hr0_2 : Kd.C k29 w A0_2 l0_2.length l0_2) (hc0_2 : l0_2.length ≤ c0_2) (h : laws_heldGroup.f k a0_0 l0_1 l0_2 a1 = some r) :
    Calls Try.prog 33 #[.agg #[.int .i64 a0_0, .slice A0_1 l0_1.length c0_1, .slice A0_2 l0_2.length c0_2], .int .i64 a1] w fun e w' => e = .returned (.int .i64 r) ∧ Below w.heap.size w w' := by
  have hu53 := Try.underlying53
  have HR0_1 := Aside0.mk hr0_1
  have HC0_1 := Aside0.mk hc0_1
  clear hr0_1 hc0_1
  have HR0_2 := Aside0.mk hr0_2
  have HC0_2 := Aside0.mk hc0_2
  clear hr0_2 hc0_2
  have HB := Aside0.mk (Below.refl w.heap.size w)
  have H : ((laws_heldNodeS.f k l0_1 a1).bind fun t226 => (if t226 < 0 then (some (-1)) else ((laws_heldMsgS.f k l0_2 t226).bind fun t227 => (if t227 < 0 then (some (-1)) else (some t227))))) = some r := h
  clear h
  replace H := Option.bind_eq_some_iff.mp H
  obtain ⟨t226, A30, H⟩ := H
  replace H : (if t226 < 0 then (some (-1)) else ((laws_heldMsgS.f k l0_2 t226).bind fun t227 => (if t227 < 0 then (some (-1)) else (some t227)))) = some r := H
  have A3 := Aside0.mk A30
  clear A30
  have H9 := Aside0.mk H
  clear H
  go_enter Try.func33, Try.ntmps33
  go_upto_if 10 with (first | ((with_reducible refine gate_dst (N := 2) rfl ?_); refine box_event ?hg (N := 2) ?hd (cs := #[.int .i64 a0_0, .slice A0_1 l0_1.length c0_1, .slice A0_2 l0_2.length c0_2]) (t := 53) ?hr ?_; (case hd => rfl); (case hg => rfl); (case hr => first | (go_simp; done) | (go_simp; rfl)); intro gb225 hg w4 hbox hb; have n0_ := Aside0.mk (below_step (by repeat (first | (with_reducible first | exact HB.out | apply below_alloc | apply pw_below_drewN | apply below_drew1) | exact HB.out)) hb); have n1_ := Aside0.mk (hbox); have n2_ := Aside0.mk ((by rw [hg]; exact (below_size (by repeat (first | (with_reducible first | exact HB.out | apply below_alloc | apply pw_below_drewN | apply below_drew1) | exact HB.out))) : w.heap.size ≤ gb225)); have n3_ := Aside0.mk ((by rw [hg]; exact (below_size (by repeat (first | (with_reducible first | exact HB.out | apply below_alloc | apply pw_below_drewN | apply below_drew1) | exact HB.out))) : w.heap.size ≤ gb225)); clear HB; have HB := n0_; have BK225 := n1_; have GW225 := n2_; have GE225 := n3_; clear n0_ n1_ n2_ n3_; clear hb hbox hg; have hcz5_0 : w4.cell? ⟨gb225, 0, none⟩ = some (.int .i64 a0_0) := (blk_cell BK225.out 0).trans rfl; have hcz5_1 : w4.cell? ⟨gb225, 1, none⟩ = some (.slice A0_1 l0_1.length c0_1) := (blk_cell BK225.out 1).trans rfl; have hcz5_2 : w4.cell? ⟨gb225, 2, none⟩ = some (.slice A0_2 l0_2.length c0_2) := (blk_cell BK225.out 2).trans rfl; have hfz5_0 := blk_frozen BK225.out 0; have hfz5_1 := blk_frozen BK225.out 1; have hfz5_2 := blk_frozen BK225.out 2) | ((with_reducible refine gate_callee (f := 82) rfl ?_); refine goesL_ (some 8) rfl rfl Try.func82 (by kernel_rfl) rfl #[.slice A0_1 l0_1.length c0_1, .int .i64 a1] rfl (by (try simp only [List.map_toArray, List.map_cons, List.map_nil]); first | done | rfl | (simp only [List.length_drop, List.length_take]; rfl)) ?_; (with_reducible refine (laws_heldNodeS.calls k _ _ l0_1 a1 t226 _ ?side1 ?side2 A3.out).mono ?_); (case side1 => repeat (first | exact (Kd.C_below HR0_1.out HB.out) | (with_reducible refine Kd.C_alloc ?_ _) | (with_reducible refine Kd.C_drewN ?_ _) | (with_reducible refine Kd.C_drew ?_))); (case side2 => exact HC0_1.out); rintro e w6 ⟨rfl, hb⟩; refine ⟨_, rfl, ?_⟩; have n0_ := Aside0.mk (blk_below (g := gb225) (o := .cells #[.int .i64 a0_0, .slice A0_1 l0_1.length c0_1, .slice A0_2 l0_2.length c0_2] 53 (0, 0)) (by (with_reducible repeat (first | refine blk_drewN ?_ _ | refine blk_drew ?_ | refine blk_alloc ?_ _)); exact BK225.out) hb); have n1_ := Aside0.mk (below_step (by repeat (first | (with_reducible first | exact HB.out | apply below_alloc | apply pw_below_drewN | apply below_drew1 | refine below_set ?_ GE225.out) | exact HB.out)) hb); clear BK225; clear HB; have BK225 := n0_; have HB := n1_; clear n0_ n1_; (try clear hb); (try clear hb2); (try clear hk); (try clear hi)))
  have H := H9.out
  clear H9
  by_cases c7 : t226 < 0
  · rw [if_pos c7] at H
    have c7b0 : decide (t226 < 0) = true := decide_eq_true c7
    clear c7
    (first | rw [c7b0] | (simp only [i64_w, i32_w]; rw [c7b0]) | skip)
    obtain rfl := Option.some.inj H
    go_wp2
    go_ret
    exact ⟨by first | rfl | (simp [errW_none, errW_some] <;> rfl) | (simp [*, errW_none, errW_some] <;> rfl), by repeat (first | (with_reducible first | exact HB.out | apply below_alloc | apply pw_below_drewN | apply below_drew1 | refine below_set ?_ GE225.out) | exact HB.out)⟩
  · rw [if_neg c7] at H
    have c7b0 : decide (t226 < 0) = false := decide_eq_false c7
    clear c7
    (first | rw [c7b0] | (simp only [i64_w, i32_w]; rw [c7b0]) | skip)
    replace H := Option.bind_eq_some_iff.mp H
    obtain ⟨t227, A80, H⟩ := H
    replace H : (if t227 < 0 then (some (-1)) else (some t227)) = some r := H
    have A8 := Aside0.mk A80
    clear A80
    have H9 := Aside0.mk H
    clear H
    have hcz9_0 : w6.cell? ⟨gb225, 0, none⟩ = some (.int .i64 a0_0) := (blk_cell BK225.out 0).trans rfl
    have hcz9_1 : w6.cell? ⟨gb225, 1, none⟩ = some (.slice A0_1 l0_1.length c0_1) := (blk_cell BK225.out 1).trans rfl
    have hcz9_2 : w6.cell? ⟨gb225, 2, none⟩ = some (.slice A0_2 l0_2.length c0_2) := (blk_cell BK225.out 2).trans rfl
    have hfz9_0 := blk_frozen BK225.out 0
    have hfz9_1 := blk_frozen BK225.out 1
    have hfz9_2 := blk_frozen BK225.out 2
    go_upto_if 16 with (first | ((with_reducible refine gate_callee (f := 42) rfl ?_); refine goesL_ (some 14) rfl rfl Try.func42 (by kernel_rfl) rfl #[.slice A0_2 l0_2.length c0_2, .int .i64 t226] rfl (by (try simp only [List.map_toArray, List.map_cons, List.map_nil]); first | done | rfl | (simp only [List.length_drop, List.length_take]; rfl)) ?_; (with_reducible refine (laws_heldMsgS.calls k _ _ l0_2 t226 t227 _ ?side1 ?side2 A8.out).mono ?_); (case side1 => repeat (first | exact (Kd.C_below HR0_2.out HB.out) | (with_reducible refine Kd.C_alloc ?_ _) | (with_reducible refine Kd.C_drewN ?_ _) | (with_reducible refine Kd.C_drew ?_))); (case side2 => exact HC0_2.out); rintro e w10 ⟨rfl, hb⟩; refine ⟨_, rfl, ?_⟩; have n0_ := Aside0.mk (blk_below (g := gb225) (o := .cells #[.int .i64 a0_0, .slice A0_1 l0_1.length c0_1, .slice A0_2 l0_2.length c0_2] 53 (0, 0)) (by (with_reducible repeat (first | refine blk_drewN ?_ _ | refine blk_drew ?_ | refine blk_alloc ?_ _)); exact BK225.out) hb); have n1_ := Aside0.mk (below_step (by repeat (first | (with_reducible first | exact HB.out | apply below_alloc | apply pw_below_drewN | apply below_drew1 | refine below_set ?_ GE225.out) | exact HB.out)) hb); clear BK225; clear HB; have BK225 := n0_; have HB := n1_; clear n0_ n1_; (try clear hb); (try clear hb2); (try clear hk); (try clear hi)))
    have H := H9.out
    clear H9
    by_cases c11 : t227 < 0
    · rw [if_pos c11] at H
      have c11b0 : decide (t227 < 0) = true := decide_eq_true c11
      clear c11
      (first | rw [c11b0] | (simp only [i64_w, i32_w]; rw [c11b0]) | skip)
      obtain rfl := Option.some.inj H
      go_wp2
      go_ret
      exact ⟨by first | rfl | (simp [errW_none, errW_some] <;> rfl) | (simp [*, errW_none, errW_some] <;> rfl), by repeat (first | (with_reducible first | exact HB.out | apply below_alloc | apply pw_below_drewN | apply below_drew1 | refine below_set ?_ GE225.out) | exact HB.out)⟩
    · rw [if_neg c11] at H
      have c11b0 : decide (t227 < 0) = false := decide_eq_false c11
      clear c11
      (first | rw [c11b0] | (simp only [i64_w, i32_w]; rw [c11b0]) | skip)
      obtain rfl := Option.some.inj H
      go_wp2
      go_ret
      exact ⟨by first | rfl | (simp [errW_none, errW_some] <;> rfl) | (simp [*, errW_none, errW_some] <;> rfl), by repeat (first | (with_reducible first | exact HB.out | apply below_alloc | apply pw_below_drewN | apply below_drew1 | refine below_set ?_ GE225.out) | exact HB.out)⟩

/-! ### laws_FnExactNewGroup: function 6 -/
def laws_FnExactNewGroup.f (k : Nat) (a0 : Int) : Option (Bool) := (spec_NewGroup.f k a0).bind fun bt228 => ((impl_NewGroup.f k a0).bind fun bt236 => ((laws_eqGroup.f k bt236.1 bt236.2.1 bt236.2.2 bt228.1 bt228.2.1 bt228.2.2).bind fun t244 => (if t244 = true then ((laws_markGroup.f k bt236.1 bt236.2.1 bt236.2.2 1).bind fun bt245 => ((laws_heldGroup.f k bt236.1 bt245.2.1 bt245.2.2 1).bind fun t248 => (if t248 < 0 then (some false) else (if t248 = bt245.1 then ((impl_NewGroup.f k a0).bind fun bt249 => ((laws_eqGroup.f k bt249.1 bt249.2.1 bt249.2.2 bt228.1 bt228.2.1 bt228.2.2).bind fun t257 => (if t257 = true then ((laws_heldGroup.f k bt236.1 bt245.2.1 bt245.2.2 1).bind fun t258 => (if t258 < 0 then (some false) else (if t258 = bt245.1 then (some true) else (some false)))) else (some false)))) else (some false))))) else (some false))))
theorem laws_FnExactNewGroup.mono : ∀ a0 k, LeO (laws_FnExactNewGroup.f k a0) (laws_FnExactNewGroup.f (k + 1) a0) := by
  intro a0 k
  unfold laws_FnExactNewGroup.f
  repeat' first
      | (with_reducible exact impl_NewGroup.mono _ _)
      | (with_reducible exact laws_eqGroup.mono _ _ _ _ _ _ _)
      | (with_reducible exact laws_heldGroup.mono _ _ _ _ _)
      | (with_reducible exact laws_markGroup.mono _ _ _ _ _)
      | (with_reducible exact spec_NewGroup.mono _ _)
      | (with_reducible exact LeO.refl _)
      | (with_reducible exact LeO.none _)
      | (with_reducible refine LeO.ite ?_ ?_)
      | (with_reducible refine LeO.bind ?_ (fun _ => ?_))
      | exact impl_NewGroup.mono _ _
      | exact laws_eqGroup.mono _ _ _ _ _ _ _
      | exact laws_heldGroup.mono _ _ _ _ _
      | exact laws_markGroup.mono _ _ _ _ _
      | exact spec_NewGroup.mono _ _
      | exact LeO.none _
      | refine LeO.ite ?_ ?_
      | refine LeO.bind ?_ (fun _ => ?_)
set_option maxHeartbeats 8000000 in
set_option maxRecDepth 100000 in
theorem laws_FnExactNewGroup.calls (k : Nat) (a0 : Int) (r : Bool) (w : World) (h : laws_FnExactNewGroup.f k a0 = some r) (hr_ : Aside0 (r = true)) :
    Calls Try.prog 6 #[.int .i64 a0] w fun e w' => e = .returned (.bool r) ∧ Below w.heap.size w w' := by
  have hu53 := Try.underlying53
  have HB := Aside0.mk (Below.refl w.heap.size w)
  have H : ((spec_NewGroup.f k a0).bind fun bt228 => ((impl_NewGroup.f k a0).bind fun bt236 => ((laws_eqGroup.f k bt236.1 bt236.2.1 bt236.2.2 bt228.1 bt228.2.1 bt228.2.2).bind fun t244 => (if t244 = true then ((laws_markGroup.f k bt236.1 bt236.2.1 bt236.2.2 1).bind fun bt245 => ((laws_heldGroup.f k bt236.1 bt245.2.1 bt245.2.2 1).bind fun t248 => (if t248 < 0 then (some false) else (if t248 = bt245.1 then ((impl_NewGroup.f k a0).bind fun bt249 => ((laws_eqGroup.f k bt249.1 bt249.2.1 bt249.2.2 bt228.1 bt228.2.1 bt228.2.2).bind fun t257 => (if t257 = true then ((laws_heldGroup.f k bt236.1 bt245.2.1 bt245.2.2 1).bind fun t258 => (if t258 < 0 then (some false) else (if t258 = bt245.1 then (some true) else (some false)))) else (some false)))) else (some false))))) else (some false))))) = some r := h
  clear h
  replace H := Option.bind_eq_some_iff.mp H
  obtain ⟨⟨t228, t229, t232⟩, A20, H⟩ := H
  replace H : ((impl_NewGroup.f k a0).bind fun bt236 => ((laws_eqGroup.f k bt236.1 bt236.2.1 bt236.2.2 t228 t229 t232).bind fun t244 => (if t244 = true then ((laws_markGroup.f k bt236.1 bt236.2.1 bt236.2.2 1).bind fun bt245 => ((laws_heldGroup.f k bt236.1 bt245.2.1 bt245.2.2 1).bind fun t248 => (if t248 < 0 then (some false) else (if t248 = bt245.1 then ((impl_NewGroup.f k a0).bind fun bt249 => ((laws_eqGroup.f k bt249.1 bt249.2.1 bt249.2.2 t228 t229 t232).bind fun t257 => (if t257 = true then ((laws_heldGroup.f k bt236.1 bt245.2.1 bt245.2.2 1).bind fun t258 => (if t258 < 0 then (some false) else (if t258 = bt245.1 then (some true) else (some false)))) else (some false)))) else (some false))))) else (some false)))) = some r := H
  have A2 := Aside0.mk A20
  clear A20
  replace H := Option.bind_eq_some_iff.mp H
  obtain ⟨⟨t236, t237, t240⟩, A30, H⟩ := H
  replace H : ((laws_eqGroup.f k t236 t237 t240 t228 t229 t232).bind fun t244 => (if t244 = true then ((laws_markGroup.f k t236 t237 t240 1).bind fun bt245 => ((laws_heldGroup.f k t236 bt245.2.1 bt245.2.2 1).bind fun t248 => (if t248 < 0 then (some false) else (if t248 = bt245.1 then ((impl_NewGroup.f k a0).bind fun bt249 => ((laws_eqGroup.f k bt249.1 bt249.2.1 bt249.2.2 t228 t229 t232).bind fun t257 => (if t257 = true then ((laws_heldGroup.f k t236 bt245.2.1 bt245.2.2 1).bind fun t258 => (if t258 < 0 then (some false) else (if t258 = bt245.1 then (some true) else (some false)))) else (some false)))) else (some false))))) else (some false))) = some r := H
  have A3 := Aside0.mk A30
  clear A30
  replace H := Option.bind_eq_some_iff.mp H
  obtain ⟨t244, A40, H⟩ := H
  replace H : (if t244 = true then ((laws_markGroup.f k t236 t237 t240 1).bind fun bt245 => ((laws_heldGroup.f k t236 bt245.2.1 bt245.2.2 1).bind fun t248 => (if t248 < 0 then (some false) else (if t248 = bt245.1 then ((impl_NewGroup.f k a0).bind fun bt249 => ((laws_eqGroup.f k bt249.1 bt249.2.1 bt249.2.2 t228 t229 t232).bind fun t257 => (if t257 = true then ((laws_heldGroup.f k t236 bt245.2.1 bt245.2.2 1).bind fun t258 => (if t258 < 0 then (some false) else (if t258 = bt245.1 then (some true) else (some false)))) else (some false)))) else (some false))))) else (some false)) = some r := H
  have A4 := Aside0.mk A40
  clear A40
  by_cases c5 : t244 = true
  · subst c5
    have H1 : ((laws_markGroup.f k t236 t237 t240 1).bind fun bt245 => ((laws_heldGroup.f k t236 bt245.2.1 bt245.2.2 1).bind fun t248 => (if t248 < 0 then (some false) else (if t248 = bt245.1 then ((impl_NewGroup.f k a0).bind fun bt249 => ((laws_eqGroup.f k bt249.1 bt249.2.1 bt249.2.2 t228 t229 t232).bind fun t257 => (if t257 = true then ((laws_heldGroup.f k t236 bt245.2.1 bt245.2.2 1).bind fun t258 => (if t258 < 0 then (some false) else (if t258 = bt245.1 then (some true) else (some false)))) else (some false)))) else (some false))))) = some r := by rw [if_pos rfl] at H; exact H
    clear H
    have H := H1
    clear H1
    replace H := Option.bind_eq_some_iff.mp H
    obtain ⟨⟨t245, t246, t247⟩, A60, H⟩ := H
    replace H : ((laws_heldGroup.f k t236 t246 t247 1).bind fun t248 => (if t248 < 0 then (some false) else (if t248 = t245 then ((impl_NewGroup.f k a0).bind fun bt249 => ((laws_eqGroup.f k bt249.1 bt249.2.1 bt249.2.2 t228 t229 t232).bind fun t257 => (if t257 = true then ((laws_heldGroup.f k t236 t246 t247 1).bind fun t258 => (if t258 < 0 then (some false) else (if t258 = t245 then (some true) else (some false)))) else (some false)))) else (some false)))) = some r := H
    have A6 := Aside0.mk A60
    clear A60
    replace H := Option.bind_eq_some_iff.mp H
    obtain ⟨t248, A70, H⟩ := H
    replace H : (if t248 < 0 then (some false) else (if t248 = t245 then ((impl_NewGroup.f k a0).bind fun bt249 => ((laws_eqGroup.f k bt249.1 bt249.2.1 bt249.2.2 t228 t229 t232).bind fun t257 => (if t257 = true then ((laws_heldGroup.f k t236 t246 t247 1).bind fun t258 => (if t258 < 0 then (some false) else (if t258 = t245 then (some true) else (some false)))) else (some false)))) else (some false))) = some r := H
    have A7 := Aside0.mk A70
    clear A70
    by_cases c8 : t248 < 0
    · rw [if_pos c8] at H
      have c8b0 : decide (t248 < 0) = true := decide_eq_true c8
      clear c8
      exact absurd ((Option.some.inj H).trans hr_.out) (by decide)
    · rw [if_neg c8] at H
      have c8b0 : decide (t248 < 0) = false := decide_eq_false c8
      clear c8
      by_cases c9 : t248 = t245
      · rw [if_pos c9] at H
        have c9b0 : (t248 == t245) = true := beq_iff_eq.mpr c9
        have c9b1 : (t248 != t245) = false := bne_eq_false_iff_eq.mpr c9
        clear c9
        replace H := Option.bind_eq_some_iff.mp H
        obtain ⟨⟨t249, t250, t253⟩, A100, H⟩ := H
        replace H : ((laws_eqGroup.f k t249 t250 t253 t228 t229 t232).bind fun t257 => (if t257 = true then ((laws_heldGroup.f k t236 t246 t247 1).bind fun t258 => (if t258 < 0 then (some false) else (if t258 = t245 then (some true) else (some false)))) else (some false))) = some r := H
        have A10 := Aside0.mk A100
        clear A100
        replace H := Option.bind_eq_some_iff.mp H
        obtain ⟨t257, A110, H⟩ := H
        replace H : (if t257 = true then ((laws_heldGroup.f k t236 t246 t247 1).bind fun t258 => (if t258 < 0 then (some false) else (if t258 = t245 then (some true) else (some false)))) else (some false)) = some r := H
        have A11 := Aside0.mk A110
        clear A110
        by_cases c12 : t257 = true
        · subst c12
          have H1 : ((laws_heldGroup.f k t236 t246 t247 1).bind fun t258 => (if t258 < 0 then (some false) else (if t258 = t245 then (some true) else (some false)))) = some r := by rw [if_pos rfl] at H; exact H
          clear H
          have H := H1
          clear H1
          replace H := Option.bind_eq_some_iff.mp H
          obtain ⟨t258, A130, H⟩ := H
          replace H : (if t258 < 0 then (some false) else (if t258 = t245 then (some true) else (some false))) = some r := H
          have A13 := Aside0.mk A130
          clear A130
          by_cases c14 : t258 < 0
          · rw [if_pos c14] at H
            have c14b0 : decide (t258 < 0) = true := decide_eq_true c14
            clear c14
            exact absurd ((Option.some.inj H).trans hr_.out) (by decide)
          · rw [if_neg c14] at H
            have c14b0 : decide (t258 < 0) = false := decide_eq_false c14
            clear c14
            by_cases c15 : t258 = t245
            · rw [if_pos c15] at H
              have c15b0 : (t258 == t245) = true := beq_iff_eq.mpr c15
              have c15b1 : (t258 != t245) = false := bne_eq_false_iff_eq.mpr c15
              clear c15
              obtain rfl := Option.some.inj H
              go_enter Try.func6, Try.ntmps6
              go_wp2_with (first | ((with_reducible refine gate_callee (f := 29) rfl ?_); refine goesL_ (some 9) rfl rfl Try.func29 (by kernel_rfl) rfl #[.int .i64 a0] rfl (by (try simp only [List.map_toArray, List.map_cons, List.map_nil]); first | done | rfl | (simp only [List.length_drop, List.length_take]; rfl)) ?_; (with_reducible refine (spec_NewGroup.calls k a0 t228 t229 t232 _ A2.out).mono ?_); rintro e w16 ⟨v230, v233, rfl, ho0, ho1, hb⟩; refine ⟨_, rfl, ?_⟩; have n0_ := Aside0.mk (Kd.S_lower ho0 (below_size (by repeat (first | (with_reducible first | exact HB.out | apply below_alloc | apply pw_below_drewN | apply below_drew1) | exact HB.out)))); have n1_ := Aside0.mk (Kd.S_lower ho1 (below_size (by repeat (first | (with_reducible first | exact HB.out | apply below_alloc | apply pw_below_drewN | apply below_drew1) | exact HB.out)))); have n2_ := Aside0.mk (below_step (by repeat (first | (with_reducible first | exact HB.out | apply below_alloc | apply pw_below_drewN | apply below_drew1) | exact HB.out)) hb); clear HB; have HO231 := n0_; have HO234 := n1_; have HB := n2_; clear n0_ n1_ n2_; (try clear hb); (try clear hb2); (try clear hk); (try clear hi); (try clear ho0); (try clear ho1)) | ((with_reducible refine gate_dst (N := 3) rfl ?_); refine box_event ?hg (N := 3) ?hd (cs := #[.int .i64 0, .slice none 0 0, .slice none 0 0]) (t := 53) ?hr ?_; (case hd => rfl); (case hg => rfl); (case hr => first | (go_simp; done) | (go_simp; rfl)); intro gb235 hg w17 hbox hb; have n0_ := Aside0.mk (Kd.S_below (by (with_reducible repeat (first | apply Kd.S_alloc | apply Kd.S_drewN | apply Kd.S_drew)); exact HO231.out) hb); have n1_ := Aside0.mk (Kd.S_below (by (with_reducible repeat (first | apply Kd.S_alloc | apply Kd.S_drewN | apply Kd.S_drew)); exact HO234.out) hb); have n2_ := Aside0.mk (below_step (by repeat (first | (with_reducible first | exact HB.out | apply below_alloc | apply pw_below_drewN | apply below_drew1) | exact HB.out)) hb); have n3_ := Aside0.mk (hbox); have n4_ := Aside0.mk ((by rw [hg]; exact (below_size (by repeat (first | (with_reducible first | exact HB.out | apply below_alloc | apply pw_below_drewN | apply below_drew1) | exact HB.out))) : w.heap.size ≤ gb235)); have n5_ := Aside0.mk ((by rw [hg]; exact (below_size (by repeat (first | (with_reducible first | exact HB.out | apply below_alloc | apply pw_below_drewN | apply below_drew1) | exact HB.out))) : w.heap.size ≤ gb235)); clear HO231; clear HO234; clear HB; have HO231 := n0_; have HO234 := n1_; have HB := n2_; have BK235 := n3_; have GW235 := n4_; have GE235 := n5_; clear n0_ n1_ n2_ n3_ n4_ n5_; clear hb hbox hg; have hcz18_0 : w17.cell? ⟨gb235, 0, none⟩ = some (.int .i64 0) := (blk_cell BK235.out 0).trans rfl; have hcz18_1 : w17.cell? ⟨gb235, 1, none⟩ = some (.slice none 0 0) := (blk_cell BK235.out 1).trans rfl; have hcz18_2 : w17.cell? ⟨gb235, 2, none⟩ = some (.slice none 0 0) := (blk_cell BK235.out 2).trans rfl; have hfz18_0 := blk_frozen BK235.out 0; have hfz18_1 := blk_frozen BK235.out 1; have hfz18_2 := blk_frozen BK235.out 2; obtain ⟨Ao19, co19, eo19⟩ := Kd.S_slice HO231.out; subst eo19; obtain ⟨Ao20, co20, eo20⟩ := Kd.S_slice HO234.out; subst eo20) | ((with_reducible refine gate_callee (f := 30) rfl ?_); refine goesL_ (some 11) rfl rfl Try.func30 (by kernel_rfl) rfl #[.int .i64 a0] rfl (by (try simp only [List.map_toArray, List.map_cons, List.map_nil]); first | done | rfl | (simp only [List.length_drop, List.length_take]; rfl)) ?_; (with_reducible refine (impl_NewGroup.calls k a0 t236 t237 t240 _ A3.out).mono ?_); rintro e w21 ⟨v238, v241, rfl, ho0, ho1, hb⟩; refine ⟨_, rfl, ?_⟩; have n0_ := Aside0.mk (Kd.S_elder' (by (with_reducible repeat (first | apply Kd.S_alloc | apply Kd.S_drewN | apply Kd.S_drew)); exact (Kd.S_mono (Kd.S_far (p := ⟨gb235, 2, none⟩) (Kd.S_far (p := ⟨gb235, 1, none⟩) (Kd.S_far (p := ⟨gb235, 0, none⟩) (Kd.S_types HO231.out BK235.out (by decide)) (fun _ hk => hk.2) (.int .i64 t228)) (fun _ hk => hk.2) (.slice Ao19 t229.length co19)) (fun _ hk => hk.2) (.slice Ao20 t232.length co20)) (fun _ h_ => h_.1))) (Kd.S_base ho0) hb); have n1_ := Aside0.mk (Kd.S_elder' (by (with_reducible repeat (first | apply Kd.S_alloc | apply Kd.S_drewN | apply Kd.S_drew)); exact (Kd.S_mono (Kd.S_far (p := ⟨gb235, 2, none⟩) (Kd.S_far (p := ⟨gb235, 1, none⟩) (Kd.S_far (p := ⟨gb235, 0, none⟩) (Kd.S_types HO234.out BK235.out (by decide)) (fun _ hk => hk.2) (.int .i64 t228)) (fun _ hk => hk.2) (.slice Ao19 t229.length co19)) (fun _ hk => hk.2) (.slice Ao20 t232.length co20)) (fun _ h_ => h_.1))) (Kd.S_base ho1) hb); have n2_ := Aside0.mk (Kd.S_lower (Kd.S_new' ho0 (Kd.S_lt (by (with_reducible repeat (first | apply Kd.S_alloc | apply Kd.S_drewN | apply Kd.S_drew)); exact (Kd.S_mono (Kd.S_far (p := ⟨gb235, 2, none⟩) (Kd.S_far (p := ⟨gb235, 1, none⟩) (Kd.S_far (p := ⟨gb235, 0, none⟩) (Kd.S_types HO231.out BK235.out (by decide)) (fun _ hk => hk.2) (.int .i64 t228)) (fun _ hk => hk.2) (.slice Ao19 t229.length co19)) (fun _ hk => hk.2) (.slice Ao20 t232.length co20)) (fun _ h_ => h_.1))))) (below_size (by repeat (first | (with_reducible first | exact HB.out | apply below_alloc | apply pw_below_drewN | apply below_drew1 | refine below_set ?_ GE235.out) | exact HB.out)))); have n3_ := Aside0.mk (Kd.S_lower (Kd.S_new' ho1 (Kd.S_lt (by (with_reducible repeat (first | apply Kd.S_alloc | apply Kd.S_drewN | apply Kd.S_drew)); exact (Kd.S_mono (Kd.S_far (p := ⟨gb235, 2, none⟩) (Kd.S_far (p := ⟨gb235, 1, none⟩) (Kd.S_far (p := ⟨gb235, 0, none⟩) (Kd.S_types HO234.out BK235.out (by decide)) (fun _ hk => hk.2) (.int .i64 t228)) (fun _ hk => hk.2) (.slice Ao19 t229.length co19)) (fun _ hk => hk.2) (.slice Ao20 t232.length co20)) (fun _ h_ => h_.1))))) (below_size (by repeat (first | (with_reducible first | exact HB.out | apply below_alloc | apply pw_below_drewN | apply below_drew1 | refine below_set ?_ GE235.out) | exact HB.out)))); have n4_ := Aside0.mk (blk_below (g := gb235) (o := .cells #[.int .i64 t228, .slice Ao19 t229.length co19, .slice Ao20 t232.length co20] 53 (0, 0)) (by (with_reducible repeat (first | refine blk_drewN ?_ _ | refine blk_drew ?_ | refine blk_alloc ?_ _)); refine blk_put (cs := #[.int .i64 t228, .slice Ao19 t229.length co19, .slice none 0 0]) ?_ 2 _ rfl; (with_reducible repeat (first | refine blk_drewN ?_ _ | refine blk_drew ?_ | refine blk_alloc ?_ _)); refine blk_put (cs := #[.int .i64 t228, .slice none 0 0, .slice none 0 0]) ?_ 1 _ rfl; (with_reducible repeat (first | refine blk_drewN ?_ _ | refine blk_drew ?_ | refine blk_alloc ?_ _)); refine blk_put (cs := #[.int .i64 0, .slice none 0 0, .slice none 0 0]) ?_ 0 _ rfl; (with_reducible repeat (first | refine blk_drewN ?_ _ | refine blk_drew ?_ | refine blk_alloc ?_ _)); exact BK235.out) hb); have n5_ := Aside0.mk (below_step (by repeat (first | (with_reducible first | exact HB.out | apply below_alloc | apply pw_below_drewN | apply below_drew1 | refine below_set ?_ GE235.out) | exact HB.out)) hb); clear HO231; clear HO234; clear BK235; clear HB; have HO231 := n0_; have HO234 := n1_; have HO239 := n2_; have HO242 := n3_; have BK235 := n4_; have HB := n5_; clear n0_ n1_ n2_ n3_ n4_ n5_; (try clear hb); (try clear hb2); (try clear hk); (try clear hi); (try clear ho0); (try clear ho1)) | ((with_reducible refine gate_dst (N := 4) rfl ?_); refine box_event ?hg (N := 4) ?hd (cs := #[.int .i64 0, .slice none 0 0, .slice none 0 0]) (t := 53) ?hr ?_; (case hd => rfl); (case hg => rfl); (case hr => first | (go_simp; done) | (go_simp; rfl)); intro gb243 hg w22 hbox hb; have n0_ := Aside0.mk (Kd.S_below (by (with_reducible repeat (first | apply Kd.S_alloc | apply Kd.S_drewN | apply Kd.S_drew)); exact HO231.out) hb); have n1_ := Aside0.mk (Kd.S_below (by (with_reducible repeat (first | apply Kd.S_alloc | apply Kd.S_drewN | apply Kd.S_drew)); exact HO234.out) hb); have n2_ := Aside0.mk (Kd.S_below (by (with_reducible repeat (first | apply Kd.S_alloc | apply Kd.S_drewN | apply Kd.S_drew)); exact HO239.out) hb); have n3_ := Aside0.mk (Kd.S_below (by (with_reducible repeat (first | apply Kd.S_alloc | apply Kd.S_drewN | apply Kd.S_drew)); exact HO242.out) hb); have n4_ := Aside0.mk (blk_below (g := gb235) (o := .cells #[.int .i64 t228, .slice Ao19 t229.length co19, .slice Ao20 t232.length co20] 53 (0, 0)) (by (with_reducible repeat (first | refine blk_drewN ?_ _ | refine blk_drew ?_ | refine blk_alloc ?_ _)); exact BK235.out) hb); have n5_ := Aside0.mk (below_step (by repeat (first | (with_reducible first | exact HB.out | apply below_alloc | apply pw_below_drewN | apply below_drew1 | refine below_set ?_ GE235.out) | exact HB.out)) hb); have n6_ := Aside0.mk (hbox); have n7_ := Aside0.mk ((by rw [hg]; exact (below_size (by repeat (first | (with_reducible first | exact HB.out | apply below_alloc | apply pw_below_drewN | apply below_drew1 | refine below_set ?_ GE235.out) | exact HB.out))) : w.heap.size ≤ gb243)); have n8_ := Aside0.mk ((by rw [hg]; exact (below_size (by repeat (first | (with_reducible first | exact HB.out | apply below_alloc | apply pw_below_drewN | apply below_drew1 | refine below_set ?_ GE235.out) | exact HB.out))) : w.heap.size ≤ gb243)); have n9_ := Aside0.mk ((by rw [hg]; exact Nat.ne_of_lt (blk_lt (g := gb235) (o := .cells #[.int .i64 t228, .slice Ao19 t229.length co19, .slice Ao20 t232.length co20] 53 (0, 0)) (by (with_reducible repeat (first | refine blk_drewN ?_ _ | refine blk_drew ?_ | refine blk_alloc ?_ _)); exact BK235.out)) : gb235 ≠ gb243)); have n10_ := Aside0.mk ((by rw [hg]; exact Nat.ne_of_gt (blk_lt (g := gb235) (o := .cells #[.int .i64 t228, .slice Ao19 t229.length co19, .slice Ao20 t232.length co20] 53 (0, 0)) (by (with_reducible repeat (first | refine blk_drewN ?_ _ | refine blk_drew ?_ | refine blk_alloc ?_ _)); exact BK235.out)) : gb243 ≠ gb235)); clear HO231; clear HO234; clear HO239; clear HO242; clear BK235; clear HB; have HO231 := n0_; have HO234 := n1_; have HO239 := n2_; have HO242 := n3_; have BK235 := n4_; have HB := n5_; have BK243 := n6_; have GW243 := n7_; have GE243 := n8_; have NB235_243 := n9_; have NB243_235 := n10_; clear n0_ n1_ n2_ n3_ n4_ n5_ n6_ n7_ n8_ n9_ n10_; clear hb hbox hg; have hnb23 := NB243_235.out; have hnc23 := NB235_243.out; have hcz24_0 : w22.cell? ⟨gb243, 0, none⟩ = some (.int .i64 0) := (blk_cell BK243.out 0).trans rfl; have hcz24_1 : w22.cell? ⟨gb243, 1, none⟩ = some (.slice none 0 0) := (blk_cell BK243.out 1).trans rfl; have hcz24_2 : w22.cell? ⟨gb243, 2, none⟩ = some (.slice none 0 0) := (blk_cell BK243.out 2).trans rfl; have hfz24_0 := blk_frozen BK243.out 0; have hfz24_1 := blk_frozen BK243.out 1; have hfz24_2 := blk_frozen BK243.out 2; obtain ⟨Ao25, co25, eo25⟩ := Kd.S_slice HO239.out; subst eo25; obtain ⟨Ao26, co26, eo26⟩ := Kd.S_slice HO242.out; subst eo26; have hcz27_0 : w22.cell? ⟨gb235, 0, none⟩ = some (.int .i64 t228) := (blk_cell BK235.out 0).trans rfl; have hcz27_1 : w22.cell? ⟨gb235, 1, none⟩ = some (.slice Ao19 t229.length co19) := (blk_cell BK235.out 1).trans rfl; have hcz27_2 : w22.cell? ⟨gb235, 2, none⟩ = some (.slice Ao20 t232.length co20) := (blk_cell BK235.out 2).trans rfl; have hfz27_0 := blk_frozen BK235.out 0; have hfz27_1 := blk_frozen BK235.out 1; have hfz27_2 := blk_frozen BK235.out 2) | ((with_reducible refine gate_callee (f := 31) rfl ?_); refine goesL_ (some 14) rfl rfl Try.func31 (by kernel_rfl) rfl #[.agg #[.int .i64 t236, .slice Ao25 t237.length co25, .slice Ao26 t240.length co26], .agg #[.int .i64 t228, .slice Ao19 t229.length co19, .slice Ao20 t232.length co20]] rfl (by (try simp only [List.map_toArray, List.map_cons, List.map_nil]); first | done | rfl | (simp only [List.length_drop, List.length_take]; rfl)) ?_; (with_reducible refine (laws_eqGroup.calls k t236 _ _ t237 _ _ t240 t228 _ _ t229 _ _ t232 true _ ?side1 ?side2 ?side3 ?side4 ?side5 ?side6 ?side7 ?side8 A4.out).mono ?_); (case side1 => refine (Kd.S_reads' (e := 37) (base := w.heap.size) (ok := fun k_ => (True ∧ some k_ ≠ (.slice Ao19 t229.length co19 : Value).ownBlock)) (n := t237.length) (c := co25) ?_).2.2; exact (by (with_reducible repeat (first | apply Kd.S_alloc | apply Kd.S_drewN | apply Kd.S_drew)); exact (Kd.S_mono (Kd.S_far (p := ⟨gb243, 2, none⟩) (Kd.S_far (p := ⟨gb243, 1, none⟩) (Kd.S_far (p := ⟨gb243, 0, none⟩) (Kd.S_types HO239.out BK243.out (by decide)) (fun _ hk => hk.2) (.int .i64 t236)) (fun _ hk => hk.2) (.slice Ao25 t237.length co25)) (fun _ hk => hk.2) (.slice Ao26 t240.length co26)) (fun _ h_ => h_.1)))); (case side2 => exact (Kd.S_reads' HO239.out).2.1); (case side3 => refine (Kd.S_reads' (e := 29) (base := w.heap.size) (ok := fun k_ => (True ∧ some k_ ≠ (.slice Ao20 t232.length co20 : Value).ownBlock)) (n := t240.length) (c := co26) ?_).2.2; exact (by (with_reducible repeat (first | apply Kd.S_alloc | apply Kd.S_drewN | apply Kd.S_drew)); exact (Kd.S_mono (Kd.S_far (p := ⟨gb243, 2, none⟩) (Kd.S_far (p := ⟨gb243, 1, none⟩) (Kd.S_far (p := ⟨gb243, 0, none⟩) (Kd.S_types HO242.out BK243.out (by decide)) (fun _ hk => hk.2) (.int .i64 t236)) (fun _ hk => hk.2) (.slice Ao25 t237.length co25)) (fun _ hk => hk.2) (.slice Ao26 t240.length co26)) (fun _ h_ => h_.1)))); (case side4 => exact (Kd.S_reads' HO242.out).2.1); (case side5 => refine (Kd.S_reads' (e := 37) (base := w.heap.size) (ok := fun k_ => (True ∧ some k_ ≠ (.slice Ao25 t237.length co25 : Value).ownBlock)) (n := t229.length) (c := co19) ?_).2.2; exact (by (with_reducible repeat (first | apply Kd.S_alloc | apply Kd.S_drewN | apply Kd.S_drew)); exact (Kd.S_mono (Kd.S_far (p := ⟨gb243, 2, none⟩) (Kd.S_far (p := ⟨gb243, 1, none⟩) (Kd.S_far (p := ⟨gb243, 0, none⟩) (Kd.S_types HO231.out BK243.out (by decide)) (fun _ hk => hk.2) (.int .i64 t236)) (fun _ hk => hk.2) (.slice Ao25 t237.length co25)) (fun _ hk => hk.2) (.slice Ao26 t240.length co26)) (fun _ h_ => h_.1)))); (case side6 => exact (Kd.S_reads' HO231.out).2.1); (case side7 => refine (Kd.S_reads' (e := 29) (base := w.heap.size) (ok := fun k_ => (True ∧ some k_ ≠ (.slice Ao26 t240.length co26 : Value).ownBlock)) (n := t232.length) (c := co20) ?_).2.2; exact (by (with_reducible repeat (first | apply Kd.S_alloc | apply Kd.S_drewN | apply Kd.S_drew)); exact (Kd.S_mono (Kd.S_far (p := ⟨gb243, 2, none⟩) (Kd.S_far (p := ⟨gb243, 1, none⟩) (Kd.S_far (p := ⟨gb243, 0, none⟩) (Kd.S_types HO234.out BK243.out (by decide)) (fun _ hk => hk.2) (.int .i64 t236)) (fun _ hk => hk.2) (.slice Ao25 t237.length co25)) (fun _ hk => hk.2) (.slice Ao26 t240.length co26)) (fun _ h_ => h_.1)))); (case side8 => exact (Kd.S_reads' HO234.out).2.1); rintro e w28 ⟨rfl, hb⟩; refine ⟨_, rfl, ?_⟩; have n0_ := Aside0.mk (Kd.S_below (by (with_reducible repeat (first | apply Kd.S_alloc | apply Kd.S_drewN | apply Kd.S_drew)); exact (Kd.S_mono (Kd.S_far (p := ⟨gb243, 2, none⟩) (Kd.S_far (p := ⟨gb243, 1, none⟩) (Kd.S_far (p := ⟨gb243, 0, none⟩) (Kd.S_types HO231.out BK243.out (by decide)) (fun _ hk => hk.2) (.int .i64 t236)) (fun _ hk => hk.2) (.slice Ao25 t237.length co25)) (fun _ hk => hk.2) (.slice Ao26 t240.length co26)) (fun _ h_ => h_.1))) hb); have n1_ := Aside0.mk (Kd.S_below (by (with_reducible repeat (first | apply Kd.S_alloc | apply Kd.S_drewN | apply Kd.S_drew)); exact (Kd.S_mono (Kd.S_far (p := ⟨gb243, 2, none⟩) (Kd.S_far (p := ⟨gb243, 1, none⟩) (Kd.S_far (p := ⟨gb243, 0, none⟩) (Kd.S_types HO234.out BK243.out (by decide)) (fun _ hk => hk.2) (.int .i64 t236)) (fun _ hk => hk.2) (.slice Ao25 t237.length co25)) (fun _ hk => hk.2) (.slice Ao26 t240.length co26)) (fun _ h_ => h_.1))) hb); have n2_ := Aside0.mk (Kd.S_below (by (with_reducible repeat (first | apply Kd.S_alloc | apply Kd.S_drewN | apply Kd.S_drew)); exact (Kd.S_mono (Kd.S_far (p := ⟨gb243, 2, none⟩) (Kd.S_far (p := ⟨gb243, 1, none⟩) (Kd.S_far (p := ⟨gb243, 0, none⟩) (Kd.S_types HO239.out BK243.out (by decide)) (fun _ hk => hk.2) (.int .i64 t236)) (fun _ hk => hk.2) (.slice Ao25 t237.length co25)) (fun _ hk => hk.2) (.slice Ao26 t240.length co26)) (fun _ h_ => h_.1))) hb); have n3_ := Aside0.mk (Kd.S_below (by (with_reducible repeat (first | apply Kd.S_alloc | apply Kd.S_drewN | apply Kd.S_drew)); exact (Kd.S_mono (Kd.S_far (p := ⟨gb243, 2, none⟩) (Kd.S_far (p := ⟨gb243, 1, none⟩) (Kd.S_far (p := ⟨gb243, 0, none⟩) (Kd.S_types HO242.out BK243.out (by decide)) (fun _ hk => hk.2) (.int .i64 t236)) (fun _ hk => hk.2) (.slice Ao25 t237.length co25)) (fun _ hk => hk.2) (.slice Ao26 t240.length co26)) (fun _ h_ => h_.1))) hb); have n4_ := Aside0.mk (blk_below (g := gb235) (o := .cells #[.int .i64 t228, .slice Ao19 t229.length co19, .slice Ao20 t232.length co20] 53 (0, 0)) (by (with_reducible repeat (first | refine blk_drewN ?_ _ | refine blk_drew ?_ | refine blk_alloc ?_ _)); refine blk_far ?_ NB235_243.out _; (with_reducible repeat (first | refine blk_drewN ?_ _ | refine blk_drew ?_ | refine blk_alloc ?_ _)); refine blk_far ?_ NB235_243.out _; (with_reducible repeat (first | refine blk_drewN ?_ _ | refine blk_drew ?_ | refine blk_alloc ?_ _)); refine blk_far ?_ NB235_243.out _; (with_reducible repeat (first | refine blk_drewN ?_ _ | refine blk_drew ?_ | refine blk_alloc ?_ _)); exact BK235.out) hb); have n5_ := Aside0.mk (blk_below (g := gb243) (o := .cells #[.int .i64 t236, .slice Ao25 t237.length co25, .slice Ao26 t240.length co26] 53 (0, 0)) (by (with_reducible repeat (first | refine blk_drewN ?_ _ | refine blk_drew ?_ | refine blk_alloc ?_ _)); refine blk_put (cs := #[.int .i64 t236, .slice Ao25 t237.length co25, .slice none 0 0]) ?_ 2 _ rfl; (with_reducible repeat (first | refine blk_drewN ?_ _ | refine blk_drew ?_ | refine blk_alloc ?_ _)); refine blk_put (cs := #[.int .i64 t236, .slice none 0 0, .slice none 0 0]) ?_ 1 _ rfl; (with_reducible repeat (first | refine blk_drewN ?_ _ | refine blk_drew ?_ | refine blk_alloc ?_ _)); refine blk_put (cs := #[.int .i64 0, .slice none 0 0, .slice none 0 0]) ?_ 0 _ rfl; (with_reducible repeat (first | refine blk_drewN ?_ _ | refine blk_drew ?_ | refine blk_alloc ?_ _)); exact BK243.out) hb); have n6_ := Aside0.mk (below_step (by repeat (first | (with_reducible first | exact HB.out | apply below_alloc | apply pw_below_drewN | apply below_drew1 | refine below_set ?_ GE235.out | refine below_set ?_ GE243.out) | exact HB.out)) hb); clear HO231; clear HO234; clear HO239; clear HO242; clear BK235; clear BK243; clear HB; have HO231 := n0_; have HO234 := n1_; have HO239 := n2_; have HO242 := n3_; have BK235 := n4_; have BK243 := n5_; have HB := n6_; clear n0_ n1_ n2_ n3_ n4_ n5_ n6_; (try clear hb); (try clear hb2); (try clear hk); (try clear hi); have hcz29_0 : w28.cell? ⟨gb243, 0, none⟩ = some (.int .i64 t236) := (blk_cell BK243.out 0).trans rfl; have hcz29_1 : w28.cell? ⟨gb243, 1, none⟩ = some (.slice Ao25 t237.length co25) := (blk_cell BK243.out 1).trans rfl; have hcz29_2 : w28.cell? ⟨gb243, 2, none⟩ = some (.slice Ao26 t240.length co26) := (blk_cell BK243.out 2).trans rfl; have hfz29_0 := blk_frozen BK243.out 0; have hfz29_1 := blk_frozen BK243.out 1; have hfz29_2 := blk_frozen BK243.out 2) | ((with_reducible refine gate_callee (f := 32) rfl ?_); refine goesL_ (some 18) rfl rfl Try.func32 (by kernel_rfl) rfl #[.agg #[.int .i64 t236, .slice Ao25 t237.length co25, .slice Ao26 t240.length co26], .int .i64 1] rfl (by (try simp only [List.map_toArray, List.map_cons, List.map_nil]); first | done | rfl | (simp only [List.length_drop, List.length_take]; rfl)) ?_; (with_reducible refine (laws_markGroup.calls k t236 (fun k_ => (True ∧ some k_ ≠ (.slice Ao19 t229.length co19 : Value).ownBlock)) (.slice Ao25 t237.length co25) t237 (fun k_ => (True ∧ some k_ ≠ (.slice Ao20 t232.length co20 : Value).ownBlock)) (.slice Ao26 t240.length co26) t240 1 t245 t246 t247 w _ ?side1 ?side2 ?side3 A6.out).mono ?_); (case side1 => repeat (first | (with_reducible first | exact HB.out | apply below_alloc | apply pw_below_drewN | apply below_drew1 | refine below_set ?_ GE235.out | refine below_set ?_ GE243.out) | exact HB.out)); (case side2 => exact HO239.out); (case side3 => exact HO242.out); rintro e w30 ⟨rfl, hy0, hy1, hb, hkp⟩; refine ⟨_, rfl, ?_⟩; have n0_ := Aside0.mk (Kd.S_mono (ok' := fun k_ => some k_ ≠ (.slice Ao25 t237.length co25 : Value).ownBlock) (Kd.S_keptB ((Kd.S_apart' HO231.out (Kd.S_typed HO242.out) (by decide))) hkp (fun k_ hk_ hs_ => Or.elim hs_ (fun e_ => (hk_.1.2) e_) (fun e_ => (hk_.2) e_))) (fun k_ hk_ => hk_.1.1.2)); have n1_ := Aside0.mk (Kd.S_mono (ok' := fun k_ => some k_ ≠ (.slice Ao26 t240.length co26 : Value).ownBlock) (Kd.S_keptB ((Kd.S_apart' HO234.out (Kd.S_typed HO239.out) (by decide))) hkp (fun k_ hk_ hs_ => Or.elim hs_ (fun e_ => (hk_.2) e_) (fun e_ => (hk_.1.2) e_))) (fun k_ hk_ => hk_.1.1.2)); have n2_ := Aside0.mk (blk_kept (by (with_reducible repeat (first | refine blk_drewN ?_ _ | refine blk_drew ?_ | refine blk_alloc ?_ _)); exact BK235.out) hkp (fun hs_ => Or.elim hs_ (fun e_ => (fun e_ => (Kd.S_ne HO239.out BK235.out (by decide)) e_) e_) (fun e_ => (fun e_ => (Kd.S_ne HO242.out BK235.out (by decide)) e_) e_))); have n3_ := Aside0.mk (hy0); have n4_ := Aside0.mk (hy1); have n5_ := Aside0.mk (blk_kept (by (with_reducible repeat (first | refine blk_drewN ?_ _ | refine blk_drew ?_ | refine blk_alloc ?_ _)); exact BK243.out) hkp (fun hs_ => Or.elim hs_ (fun e_ => (fun e_ => (Kd.S_ne HO239.out BK243.out (by decide)) e_) e_) (fun e_ => (fun e_ => (Kd.S_ne HO242.out BK243.out (by decide)) e_) e_))); have n6_ := Aside0.mk (hb); clear HO231; clear HO234; clear BK235; clear HO239; clear HO242; clear BK243; clear HB; have HO231 := n0_; have HO234 := n1_; have BK235 := n2_; have HO239 := n3_; have HO242 := n4_; have BK243 := n5_; have HB := n6_; clear n0_ n1_ n2_ n3_ n4_ n5_ n6_; (try clear hb); (try clear hkp); (try clear hy0); (try clear hy1); have hcz31_0 : w30.cell? ⟨gb243, 0, none⟩ = some (.int .i64 t236) := (blk_cell BK243.out 0).trans rfl; have hcz31_1 : w30.cell? ⟨gb243, 1, none⟩ = some (.slice Ao25 t237.length co25) := (blk_cell BK243.out 1).trans rfl; have hcz31_2 : w30.cell? ⟨gb243, 2, none⟩ = some (.slice Ao26 t240.length co26) := (blk_cell BK243.out 2).trans rfl; have hfz31_0 := blk_frozen BK243.out 0; have hfz31_1 := blk_frozen BK243.out 1; have hfz31_2 := blk_frozen BK243.out 2) | ((with_reducible refine gate_callee (f := 33) rfl ?_); refine goesL_ (some 21) rfl rfl Try.func33 (by kernel_rfl) rfl #[.agg #[.int .i64 t236, .slice Ao25 t246.length co25, .slice Ao26 t247.length co26], .int .i64 1] rfl (by (try simp only [List.map_toArray, List.map_cons, List.map_nil]); first | done | (rw [show t246.length = t237.length from (Kd.S_reads' HO239.out).1.symm, show t247.length = t240.length from (Kd.S_reads' HO242.out).1.symm] <;> rfl) | rfl | (simp only [List.length_drop, List.length_take]; rfl)) ?_; (with_reducible refine (laws_heldGroup.calls k t236 _ _ t246 _ _ t247 1 t248 _ ?side1 ?side2 ?side3 ?side4 A7.out).mono ?_); (case side1 => repeat (first | exact (Kd.S_reads' HO239.out).2.2 | (with_reducible refine Kd.C_alloc ?_ _) | (with_reducible refine Kd.C_drewN ?_ _) | (with_reducible refine Kd.C_drew ?_))); (case side2 => rw [show t246.length = t237.length from (Kd.S_reads' HO239.out).1.symm]; exact (Kd.S_reads' HO239.out).2.1); (case side3 => repeat (first | exact (Kd.S_reads' HO242.out).2.2 | (with_reducible refine Kd.C_alloc ?_ _) | (with_reducible refine Kd.C_drewN ?_ _) | (with_reducible refine Kd.C_drew ?_))); (case side4 => rw [show t247.length = t240.length from (Kd.S_reads' HO242.out).1.symm]; exact (Kd.S_reads' HO242.out).2.1); rintro e w32 ⟨rfl, hb⟩; refine ⟨_, rfl, ?_⟩; have n0_ := Aside0.mk (Kd.S_below (by (with_reducible repeat (first | apply Kd.S_alloc | apply Kd.S_drewN | apply Kd.S_drew)); exact HO231.out) hb); have n1_ := Aside0.mk (Kd.S_below (by (with_reducible repeat (first | apply Kd.S_alloc | apply Kd.S_drewN | apply Kd.S_drew)); exact HO234.out) hb); have n2_ := Aside0.mk (Kd.S_below (by (with_reducible repeat (first | apply Kd.S_alloc | apply Kd.S_drewN | apply Kd.S_drew)); exact HO239.out) hb); have n3_ := Aside0.mk (Kd.S_below (by (with_reducible repeat (first | apply Kd.S_alloc | apply Kd.S_drewN | apply Kd.S_drew)); exact HO242.out) hb); have n4_ := Aside0.mk (blk_below (g := gb235) (o := .cells #[.int .i64 t228, .slice Ao19 t229.length co19, .slice Ao20 t232.length co20] 53 (0, 0)) (by (with_reducible repeat (first | refine blk_drewN ?_ _ | refine blk_drew ?_ | refine blk_alloc ?_ _)); exact BK235.out) hb); have n5_ := Aside0.mk (blk_below (g := gb243) (o := .cells #[.int .i64 t236, .slice Ao25 t237.length co25, .slice Ao26 t240.length co26] 53 (0, 0)) (by (with_reducible repeat (first | refine blk_drewN ?_ _ | refine blk_drew ?_ | refine blk_alloc ?_ _)); exact BK243.out) hb); have n6_ := Aside0.mk (below_step (by repeat (first | (with_reducible first | exact HB.out | apply below_alloc | apply pw_below_drewN | apply below_drew1 | refine below_set ?_ GE235.out | refine below_set ?_ GE243.out) | exact HB.out)) hb); clear HO231; clear HO234; clear HO239; clear HO242; clear BK235; clear BK243; clear HB; have HO231 := n0_; have HO234 := n1_; have HO239 := n2_; have HO242 := n3_; have BK235 := n4_; have BK243 := n5_; have HB := n6_; clear n0_ n1_ n2_ n3_ n4_ n5_ n6_; (try clear hb); (try clear hb2); (try clear hk); (try clear hi)) | ((with_reducible refine gate_callee (f := 30) rfl ?_); refine goesL_ (some 28) rfl rfl Try.func30 (by kernel_rfl) rfl #[.int .i64 a0] rfl (by (try simp only [List.map_toArray, List.map_cons, List.map_nil]); first | done | rfl | (simp only [List.length_drop, List.length_take]; rfl)) ?_; (with_reducible refine (impl_NewGroup.calls k a0 t249 t250 t253 _ A10.out).mono ?_); rintro e w33 ⟨v251, v254, rfl, ho0, ho1, hb⟩; refine ⟨_, rfl, ?_⟩; have n0_ := Aside0.mk (Kd.S_elder' (by (with_reducible repeat (first | apply Kd.S_alloc | apply Kd.S_drewN | apply Kd.S_drew)); exact HO231.out) (Kd.S_base ho0) hb); have n1_ := Aside0.mk (Kd.S_elder' (by (with_reducible repeat (first | apply Kd.S_alloc | apply Kd.S_drewN | apply Kd.S_drew)); exact HO234.out) (Kd.S_base ho1) hb); have n2_ := Aside0.mk (Kd.S_elder' (by (with_reducible repeat (first | apply Kd.S_alloc | apply Kd.S_drewN | apply Kd.S_drew)); exact HO239.out) (Kd.S_base ho0) hb); have n3_ := Aside0.mk (Kd.S_elder' (by (with_reducible repeat (first | apply Kd.S_alloc | apply Kd.S_drewN | apply Kd.S_drew)); exact HO242.out) (Kd.S_base ho1) hb); have n4_ := Aside0.mk (Kd.S_lower (Kd.S_new' (Kd.S_new' ho0 (Kd.S_lt (by (with_reducible repeat (first | apply Kd.S_alloc | apply Kd.S_drewN | apply Kd.S_drew)); exact HO231.out))) (Kd.S_lt (by (with_reducible repeat (first | apply Kd.S_alloc | apply Kd.S_drewN | apply Kd.S_drew)); exact HO239.out))) (below_size (by repeat (first | (with_reducible first | exact HB.out | apply below_alloc | apply pw_below_drewN | apply below_drew1 | refine below_set ?_ GE235.out | refine below_set ?_ GE243.out) | exact HB.out)))); have n5_ := Aside0.mk (Kd.S_lower (Kd.S_new' (Kd.S_new' ho1 (Kd.S_lt (by (with_reducible repeat (first | apply Kd.S_alloc | apply Kd.S_drewN | apply Kd.S_drew)); exact HO234.out))) (Kd.S_lt (by (with_reducible repeat (first | apply Kd.S_alloc | apply Kd.S_drewN | apply Kd.S_drew)); exact HO242.out))) (below_size (by repeat (first | (with_reducible first | exact HB.out | apply below_alloc | apply pw_below_drewN | apply below_drew1 | refine below_set ?_ GE235.out | refine below_set ?_ GE243.out) | exact HB.out)))); have n6_ := Aside0.mk (blk_below (g := gb235) (o := .cells #[.int .i64 t228, .slice Ao19 t229.length co19, .slice Ao20 t232.length co20] 53 (0, 0)) (by (with_reducible repeat (first | refine blk_drewN ?_ _ | refine blk_drew ?_ | refine blk_alloc ?_ _)); exact BK235.out) hb); have n7_ := Aside0.mk (blk_below (g := gb243) (o := .cells #[.int .i64 t236, .slice Ao25 t237.length co25, .slice Ao26 t240.length co26] 53 (0, 0)) (by (with_reducible repeat (first | refine blk_drewN ?_ _ | refine blk_drew ?_ | refine blk_alloc ?_ _)); exact BK243.out) hb); have n8_ := Aside0.mk (below_step (by repeat (first | (with_reducible first | exact HB.out | apply below_alloc | apply pw_below_drewN | apply below_drew1 | refine below_set ?_ GE235.out | refine below_set ?_ GE243.out) | exact HB.out)) hb); clear HO231; clear HO234; clear HO239; clear HO242; clear BK235; clear BK243; clear HB; have HO231 := n0_; have HO234 := n1_; have HO239 := n2_; have HO242 := n3_; have HO252 := n4_; have HO255 := n5_; have BK235 := n6_; have BK243 := n7_; have HB := n8_; clear n0_ n1_ n2_ n3_ n4_ n5_ n6_ n7_ n8_; (try clear hb); (try clear hb2); (try clear hk); (try clear hi); (try clear ho0); (try clear ho1)) | ((with_reducible refine gate_dst (N := 7) rfl ?_); refine box_event ?hg (N := 7) ?hd (cs := #[.int .i64 0, .slice none 0 0, .slice none 0 0]) (t := 53) ?hr ?_; (case hd => rfl); (case hg => rfl); (case hr => first | (go_simp; done) | (go_simp; rfl)); intro gb256 hg w34 hbox hb; have n0_ := Aside0.mk (Kd.S_below (by (with_reducible repeat (first | apply Kd.S_alloc | apply Kd.S_drewN | apply Kd.S_drew)); exact HO231.out) hb); have n1_ := Aside0.mk (Kd.S_below (by (with_reducible repeat (first | apply Kd.S_alloc | apply Kd.S_drewN | apply Kd.S_drew)); exact HO234.out) hb); have n2_ := Aside0.mk (Kd.S_below (by (with_reducible repeat (first | apply Kd.S_alloc | apply Kd.S_drewN | apply Kd.S_drew)); exact HO239.out) hb); have n3_ := Aside0.mk (Kd.S_below (by (with_reducible repeat (first | apply Kd.S_alloc | apply Kd.S_drewN | apply Kd.S_drew)); exact HO242.out) hb); have n4_ := Aside0.mk (Kd.S_below (by (with_reducible repeat (first | apply Kd.S_alloc | apply Kd.S_drewN | apply Kd.S_drew)); exact HO252.out) hb); have n5_ := Aside0.mk (Kd.S_below (by (with_reducible repeat (first | apply Kd.S_alloc | apply Kd.S_drewN | apply Kd.S_drew)); exact HO255.out) hb); have n6_ := Aside0.mk (blk_below (g := gb235) (o := .cells #[.int .i64 t228, .slice Ao19 t229.length co19, .slice Ao20 t232.length co20] 53 (0, 0)) (by (with_reducible repeat (first | refine blk_drewN ?_ _ | refine blk_drew ?_ | refine blk_alloc ?_ _)); exact BK235.out) hb); have n7_ := Aside0.mk (blk_below (g := gb243) (o := .cells #[.int .i64 t236, .slice Ao25 t237.length co25, .slice Ao26 t240.length co26] 53 (0, 0)) (by (with_reducible repeat (first | refine blk_drewN ?_ _ | refine blk_drew ?_ | refine blk_alloc ?_ _)); exact BK243.out) hb); have n8_ := Aside0.mk (below_step (by repeat (first | (with_reducible first | exact HB.out | apply below_alloc | apply pw_below_drewN | apply below_drew1 | refine below_set ?_ GE235.out | refine below_set ?_ GE243.out) | exact HB.out)) hb); have n9_ := Aside0.mk (hbox); have n10_ := Aside0.mk ((by rw [hg]; exact (below_size (by repeat (first | (with_reducible first | exact HB.out | apply below_alloc | apply pw_below_drewN | apply below_drew1 | refine below_set ?_ GE235.out | refine below_set ?_ GE243.out) | exact HB.out))) : w.heap.size ≤ gb256)); have n11_ := Aside0.mk ((by rw [hg]; exact (below_size (by repeat (first | (with_reducible first | exact HB.out | apply below_alloc | apply pw_below_drewN | apply below_drew1 | refine below_set ?_ GE235.out | refine below_set ?_ GE243.out) | exact HB.out))) : w.heap.size ≤ gb256)); have n12_ := Aside0.mk ((by rw [hg]; exact Nat.ne_of_lt (blk_lt (g := gb235) (o := .cells #[.int .i64 t228, .slice Ao19 t229.length co19, .slice Ao20 t232.length co20] 53 (0, 0)) (by (with_reducible repeat (first | refine blk_drewN ?_ _ | refine blk_drew ?_ | refine blk_alloc ?_ _)); exact BK235.out)) : gb235 ≠ gb256)); have n13_ := Aside0.mk ((by rw [hg]; exact Nat.ne_of_gt (blk_lt (g := gb235) (o := .cells #[.int .i64 t228, .slice Ao19 t229.length co19, .slice Ao20 t232.length co20] 53 (0, 0)) (by (with_reducible repeat (first | refine blk_drewN ?_ _ | refine blk_drew ?_ | refine blk_alloc ?_ _)); exact BK235.out)) : gb256 ≠ gb235)); have n14_ := Aside0.mk ((by rw [hg]; exact Nat.ne_of_lt (blk_lt (g := gb243) (o := .cells #[.int .i64 t236, .slice Ao25 t237.length co25, .slice Ao26 t240.length co26] 53 (0, 0)) (by (with_reducible repeat (first | refine blk_drewN ?_ _ | refine blk_drew ?_ | refine blk_alloc ?_ _)); exact BK243.out)) : gb243 ≠ gb256)); have n15_ := Aside0.mk ((by rw [hg]; exact Nat.ne_of_gt (blk_lt (g := gb243) (o := .cells #[.int .i64 t236, .slice Ao25 t237.length co25, .slice Ao26 t240.length co26] 53 (0, 0)) (by (with_reducible repeat (first | refine blk_drewN ?_ _ | refine blk_drew ?_ | refine blk_alloc ?_ _)); exact BK243.out)) : gb256 ≠ gb243)); clear HO231; clear HO234; clear HO239; clear HO242; clear HO252; clear HO255; clear BK235; clear BK243; clear HB; have HO231 := n0_; have HO234 := n1_; have HO239 := n2_; have HO242 := n3_; have HO252 := n4_; have HO255 := n5_; have BK235 := n6_; have BK243 := n7_; have HB := n8_; have BK256 := n9_; have GW256 := n10_; have GE256 := n11_; have NB235_256 := n12_; have NB256_235 := n13_; have NB243_256 := n14_; have NB256_243 := n15_; clear n0_ n1_ n2_ n3_ n4_ n5_ n6_ n7_ n8_ n9_ n10_ n11_ n12_ n13_ n14_ n15_; clear hb hbox hg; have hnb35 := NB256_235.out; have hnc35 := NB235_256.out; have hnb36 := NB256_243.out; have hnc36 := NB243_256.out; have hcz37_0 : w34.cell? ⟨gb256, 0, none⟩ = some (.int .i64 0) := (blk_cell BK256.out 0).trans rfl; have hcz37_1 : w34.cell? ⟨gb256, 1, none⟩ = some (.slice none 0 0) := (blk_cell BK256.out 1).trans rfl; have hcz37_2 : w34.cell? ⟨gb256, 2, none⟩ = some (.slice none 0 0) := (blk_cell BK256.out 2).trans rfl; have hfz37_0 := blk_frozen BK256.out 0; have hfz37_1 := blk_frozen BK256.out 1; have hfz37_2 := blk_frozen BK256.out 2; obtain ⟨Ao38, co38, eo38⟩ := Kd.S_slice HO252.out; subst eo38; obtain ⟨Ao39, co39, eo39⟩ := Kd.S_slice HO255.out; subst eo39; have hcz40_0 : w34.cell? ⟨gb235, 0, none⟩ = some (.int .i64 t228) := (blk_cell BK235.out 0).trans rfl; have hcz40_1 : w34.cell? ⟨gb235, 1, none⟩ = some (.slice Ao19 t229.length co19) := (blk_cell BK235.out 1).trans rfl; have hcz40_2 : w34.cell? ⟨gb235, 2, none⟩ = some (.slice Ao20 t232.length co20) := (blk_cell BK235.out 2).trans rfl; have hfz40_0 := blk_frozen BK235.out 0; have hfz40_1 := blk_frozen BK235.out 1; have hfz40_2 := blk_frozen BK235.out 2) | ((with_reducible refine gate_callee (f := 31) rfl ?_); refine goesL_ (some 31) rfl rfl Try.func31 (by kernel_rfl) rfl #[.agg #[.int .i64 t249, .slice Ao38 t250.length co38, .slice Ao39 t253.length co39], .agg #[.int .i64 t228, .slice Ao19 t229.length co19, .slice Ao20 t232.length co20]] rfl (by (try simp only [List.map_toArray, List.map_cons, List.map_nil]); first | done | rfl | (simp only [List.length_drop, List.length_take]; rfl)) ?_; (with_reducible refine (laws_eqGroup.calls k t249 _ _ t250 _ _ t253 t228 _ _ t229 _ _ t232 true _ ?side1 ?side2 ?side3 ?side4 ?side5 ?side6 ?side7 ?side8 A11.out).mono ?_); (case side1 => refine (Kd.S_reads' (e := 37) (base := w.heap.size) (ok := fun k_ => ((True ∧ some k_ ≠ (.slice Ao19 t229.length co19 : Value).ownBlock) ∧ some k_ ≠ (.slice Ao25 t237.length co25 : Value).ownBlock)) (n := t250.length) (c := co38) ?_).2.2; exact (by (with_reducible repeat (first | apply Kd.S_alloc | apply Kd.S_drewN | apply Kd.S_drew)); exact (Kd.S_mono (Kd.S_far (p := ⟨gb256, 2, none⟩) (Kd.S_far (p := ⟨gb256, 1, none⟩) (Kd.S_far (p := ⟨gb256, 0, none⟩) (Kd.S_types HO252.out BK256.out (by decide)) (fun _ hk => hk.2) (.int .i64 t249)) (fun _ hk => hk.2) (.slice Ao38 t250.length co38)) (fun _ hk => hk.2) (.slice Ao39 t253.length co39)) (fun _ h_ => h_.1)))); (case side2 => exact (Kd.S_reads' HO252.out).2.1); (case side3 => refine (Kd.S_reads' (e := 29) (base := w.heap.size) (ok := fun k_ => ((True ∧ some k_ ≠ (.slice Ao20 t232.length co20 : Value).ownBlock) ∧ some k_ ≠ (.slice Ao26 t240.length co26 : Value).ownBlock)) (n := t253.length) (c := co39) ?_).2.2; exact (by (with_reducible repeat (first | apply Kd.S_alloc | apply Kd.S_drewN | apply Kd.S_drew)); exact (Kd.S_mono (Kd.S_far (p := ⟨gb256, 2, none⟩) (Kd.S_far (p := ⟨gb256, 1, none⟩) (Kd.S_far (p := ⟨gb256, 0, none⟩) (Kd.S_types HO255.out BK256.out (by decide)) (fun _ hk => hk.2) (.int .i64 t249)) (fun _ hk => hk.2) (.slice Ao38 t250.length co38)) (fun _ hk => hk.2) (.slice Ao39 t253.length co39)) (fun _ h_ => h_.1)))); (case side4 => exact (Kd.S_reads' HO255.out).2.1); (case side5 => refine (Kd.S_reads' (e := 37) (base := w.heap.size) (ok := fun k_ => (some k_ ≠ (.slice Ao25 t237.length co25 : Value).ownBlock ∧ some k_ ≠ (.slice Ao38 t250.length co38 : Value).ownBlock)) (n := t229.length) (c := co19) ?_).2.2; exact (by (with_reducible repeat (first | apply Kd.S_alloc | apply Kd.S_drewN | apply Kd.S_drew)); exact (Kd.S_mono (Kd.S_far (p := ⟨gb256, 2, none⟩) (Kd.S_far (p := ⟨gb256, 1, none⟩) (Kd.S_far (p := ⟨gb256, 0, none⟩) (Kd.S_types HO231.out BK256.out (by decide)) (fun _ hk => hk.2) (.int .i64 t249)) (fun _ hk => hk.2) (.slice Ao38 t250.length co38)) (fun _ hk => hk.2) (.slice Ao39 t253.length co39)) (fun _ h_ => h_.1)))); (case side6 => exact (Kd.S_reads' HO231.out).2.1); (case side7 => refine (Kd.S_reads' (e := 29) (base := w.heap.size) (ok := fun k_ => (some k_ ≠ (.slice Ao26 t240.length co26 : Value).ownBlock ∧ some k_ ≠ (.slice Ao39 t253.length co39 : Value).ownBlock)) (n := t232.length) (c := co20) ?_).2.2; exact (by (with_reducible repeat (first | apply Kd.S_alloc | apply Kd.S_drewN | apply Kd.S_drew)); exact (Kd.S_mono (Kd.S_far (p := ⟨gb256, 2, none⟩) (Kd.S_far (p := ⟨gb256, 1, none⟩) (Kd.S_far (p := ⟨gb256, 0, none⟩) (Kd.S_types HO234.out BK256.out (by decide)) (fun _ hk => hk.2) (.int .i64 t249)) (fun _ hk => hk.2) (.slice Ao38 t250.length co38)) (fun _ hk => hk.2) (.slice Ao39 t253.length co39)) (fun _ h_ => h_.1)))); (case side8 => exact (Kd.S_reads' HO234.out).2.1); rintro e w41 ⟨rfl, hb⟩; refine ⟨_, rfl, ?_⟩; have n0_ := Aside0.mk (Kd.S_below (by (with_reducible repeat (first | apply Kd.S_alloc | apply Kd.S_drewN | apply Kd.S_drew)); exact (Kd.S_mono (Kd.S_far (p := ⟨gb256, 2, none⟩) (Kd.S_far (p := ⟨gb256, 1, none⟩) (Kd.S_far (p := ⟨gb256, 0, none⟩) (Kd.S_types HO231.out BK256.out (by decide)) (fun _ hk => hk.2) (.int .i64 t249)) (fun _ hk => hk.2) (.slice Ao38 t250.length co38)) (fun _ hk => hk.2) (.slice Ao39 t253.length co39)) (fun _ h_ => h_.1))) hb); have n1_ := Aside0.mk (Kd.S_below (by (with_reducible repeat (first | apply Kd.S_alloc | apply Kd.S_drewN | apply Kd.S_drew)); exact (Kd.S_mono (Kd.S_far (p := ⟨gb256, 2, none⟩) (Kd.S_far (p := ⟨gb256, 1, none⟩) (Kd.S_far (p := ⟨gb256, 0, none⟩) (Kd.S_types HO234.out BK256.out (by decide)) (fun _ hk => hk.2) (.int .i64 t249)) (fun _ hk => hk.2) (.slice Ao38 t250.length co38)) (fun _ hk => hk.2) (.slice Ao39 t253.length co39)) (fun _ h_ => h_.1))) hb); have n2_ := Aside0.mk (Kd.S_below (by (with_reducible repeat (first | apply Kd.S_alloc | apply Kd.S_drewN | apply Kd.S_drew)); exact (Kd.S_mono (Kd.S_far (p := ⟨gb256, 2, none⟩) (Kd.S_far (p := ⟨gb256, 1, none⟩) (Kd.S_far (p := ⟨gb256, 0, none⟩) (Kd.S_types HO239.out BK256.out (by decide)) (fun _ hk => hk.2) (.int .i64 t249)) (fun _ hk => hk.2) (.slice Ao38 t250.length co38)) (fun _ hk => hk.2) (.slice Ao39 t253.length co39)) (fun _ h_ => h_.1))) hb); have n3_ := Aside0.mk (Kd.S_below (by (with_reducible repeat (first | apply Kd.S_alloc | apply Kd.S_drewN | apply Kd.S_drew)); exact (Kd.S_mono (Kd.S_far (p := ⟨gb256, 2, none⟩) (Kd.S_far (p := ⟨gb256, 1, none⟩) (Kd.S_far (p := ⟨gb256, 0, none⟩) (Kd.S_types HO242.out BK256.out (by decide)) (fun _ hk => hk.2) (.int .i64 t249)) (fun _ hk => hk.2) (.slice Ao38 t250.length co38)) (fun _ hk => hk.2) (.slice Ao39 t253.length co39)) (fun _ h_ => h_.1))) hb); have n4_ := Aside0.mk (Kd.S_below (by (with_reducible repeat (first | apply Kd.S_alloc | apply Kd.S_drewN | apply Kd.S_drew)); exact (Kd.S_mono (Kd.S_far (p := ⟨gb256, 2, none⟩) (Kd.S_far (p := ⟨gb256, 1, none⟩) (Kd.S_far (p := ⟨gb256, 0, none⟩) (Kd.S_types HO252.out BK256.out (by decide)) (fun _ hk => hk.2) (.int .i64 t249)) (fun _ hk => hk.2) (.slice Ao38 t250.length co38)) (fun _ hk => hk.2) (.slice Ao39 t253.length co39)) (fun _ h_ => h_.1))) hb); have n5_ := Aside0.mk (Kd.S_below (by (with_reducible repeat (first | apply Kd.S_alloc | apply Kd.S_drewN | apply Kd.S_drew)); exact (Kd.S_mono (Kd.S_far (p := ⟨gb256, 2, none⟩) (Kd.S_far (p := ⟨gb256, 1, none⟩) (Kd.S_far (p := ⟨gb256, 0, none⟩) (Kd.S_types HO255.out BK256.out (by decide)) (fun _ hk => hk.2) (.int .i64 t249)) (fun _ hk => hk.2) (.slice Ao38 t250.length co38)) (fun _ hk => hk.2) (.slice Ao39 t253.length co39)) (fun _ h_ => h_.1))) hb); have n6_ := Aside0.mk (blk_below (g := gb235) (o := .cells #[.int .i64 t228, .slice Ao19 t229.length co19, .slice Ao20 t232.length co20] 53 (0, 0)) (by (with_reducible repeat (first | refine blk_drewN ?_ _ | refine blk_drew ?_ | refine blk_alloc ?_ _)); refine blk_far ?_ NB235_256.out _; (with_reducible repeat (first | refine blk_drewN ?_ _ | refine blk_drew ?_ | refine blk_alloc ?_ _)); refine blk_far ?_ NB235_256.out _; (with_reducible repeat (first | refine blk_drewN ?_ _ | refine blk_drew ?_ | refine blk_alloc ?_ _)); refine blk_far ?_ NB235_256.out _; (with_reducible repeat (first | refine blk_drewN ?_ _ | refine blk_drew ?_ | refine blk_alloc ?_ _)); exact BK235.out) hb); have n7_ := Aside0.mk (blk_below (g := gb243) (o := .cells #[.int .i64 t236, .slice Ao25 t237.length co25, .slice Ao26 t240.length co26] 53 (0, 0)) (by (with_reducible repeat (first | refine blk_drewN ?_ _ | refine blk_drew ?_ | refine blk_alloc ?_ _)); refine blk_far ?_ NB243_256.out _; (with_reducible repeat (first | refine blk_drewN ?_ _ | refine blk_drew ?_ | refine blk_alloc ?_ _)); refine blk_far ?_ NB243_256.out _; (with_reducible repeat (first | refine blk_drewN ?_ _ | refine blk_drew ?_ | refine blk_alloc ?_ _)); refine blk_far ?_ NB243_256.out _; (with_reducible repeat (first | refine blk_drewN ?_ _ | refine blk_drew ?_ | refine blk_alloc ?_ _)); exact BK243.out) hb); have n8_ := Aside0.mk (blk_below (g := gb256) (o := .cells #[.int .i64 t249, .slice Ao38 t250.length co38, .slice Ao39 t253.length co39] 53 (0, 0)) (by (with_reducible repeat (first | refine blk_drewN ?_ _ | refine blk_drew ?_ | refine blk_alloc ?_ _)); refine blk_put (cs := #[.int .i64 t249, .slice Ao38 t250.length co38, .slice none 0 0]) ?_ 2 _ rfl; (with_reducible repeat (first | refine blk_drewN ?_ _ | refine blk_drew ?_ | refine blk_alloc ?_ _)); refine blk_put (cs := #[.int .i64 t249, .slice none 0 0, .slice none 0 0]) ?_ 1 _ rfl; (with_reducible repeat (first | refine blk_drewN ?_ _ | refine blk_drew ?_ | refine blk_alloc ?_ _)); refine blk_put (cs := #[.int .i64 0, .slice none 0 0, .slice none 0 0]) ?_ 0 _ rfl; (with_reducible repeat (first | refine blk_drewN ?_ _ | refine blk_drew ?_ | refine blk_alloc ?_ _)); exact BK256.out) hb); have n9_ := Aside0.mk (below_step (by repeat (first | (with_reducible first | exact HB.out | apply below_alloc | apply pw_below_drewN | apply below_drew1 | refine below_set ?_ GE235.out | refine below_set ?_ GE243.out | refine below_set ?_ GE256.out) | exact HB.out)) hb); clear HO231; clear HO234; clear HO239; clear HO242; clear HO252; clear HO255; clear BK235; clear BK243; clear BK256; clear HB; have HO231 := n0_; have HO234 := n1_; have HO239 := n2_; have HO242 := n3_; have HO252 := n4_; have HO255 := n5_; have BK235 := n6_; have BK243 := n7_; have BK256 := n8_; have HB := n9_; clear n0_ n1_ n2_ n3_ n4_ n5_ n6_ n7_ n8_ n9_; (try clear hb); (try clear hb2); (try clear hk); (try clear hi); have hcz42_0 : w41.cell? ⟨gb243, 0, none⟩ = some (.int .i64 t236) := (blk_cell BK243.out 0).trans rfl; have hcz42_1 : w41.cell? ⟨gb243, 1, none⟩ = some (.slice Ao25 t237.length co25) := (blk_cell BK243.out 1).trans rfl; have hcz42_2 : w41.cell? ⟨gb243, 2, none⟩ = some (.slice Ao26 t240.length co26) := (blk_cell BK243.out 2).trans rfl; have hfz42_0 := blk_frozen BK243.out 0; have hfz42_1 := blk_frozen BK243.out 1; have hfz42_2 := blk_frozen BK243.out 2) | ((with_reducible refine gate_callee (f := 33) rfl ?_); refine goesL_ (some 35) rfl rfl Try.func33 (by kernel_rfl) rfl #[.agg #[.int .i64 t236, .slice Ao25 t246.length co25, .slice Ao26 t247.length co26], .int .i64 1] rfl (by (try simp only [List.map_toArray, List.map_cons, List.map_nil]); first | done | (rw [show t246.length = t237.length from (Kd.S_reads' HO239.out).1.symm, show t247.length = t240.length from (Kd.S_reads' HO242.out).1.symm] <;> rfl) | rfl | (simp only [List.length_drop, List.length_take]; rfl)) ?_; (with_reducible refine (laws_heldGroup.calls k t236 _ _ t246 _ _ t247 1 t258 _ ?side1 ?side2 ?side3 ?side4 A13.out).mono ?_); (case side1 => repeat (first | exact (Kd.S_reads' HO239.out).2.2 | (with_reducible refine Kd.C_alloc ?_ _) | (with_reducible refine Kd.C_drewN ?_ _) | (with_reducible refine Kd.C_drew ?_))); (case side2 => rw [show t246.length = t237.length from (Kd.S_reads' HO239.out).1.symm]; exact (Kd.S_reads' HO239.out).2.1); (case side3 => repeat (first | exact (Kd.S_reads' HO242.out).2.2 | (with_reducible refine Kd.C_alloc ?_ _) | (with_reducible refine Kd.C_drewN ?_ _) | (with_reducible refine Kd.C_drew ?_))); (case side4 => rw [show t247.length = t240.length from (Kd.S_reads' HO242.out).1.symm]; exact (Kd.S_reads' HO242.out).2.1); rintro e w43 ⟨rfl, hb⟩; refine ⟨_, rfl, ?_⟩; have n0_ := Aside0.mk (Kd.S_below (by (with_reducible repeat (first | apply Kd.S_alloc | apply Kd.S_drewN | apply Kd.S_drew)); exact HO231.out) hb); have n1_ := Aside0.mk (Kd.S_below (by (with_reducible repeat (first | apply Kd.S_alloc | apply Kd.S_drewN | apply Kd.S_drew)); exact HO234.out) hb); have n2_ := Aside0.mk (Kd.S_below (by (with_reducible repeat (first | apply Kd.S_alloc | apply Kd.S_drewN | apply Kd.S_drew)); exact HO239.out) hb); have n3_ := Aside0.mk (Kd.S_below (by (with_reducible repeat (first | apply Kd.S_alloc | apply Kd.S_drewN | apply Kd.S_drew)); exact HO242.out) hb); have n4_ := Aside0.mk (Kd.S_below (by (with_reducible repeat (first | apply Kd.S_alloc | apply Kd.S_drewN | apply Kd.S_drew)); exact HO252.out) hb); have n5_ := Aside0.mk (Kd.S_below (by (with_reducible repeat (first | apply Kd.S_alloc | apply Kd.S_drewN | apply Kd.S_drew)); exact HO255.out) hb); have n6_ := Aside0.mk (blk_below (g := gb235) (o := .cells #[.int .i64 t228, .slice Ao19 t229.length co19, .slice Ao20 t232.length co20] 53 (0, 0)) (by (with_reducible repeat (first | refine blk_drewN ?_ _ | refine blk_drew ?_ | refine blk_alloc ?_ _)); exact BK235.out) hb); have n7_ := Aside0.mk (blk_below (g := gb243) (o := .cells #[.int .i64 t236, .slice Ao25 t237.length co25, .slice Ao26 t240.length co26] 53 (0, 0)) (by (with_reducible repeat (first | refine blk_drewN ?_ _ | refine blk_drew ?_ | refine blk_alloc ?_ _)); exact BK243.out) hb); have n8_ := Aside0.mk (blk_below (g := gb256) (o := .cells #[.int .i64 t249, .slice Ao38 t250.length co38, .slice Ao39 t253.length co39] 53 (0, 0)) (by (with_reducible repeat (first | refine blk_drewN ?_ _ | refine blk_drew ?_ | refine blk_alloc ?_ _)); exact BK256.out) hb); have n9_ := Aside0.mk (below_step (by repeat (first | (with_reducible first | exact HB.out | apply below_alloc | apply pw_below_drewN | apply below_drew1 | refine below_set ?_ GE235.out | refine below_set ?_ GE243.out | refine below_set ?_ GE256.out) | exact HB.out)) hb); clear HO231; clear HO234; clear HO239; clear HO242; clear HO252; clear HO255; clear BK235; clear BK243; clear BK256; clear HB; have HO231 := n0_; have HO234 := n1_; have HO239 := n2_; have HO242 := n3_; have HO252 := n4_; have HO255 := n5_; have BK235 := n6_; have BK243 := n7_; have BK256 := n8_; have HB := n9_; clear n0_ n1_ n2_ n3_ n4_ n5_ n6_ n7_ n8_ n9_; (try clear hb); (try clear hb2); (try clear hk); (try clear hi)))
              go_ret
              exact ⟨by first | rfl | (simp [errW_none, errW_some] <;> rfl) | (simp [*, errW_none, errW_some] <;> rfl), by repeat (first | (with_reducible first | exact HB.out | apply below_alloc | apply pw_below_drewN | apply below_drew1 | refine below_set ?_ GE235.out | refine below_set ?_ GE243.out | refine below_set ?_ GE256.out) | exact HB.out)⟩
            · rw [if_neg c15] at H
              have c15b0 : (t258 == t245) = false := beq_eq_false_iff_ne.mpr c15
              have c15b1 : (t258 != t245) = true := bne_iff_ne.mpr c15
              exact absurd ((Option.some.inj H).trans hr_.out) (by decide)
        · replace c12 := Bool.eq_false_iff.mpr c12
          subst c12
          have H1 : (some false) = some r := by rw [if_neg (show ¬ (false = true) by decide)] at H; exact H
          clear H
          have H := H1
          clear H1
          exact absurd ((Option.some.inj H).trans hr_.out) (by decide)
      · rw [if_neg c9] at H
        have c9b0 : (t248 == t245) = false := beq_eq_false_iff_ne.mpr c9
        have c9b1 : (t248 != t245) = true := bne_iff_ne.mpr c9
        exact absurd ((Option.some.inj H).trans hr_.out) (by decide)
  · replace c5 := Bool.eq_false_iff.mpr c5
    subst c5
    have H1 : (some false) = some r := by rw [if_neg (show ¬ (false = true) by decide)] at H; exact H
    clear H
    have H := H1
    clear H1
    exact absurd ((Option.some.inj H).trans hr_.out) (by decide)

/-- THE ONE PURE STATEMENT of laws_FnExactNewGroup: yours. -/
def laws_FnExactNewGroup.Pure : Prop := ∀ (a0 : Int), (Lit.int .i64 a0).wf = true → ∃ k, laws_FnExactNewGroup.f k a0 = some true
theorem laws_FnExactNewGroup.walk (P : laws_FnExactNewGroup.Pure) (a0 : Int) (w : World) (w0 : (Lit.int .i64 a0).wf = true) :
    Calls Try.prog 6 #[.int .i64 a0] w fun e w' => e = .returned (.bool true) ∧ Below w.heap.size w w' := by
  obtain ⟨k, h⟩ := P a0 w0
  refine (laws_FnExactNewGroup.calls k a0 true w h ⟨rfl⟩).mono ?_
  rintro e w' ⟨rfl, hd⟩
  exact ⟨rfl, hd⟩

end Go.Proofs.Ytkcadcoohmofcaa.QFnExactNewGroup
