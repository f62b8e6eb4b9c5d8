-- Printed by the session's own program wip/prx.py.
import Derived.Test.YtjdpifafijcpbaaQFnExactForgetx0
import Derived.Test.YtjdpifafijcpbaaQFnExactForgetx1
import Derived.Test.YtjdpifafijcpbaaQFnExactForgetx2
import Derived.Test.YtjdpifafijcpbaaQFnExactForgetx6
import Derived.Test.YtjdpifafijcpbaaQFnExactForgetx8
namespace Go.Proofs.Ytjdpifafijcpbaa.QFnExactForget
open Go.RowKit Go.Proofs.YtjdpifafijcpbaaW.PrintWords Go.Proofs.YtjdpifafijcpbaaW.PrintLast Go.Proofs.YtjdpifafijcpbaaW.PrintMore
attribute [local go_sem] max2_int min2_int max_two min_two max_three min_three max_four min_four Go.Proofs.Ytjdpifafijcpbaa.Set.isSome_setCell   -- for this text's walks alone
set_option linter.unusedVariables false
set_option linter.unusedSimpArgs false

-- squeezed
theorem u9_0 {P : Prop} (h : P := by repeat (first | (with_reducible first | exact HB.out | apply below_alloc | apply pw_below_drewN | apply below_drew1 | refine below_set ?_ GE244.out | refine below_set ?_ GE257.out | refine below_set ?_ GE263.out | refine below_set ?_ GE270.out) | exact HB.out)) : P := h
theorem u9_1 {P : Prop} (h : P := by (with_reducible repeat (first | refine blk_drewN ?_ _ | refine blk_drew ?_ | refine blk_alloc ?_ _)); exact BK244.out) : P := h
theorem u9_2 {P : Prop} (h : P := by (with_reducible repeat (first | refine blk_drewN ?_ _ | refine blk_drew ?_ | refine blk_alloc ?_ _)); exact BK257.out) : P := h
theorem u9_3 {P : Prop} (h : P := by (try simp only [List.map_toArray, List.map_cons, List.map_nil]); first | done | rfl | (simp only [List.length_drop, List.length_take]; rfl)) : P := h
theorem u9_4 {P : Prop} (h : P := by repeat (first | (with_reducible first | exact HB.out | apply below_alloc | apply pw_below_drewN | apply below_drew1) | exact HB.out)) : P := h
theorem u9_5 {P : Prop} (h : P := by (with_reducible repeat (first | refine blk_drewN ?_ _ | refine blk_drew ?_ | refine blk_alloc ?_ _)); exact BK263.out) : P := h
theorem u9_6 {P : Prop} (h : P := by (with_reducible repeat (first | apply Kd.R_alloc | apply Kd.R_drewN | apply Kd.R_drew)); exact HO250.out) : P := h
theorem u9_7 {P : Prop} (h : P := by (with_reducible repeat (first | apply Kd.R_alloc | apply Kd.R_drewN | apply Kd.R_drew)); exact HO255.out) : P := h
theorem u9_8 {P : Prop} (h : P := by repeat (first | (with_reducible first | exact HB.out | apply below_alloc | apply pw_below_drewN | apply below_drew1 | refine below_set ?_ GE244.out) | exact HB.out)) : P := h
theorem u9_9 {P : Prop} (h : P := by (with_reducible repeat (first | refine blk_drewN ?_ _ | refine blk_drew ?_ | refine blk_alloc ?_ _)); exact BK270.out) : P := h
theorem u9_10 {P : Prop} (h : P := by (with_reducible repeat (first | apply Kd.R_alloc | apply Kd.R_drewN | apply Kd.R_drew)); exact HO262.out) : P := h
theorem u9_11 {P : Prop} (h : P := by (with_reducible repeat (first | apply Kd.R_alloc | apply Kd.R_drewN | apply Kd.R_drew)); exact HO268.out) : P := h
theorem u9_12 {P : Prop} (h : P := by repeat (first | (with_reducible first | exact HB.out | apply below_alloc | apply pw_below_drewN | apply below_drew1 | refine below_set ?_ GE244.out | refine below_set ?_ GE257.out) | exact HB.out)) : P := h
theorem u9_13 {P : Prop} (h : P := by repeat (first | (with_reducible first | exact HB.out | apply below_alloc | apply pw_below_drewN | apply below_drew1 | refine below_set ?_ GE244.out | refine below_set ?_ GE257.out | refine below_set ?_ GE263.out) | exact HB.out)) : P := h
theorem u9_14 {P : Prop} (h : P := by (with_reducible repeat (first | apply Kd.R_alloc | apply Kd.R_drewN | apply Kd.R_drew)); exact HO276.out) : P := h
theorem u9_15 {P : Prop} (h : P := by (with_reducible repeat (first | apply Kd.R_alloc | apply Kd.R_drewN | apply Kd.R_drew)); exact (Kd.R_mono (Kd.R_far (p := ⟨gb263, 2, none⟩) (Kd.R_far (p := ⟨gb263, 1, none⟩) (Kd.R_far (p := ⟨gb263, 0, none⟩) (Kd.R_types HO262.out BK263.out (by decide)) (fun _ hk => hk.2) (.int .i64 t258)) (fun _ hk => hk.2) (.int .i64 t259)) (fun _ hk => hk.2) (.slice Ao48 t260.length co48)) (fun _ h_ => h_.1))) : P := h
theorem u9_16 {P : Prop} (h : P := by repeat (first | exact (Kd.C_below HR0_2.out HB.out) | (with_reducible refine Kd.C_alloc ?_ _) | (with_reducible refine Kd.C_drewN ?_ _) | (with_reducible refine Kd.C_drew ?_))) : P := h
theorem u9_17 {P : Prop} (h : P := by repeat (first | (with_reducible first | exact HB.out | apply below_alloc | apply pw_below_drewN | apply below_drew1 | refine below_set ?_ GE244.out | refine below_set ?_ GE257.out | refine below_set ?_ GE263.out | refine below_set ?_ GE270.out | refine below_set ?_ GE295.out) | exact HB.out)) : P := h
theorem u9_18 {P : Prop} (h : P := by (with_reducible repeat (first | apply Kd.R_alloc | apply Kd.R_drewN | apply Kd.R_drew)); exact (Kd.R_mono (Kd.R_far (p := ⟨gb257, 2, none⟩) (Kd.R_far (p := ⟨gb257, 1, none⟩) (Kd.R_far (p := ⟨gb257, 0, none⟩) (Kd.R_types HO250.out BK257.out (by decide)) (fun _ hk => hk.2) (.int .i64 t251)) (fun _ hk => hk.2) (.int .i64 t252)) (fun _ hk => hk.2) (.slice Ao41 t253.length co41)) (fun _ h_ => h_.1))) : P := h
theorem u9_19 {P : Prop} (h : P := by (with_reducible repeat (first | apply Kd.R_alloc | apply Kd.R_drewN | apply Kd.R_drew)); exact (Kd.R_mono (Kd.R_far (p := ⟨gb257, 2, none⟩) (Kd.R_far (p := ⟨gb257, 1, none⟩) (Kd.R_far (p := ⟨gb257, 0, none⟩) (Kd.R_types HO255.out BK257.out (by decide)) (fun _ hk => hk.2) (.int .i64 t251)) (fun _ hk => hk.2) (.int .i64 t252)) (fun _ hk => hk.2) (.slice Ao41 t253.length co41)) (fun _ h_ => h_.1))) : P := h
theorem u9_20 {P : Prop} (h : P := by (with_reducible repeat (first | apply Kd.R_alloc | apply Kd.R_drewN | apply Kd.R_drew)); exact (Kd.R_mono (Kd.R_far (p := ⟨gb263, 2, none⟩) (Kd.R_far (p := ⟨gb263, 1, none⟩) (Kd.R_far (p := ⟨gb263, 0, none⟩) (Kd.R_types HO250.out BK263.out (by decide)) (fun _ hk => hk.2) (.int .i64 t258)) (fun _ hk => hk.2) (.int .i64 t259)) (fun _ hk => hk.2) (.slice Ao48 t260.length co48)) (fun _ h_ => h_.1))) : P := h
theorem u9_21 {P : Prop} (h : P := by (with_reducible repeat (first | apply Kd.R_alloc | apply Kd.R_drewN | apply Kd.R_drew)); exact (Kd.R_mono (Kd.R_far (p := ⟨gb263, 2, none⟩) (Kd.R_far (p := ⟨gb263, 1, none⟩) (Kd.R_far (p := ⟨gb263, 0, none⟩) (Kd.R_types HO255.out BK263.out (by decide)) (fun _ hk => hk.2) (.int .i64 t258)) (fun _ hk => hk.2) (.int .i64 t259)) (fun _ hk => hk.2) (.slice Ao48 t260.length co48)) (fun _ h_ => h_.1))) : P := h
theorem u9_22 {P : Prop} (h : P := by (with_reducible repeat (first | apply Kd.R_alloc | apply Kd.R_drewN | apply Kd.R_drew)); exact (Kd.R_mono (Kd.R_far (p := ⟨gb270, 2, none⟩) (Kd.R_far (p := ⟨gb270, 1, none⟩) (Kd.R_far (p := ⟨gb270, 0, none⟩) (Kd.R_types HO268.out BK270.out (by decide)) (fun _ hk => hk.2) (.int .i64 t264)) (fun _ hk => hk.2) (.int .i64 t265)) (fun _ hk => hk.2) (.slice Ao55 t266.length co55)) (fun _ h_ => h_.1))) : P := h
theorem u9_23 {P : Prop} (h : P := by (with_reducible repeat (first | apply Kd.R_alloc | apply Kd.R_drewN | apply Kd.R_drew)); exact (Kd.R_mono (Kd.R_far (p := ⟨gb270, 2, none⟩) (Kd.R_far (p := ⟨gb270, 1, none⟩) (Kd.R_far (p := ⟨gb270, 0, none⟩) (Kd.R_types HO255.out BK270.out (by decide)) (fun _ hk => hk.2) (.int .i64 t264)) (fun _ hk => hk.2) (.int .i64 t265)) (fun _ hk => hk.2) (.slice Ao55 t266.length co55)) (fun _ h_ => h_.1))) : P := h
theorem u9_24 {P : Prop} (h : P := by (with_reducible repeat (first | apply Kd.R_alloc | apply Kd.R_drewN | apply Kd.R_drew)); exact (Kd.R_mono (Kd.R_far (p := ⟨gb295, 2, none⟩) (Kd.R_far (p := ⟨gb295, 1, none⟩) (Kd.R_far (p := ⟨gb295, 0, none⟩) (Kd.R_types HO293.out BK295.out (by decide)) (fun _ hk => hk.2) (.int .i64 t289)) (fun _ hk => hk.2) (.int .i64 t290)) (fun _ hk => hk.2) (.slice Ao81 t291.length co81)) (fun _ h_ => h_.1))) : P := h
theorem u9_25 {P : Prop} (h : P := by (with_reducible repeat (first | apply Kd.R_alloc | apply Kd.R_drewN | apply Kd.R_drew)); exact (Kd.R_mono (Kd.R_far (p := ⟨gb295, 2, none⟩) (Kd.R_far (p := ⟨gb295, 1, none⟩) (Kd.R_far (p := ⟨gb295, 0, none⟩) (Kd.R_types HO255.out BK295.out (by decide)) (fun _ hk => hk.2) (.int .i64 t289)) (fun _ hk => hk.2) (.int .i64 t290)) (fun _ hk => hk.2) (.slice Ao81 t291.length co81)) (fun _ h_ => h_.1))) : P := h
theorem u9_26 {P : Prop} (h : P := by repeat (first | exact (Kd.R_reads' HO268.out).2.2 | (with_reducible refine Kd.C_alloc ?_ _) | (with_reducible refine Kd.C_drewN ?_ _) | (with_reducible refine Kd.C_drew ?_))) : P := h
theorem u9_27 {P : Prop} (h : P := by repeat (first | (with_reducible first | exact HB.out | apply below_alloc | apply pw_below_drewN | apply below_drew1 | refine below_set ?_ GE242.out) | exact HB.out)) : P := h
theorem u9_28 {P : Prop} (h : P := by first | (with_reducible assumption) | assumption) : P := h
theorem u9_29 {P : Prop} (h : P := by (with_reducible repeat (first | apply Kd.R_alloc | apply Kd.R_drewN | apply Kd.R_drew)); exact HO288.out) : P := h
theorem u9_30 {P : Prop} (h : P := by (try simp only [List.map_toArray, List.map_cons, List.map_nil]); first | done | (rw [show t282.length = t266.length from (Kd.R_reads' HO268.out).1.symm] <;> rfl) | rfl | (simp only [List.length_drop, List.length_take]; rfl)) : P := h
theorem u9_31 {P : Prop} (h : P := by first | rfl | (simp; done) | (simp [*]; done)) : P := h
theorem u9_32 {P : Prop} (h : P := by rw [show t282.length = t266.length from (Kd.R_reads' HO268.out).1.symm]; exact (Kd.R_reads' HO268.out).2.1) : P := h
theorem u9_33 {P : Prop} (h : P := by (with_reducible repeat (first | apply Kd.R_alloc | apply Kd.R_drewN | apply Kd.R_drew)); exact HO293.out) : P := h
/-! ### laws_heldSessionS: function 33 -/
def laws_heldSessionS.l0 : Nat → List (S45) → Int → Int → Option (Int)
  | 0, _, _, _ => none
  | k + 1, x0, x1, x5 => if x5 < (x0.length : Int) then (if 0 ≤ x5 then (if ((rd_T45 x0 x5).f0) = x1 then (if ((rd_T45 x0 x5).f1) = (wrap64 (x1 + 1)) then (if ((rd_T45 x0 x5).f2) = (wrap64 ((wrap64 (x1 + 1)) + 1)) then ((laws_markText.f k (wrap64 ((wrap64 ((wrap64 (x1 + 1)) + 1)) + 1))).bind fun t241 => (if ((rd_T45 x0 x5).f3).toList = t241.toList then (laws_heldSessionS.l0 k x0 (wrap64 ((wrap64 ((wrap64 ((wrap64 (x1 + 1)) + 1)) + 1)) + 1)) (wrap64 (x5 + 1))) else (some (-1)))) else (some (-1))) else (some (-1))) else (some (-1))) else (none)) else (some x1)
def laws_heldSessionS.f (k : Nat) (l0 : List (S45)) (a1 : Int) : Option (Int) := laws_heldSessionS.l0 k l0 a1 0
theorem laws_heldSessionS.mono_l : ∀ k, (∀ y0 y1 y2, LeO (laws_heldSessionS.l0 k y0 y1 y2) (laws_heldSessionS.l0 (k + 1) y0 y1 y2))
  | 0 => fun _ _ _ r h => by simp [laws_heldSessionS.l0] at h
  | k + 1 => by
    have ih0 := laws_heldSessionS.mono_l k
    · intro y0 y1 y2
      unfold laws_heldSessionS.l0
      repeat' first
      | (with_reducible exact ih0 _ _ _)
      | (with_reducible exact laws_markText.mono _ _)
      | (with_reducible exact LeO.refl _)
      | (with_reducible exact LeO.none _)
      | (with_reducible refine LeO.ite ?_ ?_)
      | (with_reducible refine LeO.bind ?_ (fun _ => ?_))
      | exact ih0 _ _ _
      | exact laws_markText.mono _ _
      | exact LeO.none _
      | refine LeO.ite ?_ ?_
      | refine LeO.bind ?_ (fun _ => ?_)
theorem laws_heldSessionS.mono : ∀ a0 a1 k, LeO (laws_heldSessionS.f k a0 a1) (laws_heldSessionS.f (k + 1) a0 a1) := by
  intro a0 a1 k
  have ih0 := laws_heldSessionS.mono_l k
  unfold laws_heldSessionS.f
  repeat' first
      | (with_reducible exact ih0 _ _ _)
      | (with_reducible exact laws_markText.mono _ _)
      | (with_reducible exact LeO.refl _)
      | (with_reducible exact LeO.none _)
      | (with_reducible refine LeO.ite ?_ ?_)
      | (with_reducible refine LeO.bind ?_ (fun _ => ?_))
      | exact ih0 _ _ _
      | exact laws_markText.mono _ _
      | exact LeO.none _
      | refine LeO.ite ?_ ?_
      | refine LeO.bind ?_ (fun _ => ?_)
def laws_heldSessionS.T13 : Bool × List (List Nat × List Nat) := (true, [([], []), ([], []), ([0, 1], [0, 1]), ([2], [2]), ([3], [3]), ([], []), ([5], [5]), ([4, 6], [4, 6])])
def laws_heldSessionS.B13 : List Nat := [0, 0, 3, 7, 15, 0, 32, 127]
theorem laws_heldSessionS.tab13 : rtab .any (opsOf Try.f33 13) = laws_heldSessionS.T13 := by kernel_rfl
theorem laws_heldSessionS.bits13 : waitsOk laws_heldSessionS.T13.2 laws_heldSessionS.B13 = true := by kernel_rfl
set_option maxHeartbeats 8000000 in
set_option maxRecDepth 100000 in
theorem laws_heldSessionS.calls (k : Nat) (A0 : Option Addr) (c0 : Nat) (l0 : List (S45)) (a1 : Int) (r : Int) (w : World) (hr0 : Kd.C k45 w A0 l0.length l0) (hc0 : l0.length ≤ c0) (h : laws_heldSessionS.f k l0 a1 = some r) :
    Calls Try.prog 33 #[.slice A0 l0.length c0, .int .i64 a1] w fun e w' => e = .returned (.int .i64 r) ∧ Below w.heap.size w w' := by
  have HR0 := Aside0.mk hr0
  have HC0 := Aside0.mk hc0
  clear hr0 hc0
  have HB := Aside0.mk (Below.refl w.heap.size w)
  have H : (laws_heldSessionS.l0 k l0 a1 0) = some r := h
  clear h
  have H' := Aside0.mk H
  clear H
  go_enter Try.func33, Try.ntmps33
  go_wp2
  go_loopg [1, 5] k (fun kq v1 v5 w' => ∃ (x1_1 : Int) (x5_1 : Int), v1 = .int .i64 x1_1 ∧ v5 = .int .i64 x5_1 ∧ Aside0 (laws_heldSessionS.l0 kq l0 x1_1 x5_1 = some r) ∧ Aside0 (kq ≤ k) ∧ Aside0 (Below w.heap.size w w'))
  case atStart => exact ⟨(a1), (0), u9_31, u9_31, H', ⟨Nat.le_refl _⟩, ⟨u9_4⟩⟩
  clear H'
  try clear p2
  obtain ⟨x1_1, x5_1, rfl, rfl, HA, HK1, HB⟩ := hrel
  cases gk with
  | zero => exact absurd HA.out (by simp [laws_heldSessionS.l0])
  | succ k1 =>
    have H := HA.out
    clear HA
    simp only [laws_heldSessionS.l0] at H
    by_cases c3 : x5_1 < (l0.length : Int)
    rotate_left
    · rw [if_neg c3] at H
      have c3b0 : decide (x5_1 < (l0.length : Int)) = false := decide_eq_false c3
      clear c3
      obtain rfl := Option.some.inj H
      go_wp2
      go_ret
      exact ⟨by first | rfl | (simp [errW_none, errW_some] <;> rfl) | (simp [*, errW_none, errW_some] <;> rfl), u9_4⟩
    rw [if_pos c3] at H
    have c3b0 : decide (x5_1 < (l0.length : Int)) = true := decide_eq_true c3
    clear c3
    by_cases c4 : 0 ≤ x5_1
    rotate_left
    · rw [if_neg c4] at H
      exact absurd H (by simp)
    rw [if_pos c4] at H
    have c4b0 : decide (0 ≤ x5_1) = true := decide_eq_true c4
    clear c4
    have H9 := Aside0.mk H
    clear H
    have p237 : 0 ≤ (x5_1 : Int) := of_decide_eq_true u9_28
    have q237 : x5_1 < (l0.length : Int) := of_decide_eq_true u9_28
    obtain ⟨ad237, e237, hx237_0, hx237_1, hx237_2, hx237_3⟩ := at_T45 HR0.out x5_1 p237 q237
    cases e237
    replace hx237_0 := (HB.out.cell (World.block_lt_of_cell? w _ hx237_0)).trans hx237_0
    replace hx237_1 := (HB.out.cell (World.block_lt_of_cell? w _ hx237_1)).trans hx237_1
    replace hx237_2 := (HB.out.cell (World.block_lt_of_cell? w _ hx237_2)).trans hx237_2
    replace hx237_3 := (HB.out.cell (World.block_lt_of_cell? w _ hx237_3)).trans hx237_3
    replace p237 := eq_true p237
    replace q237 := eq_true q237
    go_upto_if 18 with (fail)
    have H := H9.out
    clear H9
    by_cases c5 : ((rd_T45 l0 x5_1).f0) = x1_1
    rotate_left
    · rw [if_neg c5] at H
      have c5b0 : (((rd_T45 l0 x5_1).f0) == x1_1) = false := beq_eq_false_iff_ne.mpr c5
      have c5b1 : (((rd_T45 l0 x5_1).f0) != x1_1) = true := bne_iff_ne.mpr c5
      (first | rw [c5b0] | (simp only [i64_w, i32_w]; rw [c5b0]) | skip)
      obtain rfl := Option.some.inj H
      go_wp2
      go_ret
      exact ⟨by first | rfl | (simp [errW_none, errW_some] <;> rfl) | (simp [*, errW_none, errW_some] <;> rfl), u9_4⟩
    rw [if_pos c5] at H
    have c5b0 : (((rd_T45 l0 x5_1).f0) == x1_1) = true := beq_iff_eq.mpr c5
    have c5b1 : (((rd_T45 l0 x5_1).f0) != x1_1) = false := bne_eq_false_iff_eq.mpr c5
    clear c5
    (first | rw [c5b0] | (simp only [i64_w, i32_w]; rw [c5b0]) | skip)
    have H9 := Aside0.mk H
    clear H
    have p238 : 0 ≤ (x5_1 : Int) := of_decide_eq_true u9_28
    have q238 : x5_1 < (l0.length : Int) := of_decide_eq_true u9_28
    obtain ⟨ad238, e238, hx238_0, hx238_1, hx238_2, hx238_3⟩ := at_T45 HR0.out x5_1 p238 q238
    obtain rfl : ad237 = ad238 := (by injection e238)
    replace hx238_0 := (HB.out.cell (World.block_lt_of_cell? w _ hx238_0)).trans hx238_0
    replace hx238_1 := (HB.out.cell (World.block_lt_of_cell? w _ hx238_1)).trans hx238_1
    replace hx238_2 := (HB.out.cell (World.block_lt_of_cell? w _ hx238_2)).trans hx238_2
    replace hx238_3 := (HB.out.cell (World.block_lt_of_cell? w _ hx238_3)).trans hx238_3
    replace p238 := eq_true p238
    replace q238 := eq_true q238
    go_upto_if 27 with (fail)
    have H := H9.out
    clear H9
    by_cases c6 : ((rd_T45 l0 x5_1).f1) = (wrap64 (x1_1 + 1))
    rotate_left
    · rw [if_neg c6] at H
      have c6b0 : (((rd_T45 l0 x5_1).f1) == (wrap64 (x1_1 + 1))) = false := beq_eq_false_iff_ne.mpr c6
      have c6b1 : (((rd_T45 l0 x5_1).f1) != (wrap64 (x1_1 + 1))) = true := bne_iff_ne.mpr c6
      (first | rw [c6b0] | (simp only [i64_w, i32_w]; rw [c6b0]) | skip)
      obtain rfl := Option.some.inj H
      go_wp2
      go_ret
      exact ⟨by first | rfl | (simp [errW_none, errW_some] <;> rfl) | (simp [*, errW_none, errW_some] <;> rfl), u9_4⟩
    rw [if_pos c6] at H
    have c6b0 : (((rd_T45 l0 x5_1).f1) == (wrap64 (x1_1 + 1))) = true := beq_iff_eq.mpr c6
    have c6b1 : (((rd_T45 l0 x5_1).f1) != (wrap64 (x1_1 + 1))) = false := bne_eq_false_iff_eq.mpr c6
    clear c6
    (first | rw [c6b0] | (simp only [i64_w, i32_w]; rw [c6b0]) | skip)
    have H9 := Aside0.mk H
    clear H
    have p239 : 0 ≤ (x5_1 : Int) := of_decide_eq_true u9_28
    have q239 : x5_1 < (l0.length : Int) := of_decide_eq_true u9_28
    obtain ⟨ad239, e239, hx239_0, hx239_1, hx239_2, hx239_3⟩ := at_T45 HR0.out x5_1 p239 q239
    obtain rfl : ad237 = ad239 := (by injection e239)
    replace hx239_0 := (HB.out.cell (World.block_lt_of_cell? w _ hx239_0)).trans hx239_0
    replace hx239_1 := (HB.out.cell (World.block_lt_of_cell? w _ hx239_1)).trans hx239_1
    replace hx239_2 := (HB.out.cell (World.block_lt_of_cell? w _ hx239_2)).trans hx239_2
    replace hx239_3 := (HB.out.cell (World.block_lt_of_cell? w _ hx239_3)).trans hx239_3
    replace p239 := eq_true p239
    replace q239 := eq_true q239
    go_upto_if 36 with (fail)
    have H := H9.out
    clear H9
    by_cases c7 : ((rd_T45 l0 x5_1).f2) = (wrap64 ((wrap64 (x1_1 + 1)) + 1))
    rotate_left
    · rw [if_neg c7] at H
      have c7b0 : (((rd_T45 l0 x5_1).f2) == (wrap64 ((wrap64 (x1_1 + 1)) + 1))) = false := beq_eq_false_iff_ne.mpr c7
      have c7b1 : (((rd_T45 l0 x5_1).f2) != (wrap64 ((wrap64 (x1_1 + 1)) + 1))) = true := bne_iff_ne.mpr c7
      (first | rw [c7b0] | (simp only [i64_w, i32_w]; rw [c7b0]) | skip)
      obtain rfl := Option.some.inj H
      go_wp2
      go_ret
      exact ⟨by first | rfl | (simp [errW_none, errW_some] <;> rfl) | (simp [*, errW_none, errW_some] <;> rfl), u9_4⟩
    rw [if_pos c7] at H
    have c7b0 : (((rd_T45 l0 x5_1).f2) == (wrap64 ((wrap64 (x1_1 + 1)) + 1))) = true := beq_iff_eq.mpr c7
    have c7b1 : (((rd_T45 l0 x5_1).f2) != (wrap64 ((wrap64 (x1_1 + 1)) + 1))) = false := bne_eq_false_iff_eq.mpr c7
    clear c7
    (first | rw [c7b0] | (simp only [i64_w, i32_w]; rw [c7b0]) | skip)
    replace H := Option.bind_eq_some_iff.mp H
    obtain ⟨t241, A80, H⟩ := H
    replace H : (if ((rd_T45 l0 x5_1).f3).toList = t241.toList then (laws_heldSessionS.l0 k1 l0 (wrap64 ((wrap64 ((wrap64 ((wrap64 (x1_1 + 1)) + 1)) + 1)) + 1)) (wrap64 (x5_1 + 1))) else (some (-1))) = some r := H
    have A8 := Aside0.mk A80
    clear A80
    have H9 := Aside0.mk H
    clear H
    try go_wp2
    have n0_ := Aside0.mk (below_drew1 HB.out)
    clear HB
    have HB := n0_
    clear n0_
    have p240 : 0 ≤ (x5_1 : Int) := of_decide_eq_true u9_28
    have q240 : x5_1 < (l0.length : Int) := of_decide_eq_true u9_28
    obtain ⟨ad240, e240, hx240_0, hx240_1, hx240_2, hx240_3⟩ := at_T45 HR0.out x5_1 p240 q240
    have hw240_3 := hx240_3
    have hw240_2 := hx240_2
    have hw240_1 := hx240_1
    have hw240_0 := hx240_0
    obtain rfl : ad237 = ad240 := (by injection e240)
    replace hx240_0 := (HB.out.cell (World.block_lt_of_cell? w _ hx240_0)).trans hx240_0
    replace hx240_1 := (HB.out.cell (World.block_lt_of_cell? w _ hx240_1)).trans hx240_1
    replace hx240_2 := (HB.out.cell (World.block_lt_of_cell? w _ hx240_2)).trans hx240_2
    replace hx240_3 := (HB.out.cell (World.block_lt_of_cell? w _ hx240_3)).trans hx240_3
    replace p240 := eq_true p240
    replace q240 := eq_true q240
    refine start_ (n := 8) (S := fun w' => w'.cell? (ad237.add ((x5_1).toNat * 4)) = some (.int .i64 ((rd_T45 l0 x5_1).f0)) ∧ w'.cell? ⟨(ad237.add ((x5_1).toNat * 4)).block, (ad237.add ((x5_1).toNat * 4)).off + 1, none⟩ = some (.int .i64 ((rd_T45 l0 x5_1).f1)) ∧ w'.cell? ⟨(ad237.add ((x5_1).toNat * 4)).block, (ad237.add ((x5_1).toNat * 4)).off + 2, none⟩ = some (.int .i64 ((rd_T45 l0 x5_1).f2)) ∧ w'.cell? ⟨(ad237.add ((x5_1).toNat * 4)).block, (ad237.add ((x5_1).toNat * 4)).off + 3, none⟩ = some (.string ((rd_T45 l0 x5_1).f3))) (ds := []) #[false, false, false, false, false, false, false, false] (by kernel_rfl) rfl rfl ⟨((HB.out.cell (World.block_lt_of_cell? w _ hw240_0)).trans hw240_0), ((HB.out.cell (World.block_lt_of_cell? w _ hw240_1)).trans hw240_1), ((HB.out.cell (World.block_lt_of_cell? w _ hw240_2)).trans hw240_2), ((HB.out.cell (World.block_lt_of_cell? w _ hw240_3)).trans hw240_3)⟩ (fun hHeld => ?_); refine with_tabW laws_heldSessionS.tab13 laws_heldSessionS.bits13 (fun HT_ HW_ => ?_)
    generalize wr.drew = w9 at HB hx240_0 hx240_1 hx240_2 hx240_3 hHeld ⊢
    refine pure_ (i := 0) (N := some 39) (v := ?_) (a' := ?_) #[true, false, false, false, false, false, false, false] rfl rfl (any_of HT_.out (by kernel_rfl)) (fun _ _ _ h => h) (Or.inl ⟨by rfl, ?_⟩) ?_ ?_
    rotate_left
    · intro w'
      go_simp
      with_reducible rfl
    rotate_left
    · simp only [Act.put, List.setIfInBounds_toArray, List.set_cons_zero, List.set_cons_succ, i64_w, i32_w]
      rfl
    refine pure_ (i := 1) (N := some 40) (v := ?_) (a' := ?_) #[true, true, false, false, false, false, false, false] rfl rfl (any_of HT_.out (by kernel_rfl)) (fun _ _ _ h => h) (Or.inl ⟨by rfl, ?_⟩) ?_ ?_
    rotate_left
    · intro w'
      go_simp
      with_reducible rfl
    rotate_left
    · simp only [Act.put, List.setIfInBounds_toArray, List.set_cons_zero, List.set_cons_succ, i64_w, i32_w]
      rfl
    refine pure_ (i := 2) (N := some 41) (v := ?_) (a' := ?_) #[true, true, true, false, false, false, false, false] rfl rfl (any_of HT_.out (by kernel_rfl)) (fun _ _ _ h => h) (Or.inl ⟨by rfl, ?_⟩) ?_ ?_
    rotate_left
    · intro w'
      go_simp
      with_reducible rfl
    rotate_left
    · simp only [Act.put, List.setIfInBounds_toArray, List.set_cons_zero, List.set_cons_succ, i64_w, i32_w]
      rfl
    refine pure_ (i := 3) (N := some 42) (v := ?_) (a' := ?_) #[true, true, true, true, false, false, false, false] rfl rfl (any_of HT_.out (by kernel_rfl)) (fun _ _ _ h => h) (Or.inl ⟨by rfl, ?_⟩) ?_ ?_
    rotate_left
    · intro w'
      go_simp
      with_reducible rfl
    rotate_left
    · simp only [Act.put, List.setIfInBounds_toArray, List.set_cons_zero, List.set_cons_succ, i64_w, i32_w]
      rfl
    refine pure_ (i := 5) (N := some 44) (v := ?_) (a' := ?_) #[true, true, true, true, false, true, false, false] rfl rfl (any_of HT_.out (by kernel_rfl)) (fun _ _ _ h => h) (Or.inl ⟨by rfl, ?_⟩) ?_ ?_
    rotate_left
    · intro w'
      go_simp
      with_reducible rfl
    rotate_left
    · simp only [Act.put, List.setIfInBounds_toArray, List.set_cons_zero, List.set_cons_succ, i64_w, i32_w]
      rfl
    refine take_ (i := 4) (N := some 43) (v := ?_) (a' := ?_) #[true, true, true, true, true, true, false, false] rfl rfl (take_ofW HT_.out HW_.out (by kernel_rfl)) (fun _ _ _ h => h) (Or.inl ⟨by rfl, ?_⟩) hHeld ?_ ?_
    rotate_left
    · rintro w' ⟨s0, s1, s2, s3⟩
      go_simp
      with_reducible rfl
    rotate_left
    · simp only [Act.put, List.setIfInBounds_toArray, List.set_cons_zero, List.set_cons_succ, i64_w, i32_w]
      rfl
    refine one_ (i := 6) (N := some 45) #[true, true, true, true, true, true, true, false] rfl rfl (one_of HT_.out (by kernel_rfl)) (by decide) (fun K hK => ?_)
    refine goes_ Try.func42 (by kernel_rfl) rfl #[.int .i64 (wrap64 ((wrap64 ((wrap64 (x1_1 + 1)) + 1)) + 1))] (by rfl) rfl rfl u9_3 ?_
    with_reducible refine (laws_markText.calls k1 (wrap64 ((wrap64 ((wrap64 (x1_1 + 1)) + 1)) + 1)) t241 _ A8.out).mono ?_
    rintro e w10 ⟨rfl, hb⟩
    refine ⟨_, rfl, ?_⟩
    have n0_ := Aside0.mk (below_step u9_4 hb)
    clear HB
    have HB := n0_
    clear n0_
    (try clear hb)
    (try clear hb2)
    (try clear hk)
    (try clear hi)
    refine hK.out _ _ ⟨((HB.out.cell (World.block_lt_of_cell? w _ hw240_0)).trans hw240_0), ((HB.out.cell (World.block_lt_of_cell? w _ hw240_1)).trans hw240_1), ((HB.out.cell (World.block_lt_of_cell? w _ hw240_2)).trans hw240_2), ((HB.out.cell (World.block_lt_of_cell? w _ hw240_3)).trans hw240_3)⟩ (fun hHeld => ?_)
    clear hK K
    refine norm_ (a' := ?_) ?_ ?_
    rotate_left
    · show Act.put _ (some 45) _ = _
      simp only [Act.put, List.setIfInBounds_toArray, List.set_cons_zero, List.set_cons_succ, i64_w, i32_w]
      rfl
    refine pure_ (i := 7) (N := some 46) (v := ?_) (a' := ?_) #[true, true, true, true, true, true, true, true] rfl rfl (any_of HT_.out (by kernel_rfl)) (fun _ _ _ h => h) (Or.inl ⟨by rfl, ?_⟩) ?_ ?_
    rotate_left
    · intro w'
      go_simp
      with_reducible rfl
    rotate_left
    · simp only [Act.put, List.setIfInBounds_toArray, List.set_cons_zero, List.set_cons_succ, i64_w, i32_w]
      rfl
    refine done_ (done_of HT_.out (by kernel_rfl)) ?_
    go_upto_if 46 with (fail)
    have H := H9.out
    clear H9
    by_cases c11 : ((rd_T45 l0 x5_1).f3).toList = t241.toList
    rotate_left
    · rw [if_neg c11] at H
      have c11b0 : (((rd_T45 l0 x5_1).f3).toList == t241.toList) = false := beq_eq_false_iff_ne.mpr c11
      have c11b1 : (((rd_T45 l0 x5_1).f3).toList != t241.toList) = true := bne_iff_ne.mpr c11
      (first | rw [c11b0] | (simp only [i64_w, i32_w]; rw [c11b0]) | skip)
      obtain rfl := Option.some.inj H
      go_wp2
      go_ret
      exact ⟨by first | rfl | (simp [errW_none, errW_some] <;> rfl) | (simp [*, errW_none, errW_some] <;> rfl), u9_4⟩
    rw [if_pos c11] at H
    have c11b0 : (((rd_T45 l0 x5_1).f3).toList == t241.toList) = true := beq_iff_eq.mpr c11
    have c11b1 : (((rd_T45 l0 x5_1).f3).toList != t241.toList) = false := bne_eq_false_iff_eq.mpr c11
    clear c11
    (first | rw [c11b0] | (simp only [i64_w, i32_w]; rw [c11b0]) | skip)
    have H' := Aside0.mk H
    clear H
    go_wp2
    go_roundg k1
    case measure => have := HK1.out; omega
    case rel => exact ⟨(wrap64 ((wrap64 ((wrap64 ((wrap64 (x1_1 + 1)) + 1)) + 1)) + 1)), (wrap64 (x5_1 + 1)), u9_31, u9_31, H', ⟨by have := HK1.out; omega⟩, ⟨u9_4⟩⟩

/-! ### laws_heldSessions: function 17 -/
def laws_heldSessions.f (k : Nat) (a0_0 : Int) (a0_1 : Int) (l0_2 : List (S45)) (a1 : Int) : Option (Int) := (laws_heldSessionS.f k l0_2 a1).bind fun t243 => (if t243 < 0 then (some (-1)) else (some t243))
theorem laws_heldSessions.mono : ∀ a0 a1 a2 a3 k, LeO (laws_heldSessions.f k a0 a1 a2 a3) (laws_heldSessions.f (k + 1) a0 a1 a2 a3) := by
  intro a0 a1 a2 a3 k
  unfold laws_heldSessions.f
  repeat' first
      | (with_reducible exact laws_heldSessionS.mono _ _ _)
      | (with_reducible exact LeO.refl _)
      | (with_reducible exact LeO.none _)
      | (with_reducible refine LeO.ite ?_ ?_)
      | (with_reducible refine LeO.bind ?_ (fun _ => ?_))
      | exact laws_heldSessionS.mono _ _ _
      | exact LeO.none _
      | refine LeO.ite ?_ ?_
      | refine LeO.bind ?_ (fun _ => ?_)
set_option maxHeartbeats 8000000 in
set_option maxRecDepth 100000 in
theorem laws_heldSessions.calls (k : Nat) (a0_0 : Int) (a0_1 : Int) (A0_2 : Option Addr) (c0_2 : Nat) (l0_2 : List (S45)) (a1 : Int) (r : Int) (w : World) (hr0_2 : Kd.C k45 w A0_2 l0_2.length l0_2) (hc0_2 : l0_2.length ≤ c0_2) (h : laws_heldSessions.f k a0_0 a0_1 l0_2 a1 = some r) :
    Calls Try.prog 17 #[.agg #[.int .i64 a0_0, .int .i64 a0_1, .slice A0_2 l0_2.length c0_2], .int .i64 a1] w fun e w' => e = .returned (.int .i64 r) ∧ Below w.heap.size w w' := by
  have hu29 := Try.underlying29
  have HR0_2 := Aside0.mk hr0_2
  have HC0_2 := Aside0.mk hc0_2
  clear hr0_2 hc0_2
  have HB := Aside0.mk (Below.refl w.heap.size w)
  have H : ((laws_heldSessionS.f k l0_2 a1).bind fun t243 => (if t243 < 0 then (some (-1)) else (some t243))) = some r := h
  clear h
  replace H := Option.bind_eq_some_iff.mp H
  obtain ⟨t243, A30, H⟩ := H
  replace H : (if t243 < 0 then (some (-1)) else (some t243)) = some r := H
  have A3 := Aside0.mk A30
  clear A30
  have H9 := Aside0.mk H
  clear H
  go_enter Try.func17, Try.ntmps17
  go_upto_if 10 with (first | ((with_reducible refine gate_dst (N := 2) rfl ?_); refine box_event ?hg (N := 2) ?hd (cs := #[.int .i64 a0_0, .int .i64 a0_1, .slice A0_2 l0_2.length c0_2]) (t := 29) ?hr ?_; (case hd => rfl); (case hg => rfl); (case hr => first | (go_simp; done) | (go_simp; rfl)); intro gb242 hg w4 hbox hb; have n0_ := Aside0.mk (below_step u9_4 hb); have n1_ := Aside0.mk (hbox); have n2_ := Aside0.mk ((by rw [hg]; exact (below_size u9_4) : w.heap.size ≤ gb242)); have n3_ := Aside0.mk ((by rw [hg]; exact (below_size u9_4) : w.heap.size ≤ gb242)); clear HB; have HB := n0_; have BK242 := n1_; have GW242 := n2_; have GE242 := n3_; clear n0_ n1_ n2_ n3_; clear hb hbox hg; have hcz5_0 : w4.cell? ⟨gb242, 0, none⟩ = some (.int .i64 a0_0) := (blk_cell BK242.out 0).trans rfl; have hcz5_1 : w4.cell? ⟨gb242, 1, none⟩ = some (.int .i64 a0_1) := (blk_cell BK242.out 1).trans rfl; have hcz5_2 : w4.cell? ⟨gb242, 2, none⟩ = some (.slice A0_2 l0_2.length c0_2) := (blk_cell BK242.out 2).trans rfl; have hfz5_0 := blk_frozen BK242.out 0; have hfz5_1 := blk_frozen BK242.out 1; have hfz5_2 := blk_frozen BK242.out 2) | ((with_reducible refine gate_callee (f := 33) rfl ?_); refine goesL_ (some 8) rfl rfl Try.func33 (by kernel_rfl) rfl #[.slice A0_2 l0_2.length c0_2, .int .i64 a1] rfl u9_3 ?_; (with_reducible refine (laws_heldSessionS.calls k _ _ l0_2 a1 t243 _ ?side1 ?side2 A3.out).mono ?_); (case side1 => exact u9_16); (case side2 => exact HC0_2.out); rintro e w6 ⟨rfl, hb⟩; refine ⟨_, rfl, ?_⟩; have n0_ := Aside0.mk (blk_below (g := gb242) (o := .cells #[.int .i64 a0_0, .int .i64 a0_1, .slice A0_2 l0_2.length c0_2] 29 (0, 0)) (by (with_reducible repeat (first | refine blk_drewN ?_ _ | refine blk_drew ?_ | refine blk_alloc ?_ _)); exact BK242.out) hb); have n1_ := Aside0.mk (below_step u9_27 hb); clear BK242; clear HB; have BK242 := n0_; have HB := n1_; clear n0_ n1_; (try clear hb); (try clear hb2); (try clear hk); (try clear hi)))
  have H := H9.out
  clear H9
  by_cases c7 : t243 < 0
  · rw [if_pos c7] at H
    have c7b0 : decide (t243 < 0) = true := decide_eq_true c7
    clear c7
    (first | rw [c7b0] | (simp only [i64_w, i32_w]; rw [c7b0]) | skip)
    obtain rfl := Option.some.inj H
    go_wp2
    go_ret
    exact ⟨by first | rfl | (simp [errW_none, errW_some] <;> rfl) | (simp [*, errW_none, errW_some] <;> rfl), u9_27⟩
  rw [if_neg c7] at H
  have c7b0 : decide (t243 < 0) = false := decide_eq_false c7
  clear c7
  (first | rw [c7b0] | (simp only [i64_w, i32_w]; rw [c7b0]) | skip)
  obtain rfl := Option.some.inj H
  go_wp2
  go_ret
  exact ⟨by first | rfl | (simp [errW_none, errW_some] <;> rfl) | (simp [*, errW_none, errW_some] <;> rfl), u9_27⟩

/-! ### laws_FnExactForget: function 5 -/
def laws_FnExactForget.f (k : Nat) (a0_0 : Int) (a0_1 : Int) (l0_2 : List (S54)) (a1 : Int) : Option (Bool) := (laws_szSessions.f k a0_0 a0_1 l0_2 1048576).bind fun t245 => (if t245 < 0 then (some true) else ((laws_toSessions.f k a0_0 a0_1 l0_2).bind fun bt246 => ((spec_Forget.f k bt246.1 bt246.2.1 bt246.2.2 a1).bind fun bt251 => ((laws_toSessions.f k a0_0 a0_1 l0_2).bind fun bt258 => ((impl_Forget.f k bt258.1 bt258.2.1 bt258.2.2 a1).bind fun bt264 => ((laws_eqSessions.f k bt264.1 bt264.2.1 bt264.2.2.1 bt251.1 bt251.2.1 bt251.2.2.1).bind fun t271 => (if t271 = true then (if (bt264.2.2.2 != bt251.2.2.2) = true then (some false) else ((laws_toSessions.f k a0_0 a0_1 l0_2).bind fun bt272 => ((laws_eqSessions.f k bt258.1 bt258.2.1 bt258.2.2 bt272.1 bt272.2.1 bt272.2.2).bind fun t277 => (if t277 = true then ((laws_markSessions.f k bt258.1 bt258.2.1 bt258.2.2 1).bind fun bt278 => (if bt278.1 < 0 then (some false) else ((laws_eqSessions.f k bt264.1 bt264.2.1 bt264.2.2.1 bt251.1 bt251.2.1 bt251.2.2.1).bind fun t280 => (if t280 = true then ((laws_markSessions.f k bt264.1 bt264.2.1 bt264.2.2.1 1).bind fun bt281 => ((laws_heldSessions.f k bt264.1 bt264.2.1 bt281.2 1).bind fun t283 => (if t283 < 0 then (some false) else (if t283 = bt281.1 then ((laws_toSessions.f k a0_0 a0_1 l0_2).bind fun bt284 => ((impl_Forget.f k bt284.1 bt284.2.1 bt284.2.2 a1).bind fun bt289 => ((laws_eqSessions.f k bt289.1 bt289.2.1 bt289.2.2.1 bt251.1 bt251.2.1 bt251.2.2.1).bind fun t296 => (if t296 = true then (if (bt289.2.2.2 != bt251.2.2.2) = true then (some false) else ((laws_heldSessions.f k bt264.1 bt264.2.1 bt281.2 1).bind fun t297 => (if t297 < 0 then (some false) else (if t297 = bt281.1 then (some true) else (some false))))) else (some false))))) else (some false))))) else (some false))))) else (some false))))) else (some false))))))))
theorem laws_FnExactForget.mono : ∀ a0 a1 a2 a3 k, LeO (laws_FnExactForget.f k a0 a1 a2 a3) (laws_FnExactForget.f (k + 1) a0 a1 a2 a3) := by
  intro a0 a1 a2 a3 k
  unfold laws_FnExactForget.f
  repeat' first
      | (with_reducible exact impl_Forget.mono _ _ _ _ _)
      | (with_reducible exact laws_eqSessions.mono _ _ _ _ _ _ _)
      | (with_reducible exact laws_heldSessions.mono _ _ _ _ _)
      | (with_reducible exact laws_markSessions.mono _ _ _ _ _)
      | (with_reducible exact laws_szSessions.mono _ _ _ _ _)
      | (with_reducible exact laws_toSessions.mono _ _ _ _)
      | (with_reducible exact spec_Forget.mono _ _ _ _ _)
      | (with_reducible exact LeO.refl _)
      | (with_reducible exact LeO.none _)
      | (with_reducible refine LeO.ite ?_ ?_)
      | (with_reducible refine LeO.bind ?_ (fun _ => ?_))
      | exact impl_Forget.mono _ _ _ _ _
      | exact laws_eqSessions.mono _ _ _ _ _ _ _
      | exact laws_heldSessions.mono _ _ _ _ _
      | exact laws_markSessions.mono _ _ _ _ _
      | exact laws_szSessions.mono _ _ _ _ _
      | exact laws_toSessions.mono _ _ _ _
      | exact spec_Forget.mono _ _ _ _ _
      | exact LeO.none _
      | refine LeO.ite ?_ ?_
      | refine LeO.bind ?_ (fun _ => ?_)
set_option maxHeartbeats 8000000 in
set_option maxRecDepth 100000 in
theorem laws_FnExactForget.calls (k : Nat) (a0_0 : Int) (a0_1 : Int) (A0_2 : Option Addr) (c0_2 : Nat) (l0_2 : List (S54)) (a1 : Int) (r : Bool) (w : World) (hr0_2 : Kd.C k54 w A0_2 l0_2.length l0_2) (hc0_2 : l0_2.length ≤ c0_2) (h : laws_FnExactForget.f k a0_0 a0_1 l0_2 a1 = some r) (hr_ : Aside0 (r = true)) :
    Calls Try.prog 5 #[.agg #[.int .i64 a0_0, .int .i64 a0_1, .slice A0_2 l0_2.length c0_2], .int .i64 a1] w fun e w' => e = .returned (.bool r) ∧ Below w.heap.size w w' := by
  have hu24 := Try.underlying24
  have hu29 := Try.underlying29
  have HR0_2 := Aside0.mk hr0_2
  have HC0_2 := Aside0.mk hc0_2
  clear hr0_2 hc0_2
  have HB := Aside0.mk (Below.refl w.heap.size w)
  have H : ((laws_szSessions.f k a0_0 a0_1 l0_2 1048576).bind fun t245 => (if t245 < 0 then (some true) else ((laws_toSessions.f k a0_0 a0_1 l0_2).bind fun bt246 => ((spec_Forget.f k bt246.1 bt246.2.1 bt246.2.2 a1).bind fun bt251 => ((laws_toSessions.f k a0_0 a0_1 l0_2).bind fun bt258 => ((impl_Forget.f k bt258.1 bt258.2.1 bt258.2.2 a1).bind fun bt264 => ((laws_eqSessions.f k bt264.1 bt264.2.1 bt264.2.2.1 bt251.1 bt251.2.1 bt251.2.2.1).bind fun t271 => (if t271 = true then (if (bt264.2.2.2 != bt251.2.2.2) = true then (some false) else ((laws_toSessions.f k a0_0 a0_1 l0_2).bind fun bt272 => ((laws_eqSessions.f k bt258.1 bt258.2.1 bt258.2.2 bt272.1 bt272.2.1 bt272.2.2).bind fun t277 => (if t277 = true then ((laws_markSessions.f k bt258.1 bt258.2.1 bt258.2.2 1).bind fun bt278 => (if bt278.1 < 0 then (some false) else ((laws_eqSessions.f k bt264.1 bt264.2.1 bt264.2.2.1 bt251.1 bt251.2.1 bt251.2.2.1).bind fun t280 => (if t280 = true then ((laws_markSessions.f k bt264.1 bt264.2.1 bt264.2.2.1 1).bind fun bt281 => ((laws_heldSessions.f k bt264.1 bt264.2.1 bt281.2 1).bind fun t283 => (if t283 < 0 then (some false) else (if t283 = bt281.1 then ((laws_toSessions.f k a0_0 a0_1 l0_2).bind fun bt284 => ((impl_Forget.f k bt284.1 bt284.2.1 bt284.2.2 a1).bind fun bt289 => ((laws_eqSessions.f k bt289.1 bt289.2.1 bt289.2.2.1 bt251.1 bt251.2.1 bt251.2.2.1).bind fun t296 => (if t296 = true then (if (bt289.2.2.2 != bt251.2.2.2) = true then (some false) else ((laws_heldSessions.f k bt264.1 bt264.2.1 bt281.2 1).bind fun t297 => (if t297 < 0 then (some false) else (if t297 = bt281.1 then (some true) else (some false))))) else (some false))))) else (some false))))) else (some false))))) else (some false))))) else (some false))))))))) = some r := h
  clear h
  replace H := Option.bind_eq_some_iff.mp H
  obtain ⟨t245, A30, H⟩ := H
  replace H : (if t245 < 0 then (some true) else ((laws_toSessions.f k a0_0 a0_1 l0_2).bind fun bt246 => ((spec_Forget.f k bt246.1 bt246.2.1 bt246.2.2 a1).bind fun bt251 => ((laws_toSessions.f k a0_0 a0_1 l0_2).bind fun bt258 => ((impl_Forget.f k bt258.1 bt258.2.1 bt258.2.2 a1).bind fun bt264 => ((laws_eqSessions.f k bt264.1 bt264.2.1 bt264.2.2.1 bt251.1 bt251.2.1 bt251.2.2.1).bind fun t271 => (if t271 = true then (if (bt264.2.2.2 != bt251.2.2.2) = true then (some false) else ((laws_toSessions.f k a0_0 a0_1 l0_2).bind fun bt272 => ((laws_eqSessions.f k bt258.1 bt258.2.1 bt258.2.2 bt272.1 bt272.2.1 bt272.2.2).bind fun t277 => (if t277 = true then ((laws_markSessions.f k bt258.1 bt258.2.1 bt258.2.2 1).bind fun bt278 => (if bt278.1 < 0 then (some false) else ((laws_eqSessions.f k bt264.1 bt264.2.1 bt264.2.2.1 bt251.1 bt251.2.1 bt251.2.2.1).bind fun t280 => (if t280 = true then ((laws_markSessions.f k bt264.1 bt264.2.1 bt264.2.2.1 1).bind fun bt281 => ((laws_heldSessions.f k bt264.1 bt264.2.1 bt281.2 1).bind fun t283 => (if t283 < 0 then (some false) else (if t283 = bt281.1 then ((laws_toSessions.f k a0_0 a0_1 l0_2).bind fun bt284 => ((impl_Forget.f k bt284.1 bt284.2.1 bt284.2.2 a1).bind fun bt289 => ((laws_eqSessions.f k bt289.1 bt289.2.1 bt289.2.2.1 bt251.1 bt251.2.1 bt251.2.2.1).bind fun t296 => (if t296 = true then (if (bt289.2.2.2 != bt251.2.2.2) = true then (some false) else ((laws_heldSessions.f k bt264.1 bt264.2.1 bt281.2 1).bind fun t297 => (if t297 < 0 then (some false) else (if t297 = bt281.1 then (some true) else (some false))))) else (some false))))) else (some false))))) else (some false))))) else (some false))))) else (some false)))))))) = some r := H
  have A3 := Aside0.mk A30
  clear A30
  have H9 := Aside0.mk H
  clear H
  go_enter Try.func5, Try.ntmps5
  go_upto_if 20 with (first | ((with_reducible refine gate_dst (N := 2) rfl ?_); refine box_event ?hg (N := 2) ?hd (cs := #[.int .i64 a0_0, .int .i64 a0_1, .slice A0_2 l0_2.length c0_2]) (t := 24) ?hr ?_; (case hd => rfl); (case hg => rfl); (case hr => first | (go_simp; done) | (go_simp; rfl)); intro gb244 hg w4 hbox hb; have n0_ := Aside0.mk (below_step u9_4 hb); have n1_ := Aside0.mk (hbox); have n2_ := Aside0.mk ((by rw [hg]; exact (below_size u9_4) : w.heap.size ≤ gb244)); have n3_ := Aside0.mk ((by rw [hg]; exact (below_size u9_4) : w.heap.size ≤ gb244)); clear HB; have HB := n0_; have BK244 := n1_; have GW244 := n2_; have GE244 := n3_; clear n0_ n1_ n2_ n3_; clear hb hbox hg; have hcz5_0 : w4.cell? ⟨gb244, 0, none⟩ = some (.int .i64 a0_0) := (blk_cell BK244.out 0).trans rfl; have hcz5_1 : w4.cell? ⟨gb244, 1, none⟩ = some (.int .i64 a0_1) := (blk_cell BK244.out 1).trans rfl; have hcz5_2 : w4.cell? ⟨gb244, 2, none⟩ = some (.slice A0_2 l0_2.length c0_2) := (blk_cell BK244.out 2).trans rfl; have hfz5_0 := blk_frozen BK244.out 0; have hfz5_1 := blk_frozen BK244.out 1; have hfz5_2 := blk_frozen BK244.out 2) | ((with_reducible refine gate_callee (f := 7) rfl ?_); refine goesL_ (some 18) rfl rfl Try.func7 (by kernel_rfl) rfl #[.agg #[.int .i64 a0_0, .int .i64 a0_1, .slice A0_2 l0_2.length c0_2], .int .i64 1048576] rfl u9_3 ?_; (with_reducible refine (laws_szSessions.calls k a0_0 a0_1 _ _ l0_2 1048576 t245 _ ?side1 ?side2 A3.out).mono ?_); (case side1 => exact u9_16); (case side2 => exact HC0_2.out); rintro e w6 ⟨rfl, hb⟩; refine ⟨_, rfl, ?_⟩; have n0_ := Aside0.mk (blk_below (g := gb244) (o := .cells #[.int .i64 a0_0, .int .i64 a0_1, .slice A0_2 l0_2.length c0_2] 24 (0, 0)) u9_1 hb); have n1_ := Aside0.mk (below_step u9_8 hb); clear BK244; clear HB; have BK244 := n0_; have HB := n1_; clear n0_ n1_; (try clear hb); (try clear hb2); (try clear hk); (try clear hi)))
  have H := H9.out
  clear H9
  by_cases c7 : t245 < 0
  · rw [if_pos c7] at H
    have c7b0 : decide (t245 < 0) = true := decide_eq_true c7
    clear c7
    (first | rw [c7b0] | (simp only [i64_w, i32_w]; rw [c7b0]) | skip)
    obtain rfl := Option.some.inj H
    go_wp2
    go_ret
    exact ⟨by first | rfl | (simp [errW_none, errW_some] <;> rfl) | (simp [*, errW_none, errW_some] <;> rfl), u9_8⟩
  rw [if_neg c7] at H
  have c7b0 : decide (t245 < 0) = false := decide_eq_false c7
  clear c7
  (first | rw [c7b0] | (simp only [i64_w, i32_w]; rw [c7b0]) | skip)
  replace H := Option.bind_eq_some_iff.mp H
  obtain ⟨⟨t246, t247, t248⟩, A80, H⟩ := H
  replace H : ((spec_Forget.f k t246 t247 t248 a1).bind fun bt251 => ((laws_toSessions.f k a0_0 a0_1 l0_2).bind fun bt258 => ((impl_Forget.f k bt258.1 bt258.2.1 bt258.2.2 a1).bind fun bt264 => ((laws_eqSessions.f k bt264.1 bt264.2.1 bt264.2.2.1 bt251.1 bt251.2.1 bt251.2.2.1).bind fun t271 => (if t271 = true then (if (bt264.2.2.2 != bt251.2.2.2) = true then (some false) else ((laws_toSessions.f k a0_0 a0_1 l0_2).bind fun bt272 => ((laws_eqSessions.f k bt258.1 bt258.2.1 bt258.2.2 bt272.1 bt272.2.1 bt272.2.2).bind fun t277 => (if t277 = true then ((laws_markSessions.f k bt258.1 bt258.2.1 bt258.2.2 1).bind fun bt278 => (if bt278.1 < 0 then (some false) else ((laws_eqSessions.f k bt264.1 bt264.2.1 bt264.2.2.1 bt251.1 bt251.2.1 bt251.2.2.1).bind fun t280 => (if t280 = true then ((laws_markSessions.f k bt264.1 bt264.2.1 bt264.2.2.1 1).bind fun bt281 => ((laws_heldSessions.f k bt264.1 bt264.2.1 bt281.2 1).bind fun t283 => (if t283 < 0 then (some false) else (if t283 = bt281.1 then ((laws_toSessions.f k a0_0 a0_1 l0_2).bind fun bt284 => ((impl_Forget.f k bt284.1 bt284.2.1 bt284.2.2 a1).bind fun bt289 => ((laws_eqSessions.f k bt289.1 bt289.2.1 bt289.2.2.1 bt251.1 bt251.2.1 bt251.2.2.1).bind fun t296 => (if t296 = true then (if (bt289.2.2.2 != bt251.2.2.2) = true then (some false) else ((laws_heldSessions.f k bt264.1 bt264.2.1 bt281.2 1).bind fun t297 => (if t297 < 0 then (some false) else (if t297 = bt281.1 then (some true) else (some false))))) else (some false))))) else (some false))))) else (some false))))) else (some false))))) else (some false)))))) = some r := H
  have A8 := Aside0.mk A80
  clear A80
  replace H := Option.bind_eq_some_iff.mp H
  obtain ⟨⟨t251, t252, t253, t256⟩, A90, H⟩ := H
  replace H : ((laws_toSessions.f k a0_0 a0_1 l0_2).bind fun bt258 => ((impl_Forget.f k bt258.1 bt258.2.1 bt258.2.2 a1).bind fun bt264 => ((laws_eqSessions.f k bt264.1 bt264.2.1 bt264.2.2.1 t251 t252 t253).bind fun t271 => (if t271 = true then (if (bt264.2.2.2 != t256) = true then (some false) else ((laws_toSessions.f k a0_0 a0_1 l0_2).bind fun bt272 => ((laws_eqSessions.f k bt258.1 bt258.2.1 bt258.2.2 bt272.1 bt272.2.1 bt272.2.2).bind fun t277 => (if t277 = true then ((laws_markSessions.f k bt258.1 bt258.2.1 bt258.2.2 1).bind fun bt278 => (if bt278.1 < 0 then (some false) else ((laws_eqSessions.f k bt264.1 bt264.2.1 bt264.2.2.1 t251 t252 t253).bind fun t280 => (if t280 = true then ((laws_markSessions.f k bt264.1 bt264.2.1 bt264.2.2.1 1).bind fun bt281 => ((laws_heldSessions.f k bt264.1 bt264.2.1 bt281.2 1).bind fun t283 => (if t283 < 0 then (some false) else (if t283 = bt281.1 then ((laws_toSessions.f k a0_0 a0_1 l0_2).bind fun bt284 => ((impl_Forget.f k bt284.1 bt284.2.1 bt284.2.2 a1).bind fun bt289 => ((laws_eqSessions.f k bt289.1 bt289.2.1 bt289.2.2.1 t251 t252 t253).bind fun t296 => (if t296 = true then (if (bt289.2.2.2 != t256) = true then (some false) else ((laws_heldSessions.f k bt264.1 bt264.2.1 bt281.2 1).bind fun t297 => (if t297 < 0 then (some false) else (if t297 = bt281.1 then (some true) else (some false))))) else (some false))))) else (some false))))) else (some false))))) else (some false))))) else (some false))))) = some r := H
  have A9 := Aside0.mk A90
  clear A90
  replace H := Option.bind_eq_some_iff.mp H
  obtain ⟨⟨t258, t259, t260⟩, A100, H⟩ := H
  replace H : ((impl_Forget.f k t258 t259 t260 a1).bind fun bt264 => ((laws_eqSessions.f k bt264.1 bt264.2.1 bt264.2.2.1 t251 t252 t253).bind fun t271 => (if t271 = true then (if (bt264.2.2.2 != t256) = true then (some false) else ((laws_toSessions.f k a0_0 a0_1 l0_2).bind fun bt272 => ((laws_eqSessions.f k t258 t259 t260 bt272.1 bt272.2.1 bt272.2.2).bind fun t277 => (if t277 = true then ((laws_markSessions.f k t258 t259 t260 1).bind fun bt278 => (if bt278.1 < 0 then (some false) else ((laws_eqSessions.f k bt264.1 bt264.2.1 bt264.2.2.1 t251 t252 t253).bind fun t280 => (if t280 = true then ((laws_markSessions.f k bt264.1 bt264.2.1 bt264.2.2.1 1).bind fun bt281 => ((laws_heldSessions.f k bt264.1 bt264.2.1 bt281.2 1).bind fun t283 => (if t283 < 0 then (some false) else (if t283 = bt281.1 then ((laws_toSessions.f k a0_0 a0_1 l0_2).bind fun bt284 => ((impl_Forget.f k bt284.1 bt284.2.1 bt284.2.2 a1).bind fun bt289 => ((laws_eqSessions.f k bt289.1 bt289.2.1 bt289.2.2.1 t251 t252 t253).bind fun t296 => (if t296 = true then (if (bt289.2.2.2 != t256) = true then (some false) else ((laws_heldSessions.f k bt264.1 bt264.2.1 bt281.2 1).bind fun t297 => (if t297 < 0 then (some false) else (if t297 = bt281.1 then (some true) else (some false))))) else (some false))))) else (some false))))) else (some false))))) else (some false))))) else (some false)))) = some r := H
  have A10 := Aside0.mk A100
  clear A100
  replace H := Option.bind_eq_some_iff.mp H
  obtain ⟨⟨t264, t265, t266, t269⟩, A110, H⟩ := H
  replace H : ((laws_eqSessions.f k t264 t265 t266 t251 t252 t253).bind fun t271 => (if t271 = true then (if (t269 != t256) = true then (some false) else ((laws_toSessions.f k a0_0 a0_1 l0_2).bind fun bt272 => ((laws_eqSessions.f k t258 t259 t260 bt272.1 bt272.2.1 bt272.2.2).bind fun t277 => (if t277 = true then ((laws_markSessions.f k t258 t259 t260 1).bind fun bt278 => (if bt278.1 < 0 then (some false) else ((laws_eqSessions.f k t264 t265 t266 t251 t252 t253).bind fun t280 => (if t280 = true then ((laws_markSessions.f k t264 t265 t266 1).bind fun bt281 => ((laws_heldSessions.f k t264 t265 bt281.2 1).bind fun t283 => (if t283 < 0 then (some false) else (if t283 = bt281.1 then ((laws_toSessions.f k a0_0 a0_1 l0_2).bind fun bt284 => ((impl_Forget.f k bt284.1 bt284.2.1 bt284.2.2 a1).bind fun bt289 => ((laws_eqSessions.f k bt289.1 bt289.2.1 bt289.2.2.1 t251 t252 t253).bind fun t296 => (if t296 = true then (if (bt289.2.2.2 != t256) = true then (some false) else ((laws_heldSessions.f k t264 t265 bt281.2 1).bind fun t297 => (if t297 < 0 then (some false) else (if t297 = bt281.1 then (some true) else (some false))))) else (some false))))) else (some false))))) else (some false))))) else (some false))))) else (some false))) = some r := H
  have A11 := Aside0.mk A110
  clear A110
  replace H := Option.bind_eq_some_iff.mp H
  obtain ⟨t271, A120, H⟩ := H
  replace H : (if t271 = true then (if (t269 != t256) = true then (some false) else ((laws_toSessions.f k a0_0 a0_1 l0_2).bind fun bt272 => ((laws_eqSessions.f k t258 t259 t260 bt272.1 bt272.2.1 bt272.2.2).bind fun t277 => (if t277 = true then ((laws_markSessions.f k t258 t259 t260 1).bind fun bt278 => (if bt278.1 < 0 then (some false) else ((laws_eqSessions.f k t264 t265 t266 t251 t252 t253).bind fun t280 => (if t280 = true then ((laws_markSessions.f k t264 t265 t266 1).bind fun bt281 => ((laws_heldSessions.f k t264 t265 bt281.2 1).bind fun t283 => (if t283 < 0 then (some false) else (if t283 = bt281.1 then ((laws_toSessions.f k a0_0 a0_1 l0_2).bind fun bt284 => ((impl_Forget.f k bt284.1 bt284.2.1 bt284.2.2 a1).bind fun bt289 => ((laws_eqSessions.f k bt289.1 bt289.2.1 bt289.2.2.1 t251 t252 t253).bind fun t296 => (if t296 = true then (if (bt289.2.2.2 != t256) = true then (some false) else ((laws_heldSessions.f k t264 t265 bt281.2 1).bind fun t297 => (if t297 < 0 then (some false) else (if t297 = bt281.1 then (some true) else (some false))))) else (some false))))) else (some false))))) else (some false))))) else (some false))))) else (some false)) = some r := H
  have A12 := Aside0.mk A120
  clear A120
  by_cases c13 : t271 = true
  rotate_left
  · replace c13 := Bool.eq_false_iff.mpr c13
    subst c13
    have H1 : (some false) = some r := by rw [if_neg (show ¬ (false = true) by decide)] at H; exact H
    clear H
    have H := H1
    clear H1
    exact absurd ((Option.some.inj H).trans hr_.out) (by decide)
  subst c13
  have H1 : (if (t269 != t256) = true then (some false) else ((laws_toSessions.f k a0_0 a0_1 l0_2).bind fun bt272 => ((laws_eqSessions.f k t258 t259 t260 bt272.1 bt272.2.1 bt272.2.2).bind fun t277 => (if t277 = true then ((laws_markSessions.f k t258 t259 t260 1).bind fun bt278 => (if bt278.1 < 0 then (some false) else ((laws_eqSessions.f k t264 t265 t266 t251 t252 t253).bind fun t280 => (if t280 = true then ((laws_markSessions.f k t264 t265 t266 1).bind fun bt281 => ((laws_heldSessions.f k t264 t265 bt281.2 1).bind fun t283 => (if t283 < 0 then (some false) else (if t283 = bt281.1 then ((laws_toSessions.f k a0_0 a0_1 l0_2).bind fun bt284 => ((impl_Forget.f k bt284.1 bt284.2.1 bt284.2.2 a1).bind fun bt289 => ((laws_eqSessions.f k bt289.1 bt289.2.1 bt289.2.2.1 t251 t252 t253).bind fun t296 => (if t296 = true then (if (bt289.2.2.2 != t256) = true then (some false) else ((laws_heldSessions.f k t264 t265 bt281.2 1).bind fun t297 => (if t297 < 0 then (some false) else (if t297 = bt281.1 then (some true) else (some false))))) else (some false))))) else (some false))))) else (some false))))) else (some false))))) = some r := by rw [if_pos rfl] at H; exact H
  clear H
  have H := H1
  clear H1
  by_cases c14 : (t269 != t256) = true
  · rw [if_pos c14] at H
    have c14b0 : (t269 != t256) = true := c14
    (try (have c14b1 : decide (t269 = t256) = false := by simpa using c14))
    (try (have c14b2 : (t269 == t256) = false := by simpa using c14))
    (try (have c14b3 : ¬ (t269 = t256) := by simpa using c14))
    clear c14
    exact absurd ((Option.some.inj H).trans hr_.out) (by decide)
  rw [if_neg c14] at H
  have c14b0 : (t269 != t256) = false := by simpa using c14
  (try (have c14b1 : decide (t269 = t256) = true := by simpa using c14))
  (try (have c14b2 : (t269 == t256) = true := by simpa using c14))
  clear c14
  replace H := Option.bind_eq_some_iff.mp H
  obtain ⟨⟨t272, t273, t274⟩, A150, H⟩ := H
  replace H : ((laws_eqSessions.f k t258 t259 t260 t272 t273 t274).bind fun t277 => (if t277 = true then ((laws_markSessions.f k t258 t259 t260 1).bind fun bt278 => (if bt278.1 < 0 then (some false) else ((laws_eqSessions.f k t264 t265 t266 t251 t252 t253).bind fun t280 => (if t280 = true then ((laws_markSessions.f k t264 t265 t266 1).bind fun bt281 => ((laws_heldSessions.f k t264 t265 bt281.2 1).bind fun t283 => (if t283 < 0 then (some false) else (if t283 = bt281.1 then ((laws_toSessions.f k a0_0 a0_1 l0_2).bind fun bt284 => ((impl_Forget.f k bt284.1 bt284.2.1 bt284.2.2 a1).bind fun bt289 => ((laws_eqSessions.f k bt289.1 bt289.2.1 bt289.2.2.1 t251 t252 t253).bind fun t296 => (if t296 = true then (if (bt289.2.2.2 != t256) = true then (some false) else ((laws_heldSessions.f k t264 t265 bt281.2 1).bind fun t297 => (if t297 < 0 then (some false) else (if t297 = bt281.1 then (some true) else (some false))))) else (some false))))) else (some false))))) else (some false))))) else (some false))) = some r := H
  have A15 := Aside0.mk A150
  clear A150
  replace H := Option.bind_eq_some_iff.mp H
  obtain ⟨t277, A160, H⟩ := H
  replace H : (if t277 = true then ((laws_markSessions.f k t258 t259 t260 1).bind fun bt278 => (if bt278.1 < 0 then (some false) else ((laws_eqSessions.f k t264 t265 t266 t251 t252 t253).bind fun t280 => (if t280 = true then ((laws_markSessions.f k t264 t265 t266 1).bind fun bt281 => ((laws_heldSessions.f k t264 t265 bt281.2 1).bind fun t283 => (if t283 < 0 then (some false) else (if t283 = bt281.1 then ((laws_toSessions.f k a0_0 a0_1 l0_2).bind fun bt284 => ((impl_Forget.f k bt284.1 bt284.2.1 bt284.2.2 a1).bind fun bt289 => ((laws_eqSessions.f k bt289.1 bt289.2.1 bt289.2.2.1 t251 t252 t253).bind fun t296 => (if t296 = true then (if (bt289.2.2.2 != t256) = true then (some false) else ((laws_heldSessions.f k t264 t265 bt281.2 1).bind fun t297 => (if t297 < 0 then (some false) else (if t297 = bt281.1 then (some true) else (some false))))) else (some false))))) else (some false))))) else (some false))))) else (some false)) = some r := H
  have A16 := Aside0.mk A160
  clear A160
  by_cases c17 : t277 = true
  rotate_left
  · replace c17 := Bool.eq_false_iff.mpr c17
    subst c17
    have H1 : (some false) = some r := by rw [if_neg (show ¬ (false = true) by decide)] at H; exact H
    clear H
    have H := H1
    clear H1
    exact absurd ((Option.some.inj H).trans hr_.out) (by decide)
  subst c17
  have H1 : ((laws_markSessions.f k t258 t259 t260 1).bind fun bt278 => (if bt278.1 < 0 then (some false) else ((laws_eqSessions.f k t264 t265 t266 t251 t252 t253).bind fun t280 => (if t280 = true then ((laws_markSessions.f k t264 t265 t266 1).bind fun bt281 => ((laws_heldSessions.f k t264 t265 bt281.2 1).bind fun t283 => (if t283 < 0 then (some false) else (if t283 = bt281.1 then ((laws_toSessions.f k a0_0 a0_1 l0_2).bind fun bt284 => ((impl_Forget.f k bt284.1 bt284.2.1 bt284.2.2 a1).bind fun bt289 => ((laws_eqSessions.f k bt289.1 bt289.2.1 bt289.2.2.1 t251 t252 t253).bind fun t296 => (if t296 = true then (if (bt289.2.2.2 != t256) = true then (some false) else ((laws_heldSessions.f k t264 t265 bt281.2 1).bind fun t297 => (if t297 < 0 then (some false) else (if t297 = bt281.1 then (some true) else (some false))))) else (some false))))) else (some false))))) else (some false))))) = some r := by rw [if_pos rfl] at H; exact H
  clear H
  have H := H1
  clear H1
  replace H := Option.bind_eq_some_iff.mp H
  obtain ⟨⟨t278, t279⟩, A180, H⟩ := H
  replace H : (if t278 < 0 then (some false) else ((laws_eqSessions.f k t264 t265 t266 t251 t252 t253).bind fun t280 => (if t280 = true then ((laws_markSessions.f k t264 t265 t266 1).bind fun bt281 => ((laws_heldSessions.f k t264 t265 bt281.2 1).bind fun t283 => (if t283 < 0 then (some false) else (if t283 = bt281.1 then ((laws_toSessions.f k a0_0 a0_1 l0_2).bind fun bt284 => ((impl_Forget.f k bt284.1 bt284.2.1 bt284.2.2 a1).bind fun bt289 => ((laws_eqSessions.f k bt289.1 bt289.2.1 bt289.2.2.1 t251 t252 t253).bind fun t296 => (if t296 = true then (if (bt289.2.2.2 != t256) = true then (some false) else ((laws_heldSessions.f k t264 t265 bt281.2 1).bind fun t297 => (if t297 < 0 then (some false) else (if t297 = bt281.1 then (some true) else (some false))))) else (some false))))) else (some false))))) else (some false)))) = some r := H
  have A18 := Aside0.mk A180
  clear A180
  by_cases c19 : t278 < 0
  · rw [if_pos c19] at H
    have c19b0 : decide (t278 < 0) = true := decide_eq_true c19
    clear c19
    exact absurd ((Option.some.inj H).trans hr_.out) (by decide)
  rw [if_neg c19] at H
  have c19b0 : decide (t278 < 0) = false := decide_eq_false c19
  clear c19
  replace H := Option.bind_eq_some_iff.mp H
  obtain ⟨t280, A200, H⟩ := H
  replace H : (if t280 = true then ((laws_markSessions.f k t264 t265 t266 1).bind fun bt281 => ((laws_heldSessions.f k t264 t265 bt281.2 1).bind fun t283 => (if t283 < 0 then (some false) else (if t283 = bt281.1 then ((laws_toSessions.f k a0_0 a0_1 l0_2).bind fun bt284 => ((impl_Forget.f k bt284.1 bt284.2.1 bt284.2.2 a1).bind fun bt289 => ((laws_eqSessions.f k bt289.1 bt289.2.1 bt289.2.2.1 t251 t252 t253).bind fun t296 => (if t296 = true then (if (bt289.2.2.2 != t256) = true then (some false) else ((laws_heldSessions.f k t264 t265 bt281.2 1).bind fun t297 => (if t297 < 0 then (some false) else (if t297 = bt281.1 then (some true) else (some false))))) else (some false))))) else (some false))))) else (some false)) = some r := H
  have A20 := Aside0.mk A200
  clear A200
  by_cases c21 : t280 = true
  rotate_left
  · replace c21 := Bool.eq_false_iff.mpr c21
    subst c21
    have H1 : (some false) = some r := by rw [if_neg (show ¬ (false = true) by decide)] at H; exact H
    clear H
    have H := H1
    clear H1
    exact absurd ((Option.some.inj H).trans hr_.out) (by decide)
  subst c21
  have H1 : ((laws_markSessions.f k t264 t265 t266 1).bind fun bt281 => ((laws_heldSessions.f k t264 t265 bt281.2 1).bind fun t283 => (if t283 < 0 then (some false) else (if t283 = bt281.1 then ((laws_toSessions.f k a0_0 a0_1 l0_2).bind fun bt284 => ((impl_Forget.f k bt284.1 bt284.2.1 bt284.2.2 a1).bind fun bt289 => ((laws_eqSessions.f k bt289.1 bt289.2.1 bt289.2.2.1 t251 t252 t253).bind fun t296 => (if t296 = true then (if (bt289.2.2.2 != t256) = true then (some false) else ((laws_heldSessions.f k t264 t265 bt281.2 1).bind fun t297 => (if t297 < 0 then (some false) else (if t297 = bt281.1 then (some true) else (some false))))) else (some false))))) else (some false))))) = some r := by rw [if_pos rfl] at H; exact H
  clear H
  have H := H1
  clear H1
  replace H := Option.bind_eq_some_iff.mp H
  obtain ⟨⟨t281, t282⟩, A220, H⟩ := H
  replace H : ((laws_heldSessions.f k t264 t265 t282 1).bind fun t283 => (if t283 < 0 then (some false) else (if t283 = t281 then ((laws_toSessions.f k a0_0 a0_1 l0_2).bind fun bt284 => ((impl_Forget.f k bt284.1 bt284.2.1 bt284.2.2 a1).bind fun bt289 => ((laws_eqSessions.f k bt289.1 bt289.2.1 bt289.2.2.1 t251 t252 t253).bind fun t296 => (if t296 = true then (if (bt289.2.2.2 != t256) = true then (some false) else ((laws_heldSessions.f k t264 t265 t282 1).bind fun t297 => (if t297 < 0 then (some false) else (if t297 = t281 then (some true) else (some false))))) else (some false))))) else (some false)))) = some r := H
  have A22 := Aside0.mk A220
  clear A220
  replace H := Option.bind_eq_some_iff.mp H
  obtain ⟨t283, A230, H⟩ := H
  replace H : (if t283 < 0 then (some false) else (if t283 = t281 then ((laws_toSessions.f k a0_0 a0_1 l0_2).bind fun bt284 => ((impl_Forget.f k bt284.1 bt284.2.1 bt284.2.2 a1).bind fun bt289 => ((laws_eqSessions.f k bt289.1 bt289.2.1 bt289.2.2.1 t251 t252 t253).bind fun t296 => (if t296 = true then (if (bt289.2.2.2 != t256) = true then (some false) else ((laws_heldSessions.f k t264 t265 t282 1).bind fun t297 => (if t297 < 0 then (some false) else (if t297 = t281 then (some true) else (some false))))) else (some false))))) else (some false))) = some r := H
  have A23 := Aside0.mk A230
  clear A230
  by_cases c24 : t283 < 0
  · rw [if_pos c24] at H
    have c24b0 : decide (t283 < 0) = true := decide_eq_true c24
    clear c24
    exact absurd ((Option.some.inj H).trans hr_.out) (by decide)
  rw [if_neg c24] at H
  have c24b0 : decide (t283 < 0) = false := decide_eq_false c24
  clear c24
  by_cases c25 : t283 = t281
  rotate_left
  · rw [if_neg c25] at H
    have c25b0 : (t283 == t281) = false := beq_eq_false_iff_ne.mpr c25
    have c25b1 : (t283 != t281) = true := bne_iff_ne.mpr c25
    exact absurd ((Option.some.inj H).trans hr_.out) (by decide)
  rw [if_pos c25] at H
  have c25b0 : (t283 == t281) = true := beq_iff_eq.mpr c25
  have c25b1 : (t283 != t281) = false := bne_eq_false_iff_eq.mpr c25
  clear c25
  replace H := Option.bind_eq_some_iff.mp H
  obtain ⟨⟨t284, t285, t286⟩, A260, H⟩ := H
  replace H : ((impl_Forget.f k t284 t285 t286 a1).bind fun bt289 => ((laws_eqSessions.f k bt289.1 bt289.2.1 bt289.2.2.1 t251 t252 t253).bind fun t296 => (if t296 = true then (if (bt289.2.2.2 != t256) = true then (some false) else ((laws_heldSessions.f k t264 t265 t282 1).bind fun t297 => (if t297 < 0 then (some false) else (if t297 = t281 then (some true) else (some false))))) else (some false)))) = some r := H
  have A26 := Aside0.mk A260
  clear A260
  replace H := Option.bind_eq_some_iff.mp H
  obtain ⟨⟨t289, t290, t291, t294⟩, A270, H⟩ := H
  replace H : ((laws_eqSessions.f k t289 t290 t291 t251 t252 t253).bind fun t296 => (if t296 = true then (if (t294 != t256) = true then (some false) else ((laws_heldSessions.f k t264 t265 t282 1).bind fun t297 => (if t297 < 0 then (some false) else (if t297 = t281 then (some true) else (some false))))) else (some false))) = some r := H
  have A27 := Aside0.mk A270
  clear A270
  replace H := Option.bind_eq_some_iff.mp H
  obtain ⟨t296, A280, H⟩ := H
  replace H : (if t296 = true then (if (t294 != t256) = true then (some false) else ((laws_heldSessions.f k t264 t265 t282 1).bind fun t297 => (if t297 < 0 then (some false) else (if t297 = t281 then (some true) else (some false))))) else (some false)) = some r := H
  have A28 := Aside0.mk A280
  clear A280
  by_cases c29 : t296 = true
  rotate_left
  · replace c29 := Bool.eq_false_iff.mpr c29
    subst c29
    have H1 : (some false) = some r := by rw [if_neg (show ¬ (false = true) by decide)] at H; exact H
    clear H
    have H := H1
    clear H1
    exact absurd ((Option.some.inj H).trans hr_.out) (by decide)
  subst c29
  have H1 : (if (t294 != t256) = true then (some false) else ((laws_heldSessions.f k t264 t265 t282 1).bind fun t297 => (if t297 < 0 then (some false) else (if t297 = t281 then (some true) else (some false))))) = some r := by rw [if_pos rfl] at H; exact H
  clear H
  have H := H1
  clear H1
  by_cases c30 : (t294 != t256) = true
  · rw [if_pos c30] at H
    have c30b0 : (t294 != t256) = true := c30
    (try (have c30b1 : decide (t294 = t256) = false := by simpa using c30))
    (try (have c30b2 : (t294 == t256) = false := by simpa using c30))
    (try (have c30b3 : ¬ (t294 = t256) := by simpa using c30))
    clear c30
    exact absurd ((Option.some.inj H).trans hr_.out) (by decide)
  rw [if_neg c30] at H
  have c30b0 : (t294 != t256) = false := by simpa using c30
  (try (have c30b1 : decide (t294 = t256) = true := by simpa using c30))
  (try (have c30b2 : (t294 == t256) = true := by simpa using c30))
  clear c30
  replace H := Option.bind_eq_some_iff.mp H
  obtain ⟨t297, A310, H⟩ := H
  replace H : (if t297 < 0 then (some false) else (if t297 = t281 then (some true) else (some false))) = some r := H
  have A31 := Aside0.mk A310
  clear A310
  by_cases c32 : t297 < 0
  · rw [if_pos c32] at H
    have c32b0 : decide (t297 < 0) = true := decide_eq_true c32
    clear c32
    exact absurd ((Option.some.inj H).trans hr_.out) (by decide)
  rw [if_neg c32] at H
  have c32b0 : decide (t297 < 0) = false := decide_eq_false c32
  clear c32
  by_cases c33 : t297 = t281
  rotate_left
  · rw [if_neg c33] at H
    have c33b0 : (t297 == t281) = false := beq_eq_false_iff_ne.mpr c33
    have c33b1 : (t297 != t281) = true := bne_iff_ne.mpr c33
    exact absurd ((Option.some.inj H).trans hr_.out) (by decide)
  rw [if_pos c33] at H
  have c33b0 : (t297 == t281) = true := beq_iff_eq.mpr c33
  have c33b1 : (t297 != t281) = false := bne_eq_false_iff_eq.mpr c33
  clear c33
  obtain rfl := Option.some.inj H
  have hcz34_0 : w6.cell? ⟨gb244, 0, none⟩ = some (.int .i64 a0_0) := (blk_cell BK244.out 0).trans rfl
  have hcz34_1 : w6.cell? ⟨gb244, 1, none⟩ = some (.int .i64 a0_1) := (blk_cell BK244.out 1).trans rfl
  have hcz34_2 : w6.cell? ⟨gb244, 2, none⟩ = some (.slice A0_2 l0_2.length c0_2) := (blk_cell BK244.out 2).trans rfl
  have hfz34_0 := blk_frozen BK244.out 0
  have hfz34_1 := blk_frozen BK244.out 1
  have hfz34_2 := blk_frozen BK244.out 2
  try go_wp2_with (first | ((with_reducible refine gate_callee (f := 9) rfl ?_); refine goesL_ (some 23) rfl rfl Try.func9 (by kernel_rfl) rfl #[.agg #[.int .i64 a0_0, .int .i64 a0_1, .slice A0_2 l0_2.length c0_2]] rfl u9_3 ?_; (with_reducible refine (laws_toSessions.calls k a0_0 a0_1 _ _ l0_2 t246 t247 t248 _ ?side1 ?side2 A8.out).mono ?_); (case side1 => exact u9_16); (case side2 => exact HC0_2.out); rintro e w35 ⟨v249, rfl, ho0, hb⟩; refine ⟨_, rfl, ?_⟩; have n0_ := Aside0.mk (Kd.R_lower ho0 (below_size u9_8)); have n1_ := Aside0.mk (blk_below (g := gb244) (o := .cells #[.int .i64 a0_0, .int .i64 a0_1, .slice A0_2 l0_2.length c0_2] 24 (0, 0)) u9_1 hb); have n2_ := Aside0.mk (below_step u9_8 hb); clear BK244; clear HB; have HO250 := n0_; have BK244 := n1_; have HB := n2_; clear n0_ n1_ n2_; (try clear hb); (try clear hb2); (try clear hk); (try clear hi); (try clear ho0); obtain ⟨Ao36, co36, eo36⟩ := Kd.R_slice HO250.out; subst eo36) | ((with_reducible refine gate_callee (f := 14) rfl ?_); refine goesL_ (some 25) rfl rfl Try.func14 (by kernel_rfl) rfl #[.agg #[.int .i64 t246, .int .i64 t247, .slice Ao36 t248.length co36], .int .i64 a1] rfl u9_3 ?_; (with_reducible refine (spec_Forget.calls k t246 t247 _ _ t248 a1 t251 t252 t253 t256 _ ?side1 ?side2 A9.out).mono ?_); (case side1 => exact (by repeat (first | exact (Kd.R_reads' HO250.out).2.2 | (with_reducible refine Kd.C_alloc ?_ _) | (with_reducible refine Kd.C_drewN ?_ _) | (with_reducible refine Kd.C_drew ?_)))); (case side2 => exact (Kd.R_reads' HO250.out).2.1); rintro e w37 ⟨v254, rfl, ho0, hb⟩; refine ⟨_, rfl, ?_⟩; have n0_ := Aside0.mk (Kd.R_elder' u9_6 (Kd.R_base ho0) hb); have n1_ := Aside0.mk (Kd.R_lower (Kd.R_new' ho0 (Kd.R_lt u9_6)) (below_size u9_8)); have n2_ := Aside0.mk (blk_below (g := gb244) (o := .cells #[.int .i64 a0_0, .int .i64 a0_1, .slice A0_2 l0_2.length c0_2] 24 (0, 0)) u9_1 hb); have n3_ := Aside0.mk (below_step u9_8 hb); clear HO250; clear BK244; clear HB; have HO250 := n0_; have HO255 := n1_; have BK244 := n2_; have HB := n3_; clear n0_ n1_ n2_ n3_; (try clear hb); (try clear hb2); (try clear hk); (try clear hi); (try clear ho0)) | ((with_reducible refine gate_dst (N := 6) rfl ?_); refine box_event ?hg (N := 6) ?hd (cs := #[.int .i64 0, .int .i64 0, .slice none 0 0]) (t := 29) ?hr ?_; (case hd => rfl); (case hg => rfl); (case hr => first | (go_simp; done) | (go_simp; rfl)); intro gb257 hg w38 hbox hb; have n0_ := Aside0.mk (Kd.R_below u9_6 hb); have n1_ := Aside0.mk (Kd.R_below u9_7 hb); have n2_ := Aside0.mk (blk_below (g := gb244) (o := .cells #[.int .i64 a0_0, .int .i64 a0_1, .slice A0_2 l0_2.length c0_2] 24 (0, 0)) u9_1 hb); have n3_ := Aside0.mk (below_step u9_8 hb); have n4_ := Aside0.mk (hbox); have n5_ := Aside0.mk ((by rw [hg]; exact (below_size u9_8) : w.heap.size ≤ gb257)); have n6_ := Aside0.mk ((by rw [hg]; exact (below_size u9_8) : w.heap.size ≤ gb257)); have n7_ := Aside0.mk ((by rw [hg]; exact Nat.ne_of_lt (blk_lt (g := gb244) (o := .cells #[.int .i64 a0_0, .int .i64 a0_1, .slice A0_2 l0_2.length c0_2] 24 (0, 0)) u9_1) : gb244 ≠ gb257)); have n8_ := Aside0.mk ((by rw [hg]; exact Nat.ne_of_gt (blk_lt (g := gb244) (o := .cells #[.int .i64 a0_0, .int .i64 a0_1, .slice A0_2 l0_2.length c0_2] 24 (0, 0)) u9_1) : gb257 ≠ gb244)); clear HO250; clear HO255; clear BK244; clear HB; have HO250 := n0_; have HO255 := n1_; have BK244 := n2_; have HB := n3_; have BK257 := n4_; have GW257 := n5_; have GE257 := n6_; have NB244_257 := n7_; have NB257_244 := n8_; clear n0_ n1_ n2_ n3_ n4_ n5_ n6_ n7_ n8_; clear hb hbox hg; have hnb39 := NB257_244.out; have hnc39 := NB244_257.out; have hcz40_0 : w38.cell? ⟨gb257, 0, none⟩ = some (.int .i64 0) := (blk_cell BK257.out 0).trans rfl; have hcz40_1 : w38.cell? ⟨gb257, 1, none⟩ = some (.int .i64 0) := (blk_cell BK257.out 1).trans rfl; have hcz40_2 : w38.cell? ⟨gb257, 2, none⟩ = some (.slice none 0 0) := (blk_cell BK257.out 2).trans rfl; have hfz40_0 := blk_frozen BK257.out 0; have hfz40_1 := blk_frozen BK257.out 1; have hfz40_2 := blk_frozen BK257.out 2; obtain ⟨Ao41, co41, eo41⟩ := Kd.R_slice HO255.out; subst eo41; have hcz42_0 : w38.cell? ⟨gb244, 0, none⟩ = some (.int .i64 a0_0) := (blk_cell BK244.out 0).trans rfl; have hcz42_1 : w38.cell? ⟨gb244, 1, none⟩ = some (.int .i64 a0_1) := (blk_cell BK244.out 1).trans rfl; have hcz42_2 : w38.cell? ⟨gb244, 2, none⟩ = some (.slice A0_2 l0_2.length c0_2) := (blk_cell BK244.out 2).trans rfl; have hfz42_0 := blk_frozen BK244.out 0; have hfz42_1 := blk_frozen BK244.out 1; have hfz42_2 := blk_frozen BK244.out 2) | ((with_reducible refine gate_callee (f := 9) rfl ?_); refine goesL_ (some 29) rfl rfl Try.func9 (by kernel_rfl) rfl #[.agg #[.int .i64 a0_0, .int .i64 a0_1, .slice A0_2 l0_2.length c0_2]] rfl u9_3 ?_; (with_reducible refine (laws_toSessions.calls k a0_0 a0_1 _ _ l0_2 t258 t259 t260 _ ?side1 ?side2 A10.out).mono ?_); (case side1 => exact (by exact Kd.C_below HR0_2.out u9_12)); (case side2 => exact HC0_2.out); rintro e w43 ⟨v261, rfl, ho0, hb⟩; refine ⟨_, rfl, ?_⟩; have n0_ := Aside0.mk (Kd.R_elder' u9_18 (Kd.R_base ho0) hb); have n1_ := Aside0.mk (Kd.R_elder' u9_19 (Kd.R_base ho0) hb); have n2_ := Aside0.mk (Kd.R_lower (Kd.R_new' (Kd.R_new' ho0 (Kd.R_lt u9_18)) (Kd.R_lt u9_19)) (below_size u9_12)); have n3_ := Aside0.mk (blk_below (g := gb244) (o := .cells #[.int .i64 a0_0, .int .i64 a0_1, .slice A0_2 l0_2.length c0_2] 24 (0, 0)) (by (with_reducible repeat (first | refine blk_drewN ?_ _ | refine blk_drew ?_ | refine blk_alloc ?_ _)); refine blk_far ?_ NB244_257.out _; (with_reducible repeat (first | refine blk_drewN ?_ _ | refine blk_drew ?_ | refine blk_alloc ?_ _)); refine blk_far ?_ NB244_257.out _; (with_reducible repeat (first | refine blk_drewN ?_ _ | refine blk_drew ?_ | refine blk_alloc ?_ _)); refine blk_far ?_ NB244_257.out _; (with_reducible repeat (first | refine blk_drewN ?_ _ | refine blk_drew ?_ | refine blk_alloc ?_ _)); exact BK244.out) hb); have n4_ := Aside0.mk (blk_below (g := gb257) (o := .cells #[.int .i64 t251, .int .i64 t252, .slice Ao41 t253.length co41] 29 (0, 0)) (by (with_reducible repeat (first | refine blk_drewN ?_ _ | refine blk_drew ?_ | refine blk_alloc ?_ _)); refine blk_put (cs := #[.int .i64 t251, .int .i64 t252, .slice none 0 0]) ?_ 2 _ rfl; (with_reducible repeat (first | refine blk_drewN ?_ _ | refine blk_drew ?_ | refine blk_alloc ?_ _)); refine blk_put (cs := #[.int .i64 t251, .int .i64 0, .slice none 0 0]) ?_ 1 _ rfl; (with_reducible repeat (first | refine blk_drewN ?_ _ | refine blk_drew ?_ | refine blk_alloc ?_ _)); refine blk_put (cs := #[.int .i64 0, .int .i64 0, .slice none 0 0]) ?_ 0 _ rfl; (with_reducible repeat (first | refine blk_drewN ?_ _ | refine blk_drew ?_ | refine blk_alloc ?_ _)); exact BK257.out) hb); have n5_ := Aside0.mk (below_step u9_12 hb); clear HO250; clear HO255; clear BK244; clear BK257; clear HB; have HO250 := n0_; have HO255 := n1_; have HO262 := n2_; have BK244 := n3_; have BK257 := n4_; have HB := n5_; clear n0_ n1_ n2_ n3_ n4_ n5_; (try clear hb); (try clear hb2); (try clear hk); (try clear hi); (try clear ho0)) | ((with_reducible refine gate_dst (N := 8) rfl ?_); refine box_event ?hg (N := 8) ?hd (cs := #[.int .i64 0, .int .i64 0, .slice none 0 0]) (t := 29) ?hr ?_; (case hd => rfl); (case hg => rfl); (case hr => first | (go_simp; done) | (go_simp; rfl)); intro gb263 hg w44 hbox hb; have n0_ := Aside0.mk (Kd.R_below u9_6 hb); have n1_ := Aside0.mk (Kd.R_below u9_7 hb); have n2_ := Aside0.mk (Kd.R_below u9_10 hb); have n3_ := Aside0.mk (blk_below (g := gb244) (o := .cells #[.int .i64 a0_0, .int .i64 a0_1, .slice A0_2 l0_2.length c0_2] 24 (0, 0)) u9_1 hb); have n4_ := Aside0.mk (blk_below (g := gb257) (o := .cells #[.int .i64 t251, .int .i64 t252, .slice Ao41 t253.length co41] 29 (0, 0)) u9_2 hb); have n5_ := Aside0.mk (below_step u9_12 hb); have n6_ := Aside0.mk (hbox); have n7_ := Aside0.mk ((by rw [hg]; exact (below_size u9_12) : w.heap.size ≤ gb263)); have n8_ := Aside0.mk ((by rw [hg]; exact (below_size u9_12) : w.heap.size ≤ gb263)); have n9_ := Aside0.mk ((by rw [hg]; exact Nat.ne_of_lt (blk_lt (g := gb244) (o := .cells #[.int .i64 a0_0, .int .i64 a0_1, .slice A0_2 l0_2.length c0_2] 24 (0, 0)) u9_1) : gb244 ≠ gb263)); have n10_ := Aside0.mk ((by rw [hg]; exact Nat.ne_of_gt (blk_lt (g := gb244) (o := .cells #[.int .i64 a0_0, .int .i64 a0_1, .slice A0_2 l0_2.length c0_2] 24 (0, 0)) u9_1) : gb263 ≠ gb244)); have n11_ := Aside0.mk ((by rw [hg]; exact Nat.ne_of_lt (blk_lt (g := gb257) (o := .cells #[.int .i64 t251, .int .i64 t252, .slice Ao41 t253.length co41] 29 (0, 0)) u9_2) : gb257 ≠ gb263)); have n12_ := Aside0.mk ((by rw [hg]; exact Nat.ne_of_gt (blk_lt (g := gb257) (o := .cells #[.int .i64 t251, .int .i64 t252, .slice Ao41 t253.length co41] 29 (0, 0)) u9_2) : gb263 ≠ gb257)); clear HO250; clear HO255; clear HO262; clear BK244; clear BK257; clear HB; have HO250 := n0_; have HO255 := n1_; have HO262 := n2_; have BK244 := n3_; have BK257 := n4_; have HB := n5_; have BK263 := n6_; have GW263 := n7_; have GE263 := n8_; have NB244_263 := n9_; have NB263_244 := n10_; have NB257_263 := n11_; have NB263_257 := n12_; clear n0_ n1_ n2_ n3_ n4_ n5_ n6_ n7_ n8_ n9_ n10_ n11_ n12_; clear hb hbox hg; have hnb45 := NB263_244.out; have hnc45 := NB244_263.out; have hnb46 := NB263_257.out; have hnc46 := NB257_263.out; have hcz47_0 : w44.cell? ⟨gb263, 0, none⟩ = some (.int .i64 0) := (blk_cell BK263.out 0).trans rfl; have hcz47_1 : w44.cell? ⟨gb263, 1, none⟩ = some (.int .i64 0) := (blk_cell BK263.out 1).trans rfl; have hcz47_2 : w44.cell? ⟨gb263, 2, none⟩ = some (.slice none 0 0) := (blk_cell BK263.out 2).trans rfl; have hfz47_0 := blk_frozen BK263.out 0; have hfz47_1 := blk_frozen BK263.out 1; have hfz47_2 := blk_frozen BK263.out 2; obtain ⟨Ao48, co48, eo48⟩ := Kd.R_slice HO262.out; subst eo48) | ((with_reducible refine gate_callee (f := 15) rfl ?_); refine goesL_ (some 33) rfl rfl Try.func15 (by kernel_rfl) rfl #[.agg #[.int .i64 t258, .int .i64 t259, .slice Ao48 t260.length co48], .int .i64 a1] rfl u9_3 ?_; (with_reducible refine (impl_Forget.calls k t258 t259 _ _ t260 a1 t264 t265 t266 t269 _ ?side1 ?side2 A11.out).mono ?_); (case side1 => exact (by refine (Kd.R_reads' (e := 45) (base := w.heap.size) (ok := fun k_ => ((True ∧ some k_ ≠ (.slice Ao36 t248.length co36 : Value).ownBlock) ∧ some k_ ≠ (.slice Ao41 t253.length co41 : Value).ownBlock)) (n := t260.length) (c := co48) ?_).2.2; exact u9_15)); (case side2 => exact (Kd.R_reads' HO262.out).2.1); rintro e w49 ⟨v267, rfl, ho0, hb⟩; refine ⟨_, rfl, ?_⟩; have n0_ := Aside0.mk (Kd.R_elder' u9_20 (Kd.R_base ho0) hb); have n1_ := Aside0.mk (Kd.R_elder' u9_21 (Kd.R_base ho0) hb); have n2_ := Aside0.mk (Kd.R_elder' u9_15 (Kd.R_base ho0) hb); have n3_ := Aside0.mk (Kd.R_lower (Kd.R_new' (Kd.R_new' (Kd.R_new' ho0 (Kd.R_lt u9_20)) (Kd.R_lt u9_21)) (Kd.R_lt u9_15)) (below_size u9_13)); have n4_ := Aside0.mk (blk_below (g := gb244) (o := .cells #[.int .i64 a0_0, .int .i64 a0_1, .slice A0_2 l0_2.length c0_2] 24 (0, 0)) (by (with_reducible repeat (first | refine blk_drewN ?_ _ | refine blk_drew ?_ | refine blk_alloc ?_ _)); refine blk_far ?_ NB244_263.out _; (with_reducible repeat (first | refine blk_drewN ?_ _ | refine blk_drew ?_ | refine blk_alloc ?_ _)); refine blk_far ?_ NB244_263.out _; (with_reducible repeat (first | refine blk_drewN ?_ _ | refine blk_drew ?_ | refine blk_alloc ?_ _)); refine blk_far ?_ NB244_263.out _; (with_reducible repeat (first | refine blk_drewN ?_ _ | refine blk_drew ?_ | refine blk_alloc ?_ _)); exact BK244.out) hb); have n5_ := Aside0.mk (blk_below (g := gb257) (o := .cells #[.int .i64 t251, .int .i64 t252, .slice Ao41 t253.length co41] 29 (0, 0)) (by (with_reducible repeat (first | refine blk_drewN ?_ _ | refine blk_drew ?_ | refine blk_alloc ?_ _)); refine blk_far ?_ NB257_263.out _; (with_reducible repeat (first | refine blk_drewN ?_ _ | refine blk_drew ?_ | refine blk_alloc ?_ _)); refine blk_far ?_ NB257_263.out _; (with_reducible repeat (first | refine blk_drewN ?_ _ | refine blk_drew ?_ | refine blk_alloc ?_ _)); refine blk_far ?_ NB257_263.out _; (with_reducible repeat (first | refine blk_drewN ?_ _ | refine blk_drew ?_ | refine blk_alloc ?_ _)); exact BK257.out) hb); have n6_ := Aside0.mk (blk_below (g := gb263) (o := .cells #[.int .i64 t258, .int .i64 t259, .slice Ao48 t260.length co48] 29 (0, 0)) (by (with_reducible repeat (first | refine blk_drewN ?_ _ | refine blk_drew ?_ | refine blk_alloc ?_ _)); refine blk_put (cs := #[.int .i64 t258, .int .i64 t259, .slice none 0 0]) ?_ 2 _ rfl; (with_reducible repeat (first | refine blk_drewN ?_ _ | refine blk_drew ?_ | refine blk_alloc ?_ _)); refine blk_put (cs := #[.int .i64 t258, .int .i64 0, .slice none 0 0]) ?_ 1 _ rfl; (with_reducible repeat (first | refine blk_drewN ?_ _ | refine blk_drew ?_ | refine blk_alloc ?_ _)); refine blk_put (cs := #[.int .i64 0, .int .i64 0, .slice none 0 0]) ?_ 0 _ rfl; (with_reducible repeat (first | refine blk_drewN ?_ _ | refine blk_drew ?_ | refine blk_alloc ?_ _)); exact BK263.out) hb); have n7_ := Aside0.mk (below_step u9_13 hb); clear HO250; clear HO255; clear HO262; clear BK244; clear BK257; clear BK263; clear HB; have HO250 := n0_; have HO255 := n1_; have HO262 := n2_; have HO268 := n3_; have BK244 := n4_; have BK257 := n5_; have BK263 := n6_; have HB := n7_; clear n0_ n1_ n2_ n3_ n4_ n5_ n6_ n7_; (try clear hb); (try clear hb2); (try clear hk); (try clear hi); (try clear ho0)) | ((with_reducible refine gate_dst (N := 9) rfl ?_); refine box_event ?hg (N := 9) ?hd (cs := #[.int .i64 0, .int .i64 0, .slice none 0 0]) (t := 29) ?hr ?_; (case hd => rfl); (case hg => rfl); (case hr => first | (go_simp; done) | (go_simp; rfl)); intro gb270 hg w50 hbox hb; have n0_ := Aside0.mk (Kd.R_below u9_6 hb); have n1_ := Aside0.mk (Kd.R_below u9_7 hb); have n2_ := Aside0.mk (Kd.R_below u9_10 hb); have n3_ := Aside0.mk (Kd.R_below u9_11 hb); have n4_ := Aside0.mk (blk_below (g := gb244) (o := .cells #[.int .i64 a0_0, .int .i64 a0_1, .slice A0_2 l0_2.length c0_2] 24 (0, 0)) u9_1 hb); have n5_ := Aside0.mk (blk_below (g := gb257) (o := .cells #[.int .i64 t251, .int .i64 t252, .slice Ao41 t253.length co41] 29 (0, 0)) u9_2 hb); have n6_ := Aside0.mk (blk_below (g := gb263) (o := .cells #[.int .i64 t258, .int .i64 t259, .slice Ao48 t260.length co48] 29 (0, 0)) u9_5 hb); have n7_ := Aside0.mk (below_step u9_13 hb); have n8_ := Aside0.mk (hbox); have n9_ := Aside0.mk ((by rw [hg]; exact (below_size u9_13) : w.heap.size ≤ gb270)); have n10_ := Aside0.mk ((by rw [hg]; exact (below_size u9_13) : w.heap.size ≤ gb270)); have n11_ := Aside0.mk ((by rw [hg]; exact Nat.ne_of_lt (blk_lt (g := gb244) (o := .cells #[.int .i64 a0_0, .int .i64 a0_1, .slice A0_2 l0_2.length c0_2] 24 (0, 0)) u9_1) : gb244 ≠ gb270)); have n12_ := Aside0.mk ((by rw [hg]; exact Nat.ne_of_gt (blk_lt (g := gb244) (o := .cells #[.int .i64 a0_0, .int .i64 a0_1, .slice A0_2 l0_2.length c0_2] 24 (0, 0)) u9_1) : gb270 ≠ gb244)); have n13_ := Aside0.mk ((by rw [hg]; exact Nat.ne_of_lt (blk_lt (g := gb257) (o := .cells #[.int .i64 t251, .int .i64 t252, .slice Ao41 t253.length co41] 29 (0, 0)) u9_2) : gb257 ≠ gb270)); have n14_ := Aside0.mk ((by rw [hg]; exact Nat.ne_of_gt (blk_lt (g := gb257) (o := .cells #[.int .i64 t251, .int .i64 t252, .slice Ao41 t253.length co41] 29 (0, 0)) u9_2) : gb270 ≠ gb257)); have n15_ := Aside0.mk ((by rw [hg]; exact Nat.ne_of_lt (blk_lt (g := gb263) (o := .cells #[.int .i64 t258, .int .i64 t259, .slice Ao48 t260.length co48] 29 (0, 0)) u9_5) : gb263 ≠ gb270)); have n16_ := Aside0.mk ((by rw [hg]; exact Nat.ne_of_gt (blk_lt (g := gb263) (o := .cells #[.int .i64 t258, .int .i64 t259, .slice Ao48 t260.length co48] 29 (0, 0)) u9_5) : gb270 ≠ gb263)); clear HO250; clear HO255; clear HO262; clear HO268; clear BK244; clear BK257; clear BK263; clear HB; have HO250 := n0_; have HO255 := n1_; have HO262 := n2_; have HO268 := n3_; have BK244 := n4_; have BK257 := n5_; have BK263 := n6_; have HB := n7_; have BK270 := n8_; have GW270 := n9_; have GE270 := n10_; have NB244_270 := n11_; have NB270_244 := n12_; have NB257_270 := n13_; have NB270_257 := n14_; have NB263_270 := n15_; have NB270_263 := n16_; clear n0_ n1_ n2_ n3_ n4_ n5_ n6_ n7_ n8_ n9_ n10_ n11_ n12_ n13_ n14_ n15_ n16_; clear hb hbox hg; have hnb51 := NB270_244.out; have hnc51 := NB244_270.out; have hnb52 := NB270_257.out; have hnc52 := NB257_270.out; have hnb53 := NB270_263.out; have hnc53 := NB263_270.out; have hcz54_0 : w50.cell? ⟨gb270, 0, none⟩ = some (.int .i64 0) := (blk_cell BK270.out 0).trans rfl; have hcz54_1 : w50.cell? ⟨gb270, 1, none⟩ = some (.int .i64 0) := (blk_cell BK270.out 1).trans rfl; have hcz54_2 : w50.cell? ⟨gb270, 2, none⟩ = some (.slice none 0 0) := (blk_cell BK270.out 2).trans rfl; have hfz54_0 := blk_frozen BK270.out 0; have hfz54_1 := blk_frozen BK270.out 1; have hfz54_2 := blk_frozen BK270.out 2; obtain ⟨Ao55, co55, eo55⟩ := Kd.R_slice HO268.out; subst eo55; have hcz56_0 : w50.cell? ⟨gb257, 0, none⟩ = some (.int .i64 t251) := (blk_cell BK257.out 0).trans rfl; have hcz56_1 : w50.cell? ⟨gb257, 1, none⟩ = some (.int .i64 t252) := (blk_cell BK257.out 1).trans rfl; have hcz56_2 : w50.cell? ⟨gb257, 2, none⟩ = some (.slice Ao41 t253.length co41) := (blk_cell BK257.out 2).trans rfl; have hfz56_0 := blk_frozen BK257.out 0; have hfz56_1 := blk_frozen BK257.out 1; have hfz56_2 := blk_frozen BK257.out 2) | ((with_reducible refine gate_callee (f := 11) rfl ?_); refine goesL_ (some 38) rfl rfl Try.func11 (by kernel_rfl) rfl #[.agg #[.int .i64 t264, .int .i64 t265, .slice Ao55 t266.length co55], .agg #[.int .i64 t251, .int .i64 t252, .slice Ao41 t253.length co41]] rfl u9_3 ?_; (with_reducible refine (laws_eqSessions.calls k t264 t265 _ _ t266 t251 t252 _ _ t253 true _ ?side1 ?side2 ?side3 ?side4 A12.out).mono ?_); (case side1 => exact (by refine (Kd.R_reads' (e := 45) (base := w.heap.size) (ok := fun k_ => (((True ∧ some k_ ≠ (.slice Ao36 t248.length co36 : Value).ownBlock) ∧ some k_ ≠ (.slice Ao41 t253.length co41 : Value).ownBlock) ∧ some k_ ≠ (.slice Ao48 t260.length co48 : Value).ownBlock)) (n := t266.length) (c := co55) ?_).2.2; exact u9_22)); (case side2 => exact (Kd.R_reads' HO268.out).2.1); (case side3 => exact (by refine (Kd.R_reads' (e := 45) (base := w.heap.size) (ok := fun k_ => (((True ∧ some k_ ≠ (.slice Ao36 t248.length co36 : Value).ownBlock) ∧ some k_ ≠ (.slice Ao48 t260.length co48 : Value).ownBlock) ∧ some k_ ≠ (.slice Ao55 t266.length co55 : Value).ownBlock)) (n := t253.length) (c := co41) ?_).2.2; exact u9_23)); (case side4 => exact (Kd.R_reads' HO255.out).2.1); rintro e w57 ⟨rfl, hb⟩; refine ⟨_, rfl, ?_⟩; have n0_ := Aside0.mk (Kd.R_below (by (with_reducible repeat (first | apply Kd.R_alloc | apply Kd.R_drewN | apply Kd.R_drew)); exact (Kd.R_mono (Kd.R_far (p := ⟨gb270, 2, none⟩) (Kd.R_far (p := ⟨gb270, 1, none⟩) (Kd.R_far (p := ⟨gb270, 0, none⟩) (Kd.R_types HO250.out BK270.out (by decide)) (fun _ hk => hk.2) (.int .i64 t264)) (fun _ hk => hk.2) (.int .i64 t265)) (fun _ hk => hk.2) (.slice Ao55 t266.length co55)) (fun _ h_ => h_.1))) hb); have n1_ := Aside0.mk (Kd.R_below u9_23 hb); have n2_ := Aside0.mk (Kd.R_below (by (with_reducible repeat (first | apply Kd.R_alloc | apply Kd.R_drewN | apply Kd.R_drew)); exact (Kd.R_mono (Kd.R_far (p := ⟨gb270, 2, none⟩) (Kd.R_far (p := ⟨gb270, 1, none⟩) (Kd.R_far (p := ⟨gb270, 0, none⟩) (Kd.R_types HO262.out BK270.out (by decide)) (fun _ hk => hk.2) (.int .i64 t264)) (fun _ hk => hk.2) (.int .i64 t265)) (fun _ hk => hk.2) (.slice Ao55 t266.length co55)) (fun _ h_ => h_.1))) hb); have n3_ := Aside0.mk (Kd.R_below u9_22 hb); have n4_ := Aside0.mk (blk_below (g := gb244) (o := .cells #[.int .i64 a0_0, .int .i64 a0_1, .slice A0_2 l0_2.length c0_2] 24 (0, 0)) (by (with_reducible repeat (first | refine blk_drewN ?_ _ | refine blk_drew ?_ | refine blk_alloc ?_ _)); refine blk_far ?_ NB244_270.out _; (with_reducible repeat (first | refine blk_drewN ?_ _ | refine blk_drew ?_ | refine blk_alloc ?_ _)); refine blk_far ?_ NB244_270.out _; (with_reducible repeat (first | refine blk_drewN ?_ _ | refine blk_drew ?_ | refine blk_alloc ?_ _)); refine blk_far ?_ NB244_270.out _; (with_reducible repeat (first | refine blk_drewN ?_ _ | refine blk_drew ?_ | refine blk_alloc ?_ _)); exact BK244.out) hb); have n5_ := Aside0.mk (blk_below (g := gb257) (o := .cells #[.int .i64 t251, .int .i64 t252, .slice Ao41 t253.length co41] 29 (0, 0)) (by (with_reducible repeat (first | refine blk_drewN ?_ _ | refine blk_drew ?_ | refine blk_alloc ?_ _)); refine blk_far ?_ NB257_270.out _; (with_reducible repeat (first | refine blk_drewN ?_ _ | refine blk_drew ?_ | refine blk_alloc ?_ _)); refine blk_far ?_ NB257_270.out _; (with_reducible repeat (first | refine blk_drewN ?_ _ | refine blk_drew ?_ | refine blk_alloc ?_ _)); refine blk_far ?_ NB257_270.out _; (with_reducible repeat (first | refine blk_drewN ?_ _ | refine blk_drew ?_ | refine blk_alloc ?_ _)); exact BK257.out) hb); have n6_ := Aside0.mk (blk_below (g := gb263) (o := .cells #[.int .i64 t258, .int .i64 t259, .slice Ao48 t260.length co48] 29 (0, 0)) (by (with_reducible repeat (first | refine blk_drewN ?_ _ | refine blk_drew ?_ | refine blk_alloc ?_ _)); refine blk_far ?_ NB263_270.out _; (with_reducible repeat (first | refine blk_drewN ?_ _ | refine blk_drew ?_ | refine blk_alloc ?_ _)); refine blk_far ?_ NB263_270.out _; (with_reducible repeat (first | refine blk_drewN ?_ _ | refine blk_drew ?_ | refine blk_alloc ?_ _)); refine blk_far ?_ NB263_270.out _; (with_reducible repeat (first | refine blk_drewN ?_ _ | refine blk_drew ?_ | refine blk_alloc ?_ _)); exact BK263.out) hb); have n7_ := Aside0.mk (blk_below (g := gb270) (o := .cells #[.int .i64 t264, .int .i64 t265, .slice Ao55 t266.length co55] 29 (0, 0)) (by (with_reducible repeat (first | refine blk_drewN ?_ _ | refine blk_drew ?_ | refine blk_alloc ?_ _)); refine blk_put (cs := #[.int .i64 t264, .int .i64 t265, .slice none 0 0]) ?_ 2 _ rfl; (with_reducible repeat (first | refine blk_drewN ?_ _ | refine blk_drew ?_ | refine blk_alloc ?_ _)); refine blk_put (cs := #[.int .i64 t264, .int .i64 0, .slice none 0 0]) ?_ 1 _ rfl; (with_reducible repeat (first | refine blk_drewN ?_ _ | refine blk_drew ?_ | refine blk_alloc ?_ _)); refine blk_put (cs := #[.int .i64 0, .int .i64 0, .slice none 0 0]) ?_ 0 _ rfl; (with_reducible repeat (first | refine blk_drewN ?_ _ | refine blk_drew ?_ | refine blk_alloc ?_ _)); exact BK270.out) hb); have n8_ := Aside0.mk (below_step u9_0 hb); clear HO250; clear HO255; clear HO262; clear HO268; clear BK244; clear BK257; clear BK263; clear BK270; clear HB; have HO250 := n0_; have HO255 := n1_; have HO262 := n2_; have HO268 := n3_; have BK244 := n4_; have BK257 := n5_; have BK263 := n6_; have BK270 := n7_; have HB := n8_; clear n0_ n1_ n2_ n3_ n4_ n5_ n6_ n7_ n8_; (try clear hb); (try clear hb2); (try clear hk); (try clear hi)))
  have n0_ := Aside0.mk (Kd.R_drew HO250.out)
  have n1_ := Aside0.mk (Kd.R_drew HO255.out)
  have n2_ := Aside0.mk (Kd.R_drew HO262.out)
  have n3_ := Aside0.mk (Kd.R_drew HO268.out)
  have n4_ := Aside0.mk (blk_drew BK244.out)
  have n5_ := Aside0.mk (blk_drew BK257.out)
  have n6_ := Aside0.mk (blk_drew BK263.out)
  have n7_ := Aside0.mk (blk_drew BK270.out)
  have n8_ := Aside0.mk (below_drew1 HB.out)
  clear HO250
  clear HO255
  clear HO262
  clear HO268
  clear BK244
  clear BK257
  clear BK263
  clear BK270
  clear HB
  have HO250 := n0_
  have HO255 := n1_
  have HO262 := n2_
  have HO268 := n3_
  have BK244 := n4_
  have BK257 := n5_
  have BK263 := n6_
  have BK270 := n7_
  have HB := n8_
  clear n0_ n1_ n2_ n3_ n4_ n5_ n6_ n7_ n8_
  refine start_ (n := 5) (S := fun w' => w'.cell? ⟨gb263, 0, none⟩ = some (.int .i64 t258) ∧ w'.cell? ⟨gb263, 1, none⟩ = some (.int .i64 t259) ∧ w'.cell? ⟨gb263, 2, none⟩ = some (.slice Ao48 t260.length co48) ∧ w'.cell? ⟨gb244, 0, none⟩ = some (.int .i64 a0_0) ∧ w'.cell? ⟨gb244, 1, none⟩ = some (.int .i64 a0_1) ∧ w'.cell? ⟨gb244, 2, none⟩ = some (.slice A0_2 l0_2.length c0_2)) (ds := []) #[false, false, false, false, false] (by kernel_rfl) rfl rfl ⟨(blk_cell BK263.out 0).trans rfl, (blk_cell BK263.out 1).trans rfl, (blk_cell BK263.out 2).trans rfl, (blk_cell BK244.out 0).trans rfl, (blk_cell BK244.out 1).trans rfl, (blk_cell BK244.out 2).trans rfl⟩ (fun hHeld => ?_)
  generalize w57.drew = w58 at HO250 HO255 HO262 HO268 BK244 BK257 BK263 BK270 HB hHeld ⊢
  refine take_ (i := 0) (N := some 45) (v := ?_) (a' := ?_) #[true, false, false, false, false] rfl rfl (by kernel_rfl) (fun _ _ _ h => h) (Or.inl ⟨by rfl, ?_⟩) hHeld ?_ ?_
  rotate_left
  · rintro w' ⟨s0, s1, s2, s3, s4, s5⟩
    go_simp
    with_reducible rfl
  rotate_left
  · simp only [Act.put, List.setIfInBounds_toArray, List.set_cons_zero, List.set_cons_succ, i64_w, i32_w]
    rfl
  refine take_ (i := 1) (N := some 46) (v := ?_) (a' := ?_) #[true, true, false, false, false] rfl rfl (by kernel_rfl) (fun _ _ _ h => h) (Or.inl ⟨by rfl, ?_⟩) hHeld ?_ ?_
  rotate_left
  · rintro w' ⟨s0, s1, s2, s3, s4, s5⟩
    go_simp
    with_reducible rfl
  rotate_left
  · simp only [Act.put, List.setIfInBounds_toArray, List.set_cons_zero, List.set_cons_succ, i64_w, i32_w]
    rfl
  refine one_ (i := 2) (N := some 47) #[true, true, true, false, false] rfl rfl (by kernel_rfl) (by decide) (fun K hK => ?_)
  refine goes_ Try.func9 (by kernel_rfl) rfl #[.agg #[.int .i64 a0_0, .int .i64 a0_1, .slice A0_2 l0_2.length c0_2]] (by rfl) rfl rfl u9_3 ?_
  with_reducible refine (laws_toSessions.calls k a0_0 a0_1 _ _ l0_2 t272 t273 t274 _ ?side1 ?side2 A15.out).mono ?_
  (case side1 => exact u9_16)
  (case side2 => exact HC0_2.out)
  rintro e w59 ⟨v275, rfl, ho0, hb⟩
  refine ⟨_, rfl, ?_⟩
  have n0_ := Aside0.mk (Kd.R_elder' u9_6 (Kd.R_base ho0) hb)
  have n1_ := Aside0.mk (Kd.R_elder' u9_7 (Kd.R_base ho0) hb)
  have n2_ := Aside0.mk (Kd.R_elder' u9_10 (Kd.R_base ho0) hb)
  have n3_ := Aside0.mk (Kd.R_elder' u9_11 (Kd.R_base ho0) hb)
  have n4_ := Aside0.mk (Kd.R_lower (Kd.R_new' (Kd.R_new' (Kd.R_new' (Kd.R_new' ho0 (Kd.R_lt u9_6)) (Kd.R_lt u9_7)) (Kd.R_lt u9_10)) (Kd.R_lt u9_11)) (below_size u9_0))
  have n5_ := Aside0.mk (blk_below (g := gb244) (o := .cells #[.int .i64 a0_0, .int .i64 a0_1, .slice A0_2 l0_2.length c0_2] 24 (0, 0)) u9_1 hb)
  have n6_ := Aside0.mk (blk_below (g := gb257) (o := .cells #[.int .i64 t251, .int .i64 t252, .slice Ao41 t253.length co41] 29 (0, 0)) u9_2 hb)
  have n7_ := Aside0.mk (blk_below (g := gb263) (o := .cells #[.int .i64 t258, .int .i64 t259, .slice Ao48 t260.length co48] 29 (0, 0)) u9_5 hb)
  have n8_ := Aside0.mk (blk_below (g := gb270) (o := .cells #[.int .i64 t264, .int .i64 t265, .slice Ao55 t266.length co55] 29 (0, 0)) u9_9 hb)
  have n9_ := Aside0.mk (below_step u9_0 hb)
  clear HO250
  clear HO255
  clear HO262
  clear HO268
  clear BK244
  clear BK257
  clear BK263
  clear BK270
  clear HB
  have HO250 := n0_
  have HO255 := n1_
  have HO262 := n2_
  have HO268 := n3_
  have HO276 := n4_
  have BK244 := n5_
  have BK257 := n6_
  have BK263 := n7_
  have BK270 := n8_
  have HB := n9_
  clear n0_ n1_ n2_ n3_ n4_ n5_ n6_ n7_ n8_ n9_
  (try clear hb)
  (try clear hb2)
  (try clear hk)
  (try clear hi)
  (try clear ho0)
  obtain ⟨Ao60, co60, eo60⟩ := Kd.R_slice HO276.out
  (first | subst eo60 | (injection eo60 with f1_ f2_ f3_; have f4_ := f1_.symm; have f5_ := f3_.symm; clear f1_ f2_ f3_; subst f4_; subst f5_))
  refine hK.out _ _ ⟨(blk_cell BK263.out 0).trans rfl, (blk_cell BK263.out 1).trans rfl, (blk_cell BK263.out 2).trans rfl, (blk_cell BK244.out 0).trans rfl, (blk_cell BK244.out 1).trans rfl, (blk_cell BK244.out 2).trans rfl⟩ (fun hHeld => ?_)
  clear hK K
  refine norm_ (a' := ?_) ?_ ?_
  rotate_left
  · show Act.put _ (some 47) _ = _
    simp only [Act.put, List.setIfInBounds_toArray, List.set_cons_zero, List.set_cons_succ, i64_w, i32_w]
    rfl
  refine one_ (i := 3) (N := some 48) #[true, true, true, true, false] rfl rfl (by kernel_rfl) (by decide) (fun K hK => ?_)
  refine goes_ Try.func11 (by kernel_rfl) rfl #[.agg #[.int .i64 t258, .int .i64 t259, .slice Ao48 t260.length co48], .agg #[.int .i64 t272, .int .i64 t273, .slice Ao60 t274.length co60]] (by rfl) rfl rfl u9_3 ?_
  with_reducible refine (laws_eqSessions.calls k t258 t259 _ _ t260 t272 t273 _ _ t274 true _ ?side1 ?side2 ?side3 ?side4 A16.out).mono ?_
  (case side1 => exact (by repeat (first | exact (Kd.R_reads' HO262.out).2.2 | (with_reducible refine Kd.C_alloc ?_ _) | (with_reducible refine Kd.C_drewN ?_ _) | (with_reducible refine Kd.C_drew ?_))))
  (case side2 => exact (Kd.R_reads' HO262.out).2.1)
  (case side3 => exact (by repeat (first | exact (Kd.R_reads' HO276.out).2.2 | (with_reducible refine Kd.C_alloc ?_ _) | (with_reducible refine Kd.C_drewN ?_ _) | (with_reducible refine Kd.C_drew ?_))))
  (case side4 => exact (Kd.R_reads' HO276.out).2.1)
  rintro e w61 ⟨rfl, hb⟩
  refine ⟨_, rfl, ?_⟩
  have n0_ := Aside0.mk (Kd.R_below u9_6 hb)
  have n1_ := Aside0.mk (Kd.R_below u9_7 hb)
  have n2_ := Aside0.mk (Kd.R_below u9_10 hb)
  have n3_ := Aside0.mk (Kd.R_below u9_11 hb)
  have n4_ := Aside0.mk (Kd.R_below u9_14 hb)
  have n5_ := Aside0.mk (blk_below (g := gb244) (o := .cells #[.int .i64 a0_0, .int .i64 a0_1, .slice A0_2 l0_2.length c0_2] 24 (0, 0)) u9_1 hb)
  have n6_ := Aside0.mk (blk_below (g := gb257) (o := .cells #[.int .i64 t251, .int .i64 t252, .slice Ao41 t253.length co41] 29 (0, 0)) u9_2 hb)
  have n7_ := Aside0.mk (blk_below (g := gb263) (o := .cells #[.int .i64 t258, .int .i64 t259, .slice Ao48 t260.length co48] 29 (0, 0)) u9_5 hb)
  have n8_ := Aside0.mk (blk_below (g := gb270) (o := .cells #[.int .i64 t264, .int .i64 t265, .slice Ao55 t266.length co55] 29 (0, 0)) u9_9 hb)
  have n9_ := Aside0.mk (below_step u9_0 hb)
  clear HO250
  clear HO255
  clear HO262
  clear HO268
  clear HO276
  clear BK244
  clear BK257
  clear BK263
  clear BK270
  clear HB
  have HO250 := n0_
  have HO255 := n1_
  have HO262 := n2_
  have HO268 := n3_
  have HO276 := n4_
  have BK244 := n5_
  have BK257 := n6_
  have BK263 := n7_
  have BK270 := n8_
  have HB := n9_
  clear n0_ n1_ n2_ n3_ n4_ n5_ n6_ n7_ n8_ n9_
  (try clear hb)
  (try clear hb2)
  (try clear hk)
  (try clear hi)
  refine hK.out _ _ ⟨(blk_cell BK263.out 0).trans rfl, (blk_cell BK263.out 1).trans rfl, (blk_cell BK263.out 2).trans rfl, (blk_cell BK244.out 0).trans rfl, (blk_cell BK244.out 1).trans rfl, (blk_cell BK244.out 2).trans rfl⟩ (fun hHeld => ?_)
  clear hK K
  refine norm_ (a' := ?_) ?_ ?_
  rotate_left
  · show Act.put _ (some 48) _ = _
    simp only [Act.put, List.setIfInBounds_toArray, List.set_cons_zero, List.set_cons_succ, i64_w, i32_w]
    rfl
  refine pure_ (i := 4) (N := some 49) (v := ?_) (a' := ?_) #[true, true, true, true, true] rfl rfl (by kernel_rfl) (fun _ _ _ h => h) (Or.inl ⟨by rfl, ?_⟩) ?_ ?_
  rotate_left
  · intro w'
    go_simp
    with_reducible rfl
  rotate_left
  · simp only [Act.put, List.setIfInBounds_toArray, List.set_cons_zero, List.set_cons_succ, i64_w, i32_w]
    rfl
  refine done_ (by kernel_rfl) ?_
  have hcz62_0 : w61.cell? ⟨gb263, 0, none⟩ = some (.int .i64 t258) := (blk_cell BK263.out 0).trans rfl
  have hcz62_1 : w61.cell? ⟨gb263, 1, none⟩ = some (.int .i64 t259) := (blk_cell BK263.out 1).trans rfl
  have hcz62_2 : w61.cell? ⟨gb263, 2, none⟩ = some (.slice Ao48 t260.length co48) := (blk_cell BK263.out 2).trans rfl
  have hfz62_0 := blk_frozen BK263.out 0
  have hfz62_1 := blk_frozen BK263.out 1
  have hfz62_2 := blk_frozen BK263.out 2
  try go_wp2_with (first | ((with_reducible refine gate_callee (f := 16) rfl ?_); refine goesL_ (some 52) rfl rfl Try.func16 (by kernel_rfl) rfl #[.agg #[.int .i64 t258, .int .i64 t259, .slice Ao48 t260.length co48], .int .i64 1] rfl u9_3 ?_; (with_reducible refine (laws_markSessions.calls k t258 t259 (fun k_ => some k_ = (.slice Ao48 t260.length co48 : Value).ownBlock) (.slice Ao48 t260.length co48) t260 1 t278 t279 w _ ?side1 ?side2 A18.out).mono ?_); (case side1 => exact u9_0); (case side2 => exact Kd.R_tight rfl HO262.out); rintro e w63 ⟨rfl, hy0, hb, hkp⟩; refine ⟨_, rfl, ?_⟩; have n0_ := Aside0.mk (blk_kept u9_1 hkp (fun hs_ => (fun e_ => (Kd.R_ne HO262.out BK244.out (by decide)) e_) hs_)); have n1_ := Aside0.mk (Kd.R_mono (ok' := fun k_ => some k_ ≠ (.slice Ao41 t253.length co41 : Value).ownBlock ∧ some k_ ≠ (.slice Ao48 t260.length co48 : Value).ownBlock ∧ some k_ ≠ (.slice Ao55 t266.length co55 : Value).ownBlock ∧ some k_ ≠ (.slice Ao60 t274.length co60 : Value).ownBlock) (Kd.R_keptB (HO250.out) hkp (fun k_ hk_ hs_ => (hk_.1.1.2) hs_)) (fun k_ hk_ => ⟨hk_.1.1.1.1.2, hk_.1.1.1.2, hk_.1.1.2, hk_.1.2⟩)); have n2_ := Aside0.mk (Kd.R_mono (ok' := fun k_ => some k_ ≠ (.slice Ao36 t248.length co36 : Value).ownBlock ∧ some k_ ≠ (.slice Ao48 t260.length co48 : Value).ownBlock ∧ some k_ ≠ (.slice Ao55 t266.length co55 : Value).ownBlock ∧ some k_ ≠ (.slice Ao60 t274.length co60 : Value).ownBlock) (Kd.R_keptB (HO255.out) hkp (fun k_ hk_ hs_ => (hk_.1.1.2) hs_)) (fun k_ hk_ => ⟨hk_.1.1.1.1.2, hk_.1.1.1.2, hk_.1.1.2, hk_.1.2⟩)); have n3_ := Aside0.mk (blk_kept u9_2 hkp (fun hs_ => (fun e_ => (Kd.R_ne HO262.out BK257.out (by decide)) e_) hs_)); have n4_ := Aside0.mk (Kd.R_reok rfl hy0 (fun k_ e_ => HO262.out.1 k_ e_)); have n5_ := Aside0.mk (blk_kept u9_5 hkp (fun hs_ => (fun e_ => (Kd.R_ne HO262.out BK263.out (by decide)) e_) hs_)); have n6_ := Aside0.mk (Kd.R_mono (ok' := fun k_ => some k_ ≠ (.slice Ao36 t248.length co36 : Value).ownBlock ∧ some k_ ≠ (.slice Ao41 t253.length co41 : Value).ownBlock ∧ some k_ ≠ (.slice Ao48 t260.length co48 : Value).ownBlock ∧ some k_ ≠ (.slice Ao60 t274.length co60 : Value).ownBlock) (Kd.R_keptB (HO268.out) hkp (fun k_ hk_ hs_ => (hk_.1.2) hs_)) (fun k_ hk_ => ⟨hk_.1.1.1.1.2, hk_.1.1.1.2, hk_.1.1.2, hk_.1.2⟩)); have n7_ := Aside0.mk (blk_kept u9_9 hkp (fun hs_ => (fun e_ => (Kd.R_ne HO262.out BK270.out (by decide)) e_) hs_)); have n8_ := Aside0.mk (Kd.R_mono (ok' := fun k_ => some k_ ≠ (.slice Ao36 t248.length co36 : Value).ownBlock ∧ some k_ ≠ (.slice Ao41 t253.length co41 : Value).ownBlock ∧ some k_ ≠ (.slice Ao48 t260.length co48 : Value).ownBlock ∧ some k_ ≠ (.slice Ao55 t266.length co55 : Value).ownBlock) (Kd.R_keptB (HO276.out) hkp (fun k_ hk_ hs_ => (hk_.1.2) hs_)) (fun k_ hk_ => ⟨hk_.1.1.1.1.2, hk_.1.1.1.2, hk_.1.1.2, hk_.1.2⟩)); have n9_ := Aside0.mk (hb); clear BK244; clear HO250; clear HO255; clear BK257; clear HO262; clear BK263; clear HO268; clear BK270; clear HO276; clear HB; have BK244 := n0_; have HO250 := n1_; have HO255 := n2_; have BK257 := n3_; have HO262 := n4_; have BK263 := n5_; have HO268 := n6_; have BK270 := n7_; have HO276 := n8_; have HB := n9_; clear n0_ n1_ n2_ n3_ n4_ n5_ n6_ n7_ n8_ n9_; (try clear hb); (try clear hkp); (try clear hy0); have hcz64_0 : w63.cell? ⟨gb270, 0, none⟩ = some (.int .i64 t264) := (blk_cell BK270.out 0).trans rfl; have hcz64_1 : w63.cell? ⟨gb270, 1, none⟩ = some (.int .i64 t265) := (blk_cell BK270.out 1).trans rfl; have hcz64_2 : w63.cell? ⟨gb270, 2, none⟩ = some (.slice Ao55 t266.length co55) := (blk_cell BK270.out 2).trans rfl; have hfz64_0 := blk_frozen BK270.out 0; have hfz64_1 := blk_frozen BK270.out 1; have hfz64_2 := blk_frozen BK270.out 2; have hcz65_0 : w63.cell? ⟨gb257, 0, none⟩ = some (.int .i64 t251) := (blk_cell BK257.out 0).trans rfl; have hcz65_1 : w63.cell? ⟨gb257, 1, none⟩ = some (.int .i64 t252) := (blk_cell BK257.out 1).trans rfl; have hcz65_2 : w63.cell? ⟨gb257, 2, none⟩ = some (.slice Ao41 t253.length co41) := (blk_cell BK257.out 2).trans rfl; have hfz65_0 := blk_frozen BK257.out 0; have hfz65_1 := blk_frozen BK257.out 1; have hfz65_2 := blk_frozen BK257.out 2) | (go_at_call 11; (with_reducible refine (laws_eqSessions.calls k t264 t265 _ _ t266 t251 t252 _ _ t253 true _ ?side1 ?side2 ?side3 ?side4 A20.out).mono ?_); (case side1 => exact u9_26); (case side2 => exact (Kd.R_reads' HO268.out).2.1); (case side3 => exact (by repeat (first | exact (Kd.R_reads' HO255.out).2.2 | (with_reducible refine Kd.C_alloc ?_ _) | (with_reducible refine Kd.C_drewN ?_ _) | (with_reducible refine Kd.C_drew ?_)))); (case side4 => exact (Kd.R_reads' HO255.out).2.1); rintro e w66 ⟨rfl, hb⟩; have n0_ := Aside0.mk (Kd.R_below u9_6 hb); have n1_ := Aside0.mk (Kd.R_below u9_7 hb); have n2_ := Aside0.mk (Kd.R_below u9_10 hb); have n3_ := Aside0.mk (Kd.R_below u9_11 hb); have n4_ := Aside0.mk (Kd.R_below u9_14 hb); have n5_ := Aside0.mk (blk_below (g := gb244) (o := .cells #[.int .i64 a0_0, .int .i64 a0_1, .slice A0_2 l0_2.length c0_2] 24 (0, 0)) u9_1 hb); have n6_ := Aside0.mk (blk_below (g := gb257) (o := .cells #[.int .i64 t251, .int .i64 t252, .slice Ao41 t253.length co41] 29 (0, 0)) u9_2 hb); have n7_ := Aside0.mk (blk_below (g := gb263) (o := .cells #[.int .i64 t258, .int .i64 t259, .slice Ao48 t260.length co48] 29 (0, 0)) u9_5 hb); have n8_ := Aside0.mk (blk_below (g := gb270) (o := .cells #[.int .i64 t264, .int .i64 t265, .slice Ao55 t266.length co55] 29 (0, 0)) u9_9 hb); have n9_ := Aside0.mk (below_step u9_0 hb); clear HO250; clear HO255; clear HO262; clear HO268; clear HO276; clear BK244; clear BK257; clear BK263; clear BK270; clear HB; have HO250 := n0_; have HO255 := n1_; have HO262 := n2_; have HO268 := n3_; have HO276 := n4_; have BK244 := n5_; have BK257 := n6_; have BK263 := n7_; have BK270 := n8_; have HB := n9_; clear n0_ n1_ n2_ n3_ n4_ n5_ n6_ n7_ n8_ n9_; (try clear hb); (try clear hb2); (try clear hk); (try clear hi); have hcz67_0 : w66.cell? ⟨gb270, 0, none⟩ = some (.int .i64 t264) := (blk_cell BK270.out 0).trans rfl; have hcz67_1 : w66.cell? ⟨gb270, 1, none⟩ = some (.int .i64 t265) := (blk_cell BK270.out 1).trans rfl; have hcz67_2 : w66.cell? ⟨gb270, 2, none⟩ = some (.slice Ao55 t266.length co55) := (blk_cell BK270.out 2).trans rfl; have hfz67_0 := blk_frozen BK270.out 0; have hfz67_1 := blk_frozen BK270.out 1; have hfz67_2 := blk_frozen BK270.out 2) | ((with_reducible refine gate_callee (f := 16) rfl ?_); refine goesL_ (some 68) rfl rfl Try.func16 (by kernel_rfl) rfl #[.agg #[.int .i64 t264, .int .i64 t265, .slice Ao55 t266.length co55], .int .i64 1] rfl u9_3 ?_; (with_reducible refine (laws_markSessions.calls k t264 t265 (fun k_ => some k_ = (.slice Ao55 t266.length co55 : Value).ownBlock) (.slice Ao55 t266.length co55) t266 1 t281 t282 w _ ?side1 ?side2 A22.out).mono ?_); (case side1 => exact u9_0); (case side2 => exact Kd.R_tight rfl HO268.out); rintro e w68 ⟨rfl, hy0, hb, hkp⟩; refine ⟨_, rfl, ?_⟩; have n0_ := Aside0.mk (blk_kept u9_1 hkp (fun hs_ => (fun e_ => (Kd.R_ne HO268.out BK244.out (by decide)) e_) hs_)); have n1_ := Aside0.mk (Kd.R_mono (ok' := fun k_ => some k_ ≠ (.slice Ao41 t253.length co41 : Value).ownBlock ∧ some k_ ≠ (.slice Ao48 t260.length co48 : Value).ownBlock ∧ some k_ ≠ (.slice Ao55 t266.length co55 : Value).ownBlock ∧ some k_ ≠ (.slice Ao60 t274.length co60 : Value).ownBlock) (Kd.R_keptB (HO250.out) hkp (fun k_ hk_ hs_ => (hk_.2.2.1) hs_)) (fun k_ hk_ => ⟨hk_.1.1, hk_.1.2.1, hk_.1.2.2.1, hk_.1.2.2.2⟩)); have n2_ := Aside0.mk (Kd.R_mono (ok' := fun k_ => some k_ ≠ (.slice Ao36 t248.length co36 : Value).ownBlock ∧ some k_ ≠ (.slice Ao48 t260.length co48 : Value).ownBlock ∧ some k_ ≠ (.slice Ao55 t266.length co55 : Value).ownBlock ∧ some k_ ≠ (.slice Ao60 t274.length co60 : Value).ownBlock) (Kd.R_keptB (HO255.out) hkp (fun k_ hk_ hs_ => (hk_.2.2.1) hs_)) (fun k_ hk_ => ⟨hk_.1.1, hk_.1.2.1, hk_.1.2.2.1, hk_.1.2.2.2⟩)); have n3_ := Aside0.mk (blk_kept u9_2 hkp (fun hs_ => (fun e_ => (Kd.R_ne HO268.out BK257.out (by decide)) e_) hs_)); have n4_ := Aside0.mk (Kd.R_mono (ok' := fun k_ => some k_ ≠ (.slice Ao36 t248.length co36 : Value).ownBlock ∧ some k_ ≠ (.slice Ao41 t253.length co41 : Value).ownBlock ∧ some k_ ≠ (.slice Ao55 t266.length co55 : Value).ownBlock ∧ some k_ ≠ (.slice Ao60 t274.length co60 : Value).ownBlock) (Kd.R_keptB (HO262.out) hkp (fun k_ hk_ hs_ => (hk_.1.2) hs_)) (fun k_ hk_ => ⟨hk_.1.1.1.1.2, hk_.1.1.1.2, hk_.1.1.2, hk_.1.2⟩)); have n5_ := Aside0.mk (blk_kept u9_5 hkp (fun hs_ => (fun e_ => (Kd.R_ne HO268.out BK263.out (by decide)) e_) hs_)); have n6_ := Aside0.mk (Kd.R_reok rfl hy0 (fun k_ e_ => HO268.out.1 k_ e_)); have n7_ := Aside0.mk (blk_kept u9_9 hkp (fun hs_ => (fun e_ => (Kd.R_ne HO268.out BK270.out (by decide)) e_) hs_)); have n8_ := Aside0.mk (Kd.R_mono (ok' := fun k_ => some k_ ≠ (.slice Ao36 t248.length co36 : Value).ownBlock ∧ some k_ ≠ (.slice Ao41 t253.length co41 : Value).ownBlock ∧ some k_ ≠ (.slice Ao48 t260.length co48 : Value).ownBlock ∧ some k_ ≠ (.slice Ao55 t266.length co55 : Value).ownBlock) (Kd.R_keptB (HO276.out) hkp (fun k_ hk_ hs_ => (hk_.2.2.2) hs_)) (fun k_ hk_ => ⟨hk_.1.1, hk_.1.2.1, hk_.1.2.2.1, hk_.1.2.2.2⟩)); have n9_ := Aside0.mk (hb); clear BK244; clear HO250; clear HO255; clear BK257; clear HO262; clear BK263; clear HO268; clear BK270; clear HO276; clear HB; have BK244 := n0_; have HO250 := n1_; have HO255 := n2_; have BK257 := n3_; have HO262 := n4_; have BK263 := n5_; have HO268 := n6_; have BK270 := n7_; have HO276 := n8_; have HB := n9_; clear n0_ n1_ n2_ n3_ n4_ n5_ n6_ n7_ n8_ n9_; (try clear hb); (try clear hkp); (try clear hy0); have hcz69_0 : w68.cell? ⟨gb270, 0, none⟩ = some (.int .i64 t264) := (blk_cell BK270.out 0).trans rfl; have hcz69_1 : w68.cell? ⟨gb270, 1, none⟩ = some (.int .i64 t265) := (blk_cell BK270.out 1).trans rfl; have hcz69_2 : w68.cell? ⟨gb270, 2, none⟩ = some (.slice Ao55 t266.length co55) := (blk_cell BK270.out 2).trans rfl; have hfz69_0 := blk_frozen BK270.out 0; have hfz69_1 := blk_frozen BK270.out 1; have hfz69_2 := blk_frozen BK270.out 2) | ((with_reducible refine gate_callee (f := 17) rfl ?_); refine goesL_ (some 71) rfl rfl Try.func17 (by kernel_rfl) rfl #[.agg #[.int .i64 t264, .int .i64 t265, .slice Ao55 t282.length co55], .int .i64 1] rfl u9_30 ?_; (with_reducible refine (laws_heldSessions.calls k t264 t265 _ _ t282 1 t283 _ ?side1 ?side2 A23.out).mono ?_); (case side1 => exact u9_26); (case side2 => exact u9_32); rintro e w70 ⟨rfl, hb⟩; refine ⟨_, rfl, ?_⟩; have n0_ := Aside0.mk (Kd.R_below u9_6 hb); have n1_ := Aside0.mk (Kd.R_below u9_7 hb); have n2_ := Aside0.mk (Kd.R_below u9_10 hb); have n3_ := Aside0.mk (Kd.R_below u9_11 hb); have n4_ := Aside0.mk (Kd.R_below u9_14 hb); have n5_ := Aside0.mk (blk_below (g := gb244) (o := .cells #[.int .i64 a0_0, .int .i64 a0_1, .slice A0_2 l0_2.length c0_2] 24 (0, 0)) u9_1 hb); have n6_ := Aside0.mk (blk_below (g := gb257) (o := .cells #[.int .i64 t251, .int .i64 t252, .slice Ao41 t253.length co41] 29 (0, 0)) u9_2 hb); have n7_ := Aside0.mk (blk_below (g := gb263) (o := .cells #[.int .i64 t258, .int .i64 t259, .slice Ao48 t260.length co48] 29 (0, 0)) u9_5 hb); have n8_ := Aside0.mk (blk_below (g := gb270) (o := .cells #[.int .i64 t264, .int .i64 t265, .slice Ao55 t266.length co55] 29 (0, 0)) u9_9 hb); have n9_ := Aside0.mk (below_step u9_0 hb); clear HO250; clear HO255; clear HO262; clear HO268; clear HO276; clear BK244; clear BK257; clear BK263; clear BK270; clear HB; have HO250 := n0_; have HO255 := n1_; have HO262 := n2_; have HO268 := n3_; have HO276 := n4_; have BK244 := n5_; have BK257 := n6_; have BK263 := n7_; have BK270 := n8_; have HB := n9_; clear n0_ n1_ n2_ n3_ n4_ n5_ n6_ n7_ n8_ n9_; (try clear hb); (try clear hb2); (try clear hk); (try clear hi); have hcz71_0 : w70.cell? ⟨gb244, 0, none⟩ = some (.int .i64 a0_0) := (blk_cell BK244.out 0).trans rfl; have hcz71_1 : w70.cell? ⟨gb244, 1, none⟩ = some (.int .i64 a0_1) := (blk_cell BK244.out 1).trans rfl; have hcz71_2 : w70.cell? ⟨gb244, 2, none⟩ = some (.slice A0_2 l0_2.length c0_2) := (blk_cell BK244.out 2).trans rfl; have hfz71_0 := blk_frozen BK244.out 0; have hfz71_1 := blk_frozen BK244.out 1; have hfz71_2 := blk_frozen BK244.out 2) | ((with_reducible refine gate_callee (f := 9) rfl ?_); refine goesL_ (some 79) rfl rfl Try.func9 (by kernel_rfl) rfl #[.agg #[.int .i64 a0_0, .int .i64 a0_1, .slice A0_2 l0_2.length c0_2]] rfl u9_3 ?_; (with_reducible refine (laws_toSessions.calls k a0_0 a0_1 _ _ l0_2 t284 t285 t286 _ ?side1 ?side2 A26.out).mono ?_); (case side1 => exact u9_16); (case side2 => exact HC0_2.out); rintro e w72 ⟨v287, rfl, ho0, hb⟩; refine ⟨_, rfl, ?_⟩; have n0_ := Aside0.mk (Kd.R_elder' u9_6 (Kd.R_base ho0) hb); have n1_ := Aside0.mk (Kd.R_elder' u9_7 (Kd.R_base ho0) hb); have n2_ := Aside0.mk (Kd.R_elder' u9_10 (Kd.R_base ho0) hb); have n3_ := Aside0.mk (Kd.R_elder' u9_11 (Kd.R_base ho0) hb); have n4_ := Aside0.mk (Kd.R_elder' u9_14 (Kd.R_base ho0) hb); have n5_ := Aside0.mk (Kd.R_lower (Kd.R_new' (Kd.R_new' (Kd.R_new' (Kd.R_new' (Kd.R_new' ho0 (Kd.R_lt u9_6)) (Kd.R_lt u9_7)) (Kd.R_lt u9_10)) (Kd.R_lt u9_11)) (Kd.R_lt u9_14)) (below_size u9_0)); have n6_ := Aside0.mk (blk_below (g := gb244) (o := .cells #[.int .i64 a0_0, .int .i64 a0_1, .slice A0_2 l0_2.length c0_2] 24 (0, 0)) u9_1 hb); have n7_ := Aside0.mk (blk_below (g := gb257) (o := .cells #[.int .i64 t251, .int .i64 t252, .slice Ao41 t253.length co41] 29 (0, 0)) u9_2 hb); have n8_ := Aside0.mk (blk_below (g := gb263) (o := .cells #[.int .i64 t258, .int .i64 t259, .slice Ao48 t260.length co48] 29 (0, 0)) u9_5 hb); have n9_ := Aside0.mk (blk_below (g := gb270) (o := .cells #[.int .i64 t264, .int .i64 t265, .slice Ao55 t266.length co55] 29 (0, 0)) u9_9 hb); have n10_ := Aside0.mk (below_step u9_0 hb); clear HO250; clear HO255; clear HO262; clear HO268; clear HO276; clear BK244; clear BK257; clear BK263; clear BK270; clear HB; have HO250 := n0_; have HO255 := n1_; have HO262 := n2_; have HO268 := n3_; have HO276 := n4_; have HO288 := n5_; have BK244 := n6_; have BK257 := n7_; have BK263 := n8_; have BK270 := n9_; have HB := n10_; clear n0_ n1_ n2_ n3_ n4_ n5_ n6_ n7_ n8_ n9_ n10_; (try clear hb); (try clear hb2); (try clear hk); (try clear hi); (try clear ho0); obtain ⟨Ao73, co73, eo73⟩ := Kd.R_slice HO288.out; subst eo73) | ((with_reducible refine gate_callee (f := 15) rfl ?_); refine goesL_ (some 81) rfl rfl Try.func15 (by kernel_rfl) rfl #[.agg #[.int .i64 t284, .int .i64 t285, .slice Ao73 t286.length co73], .int .i64 a1] rfl u9_3 ?_; (with_reducible refine (impl_Forget.calls k t284 t285 _ _ t286 a1 t289 t290 t291 t294 _ ?side1 ?side2 A27.out).mono ?_); (case side1 => exact (by repeat (first | exact (Kd.R_reads' HO288.out).2.2 | (with_reducible refine Kd.C_alloc ?_ _) | (with_reducible refine Kd.C_drewN ?_ _) | (with_reducible refine Kd.C_drew ?_)))); (case side2 => exact (Kd.R_reads' HO288.out).2.1); rintro e w74 ⟨v292, rfl, ho0, hb⟩; refine ⟨_, rfl, ?_⟩; have n0_ := Aside0.mk (Kd.R_elder' u9_6 (Kd.R_base ho0) hb); have n1_ := Aside0.mk (Kd.R_elder' u9_7 (Kd.R_base ho0) hb); have n2_ := Aside0.mk (Kd.R_elder' u9_10 (Kd.R_base ho0) hb); have n3_ := Aside0.mk (Kd.R_elder' u9_11 (Kd.R_base ho0) hb); have n4_ := Aside0.mk (Kd.R_elder' u9_14 (Kd.R_base ho0) hb); have n5_ := Aside0.mk (Kd.R_elder' u9_29 (Kd.R_base ho0) hb); have n6_ := Aside0.mk (Kd.R_lower (Kd.R_new' (Kd.R_new' (Kd.R_new' (Kd.R_new' (Kd.R_new' (Kd.R_new' ho0 (Kd.R_lt u9_6)) (Kd.R_lt u9_7)) (Kd.R_lt u9_10)) (Kd.R_lt u9_11)) (Kd.R_lt u9_14)) (Kd.R_lt u9_29)) (below_size u9_0)); have n7_ := Aside0.mk (blk_below (g := gb244) (o := .cells #[.int .i64 a0_0, .int .i64 a0_1, .slice A0_2 l0_2.length c0_2] 24 (0, 0)) u9_1 hb); have n8_ := Aside0.mk (blk_below (g := gb257) (o := .cells #[.int .i64 t251, .int .i64 t252, .slice Ao41 t253.length co41] 29 (0, 0)) u9_2 hb); have n9_ := Aside0.mk (blk_below (g := gb263) (o := .cells #[.int .i64 t258, .int .i64 t259, .slice Ao48 t260.length co48] 29 (0, 0)) u9_5 hb); have n10_ := Aside0.mk (blk_below (g := gb270) (o := .cells #[.int .i64 t264, .int .i64 t265, .slice Ao55 t266.length co55] 29 (0, 0)) u9_9 hb); have n11_ := Aside0.mk (below_step u9_0 hb); clear HO250; clear HO255; clear HO262; clear HO268; clear HO276; clear HO288; clear BK244; clear BK257; clear BK263; clear BK270; clear HB; have HO250 := n0_; have HO255 := n1_; have HO262 := n2_; have HO268 := n3_; have HO276 := n4_; have HO288 := n5_; have HO293 := n6_; have BK244 := n7_; have BK257 := n8_; have BK263 := n9_; have BK270 := n10_; have HB := n11_; clear n0_ n1_ n2_ n3_ n4_ n5_ n6_ n7_ n8_ n9_ n10_ n11_; (try clear hb); (try clear hb2); (try clear hk); (try clear hi); (try clear ho0)) | ((with_reducible refine gate_dst (N := 14) rfl ?_); refine box_event ?hg (N := 14) ?hd (cs := #[.int .i64 0, .int .i64 0, .slice none 0 0]) (t := 29) ?hr ?_; (case hd => rfl); (case hg => rfl); (case hr => first | (go_simp; done) | (go_simp; rfl)); intro gb295 hg w75 hbox hb; have n0_ := Aside0.mk (Kd.R_below u9_6 hb); have n1_ := Aside0.mk (Kd.R_below u9_7 hb); have n2_ := Aside0.mk (Kd.R_below u9_10 hb); have n3_ := Aside0.mk (Kd.R_below u9_11 hb); have n4_ := Aside0.mk (Kd.R_below u9_14 hb); have n5_ := Aside0.mk (Kd.R_below u9_29 hb); have n6_ := Aside0.mk (Kd.R_below u9_33 hb); have n7_ := Aside0.mk (blk_below (g := gb244) (o := .cells #[.int .i64 a0_0, .int .i64 a0_1, .slice A0_2 l0_2.length c0_2] 24 (0, 0)) u9_1 hb); have n8_ := Aside0.mk (blk_below (g := gb257) (o := .cells #[.int .i64 t251, .int .i64 t252, .slice Ao41 t253.length co41] 29 (0, 0)) u9_2 hb); have n9_ := Aside0.mk (blk_below (g := gb263) (o := .cells #[.int .i64 t258, .int .i64 t259, .slice Ao48 t260.length co48] 29 (0, 0)) u9_5 hb); have n10_ := Aside0.mk (blk_below (g := gb270) (o := .cells #[.int .i64 t264, .int .i64 t265, .slice Ao55 t266.length co55] 29 (0, 0)) u9_9 hb); have n11_ := Aside0.mk (below_step u9_0 hb); have n12_ := Aside0.mk (hbox); have n13_ := Aside0.mk ((by rw [hg]; exact (below_size u9_0) : w.heap.size ≤ gb295)); have n14_ := Aside0.mk ((by rw [hg]; exact (below_size u9_0) : w.heap.size ≤ gb295)); have n15_ := Aside0.mk ((by rw [hg]; exact Nat.ne_of_lt (blk_lt (g := gb244) (o := .cells #[.int .i64 a0_0, .int .i64 a0_1, .slice A0_2 l0_2.length c0_2] 24 (0, 0)) u9_1) : gb244 ≠ gb295)); have n16_ := Aside0.mk ((by rw [hg]; exact Nat.ne_of_gt (blk_lt (g := gb244) (o := .cells #[.int .i64 a0_0, .int .i64 a0_1, .slice A0_2 l0_2.length c0_2] 24 (0, 0)) u9_1) : gb295 ≠ gb244)); have n17_ := Aside0.mk ((by rw [hg]; exact Nat.ne_of_lt (blk_lt (g := gb257) (o := .cells #[.int .i64 t251, .int .i64 t252, .slice Ao41 t253.length co41] 29 (0, 0)) u9_2) : gb257 ≠ gb295)); have n18_ := Aside0.mk ((by rw [hg]; exact Nat.ne_of_gt (blk_lt (g := gb257) (o := .cells #[.int .i64 t251, .int .i64 t252, .slice Ao41 t253.length co41] 29 (0, 0)) u9_2) : gb295 ≠ gb257)); have n19_ := Aside0.mk ((by rw [hg]; exact Nat.ne_of_lt (blk_lt (g := gb263) (o := .cells #[.int .i64 t258, .int .i64 t259, .slice Ao48 t260.length co48] 29 (0, 0)) u9_5) : gb263 ≠ gb295)); have n20_ := Aside0.mk ((by rw [hg]; exact Nat.ne_of_gt (blk_lt (g := gb263) (o := .cells #[.int .i64 t258, .int .i64 t259, .slice Ao48 t260.length co48] 29 (0, 0)) u9_5) : gb295 ≠ gb263)); have n21_ := Aside0.mk ((by rw [hg]; exact Nat.ne_of_lt (blk_lt (g := gb270) (o := .cells #[.int .i64 t264, .int .i64 t265, .slice Ao55 t266.length co55] 29 (0, 0)) u9_9) : gb270 ≠ gb295)); have n22_ := Aside0.mk ((by rw [hg]; exact Nat.ne_of_gt (blk_lt (g := gb270) (o := .cells #[.int .i64 t264, .int .i64 t265, .slice Ao55 t266.length co55] 29 (0, 0)) u9_9) : gb295 ≠ gb270)); clear HO250; clear HO255; clear HO262; clear HO268; clear HO276; clear HO288; clear HO293; clear BK244; clear BK257; clear BK263; clear BK270; clear HB; have HO250 := n0_; have HO255 := n1_; have HO262 := n2_; have HO268 := n3_; have HO276 := n4_; have HO288 := n5_; have HO293 := n6_; have BK244 := n7_; have BK257 := n8_; have BK263 := n9_; have BK270 := n10_; have HB := n11_; have BK295 := n12_; have GW295 := n13_; have GE295 := n14_; have NB244_295 := n15_; have NB295_244 := n16_; have NB257_295 := n17_; have NB295_257 := n18_; have NB263_295 := n19_; have NB295_263 := n20_; have NB270_295 := n21_; have NB295_270 := n22_; clear n0_ n1_ n2_ n3_ n4_ n5_ n6_ n7_ n8_ n9_ n10_ n11_ n12_ n13_ n14_ n15_ n16_ n17_ n18_ n19_ n20_ n21_ n22_; clear hb hbox hg; have hnb76 := NB295_244.out; have hnc76 := NB244_295.out; have hnb77 := NB295_257.out; have hnc77 := NB257_295.out; have hnb78 := NB295_263.out; have hnc78 := NB263_295.out; have hnb79 := NB295_270.out; have hnc79 := NB270_295.out; have hcz80_0 : w75.cell? ⟨gb295, 0, none⟩ = some (.int .i64 0) := (blk_cell BK295.out 0).trans rfl; have hcz80_1 : w75.cell? ⟨gb295, 1, none⟩ = some (.int .i64 0) := (blk_cell BK295.out 1).trans rfl; have hcz80_2 : w75.cell? ⟨gb295, 2, none⟩ = some (.slice none 0 0) := (blk_cell BK295.out 2).trans rfl; have hfz80_0 := blk_frozen BK295.out 0; have hfz80_1 := blk_frozen BK295.out 1; have hfz80_2 := blk_frozen BK295.out 2; obtain ⟨Ao81, co81, eo81⟩ := Kd.R_slice HO293.out; subst eo81; have hcz82_0 : w75.cell? ⟨gb257, 0, none⟩ = some (.int .i64 t251) := (blk_cell BK257.out 0).trans rfl; have hcz82_1 : w75.cell? ⟨gb257, 1, none⟩ = some (.int .i64 t252) := (blk_cell BK257.out 1).trans rfl; have hcz82_2 : w75.cell? ⟨gb257, 2, none⟩ = some (.slice Ao41 t253.length co41) := (blk_cell BK257.out 2).trans rfl; have hfz82_0 := blk_frozen BK257.out 0; have hfz82_1 := blk_frozen BK257.out 1; have hfz82_2 := blk_frozen BK257.out 2) | ((with_reducible refine gate_callee (f := 11) rfl ?_); refine goesL_ (some 86) rfl rfl Try.func11 (by kernel_rfl) rfl #[.agg #[.int .i64 t289, .int .i64 t290, .slice Ao81 t291.length co81], .agg #[.int .i64 t251, .int .i64 t252, .slice Ao41 t253.length co41]] rfl u9_3 ?_; (with_reducible refine (laws_eqSessions.calls k t289 t290 _ _ t291 t251 t252 _ _ t253 true _ ?side1 ?side2 ?side3 ?side4 A28.out).mono ?_); (case side1 => exact (by refine (Kd.R_reads' (e := 45) (base := w.heap.size) (ok := fun k_ => ((((((True ∧ some k_ ≠ (.slice Ao36 t248.length co36 : Value).ownBlock) ∧ some k_ ≠ (.slice Ao41 t253.length co41 : Value).ownBlock) ∧ some k_ ≠ (.slice Ao48 t260.length co48 : Value).ownBlock) ∧ some k_ ≠ (.slice Ao55 t266.length co55 : Value).ownBlock) ∧ some k_ ≠ (.slice Ao60 t274.length co60 : Value).ownBlock) ∧ some k_ ≠ (.slice Ao73 t286.length co73 : Value).ownBlock)) (n := t291.length) (c := co81) ?_).2.2; exact u9_24)); (case side2 => exact (Kd.R_reads' HO293.out).2.1); (case side3 => exact (by refine (Kd.R_reads' (e := 45) (base := w.heap.size) (ok := fun k_ => (((some k_ ≠ (.slice Ao36 t248.length co36 : Value).ownBlock ∧ (some k_ ≠ (.slice Ao48 t260.length co48 : Value).ownBlock ∧ (some k_ ≠ (.slice Ao55 t266.length co55 : Value).ownBlock ∧ some k_ ≠ (.slice Ao60 t274.length co60 : Value).ownBlock))) ∧ some k_ ≠ (.slice Ao73 t286.length co73 : Value).ownBlock) ∧ some k_ ≠ (.slice Ao81 t291.length co81 : Value).ownBlock)) (n := t253.length) (c := co41) ?_).2.2; exact u9_25)); (case side4 => exact (Kd.R_reads' HO255.out).2.1); rintro e w83 ⟨rfl, hb⟩; refine ⟨_, rfl, ?_⟩; have n0_ := Aside0.mk (Kd.R_below (by (with_reducible repeat (first | apply Kd.R_alloc | apply Kd.R_drewN | apply Kd.R_drew)); exact (Kd.R_mono (Kd.R_far (p := ⟨gb295, 2, none⟩) (Kd.R_far (p := ⟨gb295, 1, none⟩) (Kd.R_far (p := ⟨gb295, 0, none⟩) (Kd.R_types HO250.out BK295.out (by decide)) (fun _ hk => hk.2) (.int .i64 t289)) (fun _ hk => hk.2) (.int .i64 t290)) (fun _ hk => hk.2) (.slice Ao81 t291.length co81)) (fun _ h_ => h_.1))) hb); have n1_ := Aside0.mk (Kd.R_below u9_25 hb); have n2_ := Aside0.mk (Kd.R_below (by (with_reducible repeat (first | apply Kd.R_alloc | apply Kd.R_drewN | apply Kd.R_drew)); exact (Kd.R_mono (Kd.R_far (p := ⟨gb295, 2, none⟩) (Kd.R_far (p := ⟨gb295, 1, none⟩) (Kd.R_far (p := ⟨gb295, 0, none⟩) (Kd.R_types HO262.out BK295.out (by decide)) (fun _ hk => hk.2) (.int .i64 t289)) (fun _ hk => hk.2) (.int .i64 t290)) (fun _ hk => hk.2) (.slice Ao81 t291.length co81)) (fun _ h_ => h_.1))) hb); have n3_ := Aside0.mk (Kd.R_below (by (with_reducible repeat (first | apply Kd.R_alloc | apply Kd.R_drewN | apply Kd.R_drew)); exact (Kd.R_mono (Kd.R_far (p := ⟨gb295, 2, none⟩) (Kd.R_far (p := ⟨gb295, 1, none⟩) (Kd.R_far (p := ⟨gb295, 0, none⟩) (Kd.R_types HO268.out BK295.out (by decide)) (fun _ hk => hk.2) (.int .i64 t289)) (fun _ hk => hk.2) (.int .i64 t290)) (fun _ hk => hk.2) (.slice Ao81 t291.length co81)) (fun _ h_ => h_.1))) hb); have n4_ := Aside0.mk (Kd.R_below (by (with_reducible repeat (first | apply Kd.R_alloc | apply Kd.R_drewN | apply Kd.R_drew)); exact (Kd.R_mono (Kd.R_far (p := ⟨gb295, 2, none⟩) (Kd.R_far (p := ⟨gb295, 1, none⟩) (Kd.R_far (p := ⟨gb295, 0, none⟩) (Kd.R_types HO276.out BK295.out (by decide)) (fun _ hk => hk.2) (.int .i64 t289)) (fun _ hk => hk.2) (.int .i64 t290)) (fun _ hk => hk.2) (.slice Ao81 t291.length co81)) (fun _ h_ => h_.1))) hb); have n5_ := Aside0.mk (Kd.R_below (by (with_reducible repeat (first | apply Kd.R_alloc | apply Kd.R_drewN | apply Kd.R_drew)); exact (Kd.R_mono (Kd.R_far (p := ⟨gb295, 2, none⟩) (Kd.R_far (p := ⟨gb295, 1, none⟩) (Kd.R_far (p := ⟨gb295, 0, none⟩) (Kd.R_types HO288.out BK295.out (by decide)) (fun _ hk => hk.2) (.int .i64 t289)) (fun _ hk => hk.2) (.int .i64 t290)) (fun _ hk => hk.2) (.slice Ao81 t291.length co81)) (fun _ h_ => h_.1))) hb); have n6_ := Aside0.mk (Kd.R_below u9_24 hb); have n7_ := Aside0.mk (blk_below (g := gb244) (o := .cells #[.int .i64 a0_0, .int .i64 a0_1, .slice A0_2 l0_2.length c0_2] 24 (0, 0)) (by (with_reducible repeat (first | refine blk_drewN ?_ _ | refine blk_drew ?_ | refine blk_alloc ?_ _)); refine blk_far ?_ NB244_295.out _; (with_reducible repeat (first | refine blk_drewN ?_ _ | refine blk_drew ?_ | refine blk_alloc ?_ _)); refine blk_far ?_ NB244_295.out _; (with_reducible repeat (first | refine blk_drewN ?_ _ | refine blk_drew ?_ | refine blk_alloc ?_ _)); refine blk_far ?_ NB244_295.out _; (with_reducible repeat (first | refine blk_drewN ?_ _ | refine blk_drew ?_ | refine blk_alloc ?_ _)); exact BK244.out) hb); have n8_ := Aside0.mk (blk_below (g := gb257) (o := .cells #[.int .i64 t251, .int .i64 t252, .slice Ao41 t253.length co41] 29 (0, 0)) (by (with_reducible repeat (first | refine blk_drewN ?_ _ | refine blk_drew ?_ | refine blk_alloc ?_ _)); refine blk_far ?_ NB257_295.out _; (with_reducible repeat (first | refine blk_drewN ?_ _ | refine blk_drew ?_ | refine blk_alloc ?_ _)); refine blk_far ?_ NB257_295.out _; (with_reducible repeat (first | refine blk_drewN ?_ _ | refine blk_drew ?_ | refine blk_alloc ?_ _)); refine blk_far ?_ NB257_295.out _; (with_reducible repeat (first | refine blk_drewN ?_ _ | refine blk_drew ?_ | refine blk_alloc ?_ _)); exact BK257.out) hb); have n9_ := Aside0.mk (blk_below (g := gb263) (o := .cells #[.int .i64 t258, .int .i64 t259, .slice Ao48 t260.length co48] 29 (0, 0)) (by (with_reducible repeat (first | refine blk_drewN ?_ _ | refine blk_drew ?_ | refine blk_alloc ?_ _)); refine blk_far ?_ NB263_295.out _; (with_reducible repeat (first | refine blk_drewN ?_ _ | refine blk_drew ?_ | refine blk_alloc ?_ _)); refine blk_far ?_ NB263_295.out _; (with_reducible repeat (first | refine blk_drewN ?_ _ | refine blk_drew ?_ | refine blk_alloc ?_ _)); refine blk_far ?_ NB263_295.out _; (with_reducible repeat (first | refine blk_drewN ?_ _ | refine blk_drew ?_ | refine blk_alloc ?_ _)); exact BK263.out) hb); have n10_ := Aside0.mk (blk_below (g := gb270) (o := .cells #[.int .i64 t264, .int .i64 t265, .slice Ao55 t266.length co55] 29 (0, 0)) (by (with_reducible repeat (first | refine blk_drewN ?_ _ | refine blk_drew ?_ | refine blk_alloc ?_ _)); refine blk_far ?_ NB270_295.out _; (with_reducible repeat (first | refine blk_drewN ?_ _ | refine blk_drew ?_ | refine blk_alloc ?_ _)); refine blk_far ?_ NB270_295.out _; (with_reducible repeat (first | refine blk_drewN ?_ _ | refine blk_drew ?_ | refine blk_alloc ?_ _)); refine blk_far ?_ NB270_295.out _; (with_reducible repeat (first | refine blk_drewN ?_ _ | refine blk_drew ?_ | refine blk_alloc ?_ _)); exact BK270.out) hb); have n11_ := Aside0.mk (blk_below (g := gb295) (o := .cells #[.int .i64 t289, .int .i64 t290, .slice Ao81 t291.length co81] 29 (0, 0)) (by (with_reducible repeat (first | refine blk_drewN ?_ _ | refine blk_drew ?_ | refine blk_alloc ?_ _)); refine blk_put (cs := #[.int .i64 t289, .int .i64 t290, .slice none 0 0]) ?_ 2 _ rfl; (with_reducible repeat (first | refine blk_drewN ?_ _ | refine blk_drew ?_ | refine blk_alloc ?_ _)); refine blk_put (cs := #[.int .i64 t289, .int .i64 0, .slice none 0 0]) ?_ 1 _ rfl; (with_reducible repeat (first | refine blk_drewN ?_ _ | refine blk_drew ?_ | refine blk_alloc ?_ _)); refine blk_put (cs := #[.int .i64 0, .int .i64 0, .slice none 0 0]) ?_ 0 _ rfl; (with_reducible repeat (first | refine blk_drewN ?_ _ | refine blk_drew ?_ | refine blk_alloc ?_ _)); exact BK295.out) hb); have n12_ := Aside0.mk (below_step u9_17 hb); clear HO250; clear HO255; clear HO262; clear HO268; clear HO276; clear HO288; clear HO293; clear BK244; clear BK257; clear BK263; clear BK270; clear BK295; clear HB; have HO250 := n0_; have HO255 := n1_; have HO262 := n2_; have HO268 := n3_; have HO276 := n4_; have HO288 := n5_; have HO293 := n6_; have BK244 := n7_; have BK257 := n8_; have BK263 := n9_; have BK270 := n10_; have BK295 := n11_; have HB := n12_; clear n0_ n1_ n2_ n3_ n4_ n5_ n6_ n7_ n8_ n9_ n10_ n11_ n12_; (try clear hb); (try clear hb2); (try clear hk); (try clear hi); have hcz84_0 : w83.cell? ⟨gb270, 0, none⟩ = some (.int .i64 t264) := (blk_cell BK270.out 0).trans rfl; have hcz84_1 : w83.cell? ⟨gb270, 1, none⟩ = some (.int .i64 t265) := (blk_cell BK270.out 1).trans rfl; have hcz84_2 : w83.cell? ⟨gb270, 2, none⟩ = some (.slice Ao55 t266.length co55) := (blk_cell BK270.out 2).trans rfl; have hfz84_0 := blk_frozen BK270.out 0; have hfz84_1 := blk_frozen BK270.out 1; have hfz84_2 := blk_frozen BK270.out 2) | ((with_reducible refine gate_callee (f := 17) rfl ?_); refine goesL_ (some 95) rfl rfl Try.func17 (by kernel_rfl) rfl #[.agg #[.int .i64 t264, .int .i64 t265, .slice Ao55 t282.length co55], .int .i64 1] rfl u9_30 ?_; (with_reducible refine (laws_heldSessions.calls k t264 t265 _ _ t282 1 t297 _ ?side1 ?side2 A31.out).mono ?_); (case side1 => exact u9_26); (case side2 => exact u9_32); rintro e w85 ⟨rfl, hb⟩; refine ⟨_, rfl, ?_⟩; have n0_ := Aside0.mk (Kd.R_below u9_6 hb); have n1_ := Aside0.mk (Kd.R_below u9_7 hb); have n2_ := Aside0.mk (Kd.R_below u9_10 hb); have n3_ := Aside0.mk (Kd.R_below u9_11 hb); have n4_ := Aside0.mk (Kd.R_below u9_14 hb); have n5_ := Aside0.mk (Kd.R_below u9_29 hb); have n6_ := Aside0.mk (Kd.R_below u9_33 hb); have n7_ := Aside0.mk (blk_below (g := gb244) (o := .cells #[.int .i64 a0_0, .int .i64 a0_1, .slice A0_2 l0_2.length c0_2] 24 (0, 0)) u9_1 hb); have n8_ := Aside0.mk (blk_below (g := gb257) (o := .cells #[.int .i64 t251, .int .i64 t252, .slice Ao41 t253.length co41] 29 (0, 0)) u9_2 hb); have n9_ := Aside0.mk (blk_below (g := gb263) (o := .cells #[.int .i64 t258, .int .i64 t259, .slice Ao48 t260.length co48] 29 (0, 0)) u9_5 hb); have n10_ := Aside0.mk (blk_below (g := gb270) (o := .cells #[.int .i64 t264, .int .i64 t265, .slice Ao55 t266.length co55] 29 (0, 0)) u9_9 hb); have n11_ := Aside0.mk (blk_below (g := gb295) (o := .cells #[.int .i64 t289, .int .i64 t290, .slice Ao81 t291.length co81] 29 (0, 0)) (by (with_reducible repeat (first | refine blk_drewN ?_ _ | refine blk_drew ?_ | refine blk_alloc ?_ _)); exact BK295.out) hb); have n12_ := Aside0.mk (below_step u9_17 hb); clear HO250; clear HO255; clear HO262; clear HO268; clear HO276; clear HO288; clear HO293; clear BK244; clear BK257; clear BK263; clear BK270; clear BK295; clear HB; have HO250 := n0_; have HO255 := n1_; have HO262 := n2_; have HO268 := n3_; have HO276 := n4_; have HO288 := n5_; have HO293 := n6_; have BK244 := n7_; have BK257 := n8_; have BK263 := n9_; have BK270 := n10_; have BK295 := n11_; have HB := n12_; clear n0_ n1_ n2_ n3_ n4_ n5_ n6_ n7_ n8_ n9_ n10_ n11_ n12_; (try clear hb); (try clear hb2); (try clear hk); (try clear hi)))
  go_ret
  exact ⟨by first | rfl | (simp [errW_none, errW_some] <;> rfl) | (simp [*, errW_none, errW_some] <;> rfl), u9_17⟩

end Go.Proofs.Ytjdpifafijcpbaa.QFnExactForget
