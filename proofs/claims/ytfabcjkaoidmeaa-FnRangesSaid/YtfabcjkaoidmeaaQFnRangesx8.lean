-- Printed by the session's own program wip/prx.py.
import Derived.Test.YtfabcjkaoidmeaaQFnRangesx0
import Derived.Test.YtfabcjkaoidmeaaQFnRangesx4
import Derived.Test.YtfabcjkaoidmeaaQFnRangesx6
namespace Go.Proofs.Ytfabcjkaoidmeaa.QFnRanges
open Go.RowKit Go.Proofs.YtfabcjkaoidmeaaW.PrintWords Go.Proofs.YtfabcjkaoidmeaaW.PrintLast Go.Proofs.YtfabcjkaoidmeaaW.PrintMore
attribute [local go_sem] max2_int min2_int max_two min_two max_three min_three max_four min_four Go.Proofs.Ytfabcjkaoidmeaa.Set.isSome_setCell   -- for this text's walks alone
set_option linter.unusedVariables false
set_option linter.unusedSimpArgs false

-- squeezed
theorem u8_0 {P : Prop} (h : P := by repeat (first | (with_reducible first | exact HB.out | apply below_alloc | apply pw_below_drewN | apply below_drew1 | refine below_set ?_ (IsS81.ge HI0.out)) | exact HB.out)) : P := h
theorem u8_1 {P : Prop} (h : P := by repeat (first | (with_reducible first | exact HB.out | apply below_alloc | apply pw_below_drewN | apply below_drew1) | exact HB.out)) : P := h
theorem u8_2 {P : Prop} (h : P := by repeat (first | (with_reducible first | exact HI0.out | apply IsS81.alloc | apply IsS81.drewN | apply IsS81.drew | apply IsS81.set_1 | apply IsS81.set_2) | exact HI0.out)) : P := h
theorem u8_3 {P : Prop} (h : P := by repeat (first | (with_reducible first | exact HK.out | apply KeepBut.set_ | apply keep_drewN | apply keep_drew | apply keep_alloc) | exact HK.out)) : P := h
theorem u8_4 {P : Prop} (h : P := by (try simp only [List.map_toArray, List.map_cons, List.map_nil]); first | done | rfl | (simp only [List.length_drop, List.length_take]; rfl)) : P := h
theorem u8_5 {P : Prop} (h : P := by first | (with_reducible assumption) | assumption) : P := h
theorem u8_6 {P : Prop} (h : P := by first | rfl | (simp; done) | (simp [*]; done)) : P := h
theorem u8_7 {P : Prop} (h : P := by (with_reducible repeat (first | apply Kd.R_alloc | apply Kd.R_drewN | apply Kd.R_drew)); exact HO_9.out) : P := h
/-! ### spec_SplitRange: function 50 -/
mutual
def spec_SplitRange.j0 : Nat → List (S26) → Int → Int → Int → Bool → Option ((List (S26)) × Bool)
  | 0, _, _, _, _, _ => none
  | k + 1, x0, x1, x2, x8, x34 => if x34 = true then (some (([] : List (S26)), false)) else (spec_SplitRange.l0 k x0 x1 x2 x8 (([] : List (S26))) 0)
def spec_SplitRange.l0 : Nat → List (S26) → Int → Int → Int → List (S26) → Int → Option ((List (S26)) × Bool)
  | 0, _, _, _, _, _, _ => none
  | k + 1, x0, x1, x2, x8, x9, x10 => if x10 < (x0.length : Int) then (if x10 = x8 then (if 0 ≤ x10 then (if x9.length < 5864062014805 then ((some (x9 ++ [(⟨(rd_T26 x0 x10).f0, IntKind.u64.wrap (x1 - 1), (rd_T26 x0 x10).f2⟩ : S26)] : List (S26))).bind fun y156 => (if y156.length < 5864062014805 then (spec_SplitRange.l0 k x0 x1 x2 x8 (y156 ++ [(⟨x1, (rd_T26 x0 x10).f1, x2⟩ : S26)]) (wrap64 (x10 + 1))) else (none))) else (none)) else (none)) else (if 0 ≤ x10 then (if x9.length < 5864062014805 then (spec_SplitRange.l0 k x0 x1 x2 x8 (x9 ++ [(⟨(rd_T26 x0 x10).f0, (rd_T26 x0 x10).f1, (rd_T26 x0 x10).f2⟩ : S26)]) (wrap64 (x10 + 1))) else (none)) else (none))) else (some (x9, true))
end
def spec_SplitRange.f (k : Nat) (l0 : List (S26)) (a1 : Int) (a2 : Int) : Option ((List (S26)) × Bool) := (spec_FindRange.f k l0 a1).bind fun t148 => (if t148 < 0 then (spec_SplitRange.j0 k l0 a1 a2 t148 true) else (if 0 ≤ t148 then (if t148 < (l0.length : Int) then (if ((rd_T26 l0 t148).f0) = a1 then (spec_SplitRange.j0 k l0 a1 a2 t148 true) else ((spec_l01In.f a2 0 99).bind fun t150 => (if t150 = true then (spec_SplitRange.j0 k l0 a1 a2 t148 ((l0.length : Int) == 24)) else (spec_SplitRange.j0 k l0 a1 a2 t148 true)))) else (none)) else (none)))
theorem spec_SplitRange.mono_l : ∀ k, (∀ y0 y1 y2 y3 y4, LeO (spec_SplitRange.j0 k y0 y1 y2 y3 y4) (spec_SplitRange.j0 (k + 1) y0 y1 y2 y3 y4)) ∧ (∀ y0 y1 y2 y3 y4 y5, LeO (spec_SplitRange.l0 k y0 y1 y2 y3 y4 y5) (spec_SplitRange.l0 (k + 1) y0 y1 y2 y3 y4 y5))
  | 0 => ⟨fun _ _ _ _ _ r h => by simp [spec_SplitRange.j0] at h, fun _ _ _ _ _ _ r h => by simp [spec_SplitRange.l0] at h⟩
  | k + 1 => by
    obtain ⟨ih0, ih1⟩ := spec_SplitRange.mono_l k
    refine ⟨?_, ?_⟩
    · intro y0 y1 y2 y3 y4
      unfold spec_SplitRange.j0
      repeat' first
      | (with_reducible exact ih0 _ _ _ _ _)
      | (with_reducible exact ih1 _ _ _ _ _ _)
      | (with_reducible exact spec_FindRange.mono _ _ _)
      | (with_reducible exact LeO.refl _)
      | (with_reducible exact LeO.none _)
      | (with_reducible refine LeO.ite ?_ ?_)
      | (with_reducible refine LeO.bind ?_ (fun _ => ?_))
      | exact ih0 _ _ _ _ _
      | exact ih1 _ _ _ _ _ _
      | exact spec_FindRange.mono _ _ _
      | exact LeO.none _
      | refine LeO.ite ?_ ?_
      | refine LeO.bind ?_ (fun _ => ?_)
    · intro y0 y1 y2 y3 y4 y5
      unfold spec_SplitRange.l0
      repeat' first
      | (with_reducible exact ih0 _ _ _ _ _)
      | (with_reducible exact ih1 _ _ _ _ _ _)
      | (with_reducible exact spec_FindRange.mono _ _ _)
      | (with_reducible exact LeO.refl _)
      | (with_reducible exact LeO.none _)
      | (with_reducible refine LeO.ite ?_ ?_)
      | (with_reducible refine LeO.bind ?_ (fun _ => ?_))
      | exact ih0 _ _ _ _ _
      | exact ih1 _ _ _ _ _ _
      | exact spec_FindRange.mono _ _ _
      | exact LeO.none _
      | refine LeO.ite ?_ ?_
      | refine LeO.bind ?_ (fun _ => ?_)
theorem spec_SplitRange.mono : ∀ a0 a1 a2 k, LeO (spec_SplitRange.f k a0 a1 a2) (spec_SplitRange.f (k + 1) a0 a1 a2) := by
  intro a0 a1 a2 k
  obtain ⟨ih0, ih1⟩ := spec_SplitRange.mono_l k
  unfold spec_SplitRange.f
  repeat' first
      | (with_reducible exact ih0 _ _ _ _ _)
      | (with_reducible exact ih1 _ _ _ _ _ _)
      | (with_reducible exact spec_FindRange.mono _ _ _)
      | (with_reducible exact LeO.refl _)
      | (with_reducible exact LeO.none _)
      | (with_reducible refine LeO.ite ?_ ?_)
      | (with_reducible refine LeO.bind ?_ (fun _ => ?_))
      | exact ih0 _ _ _ _ _
      | exact ih1 _ _ _ _ _ _
      | exact spec_FindRange.mono _ _ _
      | exact LeO.none _
      | refine LeO.ite ?_ ?_
      | refine LeO.bind ?_ (fun _ => ?_)
def spec_SplitRange.T10 : Bool × List (List Nat × List Nat) := (true, [([], []), ([], []), ([], []), ([1, 2], [1, 2]), ([3], [3]), ([4], [4]), ([], []), ([6], [6]), ([], []), ([], []), ([8, 9], [8, 9]), ([10], [10]), ([11], [11]), ([5, 7, 12], [5, 7, 12]), ([13], [13]), ([0, 14], [0, 14]), ([15, 15, 0, 1, 2, 3, 4, 5, 6, 7, 8, 9, 10, 11, 12, 13, 14, 15], [0, 15])])
def spec_SplitRange.B10 : List Nat := [0, 0, 0, 6, 14, 30, 0, 64, 0, 0, 768, 1792, 3840, 8190, 16382, 32767, 65535]
theorem spec_SplitRange.tab10 : rtab .any (opsOf Try.f50 10) = spec_SplitRange.T10 := by kernel_rfl
theorem spec_SplitRange.bits10 : waitsOk spec_SplitRange.T10.2 spec_SplitRange.B10 = true := by kernel_rfl
set_option maxHeartbeats 8000000 in
set_option maxRecDepth 100000 in
theorem spec_SplitRange.calls (k : Nat) (A0 : Option Addr) (c0 : Nat) (l0 : List (S26)) (a1 : Int) (a2 : Int) (r1 : List (S26)) (r2 : Bool) (w : World) (hr0 : Kd.C k26 w A0 l0.length l0) (hc0 : l0.length ≤ c0) (h : spec_SplitRange.f k l0 a1 a2 = some (r1, r2)) :
    Calls Try.prog 50 #[.slice A0 l0.length c0, .int .u64 a1, .int .i64 a2] w fun e w' => ∃ v0_ : Value, e = .returned (.tuple #[v0_, .bool r2]) ∧ Kd.R k26 26 w' w.heap.size (fun _ => True) v0_ r1 ∧ Below w.heap.size w w' := by
  have hu26 := Try.underlying26
  have HR0 := Aside0.mk hr0
  have HC0 := Aside0.mk hc0
  clear hr0 hc0
  have HB := Aside0.mk (Below.refl w.heap.size w)
  have H : ((spec_FindRange.f k l0 a1).bind fun t148 => (if t148 < 0 then (spec_SplitRange.j0 k l0 a1 a2 t148 true) else (if 0 ≤ t148 then (if t148 < (l0.length : Int) then (if ((rd_T26 l0 t148).f0) = a1 then (spec_SplitRange.j0 k l0 a1 a2 t148 true) else ((spec_l01In.f a2 0 99).bind fun t150 => (if t150 = true then (spec_SplitRange.j0 k l0 a1 a2 t148 ((l0.length : Int) == 24)) else (spec_SplitRange.j0 k l0 a1 a2 t148 true)))) else (none)) else (none)))) = some (r1, r2) := h
  clear h
  replace H := Option.bind_eq_some_iff.mp H
  obtain ⟨t148, A40, H⟩ := H
  have A4 := Aside0.mk A40
  clear A40
  have HC5 := Aside0.mk H
  clear H
  go_enter Try.func50, Try.ntmps50
  go_upto_region 2 with (first | ((with_reducible refine gate_callee (f := 28) rfl ?_); refine goesL_ (some 13) rfl rfl Try.func28 (by kernel_rfl) rfl #[.slice A0 l0.length c0, .int .u64 a1] rfl u8_4 ?_; (with_reducible refine (spec_FindRange.calls k _ _ l0 a1 t148 _ ?side1 ?side2 A4.out).mono ?_); (case side1 => exact (by repeat (first | exact HR0.out | (with_reducible refine Kd.C_alloc ?_ _) | (with_reducible refine Kd.C_drewN ?_ _) | (with_reducible refine Kd.C_drew ?_)))); (case side2 => exact HC0.out); rintro e w6 ⟨rfl, hb⟩; refine ⟨_, rfl, ?_⟩; have n0_ := Aside0.mk (below_step u8_1 hb); clear HB; have HB := n0_; clear n0_; (try clear hb); (try clear hb2); (try clear hk); (try clear hi)))
  (try simp only [Act.put, List.setIfInBounds_toArray, List.set_cons_zero, List.set_cons_succ])
  go_cut [34] (fun v34 wc => ∃ (kq : Nat) (x34_4 : Bool), v34 = .bool x34_4 ∧ Aside0 (spec_SplitRange.j0 kq l0 a1 a2 t148 x34_4 = some (r1, r2)) ∧ Aside0 (kq ≤ k) ∧ Aside0 (Below w.heap.size w wc))
  case first =>
    have H := HC5.out
    clear HC5
    by_cases c7 : t148 < 0
    · rw [if_pos c7] at H
      have c7b0 : decide (t148 < 0) = true := decide_eq_true c7
      clear c7
      (first | rw [c7b0] | (simp only [i64_w, i32_w]; rw [c7b0]) | skip)
      have H' := Aside0.mk H
      clear H
      go_wp2
      go_meet
      case rel => exact ⟨_, (true), u8_6, H', ⟨by first | omega | exact Nat.le_refl _⟩, ⟨u8_1⟩⟩
    rw [if_neg c7] at H
    have c7b0 : decide (t148 < 0) = false := decide_eq_false c7
    clear c7
    (first | rw [c7b0] | (simp only [i64_w, i32_w]; rw [c7b0]) | skip)
    by_cases c8 : 0 ≤ t148
    rotate_left
    · rw [if_neg c8] at H
      exact absurd H (by simp)
    rw [if_pos c8] at H
    have c8b0 : decide (0 ≤ t148) = true := decide_eq_true c8
    clear c8
    by_cases c9 : t148 < (l0.length : Int)
    rotate_left
    · rw [if_neg c9] at H
      exact absurd H (by simp)
    rw [if_pos c9] at H
    have c9b0 : decide (t148 < (l0.length : Int)) = true := decide_eq_true c9
    clear c9
    by_cases c10 : ((rd_T26 l0 t148).f0) = a1
    · rw [if_pos c10] at H
      have c10b0 : (((rd_T26 l0 t148).f0) == a1) = true := beq_iff_eq.mpr c10
      have c10b1 : (((rd_T26 l0 t148).f0) != a1) = false := bne_eq_false_iff_eq.mpr c10
      clear c10
      have H' := Aside0.mk H
      clear H
      have p149 : 0 ≤ (t148 : Int) := of_decide_eq_true u8_5
      have q149 : t148 < (l0.length : Int) := of_decide_eq_true u8_5
      obtain ⟨ad149, e149, hx149_0, hx149_1, hx149_2⟩ := at_T26 HR0.out t148 p149 q149
      cases e149
      replace hx149_0 := (HB.out.cell (World.block_lt_of_cell? w _ hx149_0)).trans hx149_0
      replace hx149_1 := (HB.out.cell (World.block_lt_of_cell? w _ hx149_1)).trans hx149_1
      replace hx149_2 := (HB.out.cell (World.block_lt_of_cell? w _ hx149_2)).trans hx149_2
      replace p149 := eq_true p149
      replace q149 := eq_true q149
      go_wp2
      go_meet
      case rel => exact ⟨_, (true), u8_6, H', ⟨by first | omega | exact Nat.le_refl _⟩, ⟨u8_1⟩⟩
    rw [if_neg c10] at H
    have c10b0 : (((rd_T26 l0 t148).f0) == a1) = false := beq_eq_false_iff_ne.mpr c10
    have c10b1 : (((rd_T26 l0 t148).f0) != a1) = true := bne_iff_ne.mpr c10
    replace H := Option.bind_eq_some_iff.mp H
    obtain ⟨t150, A110, H⟩ := H
    have A11 := Aside0.mk A110
    clear A110
    by_cases c12 : t150 = true
    · subst c12
      rw [if_pos rfl] at H
      have H' := Aside0.mk H
      clear H
      have p149 : 0 ≤ (t148 : Int) := of_decide_eq_true u8_5
      have q149 : t148 < (l0.length : Int) := of_decide_eq_true u8_5
      obtain ⟨ad149, e149, hx149_0, hx149_1, hx149_2⟩ := at_T26 HR0.out t148 p149 q149
      cases e149
      replace hx149_0 := (HB.out.cell (World.block_lt_of_cell? w _ hx149_0)).trans hx149_0
      replace hx149_1 := (HB.out.cell (World.block_lt_of_cell? w _ hx149_1)).trans hx149_1
      replace hx149_2 := (HB.out.cell (World.block_lt_of_cell? w _ hx149_2)).trans hx149_2
      replace p149 := eq_true p149
      replace q149 := eq_true q149
      go_wp2_with (first | (go_at_call 55; (with_reducible refine (spec_l01In.calls a2 0 99 true _ A11.out).mono ?_); rintro e w' ⟨rfl, ⟨nd, rfl⟩⟩))
      go_meet
      case rel => exact ⟨_, (((l0.length : Int) == 24)), u8_6, H', ⟨by first | omega | exact Nat.le_refl _⟩, ⟨u8_1⟩⟩
    replace c12 := Bool.eq_false_iff.mpr c12
    subst c12
    rw [if_neg (show ¬ (false = true) by decide)] at H
    have H' := Aside0.mk H
    clear H
    have p149 : 0 ≤ (t148 : Int) := of_decide_eq_true u8_5
    have q149 : t148 < (l0.length : Int) := of_decide_eq_true u8_5
    obtain ⟨ad149, e149, hx149_0, hx149_1, hx149_2⟩ := at_T26 HR0.out t148 p149 q149
    cases e149
    replace hx149_0 := (HB.out.cell (World.block_lt_of_cell? w _ hx149_0)).trans hx149_0
    replace hx149_1 := (HB.out.cell (World.block_lt_of_cell? w _ hx149_1)).trans hx149_1
    replace hx149_2 := (HB.out.cell (World.block_lt_of_cell? w _ hx149_2)).trans hx149_2
    replace p149 := eq_true p149
    replace q149 := eq_true q149
    go_wp2_with (first | (go_at_call 55; (with_reducible refine (spec_l01In.calls a2 0 99 false _ A11.out).mono ?_); rintro e w' ⟨rfl, ⟨nd, rfl⟩⟩))
    go_meet
    case rel => exact ⟨_, (true), u8_6, H', ⟨by first | omega | exact Nat.le_refl _⟩, ⟨u8_1⟩⟩
  clear HC5
  try clear c1
  try clear p1
  try clear q1
  try clear hx1
  try clear c2
  try clear p2
  try clear c5
  try clear c7
  try clear c7b0
  try clear c8
  try clear c8b0
  try clear c9
  try clear c9b0
  try clear c10
  try clear c10b0
  try clear c10b1
  try clear c12
  try clear hx149_0
  try clear hx149_1
  try clear hx149_2
  try clear p149
  try clear q149
  obtain ⟨kq, x34_4, rfl, HA, HJ4, HB⟩ := hcut
  cases kq with
  | zero => exact absurd HA.out (by simp [spec_SplitRange.j0])
  | succ kj4 =>
    have H := HA.out
    clear HA
    simp only [spec_SplitRange.j0] at H
    by_cases c13 : x34_4 = true
    · subst c13
      rw [if_pos rfl] at H
      simp only [Option.some.injEq, Prod.mk.injEq] at H
      obtain ⟨rfl, rfl⟩ := H
      go_wp2
      go_ret2
      exact ⟨_, by first | rfl | (simp [errW_none, errW_some] <;> rfl) | (simp [*, errW_none, errW_some] <;> rfl), (by first | exact Kd.R_nil _ _ _ _ _ | exact Kd.N_nil _ _ _ _ _ | exact Kd.V_nil _ _ _ _ _ | exact Kd.Q_nil _ _ _ _ _ | exact Kd.S_nil _ _ _ _ _), u8_1⟩
    replace c13 := Bool.eq_false_iff.mpr c13
    subst c13
    rw [if_neg (show ¬ (false = true) by decide)] at H
    obtain ⟨y151, hy151⟩ : ∃ y_ : List (S26), y_ = (([] : List (S26))) := ⟨_, rfl⟩
    replace H : (spec_SplitRange.l0 kj4 l0 a1 a2 t148 y151 0) = some (r1, r2) := by first | (rw [hy151]; with_reducible exact H) | (have H2_ := (Option.bind_some _ _).symm.trans H; rw [hy151]; with_reducible exact H2_) | (have H2_ := (Option.bind_some _ _).symm.trans H; with_reducible exact H2_) | with_reducible exact H | (rw [hy151]; exact H) | exact H
    have Ny151 := Aside0.mk hy151
    clear hy151
    have H' := Aside0.mk H
    clear H
    go_wp2_with (first | ((with_reducible refine gate_dst (N := 35) rfl ?_); (try (refine gate_guard (by rfl) ?_; dsimp only)); refine Kd.R_lit k26 _ 26 ?hg (N := 35) ?hd (xs := ([] : List (S26))) (inner := []) (ok := fun _ => True) (okp := fun _ => True) ?hr ?hp (fun _ hk => hk) trivial (Below.refl _ _) (Nat.le_refl _) (by simp) ?_; (case hd => rfl); (case hg => rfl); (case hr => first | (go_simp; done) | (go_simp; rfl)); (case hp => exact (Reps.none _ _)); intro v152 w14 ho15 hb hg_ hnew_; clear hg_ hnew_; (first | rw [← Ny151.out] at ho15 | (simp only [Int.reduceToNat] at ho15; rw [← Ny151.out] at ho15)); have n0_ := Aside0.mk (Kd.R_lower ho15 (below_size u8_1)); have n1_ := Aside0.mk (below_step u8_1 hb); clear HB; have HO153 := n0_; have HB := n1_; clear n0_ n1_; clear hb ho15))
    go_loopg [9, 10] kj4 (fun kq v9 v10 w' => ∃ (x9_2 : List (S26)) (x10_2 : Int), v10 = .int .i64 x10_2 ∧ Aside0 (spec_SplitRange.l0 kq l0 a1 a2 t148 x9_2 x10_2 = some (r1, r2)) ∧ Aside0 (kq ≤ kj4) ∧ Aside0 (Kd.R k26 26 w' w.heap.size (fun _ => True) v9 x9_2) ∧ Aside0 (Below w.heap.size w w'))
    case atStart => exact ⟨(y151), (0), u8_6, H', ⟨Nat.le_refl _⟩, ⟨(by (with_reducible repeat (first | apply Kd.R_alloc | apply Kd.R_drewN | apply Kd.R_drew)); exact HO153.out)⟩, ⟨u8_1⟩⟩
    clear H'
    try clear c1
    try clear p1
    try clear q1
    try clear hx1
    try clear c2
    try clear p2
    try clear c5
    try clear c7
    try clear c7b0
    try clear c8
    try clear c8b0
    try clear c9
    try clear c9b0
    try clear c10
    try clear c10b0
    try clear c10b1
    try clear c12
    try clear c13
    try clear p14
    try clear q14
    try clear hx14
    try clear hx149_0
    try clear hx149_1
    try clear hx149_2
    try clear p1
    try clear p149
    try clear p2
    try clear q1
    try clear q149
    obtain ⟨x9_2, x10_2, rfl, HA, HK2, HO_9, HB⟩ := hrel
    cases gk with
    | zero => exact absurd HA.out (by simp [spec_SplitRange.l0])
    | succ k2 =>
      have H := HA.out
      clear HA
      simp only [spec_SplitRange.l0] at H
      by_cases c16 : x10_2 < (l0.length : Int)
      rotate_left
      · rw [if_neg c16] at H
        have c16b0 : decide (x10_2 < (l0.length : Int)) = false := decide_eq_false c16
        clear c16
        simp only [Option.some.injEq, Prod.mk.injEq] at H
        obtain ⟨rfl, rfl⟩ := H
        go_wp2
        go_ret2
        exact ⟨_, by first | rfl | (simp [errW_none, errW_some] <;> rfl) | (simp [*, errW_none, errW_some] <;> rfl), u8_7, u8_1⟩
      rw [if_pos c16] at H
      have c16b0 : decide (x10_2 < (l0.length : Int)) = true := decide_eq_true c16
      clear c16
      by_cases c17 : x10_2 = t148
      rotate_left
      · rw [if_neg c17] at H
        have c17b0 : (x10_2 == t148) = false := beq_eq_false_iff_ne.mpr c17
        have c17b1 : (x10_2 != t148) = true := bne_iff_ne.mpr c17
        by_cases c24 : 0 ≤ x10_2
        rotate_left
        · rw [if_neg c24] at H
          exact absurd H (by simp)
        rw [if_pos c24] at H
        have c24b0 : decide (0 ≤ x10_2) = true := decide_eq_true c24
        clear c24
        by_cases c25 : x9_2.length < 5864062014805
        rotate_left
        · rw [if_neg c25] at H
          exact absurd H (by simp)
        rw [if_pos c25] at H
        have LMc25 := Aside0.mk c25
        clear c25
        obtain ⟨y164, hy164⟩ : ∃ y_ : List (S26), y_ = (x9_2 ++ [(⟨(rd_T26 l0 x10_2).f0, (rd_T26 l0 x10_2).f1, (rd_T26 l0 x10_2).f2⟩ : S26)]) := ⟨_, rfl⟩
        replace H : (spec_SplitRange.l0 k2 l0 a1 a2 t148 y164 (wrap64 (x10_2 + 1))) = some (r1, r2) := by first | (rw [hy164]; with_reducible exact H) | (have H2_ := (Option.bind_some _ _).symm.trans H; rw [hy164]; with_reducible exact H2_) | (have H2_ := (Option.bind_some _ _).symm.trans H; with_reducible exact H2_) | with_reducible exact H | (rw [hy164]; exact H) | exact H
        have Ny164 := Aside0.mk hy164
        clear hy164
        have H' := Aside0.mk H
        clear H
        have p163 : 0 ≤ (x10_2 : Int) := of_decide_eq_true u8_5
        have q163 : x10_2 < (l0.length : Int) := of_decide_eq_true u8_5
        obtain ⟨ad163, e163, hx163_0, hx163_1, hx163_2⟩ := at_T26 HR0.out x10_2 p163 q163
        cases e163
        replace hx163_0 := (HB.out.cell (World.block_lt_of_cell? w _ hx163_0)).trans hx163_0
        replace hx163_1 := (HB.out.cell (World.block_lt_of_cell? w _ hx163_1)).trans hx163_1
        replace hx163_2 := (HB.out.cell (World.block_lt_of_cell? w _ hx163_2)).trans hx163_2
        replace p163 := eq_true p163
        replace q163 := eq_true q163
        go_wp2_with (first | ((with_reducible refine gate_builtin (b := .append) (xs := #[.tmp 45, .tmp 50]) rfl ?_); (try (refine gate_guard (by rfl) ?_; dsimp only)); at_builtin; refine Kd.R_append k26 (w0 := w) w.heap.size rfl (.tmp 45) (.tmp 50) 32 26 (.agg #[(.int .u64 0), (.int .u64 0), (.int .i64 0)]) 24 rfl Try.underlying32 info26 rfl (by decide) (by omega) u9 x9_2 (⟨(rd_T26 l0 x10_2).f0, (rd_T26 l0 x10_2).f1, (rd_T26 l0 x10_2).f2⟩ : S26) [.int .u64 ((rd_T26 l0 x10_2).f0), .int .u64 ((rd_T26 l0 x10_2).f1), .int .i64 ((rd_T26 l0 x10_2).f2)] (fun _ => True) (fun _ => False) rfl rfl ?aP (fun _ hk => hk.elim) ?aF ?aO ?aB ?aS ?aL ?_; (case aP => exact k26_mkM _ _ _ (⟨(rd_T26 l0 x10_2).f0, (rd_T26 l0 x10_2).f1, (rd_T26 l0 x10_2).f2⟩ : S26)); (case aB => exact u8_1); (case aF => exact (fun _ _ => trivial)); (case aO => exact u8_7); (case aS => exact (below_size u8_1)); (case aL => have := LMc25.out; omega); intro v165 w26 ho hb hg hat; rw [← Ny164.out] at ho; have n0_ := Aside0.mk (hb); have n1_ := Aside0.mk (ho); clear HB; clear HO_9; have HB := n0_; have HO166 := n1_; clear n0_ n1_; clear ho hb hg hat))
        go_roundg k2
        case measure => have := HJ4.out; have := HK2.out; omega
        case rel => exact ⟨(y164), (wrap64 (x10_2 + 1)), u8_6, H', ⟨(by have := HJ4.out; have := HK2.out; omega)⟩, ⟨(by (with_reducible repeat (first | apply Kd.R_alloc | apply Kd.R_drewN | apply Kd.R_drew)); exact HO166.out)⟩, ⟨u8_1⟩⟩
      rw [if_pos c17] at H
      have c17b0 : (x10_2 == t148) = true := beq_iff_eq.mpr c17
      have c17b1 : (x10_2 != t148) = false := bne_eq_false_iff_eq.mpr c17
      clear c17
      by_cases c18 : 0 ≤ x10_2
      rotate_left
      · rw [if_neg c18] at H
        exact absurd H (by simp)
      rw [if_pos c18] at H
      have c18b0 : decide (0 ≤ x10_2) = true := decide_eq_true c18
      clear c18
      by_cases c19 : x9_2.length < 5864062014805
      rotate_left
      · rw [if_neg c19] at H
        exact absurd H (by simp)
      rw [if_pos c19] at H
      have LMc19 := Aside0.mk c19
      clear c19
      obtain ⟨y156, hy156⟩ : ∃ y_ : List (S26), y_ = (x9_2 ++ [(⟨(rd_T26 l0 x10_2).f0, IntKind.u64.wrap (a1 - 1), (rd_T26 l0 x10_2).f2⟩ : S26)]) := ⟨_, rfl⟩
      replace H : (if y156.length < 5864062014805 then (spec_SplitRange.l0 k2 l0 a1 a2 t148 (y156 ++ [(⟨a1, (rd_T26 l0 x10_2).f1, a2⟩ : S26)]) (wrap64 (x10_2 + 1))) else (none)) = some (r1, r2) := by first | (rw [hy156]; with_reducible exact H) | (have H2_ := (Option.bind_some _ _).symm.trans H; rw [hy156]; with_reducible exact H2_) | (have H2_ := (Option.bind_some _ _).symm.trans H; with_reducible exact H2_) | with_reducible exact H | (rw [hy156]; exact H) | exact H
      have Ny156 := Aside0.mk hy156
      clear hy156
      by_cases c20 : y156.length < 5864062014805
      rotate_left
      · rw [if_neg c20] at H
        exact absurd H (by simp)
      rw [if_pos c20] at H
      have LMc20 := Aside0.mk c20
      clear c20
      obtain ⟨y160, hy160⟩ : ∃ y_ : List (S26), y_ = (y156 ++ [(⟨a1, (rd_T26 l0 x10_2).f1, a2⟩ : S26)]) := ⟨_, rfl⟩
      replace H : (spec_SplitRange.l0 k2 l0 a1 a2 t148 y160 (wrap64 (x10_2 + 1))) = some (r1, r2) := by first | (rw [hy160]; with_reducible exact H) | (have H2_ := (Option.bind_some _ _).symm.trans H; rw [hy160]; with_reducible exact H2_) | (have H2_ := (Option.bind_some _ _).symm.trans H; with_reducible exact H2_) | with_reducible exact H | (rw [hy160]; exact H) | exact H
      have Ny160 := Aside0.mk hy160
      clear hy160
      have H' := Aside0.mk H
      clear H
      try go_wp2
      have n0_ := Aside0.mk (Kd.R_drew HO_9.out)
      have n1_ := Aside0.mk (below_drew1 HB.out)
      clear HO_9
      clear HB
      have HO_9 := n0_
      have HB := n1_
      clear n0_ n1_
      have p154 : 0 ≤ (x10_2 : Int) := of_decide_eq_true u8_5
      have q154 : x10_2 < (l0.length : Int) := of_decide_eq_true u8_5
      obtain ⟨ad154, e154, hx154_0, hx154_1, hx154_2⟩ := at_T26 HR0.out x10_2 p154 q154
      have hw154_2 := hx154_2
      have hw154_1 := hx154_1
      have hw154_0 := hx154_0
      cases e154
      replace hx154_0 := (HB.out.cell (World.block_lt_of_cell? w _ hx154_0)).trans hx154_0
      replace hx154_1 := (HB.out.cell (World.block_lt_of_cell? w _ hx154_1)).trans hx154_1
      replace hx154_2 := (HB.out.cell (World.block_lt_of_cell? w _ hx154_2)).trans hx154_2
      replace p154 := eq_true p154
      replace q154 := eq_true q154
      have p155 : 0 ≤ (x10_2 : Int) := of_decide_eq_true u8_5
      have q155 : x10_2 < (l0.length : Int) := of_decide_eq_true u8_5
      obtain ⟨ad155, e155, hx155_0, hx155_1, hx155_2⟩ := at_T26 HR0.out x10_2 p155 q155
      have hw155_2 := hx155_2
      have hw155_1 := hx155_1
      have hw155_0 := hx155_0
      obtain rfl : ad154 = ad155 := (by injection e155)
      replace hx155_0 := (HB.out.cell (World.block_lt_of_cell? w _ hx155_0)).trans hx155_0
      replace hx155_1 := (HB.out.cell (World.block_lt_of_cell? w _ hx155_1)).trans hx155_1
      replace hx155_2 := (HB.out.cell (World.block_lt_of_cell? w _ hx155_2)).trans hx155_2
      replace p155 := eq_true p155
      replace q155 := eq_true q155
      refine start_ (n := 17) (S := fun w' => w'.cell? (ad154.add ((x10_2).toNat * 3)) = some (.int .u64 ((rd_T26 l0 x10_2).f0)) ∧ w'.cell? ⟨(ad154.add ((x10_2).toNat * 3)).block, (ad154.add ((x10_2).toNat * 3)).off + 1, none⟩ = some (.int .u64 ((rd_T26 l0 x10_2).f1)) ∧ w'.cell? ⟨(ad154.add ((x10_2).toNat * 3)).block, (ad154.add ((x10_2).toNat * 3)).off + 2, none⟩ = some (.int .i64 ((rd_T26 l0 x10_2).f2)) ∧ w'.cell? (ad154.add ((x10_2).toNat * 3)) = some (.int .u64 ((rd_T26 l0 x10_2).f0)) ∧ w'.cell? ⟨(ad154.add ((x10_2).toNat * 3)).block, (ad154.add ((x10_2).toNat * 3)).off + 1, none⟩ = some (.int .u64 ((rd_T26 l0 x10_2).f1)) ∧ w'.cell? ⟨(ad154.add ((x10_2).toNat * 3)).block, (ad154.add ((x10_2).toNat * 3)).off + 2, none⟩ = some (.int .i64 ((rd_T26 l0 x10_2).f2))) (ds := []) #[false, false, false, false, false, false, false, false, false, false, false, false, false, false, false, false, false] (by kernel_rfl) rfl rfl ⟨((HB.out.cell (World.block_lt_of_cell? w _ hw154_0)).trans hw154_0), ((HB.out.cell (World.block_lt_of_cell? w _ hw154_1)).trans hw154_1), ((HB.out.cell (World.block_lt_of_cell? w _ hw154_2)).trans hw154_2), ((HB.out.cell (World.block_lt_of_cell? w _ hw155_0)).trans hw155_0), ((HB.out.cell (World.block_lt_of_cell? w _ hw155_1)).trans hw155_1), ((HB.out.cell (World.block_lt_of_cell? w _ hw155_2)).trans hw155_2)⟩ (fun hHeld => ?_); refine with_tabW spec_SplitRange.tab10 spec_SplitRange.bits10 (fun HT_ HW_ => ?_)
      generalize wr.drew = w21 at HO_9 HB hx154_0 hx154_1 hx154_2 hx155_0 hx155_1 hx155_2 hHeld ⊢
      refine pure_ (i := 0) (N := some 52) (v := ?_) (a' := ?_) #[true, false, false, false, false, false, false, false, false, false, false, false, false, false, false, false, false] rfl rfl (any_of HT_.out (by kernel_rfl)) (fun _ _ _ h => h) (Or.inl ⟨by rfl, ?_⟩) ?_ ?_
      rotate_left
      · intro w'
        go_simp
        with_reducible rfl
      rotate_left
      · simp only [Act.put, List.setIfInBounds_toArray, List.set_cons_zero, List.set_cons_succ, i64_w, i32_w]
        rfl
      refine pure_ (i := 1) (N := some 53) (v := ?_) (a' := ?_) #[true, true, false, false, false, false, false, false, false, false, false, false, false, false, false, false, false] rfl rfl (any_of HT_.out (by kernel_rfl)) (fun _ _ _ h => h) (Or.inl ⟨by rfl, ?_⟩) ?_ ?_
      rotate_left
      · intro w'
        go_simp
        with_reducible rfl
      rotate_left
      · simp only [Act.put, List.setIfInBounds_toArray, List.set_cons_zero, List.set_cons_succ, i64_w, i32_w]
        rfl
      refine pure_ (i := 2) (N := some 54) (v := ?_) (a' := ?_) #[true, true, true, false, false, false, false, false, false, false, false, false, false, false, false, false, false] rfl rfl (any_of HT_.out (by kernel_rfl)) (fun _ _ _ h => h) (Or.inl ⟨by rfl, ?_⟩) ?_ ?_
      rotate_left
      · intro w'
        go_simp
        with_reducible rfl
      rotate_left
      · simp only [Act.put, List.setIfInBounds_toArray, List.set_cons_zero, List.set_cons_succ, i64_w, i32_w]
        rfl
      refine pure_ (i := 3) (N := some 55) (v := ?_) (a' := ?_) #[true, true, true, true, false, false, false, false, false, false, false, false, false, false, false, false, false] rfl rfl (any_of HT_.out (by kernel_rfl)) (fun _ _ _ h => h) (Or.inl ⟨by rfl, ?_⟩) ?_ ?_
      rotate_left
      · intro w'
        go_simp
        with_reducible rfl
      rotate_left
      · simp only [Act.put, List.setIfInBounds_toArray, List.set_cons_zero, List.set_cons_succ, i64_w, i32_w]
        rfl
      refine pure_ (i := 4) (N := some 56) (v := ?_) (a' := ?_) #[true, true, true, true, true, false, false, false, false, false, false, false, false, false, false, false, false] rfl rfl (any_of HT_.out (by kernel_rfl)) (fun _ _ _ h => h) (Or.inl ⟨by rfl, ?_⟩) ?_ ?_
      rotate_left
      · intro w'
        go_simp
        with_reducible rfl
      rotate_left
      · simp only [Act.put, List.setIfInBounds_toArray, List.set_cons_zero, List.set_cons_succ, i64_w, i32_w]
        rfl
      refine pure_ (i := 6) (N := some 58) (v := ?_) (a' := ?_) #[true, true, true, true, true, false, true, false, false, false, false, false, false, false, false, false, false] rfl rfl (any_of HT_.out (by kernel_rfl)) (fun _ _ _ h => h) (Or.inl ⟨by rfl, ?_⟩) ?_ ?_
      rotate_left
      · intro w'
        go_simp
        with_reducible rfl
      rotate_left
      · simp only [Act.put, List.setIfInBounds_toArray, List.set_cons_zero, List.set_cons_succ, i64_w, i32_w]
        rfl
      refine pure_ (i := 7) (N := some 59) (v := ?_) (a' := ?_) #[true, true, true, true, true, false, true, true, false, false, false, false, false, false, false, false, false] rfl rfl (any_of HT_.out (by kernel_rfl)) (fun _ _ _ h => h) (Or.inl ⟨by rfl, ?_⟩) ?_ ?_
      rotate_left
      · intro w'
        go_simp
        with_reducible rfl
      rotate_left
      · simp only [Act.put, List.setIfInBounds_toArray, List.set_cons_zero, List.set_cons_succ, i64_w, i32_w]
        rfl
      refine pure_ (i := 8) (N := some 60) (v := ?_) (a' := ?_) #[true, true, true, true, true, false, true, true, true, false, false, false, false, false, false, false, false] rfl rfl (any_of HT_.out (by kernel_rfl)) (fun _ _ _ h => h) (Or.inl ⟨by rfl, ?_⟩) ?_ ?_
      rotate_left
      · intro w'
        go_simp
        with_reducible rfl
      rotate_left
      · simp only [Act.put, List.setIfInBounds_toArray, List.set_cons_zero, List.set_cons_succ, i64_w, i32_w]
        rfl
      refine pure_ (i := 9) (N := some 61) (v := ?_) (a' := ?_) #[true, true, true, true, true, false, true, true, true, true, false, false, false, false, false, false, false] rfl rfl (any_of HT_.out (by kernel_rfl)) (fun _ _ _ h => h) (Or.inl ⟨by rfl, ?_⟩) ?_ ?_
      rotate_left
      · intro w'
        go_simp
        with_reducible rfl
      rotate_left
      · simp only [Act.put, List.setIfInBounds_toArray, List.set_cons_zero, List.set_cons_succ, i64_w, i32_w]
        rfl
      refine pure_ (i := 10) (N := some 62) (v := ?_) (a' := ?_) #[true, true, true, true, true, false, true, true, true, true, true, false, false, false, false, false, false] rfl rfl (any_of HT_.out (by kernel_rfl)) (fun _ _ _ h => h) (Or.inl ⟨by rfl, ?_⟩) ?_ ?_
      rotate_left
      · intro w'
        go_simp
        with_reducible rfl
      rotate_left
      · simp only [Act.put, List.setIfInBounds_toArray, List.set_cons_zero, List.set_cons_succ, i64_w, i32_w]
        rfl
      refine pure_ (i := 11) (N := some 63) (v := ?_) (a' := ?_) #[true, true, true, true, true, false, true, true, true, true, true, true, false, false, false, false, false] rfl rfl (any_of HT_.out (by kernel_rfl)) (fun _ _ _ h => h) (Or.inl ⟨by rfl, ?_⟩) ?_ ?_
      rotate_left
      · intro w'
        go_simp
        with_reducible rfl
      rotate_left
      · simp only [Act.put, List.setIfInBounds_toArray, List.set_cons_zero, List.set_cons_succ, i64_w, i32_w]
        rfl
      refine take_ (i := 5) (N := some 57) (v := ?_) (a' := ?_) #[true, true, true, true, true, true, true, true, true, true, true, true, false, false, false, false, false] rfl rfl (take_ofW HT_.out HW_.out (by kernel_rfl)) (fun _ _ _ h => h) (Or.inl ⟨by rfl, ?_⟩) hHeld ?_ ?_
      rotate_left
      · rintro w' ⟨s0, s1, s2, s3, s4, s5⟩
        go_simp
        with_reducible rfl
      rotate_left
      · simp only [Act.put, List.setIfInBounds_toArray, List.set_cons_zero, List.set_cons_succ, i64_w, i32_w]
        rfl
      refine take_ (i := 12) (N := some 64) (v := ?_) (a' := ?_) #[true, true, true, true, true, true, true, true, true, true, true, true, true, false, false, false, false] rfl rfl (take_ofW HT_.out HW_.out (by kernel_rfl)) (fun _ _ _ h => h) (Or.inl ⟨by rfl, ?_⟩) hHeld ?_ ?_
      rotate_left
      · rintro w' ⟨s0, s1, s2, s3, s4, s5⟩
        go_simp
        with_reducible rfl
      rotate_left
      · simp only [Act.put, List.setIfInBounds_toArray, List.set_cons_zero, List.set_cons_succ, i64_w, i32_w]
        rfl
      refine pure_ (i := 13) (N := some 65) (v := ?_) (a' := ?_) #[true, true, true, true, true, true, true, true, true, true, true, true, true, true, false, false, false] rfl rfl (any_of HT_.out (by kernel_rfl)) (fun _ _ _ h => h) (Or.inl ⟨by rfl, ?_⟩) ?_ ?_
      rotate_left
      · intro w'
        go_simp
        with_reducible rfl
      rotate_left
      · simp only [Act.put, List.setIfInBounds_toArray, List.set_cons_zero, List.set_cons_succ, i64_w, i32_w]
        rfl
      refine one_ (i := 14) (N := some 66) #[true, true, true, true, true, true, true, true, true, true, true, true, true, true, true, false, false] rfl rfl (one_of HT_.out (by kernel_rfl)) (by decide) (fun K hK => ?_)
      refine value_ (w1 := ?_) (v := ?_) (by rfl) rfl ?_ ?_
      rotate_left 2
      · go_simp
        constructor
        · rfl
        rfl
      refine hK.out _ _ ⟨(World.cell?_alloc_lt _ _ _ (World.block_lt_of_cell? _ _ (((HB.out.cell (World.block_lt_of_cell? w _ hw154_0)).trans hw154_0)))).trans (((HB.out.cell (World.block_lt_of_cell? w _ hw154_0)).trans hw154_0)), (World.cell?_alloc_lt _ _ _ (World.block_lt_of_cell? _ _ (((HB.out.cell (World.block_lt_of_cell? w _ hw154_1)).trans hw154_1)))).trans (((HB.out.cell (World.block_lt_of_cell? w _ hw154_1)).trans hw154_1)), (World.cell?_alloc_lt _ _ _ (World.block_lt_of_cell? _ _ (((HB.out.cell (World.block_lt_of_cell? w _ hw154_2)).trans hw154_2)))).trans (((HB.out.cell (World.block_lt_of_cell? w _ hw154_2)).trans hw154_2)), (World.cell?_alloc_lt _ _ _ (World.block_lt_of_cell? _ _ (((HB.out.cell (World.block_lt_of_cell? w _ hw155_0)).trans hw155_0)))).trans (((HB.out.cell (World.block_lt_of_cell? w _ hw155_0)).trans hw155_0)), (World.cell?_alloc_lt _ _ _ (World.block_lt_of_cell? _ _ (((HB.out.cell (World.block_lt_of_cell? w _ hw155_1)).trans hw155_1)))).trans (((HB.out.cell (World.block_lt_of_cell? w _ hw155_1)).trans hw155_1)), (World.cell?_alloc_lt _ _ _ (World.block_lt_of_cell? _ _ (((HB.out.cell (World.block_lt_of_cell? w _ hw155_2)).trans hw155_2)))).trans (((HB.out.cell (World.block_lt_of_cell? w _ hw155_2)).trans hw155_2))⟩ (fun hHeld => ?_)
      clear hK K
      refine norm_ (a' := ?_) ?_ ?_
      rotate_left
      · show Act.put _ (some 66) _ = _
        simp only [Act.put, List.setIfInBounds_toArray, List.set_cons_zero, List.set_cons_succ, i64_w, i32_w]
        rfl
      refine one_ (i := 15) (N := some 67) #[true, true, true, true, true, true, true, true, true, true, true, true, true, true, true, true, false] rfl rfl (one_of HT_.out (by kernel_rfl)) (by decide) (fun K hK => ?_)
      refine Kd.R_append_step k26 (w0 := w) w.heap.size (by rfl) (.tmp 52) (.tmp 66) 32 26 (.agg #[(.int .u64 0), (.int .u64 0), (.int .i64 0)]) 24 rfl Try.underlying32 info26 rfl (by decide) (by omega) u9 x9_2 (⟨(rd_T26 l0 x10_2).f0, IntKind.u64.wrap (a1 - 1), (rd_T26 l0 x10_2).f2⟩ : S26) [.int .u64 ((rd_T26 l0 x10_2).f0), .int .u64 (IntKind.u64.wrap (a1 - 1)), .int .i64 ((rd_T26 l0 x10_2).f2)] (fun _ => True) (fun _ => False) rfl rfl ?aP (fun _ hk => hk.elim) ?aF ?aO ?aB ?aS ?aL ?_
      (case aP => exact k26_mkM _ _ _ (⟨(rd_T26 l0 x10_2).f0, IntKind.u64.wrap (a1 - 1), (rd_T26 l0 x10_2).f2⟩ : S26))
      (case aB => exact u8_1)
      (case aF => exact (fun _ _ => trivial))
      (case aO => exact u8_7)
      (case aS => exact (below_size u8_1))
      (case aL => have := LMc19.out; omega)
      intro v157 w22 ho hb hg hat
      rw [← Ny156.out] at ho
      have n0_ := Aside0.mk (hb)
      have n1_ := Aside0.mk (ho)
      clear HB
      clear HO_9
      have HB := n0_
      have HO158 := n1_
      clear n0_ n1_
      clear ho hb hg hat
      refine hK.out _ _ ⟨((HB.out.cell (World.block_lt_of_cell? w _ hw154_0)).trans hw154_0), ((HB.out.cell (World.block_lt_of_cell? w _ hw154_1)).trans hw154_1), ((HB.out.cell (World.block_lt_of_cell? w _ hw154_2)).trans hw154_2), ((HB.out.cell (World.block_lt_of_cell? w _ hw155_0)).trans hw155_0), ((HB.out.cell (World.block_lt_of_cell? w _ hw155_1)).trans hw155_1), ((HB.out.cell (World.block_lt_of_cell? w _ hw155_2)).trans hw155_2)⟩ (fun hHeld => ?_)
      clear hK K
      refine norm_ (a' := ?_) ?_ ?_
      rotate_left
      · show Act.put _ (some 67) _ = _
        simp only [Act.put, List.setIfInBounds_toArray, List.set_cons_zero, List.set_cons_succ, i64_w, i32_w]
        rfl
      refine pure_ (i := 16) (N := some 9) (v := ?_) (a' := ?_) #[true, true, true, true, true, true, true, true, true, true, true, true, true, true, true, true, true] rfl rfl (any_of HT_.out (by kernel_rfl)) (fun _ _ _ h => h) (Or.inl ⟨by rfl, ?_⟩) ?_ ?_
      rotate_left
      · intro w'
        go_simp
        with_reducible rfl
      rotate_left
      · simp only [Act.put, List.setIfInBounds_toArray, List.set_cons_zero, List.set_cons_succ, i64_w, i32_w]
        rfl
      refine done_ (done_of HT_.out (by kernel_rfl)) ?_
      have p159 : 0 ≤ (x10_2 : Int) := of_decide_eq_true u8_5
      have q159 : x10_2 < (l0.length : Int) := of_decide_eq_true u8_5
      obtain ⟨ad159, e159, hx159_0, hx159_1, hx159_2⟩ := at_T26 HR0.out x10_2 p159 q159
      obtain rfl : ad154 = ad159 := (by injection e159)
      replace hx159_0 := (HB.out.cell (World.block_lt_of_cell? w _ hx159_0)).trans hx159_0
      replace hx159_1 := (HB.out.cell (World.block_lt_of_cell? w _ hx159_1)).trans hx159_1
      replace hx159_2 := (HB.out.cell (World.block_lt_of_cell? w _ hx159_2)).trans hx159_2
      replace p159 := eq_true p159
      replace q159 := eq_true q159
      try go_wp2_with (first | ((with_reducible refine gate_builtin (b := .append) (xs := #[.tmp 68, .tmp 77]) rfl ?_); (try (refine gate_guard (by rfl) ?_; dsimp only)); at_builtin; refine Kd.R_append k26 (w0 := w) w.heap.size rfl (.tmp 68) (.tmp 77) 32 26 (.agg #[(.int .u64 0), (.int .u64 0), (.int .i64 0)]) 24 rfl Try.underlying32 info26 rfl (by decide) (by omega) v157 y156 (⟨a1, (rd_T26 l0 x10_2).f1, a2⟩ : S26) [.int .u64 a1, .int .u64 ((rd_T26 l0 x10_2).f1), .int .i64 a2] (fun _ => True) (fun _ => False) rfl rfl ?aP (fun _ hk => hk.elim) ?aF ?aO ?aB ?aS ?aL ?_; (case aP => exact k26_mkM _ _ _ (⟨a1, (rd_T26 l0 x10_2).f1, a2⟩ : S26)); (case aB => exact u8_1); (case aF => exact (fun _ _ => trivial)); (case aO => exact (by (with_reducible repeat (first | apply Kd.R_alloc | apply Kd.R_drewN | apply Kd.R_drew)); exact HO158.out)); (case aS => exact (below_size u8_1)); (case aL => have := LMc20.out; omega); intro v161 w23 ho hb hg hat; rw [← Ny160.out] at ho; have n0_ := Aside0.mk (hb); have n1_ := Aside0.mk (ho); clear HB; clear HO158; have HB := n0_; have HO162 := n1_; clear n0_ n1_; clear ho hb hg hat))
      go_roundg k2
      case measure => have := HJ4.out; have := HK2.out; omega
      case rel => exact ⟨(y160), (wrap64 (x10_2 + 1)), u8_6, H', ⟨(by have := HJ4.out; have := HK2.out; omega)⟩, ⟨(by (with_reducible repeat (first | apply Kd.R_alloc | apply Kd.R_drewN | apply Kd.R_drew)); exact HO162.out)⟩, ⟨u8_1⟩⟩

/-! ### spec_l01Byte: function 77 -/
def spec_l01Byte.f (s0_0 : List Int) (s0_1 : Int) (s0_2 : Int) : Option (Int × Int × Int) := if s0_1 < (s0_0.length : Int) then (if 0 ≤ s0_1 then (some (Go.bits .and .i64 (wrap64 ((Go.bits .and .i64 (Go.bits .xor .i64 ((wrap64 ((wrap64 (s0_2 * 6364136223846793005)) + 1442695040888963407)) / 8589934592) ((wrap64 ((wrap64 (s0_2 * 6364136223846793005)) + 1442695040888963407)) / 35184372088832)) 255) + (wrap64 (rd s0_0 s0_1)))) 255, wrap64 (s0_1 + 1), wrap64 ((wrap64 (s0_2 * 6364136223846793005)) + 1442695040888963407))) else (none)) else (some (Go.bits .and .i64 (Go.bits .xor .i64 ((wrap64 ((wrap64 (s0_2 * 6364136223846793005)) + 1442695040888963407)) / 8589934592) ((wrap64 ((wrap64 (s0_2 * 6364136223846793005)) + 1442695040888963407)) / 35184372088832)) 255, s0_1, wrap64 ((wrap64 (s0_2 * 6364136223846793005)) + 1442695040888963407)))
set_option maxHeartbeats 8000000 in
set_option maxRecDepth 100000 in
theorem spec_l01Byte.calls (g : Nat) (s0_0 : List Int) (s0_1 : Int) (s0_2 : Int) (r1 : Int) (r2 : Int) (r3 : Int) (w0 w : World) (hI : IsS81 w0 w g s0_0 s0_1 s0_2) (hB : Below w0.heap.size w0 w) (h : spec_l01Byte.f s0_0 s0_1 s0_2 = some (r1, r2, r3)) :
    Calls Try.prog 77 #[.pointer (some ⟨g, 0, none⟩)] w fun e w' => e = .returned (.int .i64 r1) ∧ IsS81 w0 w' g s0_0 r2 r3 ∧ Below w0.heap.size w0 w' ∧ KeepBut w w' g none := by
  have HI0 := Aside0.mk hI
  have HK := Aside0.mk (KeepBut.refl w g none)
  have HL := Aside0.mk hB.size
  clear hI
  have HW0 := Aside0.mk hB.size
  have HB := Aside0.mk hB
  clear hB
  have H : (if s0_1 < (s0_0.length : Int) then (if 0 ≤ s0_1 then (some (Go.bits .and .i64 (wrap64 ((Go.bits .and .i64 (Go.bits .xor .i64 ((wrap64 ((wrap64 (s0_2 * 6364136223846793005)) + 1442695040888963407)) / 8589934592) ((wrap64 ((wrap64 (s0_2 * 6364136223846793005)) + 1442695040888963407)) / 35184372088832)) 255) + (wrap64 (rd s0_0 s0_1)))) 255, wrap64 (s0_1 + 1), wrap64 ((wrap64 (s0_2 * 6364136223846793005)) + 1442695040888963407))) else (none)) else (some (Go.bits .and .i64 (Go.bits .xor .i64 ((wrap64 ((wrap64 (s0_2 * 6364136223846793005)) + 1442695040888963407)) / 8589934592) ((wrap64 ((wrap64 (s0_2 * 6364136223846793005)) + 1442695040888963407)) / 35184372088832)) 255, s0_1, wrap64 ((wrap64 (s0_2 * 6364136223846793005)) + 1442695040888963407)))) = some (r1, r2, r3) := h
  clear h
  by_cases c2 : s0_1 < (s0_0.length : Int)
  rotate_left
  · rw [if_neg c2] at H
    have c2b0 : decide (s0_1 < (s0_0.length : Int)) = false := decide_eq_false c2
    clear c2
    simp only [Option.some.injEq, Prod.mk.injEq] at H
    obtain ⟨rfl, rfl, rfl⟩ := H
    obtain ⟨ASz5_0, cSz5_0, HGz5, hgz5, HSz5_0⟩ := HI0.out
    have hcz5_0 := cellS81_0 HGz5
    have hcz5_1 := cellS81_1 HGz5
    have hcz5_2 := cellS81_2 HGz5
    have hfz5_1 := blk_frozen HGz5 1
    have hfz5_2 := blk_frozen HGz5 2
    clear HGz5 hgz5
    go_enter Try.func77, Try.ntmps77
    go_wp2
    repeat (go_quiet (fail); try go_wp2)
    go_ret
    exact ⟨by first | rfl | (simp [errW_none, errW_some] <;> rfl) | (simp [*, errW_none, errW_some] <;> rfl), u8_2, u8_0, u8_3⟩
  rw [if_pos c2] at H
  have c2b0 : decide (s0_1 < (s0_0.length : Int)) = true := decide_eq_true c2
  clear c2
  by_cases c3 : 0 ≤ s0_1
  rotate_left
  · rw [if_neg c3] at H
    exact absurd H (by simp)
  rw [if_pos c3] at H
  have c3b0 : decide (0 ≤ s0_1) = true := decide_eq_true c3
  clear c3
  simp only [Option.some.injEq, Prod.mk.injEq] at H
  obtain ⟨rfl, rfl, rfl⟩ := H
  obtain ⟨ASz4_0, cSz4_0, HGz4, hgz4, HSz4_0⟩ := HI0.out
  have hcz4_0 := cellS81_0 HGz4
  have hcz4_1 := cellS81_1 HGz4
  have hcz4_2 := cellS81_2 HGz4
  have hfz4_1 := blk_frozen HGz4 1
  have hfz4_2 := blk_frozen HGz4 2
  clear HGz4 hgz4
  have p167 : 0 ≤ (s0_1 : Int) := of_decide_eq_true u8_5
  have q167 : s0_1 < (s0_0.length : Int) := of_decide_eq_true u8_5
  obtain ⟨ad167, e167, hx167_0⟩ := Kd.at_int HSz4_0 s0_1 p167 q167
  cases e167
  have hn167_0 : ad167.block ≠ g := Nat.ne_of_lt (Nat.lt_of_lt_of_le (by have := World.block_lt_of_cell? _ _ hx167_0; first | rwa [add_block] at this | exact this) (IsS81.ge HI0.out))
  replace hx167_0 := pw_cell_below HB.out hx167_0
  replace hx167_0 := (cell_far (p := ⟨g, 2, none⟩) (by first | (rw [add_block]; exact hn167_0) | (show (Addr.add _ _).block ≠ _; rw [add_block]; exact hn167_0) | exact hn167_0) (.int .i64 (wrap64 ((wrap64 (s0_2 * 6364136223846793005)) + 1442695040888963407)))).trans hx167_0
  (try have hch_ := fun (n_ : Nat) => (show (((w.drewN n_).setCell ⟨g, 2, none⟩ (.int .i64 (wrap64 ((wrap64 (s0_2 * 6364136223846793005)) + 1442695040888963407))))) = World.drewN ((w.setCell ⟨g, 2, none⟩ (.int .i64 (wrap64 ((wrap64 (s0_2 * 6364136223846793005)) + 1442695040888963407))))) n_ from by simp only [Go.Proofs.Ytfabcjkaoidmeaa.Slc.setCell_drewN])); (try have hy167_0 := fun (n_ : Nat) => Go.Proofs.Ytfabcjkaoidmeaa.Slc.cell_of (hch_ n_) hx167_0)
  clear hn167_0
  replace p167 := eq_true p167
  replace q167 := eq_true q167
  go_enter Try.func77, Try.ntmps77
  go_wp2
  repeat (go_quiet (fail); try go_wp2)
  go_ret
  exact ⟨by first | rfl | (simp [errW_none, errW_some] <;> rfl) | (simp [*, errW_none, errW_some] <;> rfl), u8_2, u8_0, u8_3⟩

/-! ### spec_l01Below: function 63 -/
def spec_l01Below.f (s0_0 : List Int) (s0_1 : Int) (s0_2 : Int) (a1 : Int) : Option (Int × Int × Int) := if a1 ≤ 0 then (some (0, s0_1, s0_2)) else (if a1 ≤ 256 then ((spec_l01Byte.f s0_0 s0_1 s0_2).bind fun bt168 => (if a1 = 0 then (none) else (some (Int.tmod bt168.1 a1, bt168.2.1, bt168.2.2)))) else ((spec_l01Byte.f s0_0 s0_1 s0_2).bind fun bt171 => ((spec_l01Byte.f s0_0 bt171.2.1 bt171.2.2).bind fun bt174 => ((spec_l01Byte.f s0_0 bt174.2.1 bt174.2.2).bind fun bt177 => (if a1 = 0 then (none) else (some (Int.tmod (wrap64 ((wrap64 ((wrap64 (bt171.1 * 65536)) + (wrap64 (bt174.1 * 256)))) + bt177.1)) a1, bt177.2.1, bt177.2.2)))))))
set_option maxHeartbeats 8000000 in
set_option maxRecDepth 100000 in
theorem spec_l01Below.calls (g : Nat) (s0_0 : List Int) (s0_1 : Int) (s0_2 : Int) (a1 : Int) (r1 : Int) (r2 : Int) (r3 : Int) (w0 w : World) (hI : IsS81 w0 w g s0_0 s0_1 s0_2) (hB : Below w0.heap.size w0 w) (h : spec_l01Below.f s0_0 s0_1 s0_2 a1 = some (r1, r2, r3)) :
    Calls Try.prog 63 #[.pointer (some ⟨g, 0, none⟩), .int .i64 a1] w fun e w' => e = .returned (.int .i64 r1) ∧ IsS81 w0 w' g s0_0 r2 r3 ∧ Below w0.heap.size w0 w' ∧ KeepBut w w' g none := by
  have HI0 := Aside0.mk hI
  have HK := Aside0.mk (KeepBut.refl w g none)
  have HL := Aside0.mk hB.size
  clear hI
  have HW0 := Aside0.mk hB.size
  have HB := Aside0.mk hB
  clear hB
  have H : (if a1 ≤ 0 then (some (0, s0_1, s0_2)) else (if a1 ≤ 256 then ((spec_l01Byte.f s0_0 s0_1 s0_2).bind fun bt168 => (if a1 = 0 then (none) else (some (Int.tmod bt168.1 a1, bt168.2.1, bt168.2.2)))) else ((spec_l01Byte.f s0_0 s0_1 s0_2).bind fun bt171 => ((spec_l01Byte.f s0_0 bt171.2.1 bt171.2.2).bind fun bt174 => ((spec_l01Byte.f s0_0 bt174.2.1 bt174.2.2).bind fun bt177 => (if a1 = 0 then (none) else (some (Int.tmod (wrap64 ((wrap64 ((wrap64 (bt171.1 * 65536)) + (wrap64 (bt174.1 * 256)))) + bt177.1)) a1, bt177.2.1, bt177.2.2)))))))) = some (r1, r2, r3) := h
  clear h
  by_cases c3 : a1 ≤ 0
  · rw [if_pos c3] at H
    have c3b0 : decide (a1 ≤ 0) = true := decide_eq_true c3
    clear c3
    simp only [Option.some.injEq, Prod.mk.injEq] at H
    obtain ⟨rfl, rfl, rfl⟩ := H
    go_enter Try.func63, Try.ntmps63
    go_wp2
    go_ret
    exact ⟨by first | rfl | (simp [errW_none, errW_some] <;> rfl) | (simp [*, errW_none, errW_some] <;> rfl), u8_2, u8_0, u8_3⟩
  rw [if_neg c3] at H
  have c3b0 : decide (a1 ≤ 0) = false := decide_eq_false c3
  clear c3
  by_cases c4 : a1 ≤ 256
  · rw [if_pos c4] at H
    have c4b0 : decide (a1 ≤ 256) = true := decide_eq_true c4
    clear c4
    replace H := Option.bind_eq_some_iff.mp H
    obtain ⟨⟨t168, t169, t170⟩, A50, H⟩ := H
    replace H : (if a1 = 0 then (none) else (some (Int.tmod t168 a1, t169, t170))) = some (r1, r2, r3) := H
    have A5 := Aside0.mk A50
    clear A50
    by_cases c6 : a1 = 0
    · rw [if_pos c6] at H
      exact absurd H (by simp)
    rw [if_neg c6] at H
    have c6b0 : (a1 == 0) = false := beq_eq_false_iff_ne.mpr c6
    have c6b1 : (a1 != 0) = true := bne_iff_ne.mpr c6
    simp only [Option.some.injEq, Prod.mk.injEq] at H
    obtain ⟨rfl, rfl, rfl⟩ := H
    go_enter Try.func63, Try.ntmps63
    go_wp2_with (first | ((with_reducible refine gate_callee (f := 77) rfl ?_); refine goesL_ (some 13) rfl rfl Try.func77 (by kernel_rfl) rfl #[.pointer (some ⟨g, 0, none⟩)] rfl u8_4 ?_; (with_reducible refine (spec_l01Byte.calls g s0_0 s0_1 s0_2 t168 t169 t170 w0 _ ?side1 ?side2 A5.out).mono ?_); (case side1 => exact u8_2); (case side2 => exact u8_0); rintro e w7 ⟨rfl, hi, hb, hk⟩; refine ⟨_, rfl, ?_⟩; have n0_ := Aside0.mk (KeepBut.trans u8_3 hk (.inl rfl)); have n1_ := Aside0.mk (hb); have n2_ := Aside0.mk (hi); clear HK; clear HB; clear HI0; have HK := n0_; have HB := n1_; have HI0 := n2_; clear n0_ n1_ n2_; (try clear hb); (try clear hb2); (try clear hk); (try clear hi)))
    go_ret
    exact ⟨by first | rfl | (simp [errW_none, errW_some] <;> rfl) | (simp [*, errW_none, errW_some] <;> rfl), u8_2, u8_0, u8_3⟩
  rw [if_neg c4] at H
  have c4b0 : decide (a1 ≤ 256) = false := decide_eq_false c4
  clear c4
  replace H := Option.bind_eq_some_iff.mp H
  obtain ⟨⟨t171, t172, t173⟩, A80, H⟩ := H
  (try dsimp only at H)
  have A8 := Aside0.mk A80
  clear A80
  replace H := Option.bind_eq_some_iff.mp H
  obtain ⟨⟨t174, t175, t176⟩, A90, H⟩ := H
  (try dsimp only at H)
  have A9 := Aside0.mk A90
  clear A90
  replace H := Option.bind_eq_some_iff.mp H
  obtain ⟨⟨t177, t178, t179⟩, A100, H⟩ := H
  (try dsimp only at H)
  have A10 := Aside0.mk A100
  clear A100
  by_cases c11 : a1 = 0
  · rw [if_pos c11] at H
    exact absurd H (by simp)
  rw [if_neg c11] at H
  have c11b0 : (a1 == 0) = false := beq_eq_false_iff_ne.mpr c11
  have c11b1 : (a1 != 0) = true := bne_iff_ne.mpr c11
  simp only [Option.some.injEq, Prod.mk.injEq] at H
  obtain ⟨rfl, rfl, rfl⟩ := H
  go_enter Try.func63, Try.ntmps63
  go_wp2_with (first | ((with_reducible refine gate_callee (f := 77) rfl ?_); refine goesL_ (some 17) rfl rfl Try.func77 (by kernel_rfl) rfl #[.pointer (some ⟨g, 0, none⟩)] rfl u8_4 ?_; (with_reducible refine (spec_l01Byte.calls g s0_0 s0_1 s0_2 t171 t172 t173 w0 _ ?side1 ?side2 A8.out).mono ?_); (case side1 => exact u8_2); (case side2 => exact u8_0); rintro e w12 ⟨rfl, hi, hb, hk⟩; refine ⟨_, rfl, ?_⟩; have n0_ := Aside0.mk (KeepBut.trans u8_3 hk (.inl rfl)); have n1_ := Aside0.mk (hb); have n2_ := Aside0.mk (hi); clear HK; clear HB; clear HI0; have HK := n0_; have HB := n1_; have HI0 := n2_; clear n0_ n1_ n2_; (try clear hb); (try clear hb2); (try clear hk); (try clear hi)) | ((with_reducible refine gate_callee (f := 77) rfl ?_); refine goesL_ (some 19) rfl rfl Try.func77 (by kernel_rfl) rfl #[.pointer (some ⟨g, 0, none⟩)] rfl u8_4 ?_; (with_reducible refine (spec_l01Byte.calls g s0_0 t172 t173 t174 t175 t176 w0 _ ?side1 ?side2 A9.out).mono ?_); (case side1 => exact u8_2); (case side2 => exact u8_0); rintro e w13 ⟨rfl, hi, hb, hk⟩; refine ⟨_, rfl, ?_⟩; have n0_ := Aside0.mk (KeepBut.trans u8_3 hk (.inl rfl)); have n1_ := Aside0.mk (hb); have n2_ := Aside0.mk (hi); clear HK; clear HB; clear HI0; have HK := n0_; have HB := n1_; have HI0 := n2_; clear n0_ n1_ n2_; (try clear hb); (try clear hb2); (try clear hk); (try clear hi)) | ((with_reducible refine gate_callee (f := 77) rfl ?_); refine goesL_ (some 21) rfl rfl Try.func77 (by kernel_rfl) rfl #[.pointer (some ⟨g, 0, none⟩)] rfl u8_4 ?_; (with_reducible refine (spec_l01Byte.calls g s0_0 t175 t176 t177 t178 t179 w0 _ ?side1 ?side2 A10.out).mono ?_); (case side1 => exact u8_2); (case side2 => exact u8_0); rintro e w14 ⟨rfl, hi, hb, hk⟩; refine ⟨_, rfl, ?_⟩; have n0_ := Aside0.mk (KeepBut.trans u8_3 hk (.inl rfl)); have n1_ := Aside0.mk (hb); have n2_ := Aside0.mk (hi); clear HK; clear HB; clear HI0; have HK := n0_; have HB := n1_; have HI0 := n2_; clear n0_ n1_ n2_; (try clear hb); (try clear hb2); (try clear hk); (try clear hi)))
  go_ret
  exact ⟨by first | rfl | (simp [errW_none, errW_some] <;> rfl) | (simp [*, errW_none, errW_some] <;> rfl), u8_2, u8_0, u8_3⟩

/-! ### spec_l11DrawAt: function 62 -/
def spec_l11DrawAt.f (s0_0 : List Int) (s0_1 : Int) (s0_2 : Int) : Option (Int × Int × Int) := (some (([0, 1, 2, 6, 10, 101, 9223372036854775808, 18446744073709551615, 18446744073709551614, 50] : List Int) : List Int)).bind fun y180 => ((spec_l01Below.f s0_0 s0_1 s0_2 10).bind fun bt183 => (if 0 ≤ bt183.1 then (if bt183.1 < (y180.length : Int) then (some (rd y180 bt183.1, bt183.2.1, bt183.2.2)) else (none)) else (none)))
set_option maxHeartbeats 8000000 in
set_option maxRecDepth 100000 in
theorem spec_l11DrawAt.calls (g : Nat) (s0_0 : List Int) (s0_1 : Int) (s0_2 : Int) (r1 : Int) (r2 : Int) (r3 : Int) (w0 w : World) (hI : IsS81 w0 w g s0_0 s0_1 s0_2) (hB : Below w0.heap.size w0 w) (h : spec_l11DrawAt.f s0_0 s0_1 s0_2 = some (r1, r2, r3)) :
    Calls Try.prog 62 #[.pointer (some ⟨g, 0, none⟩)] w fun e w' => e = .returned (.int .u64 r1) ∧ IsS81 w0 w' g s0_0 r2 r3 ∧ Below w0.heap.size w0 w' ∧ KeepBut w w' g none := by
  have HI0 := Aside0.mk hI
  have HK := Aside0.mk (KeepBut.refl w g none)
  have HL := Aside0.mk hB.size
  clear hI
  have HW0 := Aside0.mk hB.size
  have HB := Aside0.mk hB
  clear hB
  have H : ((some (([0, 1, 2, 6, 10, 101, 9223372036854775808, 18446744073709551615, 18446744073709551614, 50] : List Int) : List Int)).bind fun y180 => ((spec_l01Below.f s0_0 s0_1 s0_2 10).bind fun bt183 => (if 0 ≤ bt183.1 then (if bt183.1 < (y180.length : Int) then (some (rd y180 bt183.1, bt183.2.1, bt183.2.2)) else (none)) else (none)))) = some (r1, r2, r3) := h
  clear h
  obtain ⟨y180, hy180⟩ : ∃ y_ : List Int, y_ = (([0, 1, 2, 6, 10, 101, 9223372036854775808, 18446744073709551615, 18446744073709551614, 50] : List Int)) := ⟨_, rfl⟩
  replace H : ((spec_l01Below.f s0_0 s0_1 s0_2 10).bind fun bt183 => (if 0 ≤ bt183.1 then (if bt183.1 < (y180.length : Int) then (some (rd y180 bt183.1, bt183.2.1, bt183.2.2)) else (none)) else (none))) = some (r1, r2, r3) := by first | (rw [hy180]; with_reducible exact H) | (have H2_ := (Option.bind_some _ _).symm.trans H; rw [hy180]; with_reducible exact H2_) | (have H2_ := (Option.bind_some _ _).symm.trans H; with_reducible exact H2_) | with_reducible exact H | (rw [hy180]; exact H) | exact H
  have Ny180 := Aside0.mk hy180
  clear hy180
  replace H := Option.bind_eq_some_iff.mp H
  obtain ⟨⟨t183, t184, t185⟩, A20, H⟩ := H
  (try dsimp only at H)
  have A2 := Aside0.mk A20
  clear A20
  by_cases c3 : 0 ≤ t183
  rotate_left
  · rw [if_neg c3] at H
    exact absurd H (by simp)
  rw [if_pos c3] at H
  have c3b0 : decide (0 ≤ t183) = true := decide_eq_true c3
  clear c3
  by_cases c4 : t183 < (y180.length : Int)
  rotate_left
  · rw [if_neg c4] at H
    exact absurd H (by simp)
  rw [if_pos c4] at H
  have c4b0 : decide (t183 < (y180.length : Int)) = true := decide_eq_true c4
  clear c4
  simp only [Option.some.injEq, Prod.mk.injEq] at H
  obtain ⟨rfl, rfl, rfl⟩ := H
  go_enter Try.func62, Try.ntmps62
  go_wp2_with (first | ((with_reducible refine gate_dst (N := 3) rfl ?_); refine Kd.R_lit (Kd.int .u64) _ 22 ?hg (N := 3) ?hd (xs := ([0, 1, 2, 6, 10, 101, 9223372036854775808, 18446744073709551615, 18446744073709551614, 50] : List Int)) (inner := [.int .u64 0, .int .u64 1, .int .u64 2, .int .u64 6, .int .u64 10, .int .u64 101, .int .u64 9223372036854775808, .int .u64 18446744073709551615, .int .u64 18446744073709551614, .int .u64 50]) (ok := fun _ => True) (okp := fun _ => True) ?hr ?hp (fun _ hk => hk) trivial (Below.refl _ _) (Nat.le_refl _) (by simp) ?_; (case hd => rfl); (case hg => rfl); (case hr => first | (go_simp; done) | (go_simp; rfl)); (case hp => exact (Reps.one (show Kd.M (Kd.int .u64) _ _ _ 0 [.int .u64 0] from rfl) (Reps.one (show Kd.M (Kd.int .u64) _ _ _ 1 [.int .u64 1] from rfl) (Reps.one (show Kd.M (Kd.int .u64) _ _ _ 2 [.int .u64 2] from rfl) (Reps.one (show Kd.M (Kd.int .u64) _ _ _ 6 [.int .u64 6] from rfl) (Reps.one (show Kd.M (Kd.int .u64) _ _ _ 10 [.int .u64 10] from rfl) (Reps.one (show Kd.M (Kd.int .u64) _ _ _ 101 [.int .u64 101] from rfl) (Reps.one (show Kd.M (Kd.int .u64) _ _ _ 9223372036854775808 [.int .u64 9223372036854775808] from rfl) (Reps.one (show Kd.M (Kd.int .u64) _ _ _ 18446744073709551615 [.int .u64 18446744073709551615] from rfl) (Reps.one (show Kd.M (Kd.int .u64) _ _ _ 18446744073709551614 [.int .u64 18446744073709551614] from rfl) (Reps.one (show Kd.M (Kd.int .u64) _ _ _ 50 [.int .u64 50] from rfl) (Reps.none _ _)))))))))))); intro v181 w5 ho6 hb hg_ hnew_; clear hg_ hnew_; (first | rw [← Ny180.out] at ho6 | (simp only [Int.reduceToNat] at ho6; rw [← Ny180.out] at ho6)); have n0_ := Aside0.mk (Kd.R_lower ho6 (keep_size (w := w) (g := g) (row := none) u8_3)); have n1_ := Aside0.mk (IsS81.below u8_2 hb); have n2_ := Aside0.mk (KeepBut.trans u8_3 (KeepBut.of_below hb g none) (.inl rfl)); have n3_ := Aside0.mk (below_step u8_0 hb); clear HI0; clear HK; clear HB; have HO182 := n0_; have HI0 := n1_; have HK := n2_; have HB := n3_; clear n0_ n1_ n2_ n3_; clear hb ho6) | ((with_reducible refine gate_callee (f := 63) rfl ?_); refine goesL_ (some 5) rfl rfl Try.func63 (by kernel_rfl) rfl #[.pointer (some ⟨g, 0, none⟩), .int .i64 10] rfl u8_4 ?_; (with_reducible refine (spec_l01Below.calls g s0_0 s0_1 s0_2 10 t183 t184 t185 w0 _ ?side1 ?side2 A2.out).mono ?_); (case side1 => exact u8_2); (case side2 => exact u8_0); rintro e w7 ⟨rfl, hi, hb, hk⟩; refine ⟨_, rfl, ?_⟩; have n0_ := Aside0.mk (Kd.R_mono (Kd.R_keep (IsS81.apart (show IsS81 w0 _ g s0_0 s0_1 s0_2 from by repeat (first | (with_reducible first | exact HI0.out | apply IsS81.alloc | apply IsS81.drewN | apply IsS81.drew | apply IsS81.set_1 | apply IsS81.set_2) | exact HI0.out)) (by (with_reducible repeat (first | apply Kd.R_alloc | apply Kd.R_drewN | apply Kd.R_drew)); exact HO182.out) (by decide)) hk (fun _ h => h.2)) (fun _ h => h.1)); have n1_ := Aside0.mk (KeepBut.trans u8_3 hk (.inl rfl)); have n2_ := Aside0.mk (hb); have n3_ := Aside0.mk (hi); clear HO182; clear HK; clear HB; clear HI0; have HO182 := n0_; have HK := n1_; have HB := n2_; have HI0 := n3_; clear n0_ n1_ n2_ n3_; (try clear hb); (try clear hb2); (try clear hk); (try clear hi); obtain ⟨Ao8, co8, eo8⟩ := Kd.R_slice HO182.out; subst eo8; have p186 : 0 ≤ (t183 : Int) := of_decide_eq_true u8_5; have q186 : t183 < (y180.length : Int) := of_decide_eq_true u8_5; obtain ⟨ad186, e186, hx186_0⟩ := Kd.at_int (Kd.R_reads' HO182.out).2.2 t183 p186 q186; cases e186; replace p186 := eq_true p186; replace q186 := eq_true q186))
  go_ret
  exact ⟨by first | rfl | (simp [errW_none, errW_some] <;> rfl) | (simp [*, errW_none, errW_some] <;> rfl), u8_2, u8_0, u8_3⟩

/-! ### spec_l01Size: function 75 -/
def spec_l01Size.f (l0 : List Int) (a1 : Int) : Option (Int) := if (wrap64 (2 + (wrap64 ((l0.length : Int) / 16)))) > a1 then (some a1) else (some (wrap64 (2 + (wrap64 ((l0.length : Int) / 16)))))
set_option maxHeartbeats 8000000 in
set_option maxRecDepth 100000 in
theorem spec_l01Size.calls (A0 : Option Addr) (c0 : Nat) (l0 : List Int) (a1 : Int) (r : Int) (w : World) (hr0 : Kd.C (Kd.int .u8) w A0 l0.length l0) (hc0 : l0.length ≤ c0) (h : spec_l01Size.f l0 a1 = some r) :
    Calls Try.prog 75 #[.slice A0 l0.length c0, .int .i64 a1] w fun e w' => e = .returned (.int .i64 r) ∧ Drawn0 w w' := by
  have HR0 := Aside0.mk hr0
  have HC0 := Aside0.mk hc0
  clear hr0 hc0
  have H : (if (wrap64 (2 + (wrap64 ((l0.length : Int) / 16)))) > a1 then (some a1) else (some (wrap64 (2 + (wrap64 ((l0.length : Int) / 16)))))) = some r := h
  clear h
  by_cases c3 : (wrap64 (2 + (wrap64 ((l0.length : Int) / 16)))) > a1
  · rw [if_pos c3] at H
    have c3b0 : decide (a1 < (wrap64 (2 + (wrap64 ((l0.length : Int) / 16))))) = true := decide_eq_true c3
    clear c3
    obtain rfl := Option.some.inj H
    go_enter Try.func75, Try.ntmps75
    go_wp2
    go_ret
    exact ⟨by first | rfl | (simp; done) | (simp [*]; done), (by repeat (first | exact Drawn0.refl _ | apply Drawn0.step))⟩
  rw [if_neg c3] at H
  have c3b0 : decide (a1 < (wrap64 (2 + (wrap64 ((l0.length : Int) / 16))))) = false := decide_eq_false c3
  clear c3
  obtain rfl := Option.some.inj H
  go_enter Try.func75, Try.ntmps75
  go_wp2
  go_ret
  exact ⟨by first | rfl | (simp; done) | (simp [*]; done), (by repeat (first | exact Drawn0.refl _ | apply Drawn0.step))⟩

/-! ### spec_l01Once: function 76 -/
def spec_l01Once.f (s0_0 : List Int) (s0_1 : Int) (s0_2 : Int) (a1 : Int) : Option (Bool × Int × Int) := (spec_l01Below.f s0_0 s0_1 s0_2 a1).bind fun bt187 => (some ((bt187.1 == 0), bt187.2.1, bt187.2.2))
set_option maxHeartbeats 8000000 in
set_option maxRecDepth 100000 in
theorem spec_l01Once.calls (g : Nat) (s0_0 : List Int) (s0_1 : Int) (s0_2 : Int) (a1 : Int) (r1 : Bool) (r2 : Int) (r3 : Int) (w0 w : World) (hI : IsS81 w0 w g s0_0 s0_1 s0_2) (hB : Below w0.heap.size w0 w) (h : spec_l01Once.f s0_0 s0_1 s0_2 a1 = some (r1, r2, r3)) :
    Calls Try.prog 76 #[.pointer (some ⟨g, 0, none⟩), .int .i64 a1] w fun e w' => e = .returned (.bool r1) ∧ IsS81 w0 w' g s0_0 r2 r3 ∧ Below w0.heap.size w0 w' ∧ KeepBut w w' g none := by
  have HI0 := Aside0.mk hI
  have HK := Aside0.mk (KeepBut.refl w g none)
  have HL := Aside0.mk hB.size
  clear hI
  have HW0 := Aside0.mk hB.size
  have HB := Aside0.mk hB
  clear hB
  have H : ((spec_l01Below.f s0_0 s0_1 s0_2 a1).bind fun bt187 => (some ((bt187.1 == 0), bt187.2.1, bt187.2.2))) = some (r1, r2, r3) := h
  clear h
  replace H := Option.bind_eq_some_iff.mp H
  obtain ⟨⟨t187, t188, t189⟩, A30, H⟩ := H
  replace H : (some ((t187 == 0), t188, t189)) = some (r1, r2, r3) := H
  have A3 := Aside0.mk A30
  clear A30
  simp only [Option.some.injEq, Prod.mk.injEq] at H
  obtain ⟨rfl, rfl, rfl⟩ := H
  go_enter Try.func76, Try.ntmps76
  go_wp2_with (first | ((with_reducible refine gate_callee (f := 63) rfl ?_); refine goesL_ (some 7) rfl rfl Try.func63 (by kernel_rfl) rfl #[.pointer (some ⟨g, 0, none⟩), .int .i64 a1] rfl u8_4 ?_; (with_reducible refine (spec_l01Below.calls g s0_0 s0_1 s0_2 a1 t187 t188 t189 w0 _ ?side1 ?side2 A3.out).mono ?_); (case side1 => exact u8_2); (case side2 => exact u8_0); rintro e w4 ⟨rfl, hi, hb, hk⟩; refine ⟨_, rfl, ?_⟩; have n0_ := Aside0.mk (KeepBut.trans u8_3 hk (.inl rfl)); have n1_ := Aside0.mk (hb); have n2_ := Aside0.mk (hi); clear HK; clear HB; clear HI0; have HK := n0_; have HB := n1_; have HI0 := n2_; clear n0_ n1_ n2_; (try clear hb); (try clear hb2); (try clear hk); (try clear hi)))
  go_ret
  exact ⟨by first | rfl | (simp [errW_none, errW_some] <;> rfl) | (simp [*, errW_none, errW_some] <;> rfl), u8_2, u8_0, u8_3⟩

end Go.Proofs.Ytfabcjkaoidmeaa.QFnRanges
