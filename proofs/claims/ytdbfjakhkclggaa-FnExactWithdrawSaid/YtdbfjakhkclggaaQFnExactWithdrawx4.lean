-- Printed by the session's own program wip/prx.py.
import Derived.Test.YtdbfjakhkclggaaQFnExactWithdrawx0
import Derived.Test.YtdbfjakhkclggaaQFnExactWithdrawx3
namespace Go.Proofs.Ytdbfjakhkclggaa.QFnExactWithdraw
open Go.RowKit Go.Proofs.YtdbfjakhkclggaaW.PrintWords Go.Proofs.YtdbfjakhkclggaaW.PrintLast Go.Proofs.YtdbfjakhkclggaaW.PrintMore
attribute [local go_sem] max2_int min2_int max_two min_two max_three min_three max_four min_four Go.Proofs.Ytdbfjakhkclggaa.Set.isSome_setCell Go.Proofs.Ytdbfjakhkclggaa.Add.add64   -- for this text's walks alone
set_option linter.unusedVariables false
set_option linter.unusedSimpArgs false

-- squeezed
theorem u4_0 {P : Prop} (h : P := by (with_reducible repeat (first | refine blk_drewN ?_ _ | refine blk_drew ?_ | refine blk_alloc ?_ _)); exact BK163.out) : P := h
theorem u4_1 {P : Prop} (h : P := by (with_reducible repeat (first | refine blk_drewN ?_ _ | refine blk_drew ?_ | refine blk_alloc ?_ _)); exact BK164.out) : P := h
theorem u4_2 {P : Prop} (h : P := by repeat (first | (with_reducible first | exact HB.out | apply below_alloc | apply pw_below_drewN | apply below_drew1) | exact HB.out)) : P := h
theorem u4_3 {P : Prop} (h : P := by repeat (first | (with_reducible first | exact HB.out | apply below_alloc | apply pw_below_drewN | apply below_drew1 | refine below_set ?_ GE151.out | refine below_set ?_ GE152.out) | exact HB.out)) : P := h
theorem u4_4 {P : Prop} (h : P := by repeat (first | (with_reducible first | exact HB.out | apply below_alloc | apply pw_below_drewN | apply below_drew1 | refine below_set ?_ GE163.out | refine below_set ?_ GE164.out | refine below_set ?_ GE165.out) | exact HB.out)) : P := h
theorem u4_5 {P : Prop} (h : P := by (with_reducible repeat (first | refine blk_drewN ?_ _ | refine blk_drew ?_ | refine blk_alloc ?_ _)); refine blk_put (cs := #[.int .u64 0, .int .u64 0, .int .u64 0, .int .u64 0, .int .i64 0]) ?_ 4 _ rfl; (with_reducible repeat (first | refine blk_drewN ?_ _ | refine blk_drew ?_ | refine blk_alloc ?_ _)); refine blk_put (cs := #[.int .u64 0, .int .u64 0, .int .u64 0, .int .u64 0, .int .i64 0]) ?_ 3 _ rfl; (with_reducible repeat (first | refine blk_drewN ?_ _ | refine blk_drew ?_ | refine blk_alloc ?_ _)); refine blk_put (cs := #[.int .u64 0, .int .u64 0, .int .u64 0, .int .u64 0, .int .i64 0]) ?_ 2 _ rfl; (with_reducible repeat (first | refine blk_drewN ?_ _ | refine blk_drew ?_ | refine blk_alloc ?_ _)); refine blk_put (cs := #[.int .u64 0, .int .u64 0, .int .u64 0, .int .u64 0, .int .i64 0]) ?_ 1 _ rfl; (with_reducible repeat (first | refine blk_drewN ?_ _ | refine blk_drew ?_ | refine blk_alloc ?_ _)); refine blk_put (cs := #[.int .u64 0, .int .u64 0, .int .u64 0, .int .u64 0, .int .i64 0]) ?_ 0 _ rfl; (with_reducible repeat (first | refine blk_drewN ?_ _ | refine blk_drew ?_ | refine blk_alloc ?_ _)); exact BK152.out) : P := h
theorem u4_6 {P : Prop} (h : P := by first | (with_reducible assumption) | assumption) : P := h
theorem u4_7 {P : Prop} (h : P := by (with_reducible repeat (first | refine blk_drewN ?_ _ | refine blk_drew ?_ | refine blk_alloc ?_ _)); exact BK165.out) : P := h
theorem u4_8 {P : Prop} (h : P := by repeat (first | (with_reducible first | exact HB.out | apply below_alloc | apply pw_below_drewN | apply below_drew1 | refine below_set ?_ GE156.out | refine below_set ?_ GE157.out | refine below_set ?_ GE158.out) | exact HB.out)) : P := h
theorem u4_9 {P : Prop} (h : P := by (with_reducible repeat (first | refine blk_drewN ?_ _ | refine blk_drew ?_ | refine blk_alloc ?_ _)); exact BK151.out) : P := h
theorem u4_10 {P : Prop} (h : P := by repeat (first | (with_reducible first | exact HB.out | apply below_alloc | apply pw_below_drewN | apply below_drew1 | refine below_set ?_ GE163.out | refine below_set ?_ GE164.out | refine below_set ?_ GE165.out | refine below_set ?_ GE169.out) | exact HB.out)) : P := h
theorem u4_11 {P : Prop} (h : P := by repeat (first | exact (Kd.C_below HR0_0.out HB.out) | (with_reducible refine Kd.C_alloc ?_ _) | (with_reducible refine Kd.C_drewN ?_ _) | (with_reducible refine Kd.C_drew ?_))) : P := h
theorem u4_12 {P : Prop} (h : P := by (with_reducible repeat (first | refine blk_drewN ?_ _ | refine blk_drew ?_ | refine blk_alloc ?_ _)); exact BK156.out) : P := h
theorem u4_13 {P : Prop} (h : P := by repeat (first | (with_reducible first | exact HB.out | apply below_alloc | apply pw_below_drewN | apply below_drew1 | refine below_set ?_ GE149.out) | exact HB.out)) : P := h
theorem u4_14 {P : Prop} (h : P := by (with_reducible repeat (first | refine blk_drewN ?_ _ | refine blk_drew ?_ | refine blk_alloc ?_ _)); exact BK152.out) : P := h
theorem u4_15 {P : Prop} (h : P := by (with_reducible repeat (first | apply Kd.R_alloc | apply Kd.R_drewN | apply Kd.R_drew)); exact HO_170000.out) : P := h
theorem u4_16 {P : Prop} (h : P := by repeat (first | (with_reducible first | exact HB.out | apply below_alloc | apply pw_below_drewN | apply below_drew1 | refine below_set ?_ GE156.out | refine below_set ?_ GE157.out) | exact HB.out)) : P := h
theorem u4_17 {P : Prop} (h : P := by repeat (first | (with_reducible first | exact HB.out | apply below_alloc | apply pw_below_drewN | apply below_drew1 | refine below_set ?_ GE163.out | refine below_set ?_ GE164.out) | exact HB.out)) : P := h
theorem u4_18 {P : Prop} (h : P := by (with_reducible repeat (first | refine blk_drewN ?_ _ | refine blk_drew ?_ | refine blk_alloc ?_ _)); exact BK157.out) : P := h
theorem u4_19 {P : Prop} (h : P := by (with_reducible repeat (first | refine blk_drewN ?_ _ | refine blk_drew ?_ | refine blk_alloc ?_ _)); exact BK169.out) : P := h
theorem u4_20 {P : Prop} (h : P := by first | rfl | (simp; done) | (simp [*]; done)) : P := h
theorem u4_21 {P : Prop} (h : P := by repeat (first | (with_reducible first | exact HB.out | apply below_alloc | apply pw_below_drewN | apply below_drew1 | refine below_set ?_ GE151.out) | exact HB.out)) : P := h
theorem u4_22 {P : Prop} (h : P := by repeat (first | (with_reducible first | exact HB.out | apply below_alloc | apply pw_below_drewN | apply below_drew1 | refine below_set ?_ GE156.out) | exact HB.out)) : P := h
theorem u4_23 {P : Prop} (h : P := by repeat (first | (with_reducible first | exact HB.out | apply below_alloc | apply pw_below_drewN | apply below_drew1 | refine below_set ?_ GE163.out) | exact HB.out)) : P := h
theorem u4_24 {P : Prop} (h : P := by (try simp only [List.map_toArray, List.map_cons, List.map_nil]); first | done | rfl | (simp only [List.length_drop, List.length_take]; rfl)) : P := h
theorem u4_25 {P : Prop} (h : P := by (with_reducible repeat (first | refine blk_drewN ?_ _ | refine blk_drew ?_ | refine blk_alloc ?_ _)); refine blk_far ?_ NB156_158.out _; (with_reducible repeat (first | refine blk_drewN ?_ _ | refine blk_drew ?_ | refine blk_alloc ?_ _)); exact BK156.out) : P := h
theorem u4_26 {P : Prop} (h : P := by (with_reducible repeat (first | refine blk_drewN ?_ _ | refine blk_drew ?_ | refine blk_alloc ?_ _)); refine blk_far ?_ NB157_158.out _; (with_reducible repeat (first | refine blk_drewN ?_ _ | refine blk_drew ?_ | refine blk_alloc ?_ _)); exact BK157.out) : P := h
theorem u4_27 {P : Prop} (h : P := by (with_reducible repeat (first | refine blk_drewN ?_ _ | refine blk_drew ?_ | refine blk_alloc ?_ _)); exact BK149.out) : P := h
/-! ### spec_l10Find: function 68 -/
def spec_l10Find.l0 : Nat → Int → Int → List (S53) → Option (Int)
  | 0, _, _, _ => none
  | k + 1, x1, x5, x150000 => if x5 < (x150000.length : Int) then (if 0 ≤ x5 then (if ((rd_T53 x150000 x5).f0) = x1 then (some x5) else (spec_l10Find.l0 k x1 (wrap64 (x5 + 1)) x150000)) else (none)) else (some (-1))
def spec_l10Find.f (k : Nat) (l0_0 : List (S53)) (a1 : Int) : Option (Int) := spec_l10Find.l0 k a1 0 l0_0
theorem spec_l10Find.mono_l : ∀ k, (∀ y0 y1 y2, LeO (spec_l10Find.l0 k y0 y1 y2) (spec_l10Find.l0 (k + 1) y0 y1 y2))
  | 0 => fun _ _ _ r h => by simp [spec_l10Find.l0] at h
  | k + 1 => by
    have ih0 := spec_l10Find.mono_l k
    · intro y0 y1 y2
      unfold spec_l10Find.l0
      repeat' first
      | (with_reducible exact ih0 _ _ _)
      | (with_reducible exact LeO.refl _)
      | (with_reducible exact LeO.none _)
      | (with_reducible refine LeO.ite ?_ ?_)
      | (with_reducible refine LeO.bind ?_ (fun _ => ?_))
      | exact ih0 _ _ _
      | exact LeO.none _
      | refine LeO.ite ?_ ?_
      | refine LeO.bind ?_ (fun _ => ?_)
theorem spec_l10Find.mono : ∀ a0 a1 k, LeO (spec_l10Find.f k a0 a1) (spec_l10Find.f (k + 1) a0 a1) := by
  intro a0 a1 k
  have ih0 := spec_l10Find.mono_l k
  unfold spec_l10Find.f
  repeat' first
      | (with_reducible exact ih0 _ _ _)
      | (with_reducible exact LeO.refl _)
      | (with_reducible exact LeO.none _)
      | (with_reducible refine LeO.ite ?_ ?_)
      | (with_reducible refine LeO.bind ?_ (fun _ => ?_))
      | exact ih0 _ _ _
      | exact LeO.none _
      | refine LeO.ite ?_ ?_
      | refine LeO.bind ?_ (fun _ => ?_)
set_option maxHeartbeats 8000000 in
set_option maxRecDepth 100000 in
theorem spec_l10Find.calls (k : Nat) (A0_0 : Option Addr) (c0_0 : Nat) (l0_0 : List (S53)) (a1 : Int) (r : Int) (w : World) (hr0_0 : Kd.C k53 w A0_0 l0_0.length l0_0) (hc0_0 : l0_0.length ≤ c0_0) (h : spec_l10Find.f k l0_0 a1 = some r) :
    Calls Try.prog 68 #[.agg #[.slice A0_0 l0_0.length c0_0], .int .u64 a1] w fun e w' => e = .returned (.int .i64 r) ∧ Below w.heap.size w w' := by
  have hu29 := Try.underlying29
  have HR0_0 := Aside0.mk hr0_0
  have HC0_0 := Aside0.mk hc0_0
  clear hr0_0 hc0_0
  have HB := Aside0.mk (Below.refl w.heap.size w)
  have H : (spec_l10Find.l0 k a1 0 l0_0) = some r := h
  clear h
  have H' := Aside0.mk H
  clear H
  go_enter Try.func68, Try.ntmps68
  go_wp2_with (first | ((with_reducible refine gate_dst (N := 2) rfl ?_); refine box_event ?hg (N := 2) ?hd (cs := #[.slice A0_0 l0_0.length c0_0]) (t := 29) ?hr ?_; (case hd => rfl); (case hg => rfl); (case hr => first | (go_simp; done) | (go_simp; rfl)); intro gb149 hg w3 hbox hb; have n0_ := Aside0.mk (below_step u4_2 hb); have n1_ := Aside0.mk (hbox); have n2_ := Aside0.mk ((by rw [hg]; exact (below_size u4_2) : w.heap.size ≤ gb149)); have n3_ := Aside0.mk ((by rw [hg]; exact (below_size u4_2) : w.heap.size ≤ gb149)); clear HB; have HB := n0_; have BK149 := n1_; have GW149 := n2_; have GE149 := n3_; clear n0_ n1_ n2_ n3_; clear hb hbox hg))
  go_loopg [5] k (fun kq v5 w' => ∃ (x5_1 : Int), v5 = .int .i64 x5_1 ∧ Aside0 (spec_l10Find.l0 kq a1 x5_1 l0_0 = some r) ∧ Aside0 (kq ≤ k) ∧ Aside0 (w'.heap[gb149]? = some (.cells #[(.slice A0_0 l0_0.length c0_0)] 29 (0, 0))) ∧ Aside0 (Below w.heap.size w w'))
  case atStart => exact ⟨(0), u4_20, H', ⟨Nat.le_refl _⟩, ⟨u4_27⟩, ⟨u4_13⟩⟩
  clear H'
  try clear p2
  obtain ⟨x5_1, rfl, HA, HK1, BK149, HB⟩ := hrel
  cases gk with
  | zero => exact absurd HA.out (by simp [spec_l10Find.l0])
  | succ k1 =>
    have H := HA.out
    clear HA
    simp only [spec_l10Find.l0] at H
    by_cases c4 : x5_1 < (l0_0.length : Int)
    rotate_left
    · rw [if_neg c4] at H
      have c4b0 : decide (x5_1 < (l0_0.length : Int)) = false := decide_eq_false c4
      clear c4
      obtain rfl := Option.some.inj H
      have hcz8_0 : wr.cell? ⟨gb149, 0, none⟩ = some (.slice A0_0 l0_0.length c0_0) := (blk_cell BK149.out 0).trans rfl
      have hfz8_0 := blk_frozen BK149.out 0
      go_wp2
      go_ret
      exact ⟨by first | rfl | (simp [errW_none, errW_some] <;> rfl) | (simp [*, errW_none, errW_some] <;> rfl), u4_13⟩
    rw [if_pos c4] at H
    have c4b0 : decide (x5_1 < (l0_0.length : Int)) = true := decide_eq_true c4
    clear c4
    by_cases c5 : 0 ≤ x5_1
    rotate_left
    · rw [if_neg c5] at H
      exact absurd H (by simp)
    rw [if_pos c5] at H
    have c5b0 : decide (0 ≤ x5_1) = true := decide_eq_true c5
    clear c5
    have H9 := Aside0.mk H
    clear H
    have hcz6_0 : wr.cell? ⟨gb149, 0, none⟩ = some (.slice A0_0 l0_0.length c0_0) := (blk_cell BK149.out 0).trans rfl
    have hfz6_0 := blk_frozen BK149.out 0
    have p150 : 0 ≤ (x5_1 : Int) := of_decide_eq_true u4_6
    have q150 : x5_1 < (l0_0.length : Int) := of_decide_eq_true u4_6
    obtain ⟨ad150, e150, hx150_0, hx150_1, hx150_2, hx150_3, hx150_4⟩ := at_T53 HR0_0.out x5_1 p150 q150
    cases e150
    replace hx150_0 := (HB.out.cell (World.block_lt_of_cell? w _ hx150_0)).trans hx150_0
    replace hx150_1 := (HB.out.cell (World.block_lt_of_cell? w _ hx150_1)).trans hx150_1
    replace hx150_2 := (HB.out.cell (World.block_lt_of_cell? w _ hx150_2)).trans hx150_2
    replace hx150_3 := (HB.out.cell (World.block_lt_of_cell? w _ hx150_3)).trans hx150_3
    replace hx150_4 := (HB.out.cell (World.block_lt_of_cell? w _ hx150_4)).trans hx150_4
    replace p150 := eq_true p150
    replace q150 := eq_true q150
    go_upto_if 20 with (fail)
    have H := H9.out
    clear H9
    by_cases c7 : ((rd_T53 l0_0 x5_1).f0) = a1
    · rw [if_pos c7] at H
      have c7b0 : (((rd_T53 l0_0 x5_1).f0) == a1) = true := beq_iff_eq.mpr c7
      have c7b1 : (((rd_T53 l0_0 x5_1).f0) != a1) = false := bne_eq_false_iff_eq.mpr c7
      clear c7
      (first | rw [c7b0] | (simp only [i64_w, i32_w]; rw [c7b0]) | skip)
      obtain rfl := Option.some.inj H
      go_wp2
      go_ret
      exact ⟨by first | rfl | (simp [errW_none, errW_some] <;> rfl) | (simp [*, errW_none, errW_some] <;> rfl), u4_13⟩
    rw [if_neg c7] at H
    have c7b0 : (((rd_T53 l0_0 x5_1).f0) == a1) = false := beq_eq_false_iff_ne.mpr c7
    have c7b1 : (((rd_T53 l0_0 x5_1).f0) != a1) = true := bne_iff_ne.mpr c7
    (first | rw [c7b0] | (simp only [i64_w, i32_w]; rw [c7b0]) | skip)
    have H' := Aside0.mk H
    clear H
    go_wp2
    go_roundg k1
    case measure => have := HK1.out; omega
    case rel => exact ⟨(wrap64 (x5_1 + 1)), u4_20, H', ⟨by have := HK1.out; omega⟩, ⟨u4_27⟩, ⟨u4_13⟩⟩

/-! ### spec_l10Of: function 53 -/
def spec_l10Of.j0 : Nat → Int → Bool → List (S53) → Option (Int × Int × Int × Int × Int × Int)
  | 0, _, _, _ => none
  | k + 1, x1, x15, x152000 => if x15 = true then (some (0, 0, 0, 0, 0, 1)) else ((spec_l10Find.f k x152000 x1).bind fun t154 => (if t154 < 0 then (some (0, 0, 0, 0, 0, 2)) else (if 0 ≤ t154 then (if t154 < (x152000.length : Int) then (some ((rd_T53 x152000 t154).f0, (rd_T53 x152000 t154).f1, (rd_T53 x152000 t154).f2, (rd_T53 x152000 t154).f3, (rd_T53 x152000 t154).f4, 0)) else (none)) else (none))))
def spec_l10Of.f (k : Nat) (l0_0 : List (S53)) (a1 : Int) (a2 : Int) : Option (Int × Int × Int × Int × Int × Int) := (spec_BookOk.f k l0_0).bind fun t153 => (if t153 = true then (spec_l10Of.j0 k a1 (decide (a2 < 1)) l0_0) else (spec_l10Of.j0 k a1 true l0_0))
theorem spec_l10Of.mono_l : ∀ k, (∀ y0 y1 y2, LeO (spec_l10Of.j0 k y0 y1 y2) (spec_l10Of.j0 (k + 1) y0 y1 y2))
  | 0 => fun _ _ _ r h => by simp [spec_l10Of.j0] at h
  | k + 1 => by
    have ih0 := spec_l10Of.mono_l k
    · intro y0 y1 y2
      unfold spec_l10Of.j0
      repeat' first
      | (with_reducible exact ih0 _ _ _)
      | (with_reducible exact spec_BookOk.mono _ _)
      | (with_reducible exact spec_l10Find.mono _ _ _)
      | (with_reducible exact LeO.refl _)
      | (with_reducible exact LeO.none _)
      | (with_reducible refine LeO.ite ?_ ?_)
      | (with_reducible refine LeO.bind ?_ (fun _ => ?_))
      | exact ih0 _ _ _
      | exact spec_BookOk.mono _ _
      | exact spec_l10Find.mono _ _ _
      | exact LeO.none _
      | refine LeO.ite ?_ ?_
      | refine LeO.bind ?_ (fun _ => ?_)
theorem spec_l10Of.mono : ∀ a0 a1 a2 k, LeO (spec_l10Of.f k a0 a1 a2) (spec_l10Of.f (k + 1) a0 a1 a2) := by
  intro a0 a1 a2 k
  have ih0 := spec_l10Of.mono_l k
  unfold spec_l10Of.f
  repeat' first
      | (with_reducible exact ih0 _ _ _)
      | (with_reducible exact spec_BookOk.mono _ _)
      | (with_reducible exact spec_l10Find.mono _ _ _)
      | (with_reducible exact LeO.refl _)
      | (with_reducible exact LeO.none _)
      | (with_reducible refine LeO.ite ?_ ?_)
      | (with_reducible refine LeO.bind ?_ (fun _ => ?_))
      | exact ih0 _ _ _
      | exact spec_BookOk.mono _ _
      | exact spec_l10Find.mono _ _ _
      | exact LeO.none _
      | refine LeO.ite ?_ ?_
      | refine LeO.bind ?_ (fun _ => ?_)
set_option maxHeartbeats 8000000 in
set_option maxRecDepth 100000 in
theorem spec_l10Of.calls (k : Nat) (A0_0 : Option Addr) (c0_0 : Nat) (l0_0 : List (S53)) (a1 : Int) (a2 : Int) (r1 : Int) (r2 : Int) (r3 : Int) (r4 : Int) (r5 : Int) (r6 : Int) (w : World) (hr0_0 : Kd.C k53 w A0_0 l0_0.length l0_0) (hc0_0 : l0_0.length ≤ c0_0) (h : spec_l10Of.f k l0_0 a1 a2 = some (r1, r2, r3, r4, r5, r6)) :
    Calls Try.prog 53 #[.agg #[.slice A0_0 l0_0.length c0_0], .int .u64 a1, .int .i64 a2] w fun e w' => e = .returned (.tuple #[.agg #[.int .u64 r1, .int .u64 r2, .int .u64 r3, .int .u64 r4, .int .i64 r5], .int .i64 r6]) ∧ Below w.heap.size w w' := by
  have hu29 := Try.underlying29
  have hu53 := Try.underlying53
  have HR0_0 := Aside0.mk hr0_0
  have HC0_0 := Aside0.mk hc0_0
  clear hr0_0 hc0_0
  have HB := Aside0.mk (Below.refl w.heap.size w)
  have H : ((spec_BookOk.f k l0_0).bind fun t153 => (if t153 = true then (spec_l10Of.j0 k a1 (decide (a2 < 1)) l0_0) else (spec_l10Of.j0 k a1 true l0_0))) = some (r1, r2, r3, r4, r5, r6) := h
  clear h
  have HC4 := Aside0.mk H
  clear H
  go_enter Try.func53, Try.ntmps53
  go_upto_region 1 with (first | ((with_reducible refine gate_dst (N := 3) rfl ?_); refine box_event ?hg (N := 3) ?hd (cs := #[.slice A0_0 l0_0.length c0_0]) (t := 29) ?hr ?_; (case hd => rfl); (case hg => rfl); (case hr => first | (go_simp; done) | (go_simp; rfl)); intro gb151 hg w5 hbox hb; have n0_ := Aside0.mk (below_step u4_2 hb); have n1_ := Aside0.mk (hbox); have n2_ := Aside0.mk ((by rw [hg]; exact (below_size u4_2) : w.heap.size ≤ gb151)); have n3_ := Aside0.mk ((by rw [hg]; exact (below_size u4_2) : w.heap.size ≤ gb151)); clear HB; have HB := n0_; have BK151 := n1_; have GW151 := n2_; have GE151 := n3_; clear n0_ n1_ n2_ n3_; clear hb hbox hg) | ((with_reducible refine gate_dst (N := 6) rfl ?_); refine box_event ?hg (N := 6) ?hd (cs := #[.int .u64 0, .int .u64 0, .int .u64 0, .int .u64 0, .int .i64 0]) (t := 53) ?hr ?_; (case hd => rfl); (case hg => rfl); (case hr => first | (go_simp; done) | (go_simp; rfl)); intro gb152 hg w6 hbox hb; have n0_ := Aside0.mk (blk_below (g := gb151) (o := .cells #[.slice A0_0 l0_0.length c0_0] 29 (0, 0)) u4_9 hb); have n1_ := Aside0.mk (below_step u4_21 hb); have n2_ := Aside0.mk (hbox); have n3_ := Aside0.mk ((by rw [hg]; exact (below_size u4_21) : w.heap.size ≤ gb152)); have n4_ := Aside0.mk ((by rw [hg]; exact (below_size u4_21) : w.heap.size ≤ gb152)); have n5_ := Aside0.mk ((by rw [hg]; exact Nat.ne_of_lt (blk_lt (g := gb151) (o := .cells #[.slice A0_0 l0_0.length c0_0] 29 (0, 0)) u4_9) : gb151 ≠ gb152)); have n6_ := Aside0.mk ((by rw [hg]; exact Nat.ne_of_gt (blk_lt (g := gb151) (o := .cells #[.slice A0_0 l0_0.length c0_0] 29 (0, 0)) u4_9) : gb152 ≠ gb151)); clear BK151; clear HB; have BK151 := n0_; have HB := n1_; have BK152 := n2_; have GW152 := n3_; have GE152 := n4_; have NB151_152 := n5_; have NB152_151 := n6_; clear n0_ n1_ n2_ n3_ n4_ n5_ n6_; clear hb hbox hg))
  (try simp only [Act.put, List.setIfInBounds_toArray, List.set_cons_zero, List.set_cons_succ])
  go_cut [15] (fun v15 wc => ∃ (kq : Nat) (x15_3 : Bool), v15 = .bool x15_3 ∧ Aside0 (spec_l10Of.j0 kq a1 x15_3 l0_0 = some (r1, r2, r3, r4, r5, r6)) ∧ Aside0 (kq ≤ k) ∧ Aside0 (wc.heap[gb151]? = some (.cells #[(.slice A0_0 l0_0.length c0_0)] 29 (0, 0))) ∧ Aside0 (wc.heap[gb152]? = some (.cells #[.int .u64 0, .int .u64 0, .int .u64 0, .int .u64 0, .int .i64 0] 53 (0, 0))) ∧ Aside0 (Below w.heap.size w wc))
  case first =>
    have H := HC4.out
    clear HC4
    replace H := Option.bind_eq_some_iff.mp H
    obtain ⟨t153, A70, H⟩ := H
    replace H : (if t153 = true then (spec_l10Of.j0 k a1 (decide (a2 < 1)) l0_0) else (spec_l10Of.j0 k a1 true l0_0)) = some (r1, r2, r3, r4, r5, r6) := H
    have A7 := Aside0.mk A70
    clear A70
    by_cases c8 : t153 = true
    · subst c8
      have H1 : (spec_l10Of.j0 k a1 (decide (a2 < 1)) l0_0) = some (r1, r2, r3, r4, r5, r6) := by rw [if_pos rfl] at H; exact H
      clear H
      have H := H1
      clear H1
      have H' := Aside0.mk H
      clear H
      have hnb9 := NB151_152.out
      have hnc9 := NB152_151.out
      have hcz10_0 : w6.cell? ⟨gb151, 0, none⟩ = some (.slice A0_0 l0_0.length c0_0) := (blk_cell BK151.out 0).trans rfl
      have hfz10_0 := blk_frozen BK151.out 0
      go_wp2_with (first | ((with_reducible refine gate_callee (f := 18) rfl ?_); refine goesL_ (some 10) rfl rfl Try.func18 (by kernel_rfl) rfl #[.agg #[.slice A0_0 l0_0.length c0_0]] rfl u4_24 ?_; (with_reducible refine (spec_BookOk.calls k _ _ l0_0 true _ ?side1 ?side2 A7.out).mono ?_); (case side1 => exact u4_11); (case side2 => exact HC0_0.out); rintro e w11 ⟨rfl, hb⟩; refine ⟨_, rfl, ?_⟩; have n0_ := Aside0.mk (blk_below (g := gb151) (o := .cells #[.slice A0_0 l0_0.length c0_0] 29 (0, 0)) u4_9 hb); have n1_ := Aside0.mk (blk_below (g := gb152) (o := .cells #[.int .u64 0, .int .u64 0, .int .u64 0, .int .u64 0, .int .i64 0] 53 (0, 0)) u4_14 hb); have n2_ := Aside0.mk (below_step u4_3 hb); clear BK151; clear BK152; clear HB; have BK151 := n0_; have BK152 := n1_; have HB := n2_; clear n0_ n1_ n2_; (try clear hb); (try clear hb2); (try clear hk); (try clear hi)))
      go_meet
      case rel => exact ⟨_, (decide (a2 < 1)), u4_20, H', ⟨by first | omega | exact Nat.le_refl _⟩, ⟨u4_9⟩, ⟨u4_14⟩, ⟨u4_3⟩⟩
    replace c8 := Bool.eq_false_iff.mpr c8
    subst c8
    have H1 : (spec_l10Of.j0 k a1 true l0_0) = some (r1, r2, r3, r4, r5, r6) := by rw [if_neg (show ¬ (false = true) by decide)] at H; exact H
    clear H
    have H := H1
    clear H1
    have H' := Aside0.mk H
    clear H
    have hnb12 := NB151_152.out
    have hnc12 := NB152_151.out
    have hcz13_0 : w6.cell? ⟨gb151, 0, none⟩ = some (.slice A0_0 l0_0.length c0_0) := (blk_cell BK151.out 0).trans rfl
    have hfz13_0 := blk_frozen BK151.out 0
    go_wp2_with (first | ((with_reducible refine gate_callee (f := 18) rfl ?_); refine goesL_ (some 10) rfl rfl Try.func18 (by kernel_rfl) rfl #[.agg #[.slice A0_0 l0_0.length c0_0]] rfl u4_24 ?_; (with_reducible refine (spec_BookOk.calls k _ _ l0_0 false _ ?side1 ?side2 A7.out).mono ?_); (case side1 => exact u4_11); (case side2 => exact HC0_0.out); rintro e w14 ⟨rfl, hb⟩; refine ⟨_, rfl, ?_⟩; have n0_ := Aside0.mk (blk_below (g := gb151) (o := .cells #[.slice A0_0 l0_0.length c0_0] 29 (0, 0)) u4_9 hb); have n1_ := Aside0.mk (blk_below (g := gb152) (o := .cells #[.int .u64 0, .int .u64 0, .int .u64 0, .int .u64 0, .int .i64 0] 53 (0, 0)) u4_14 hb); have n2_ := Aside0.mk (below_step u4_3 hb); clear BK151; clear BK152; clear HB; have BK151 := n0_; have BK152 := n1_; have HB := n2_; clear n0_ n1_ n2_; (try clear hb); (try clear hb2); (try clear hk); (try clear hi)))
    go_meet
    case rel => exact ⟨_, (true), u4_20, H', ⟨by first | omega | exact Nat.le_refl _⟩, ⟨u4_9⟩, ⟨u4_14⟩, ⟨u4_3⟩⟩
  clear HC4
  try clear c1
  try clear p2
  try clear c5
  try clear c8
  try clear c9
  try clear c12
  try clear hcz10_0
  try clear hcz13_0
  try clear hfz10_0
  try clear hfz13_0
  obtain ⟨kq, x15_3, rfl, HA, HJ3, BK151, BK152, HB⟩ := hcut
  cases kq with
  | zero => exact absurd HA.out (by simp [spec_l10Of.j0])
  | succ kj3 =>
    have H := HA.out
    clear HA
    simp only [spec_l10Of.j0] at H
    by_cases c15 : x15_3 = true
    · subst c15
      have H1 : (some (0, 0, 0, 0, 0, 1)) = some (r1, r2, r3, r4, r5, r6) := by rw [if_pos rfl] at H; exact H
      clear H
      have H := H1
      clear H1
      simp only [Option.some.injEq, Prod.mk.injEq] at H
      obtain ⟨rfl, rfl, rfl, rfl, rfl, rfl⟩ := H
      have hnb16 := NB152_151.out
      have hnc16 := NB151_152.out
      have hcz17_0 : wc.cell? ⟨gb152, 0, none⟩ = some (.int .u64 0) := (blk_cell BK152.out 0).trans rfl
      have hcz17_1 : wc.cell? ⟨gb152, 1, none⟩ = some (.int .u64 0) := (blk_cell BK152.out 1).trans rfl
      have hcz17_2 : wc.cell? ⟨gb152, 2, none⟩ = some (.int .u64 0) := (blk_cell BK152.out 2).trans rfl
      have hcz17_3 : wc.cell? ⟨gb152, 3, none⟩ = some (.int .u64 0) := (blk_cell BK152.out 3).trans rfl
      have hcz17_4 : wc.cell? ⟨gb152, 4, none⟩ = some (.int .i64 0) := (blk_cell BK152.out 4).trans rfl
      have hfz17_0 := blk_frozen BK152.out 0
      have hfz17_1 := blk_frozen BK152.out 1
      have hfz17_2 := blk_frozen BK152.out 2
      have hfz17_3 := blk_frozen BK152.out 3
      have hfz17_4 := blk_frozen BK152.out 4
      go_wp2
      refine bodyPost_ret (results_ct rfl _ _ gb152 53 #[.int .u64 0, .int .u64 0, .int .u64 0, .int .u64 0, .int .i64 0] (0, 0) _ rfl u4_5 Try.underlying53 rfl (by kernel_rfl)) rfl ?_
      exact ⟨by first | rfl | (simp [errW_none, errW_some] <;> rfl) | (simp [*, errW_none, errW_some] <;> rfl), u4_3⟩
    replace c15 := Bool.eq_false_iff.mpr c15
    subst c15
    have H1 : ((spec_l10Find.f kj3 l0_0 a1).bind fun t154 => (if t154 < 0 then (some (0, 0, 0, 0, 0, 2)) else (if 0 ≤ t154 then (if t154 < (l0_0.length : Int) then (some ((rd_T53 l0_0 t154).f0, (rd_T53 l0_0 t154).f1, (rd_T53 l0_0 t154).f2, (rd_T53 l0_0 t154).f3, (rd_T53 l0_0 t154).f4, 0)) else (none)) else (none)))) = some (r1, r2, r3, r4, r5, r6) := by rw [if_neg (show ¬ (false = true) by decide)] at H; exact H
    clear H
    have H := H1
    clear H1
    replace H := Option.bind_eq_some_iff.mp H
    obtain ⟨t154, A180, H⟩ := H
    replace H : (if t154 < 0 then (some (0, 0, 0, 0, 0, 2)) else (if 0 ≤ t154 then (if t154 < (l0_0.length : Int) then (some ((rd_T53 l0_0 t154).f0, (rd_T53 l0_0 t154).f1, (rd_T53 l0_0 t154).f2, (rd_T53 l0_0 t154).f3, (rd_T53 l0_0 t154).f4, 0)) else (none)) else (none))) = some (r1, r2, r3, r4, r5, r6) := H
    have A18 := Aside0.mk A180
    clear A180
    have H9 := Aside0.mk H
    clear H
    have hnb19 := NB151_152.out
    have hnc19 := NB152_151.out
    have hcz20_0 : wc.cell? ⟨gb151, 0, none⟩ = some (.slice A0_0 l0_0.length c0_0) := (blk_cell BK151.out 0).trans rfl
    have hfz20_0 := blk_frozen BK151.out 0
    go_upto_if 21 with (first | ((with_reducible refine gate_callee (f := 68) rfl ?_); refine goesL_ (some 19) rfl rfl Try.func68 (by kernel_rfl) rfl #[.agg #[.slice A0_0 l0_0.length c0_0], .int .u64 a1] rfl u4_24 ?_; (with_reducible refine (spec_l10Find.calls kj3 _ _ l0_0 a1 t154 _ ?side1 ?side2 A18.out).mono ?_); (case side1 => exact u4_11); (case side2 => exact HC0_0.out); rintro e w21 ⟨rfl, hb⟩; refine ⟨_, rfl, ?_⟩; have n0_ := Aside0.mk (blk_below (g := gb151) (o := .cells #[.slice A0_0 l0_0.length c0_0] 29 (0, 0)) u4_9 hb); have n1_ := Aside0.mk (blk_below (g := gb152) (o := .cells #[.int .u64 0, .int .u64 0, .int .u64 0, .int .u64 0, .int .i64 0] 53 (0, 0)) u4_14 hb); have n2_ := Aside0.mk (below_step u4_3 hb); clear BK151; clear BK152; clear HB; have BK151 := n0_; have BK152 := n1_; have HB := n2_; clear n0_ n1_ n2_; (try clear hb); (try clear hb2); (try clear hk); (try clear hi)))
    have H := H9.out
    clear H9
    by_cases c22 : t154 < 0
    · rw [if_pos c22] at H
      have c22b0 : decide (t154 < 0) = true := decide_eq_true c22
      clear c22
      (first | rw [c22b0] | (simp only [i64_w, i32_w]; rw [c22b0]) | skip)
      simp only [Option.some.injEq, Prod.mk.injEq] at H
      obtain ⟨rfl, rfl, rfl, rfl, rfl, rfl⟩ := H
      have hnb23 := NB152_151.out
      have hnc23 := NB151_152.out
      have hcz24_0 : w21.cell? ⟨gb152, 0, none⟩ = some (.int .u64 0) := (blk_cell BK152.out 0).trans rfl
      have hcz24_1 : w21.cell? ⟨gb152, 1, none⟩ = some (.int .u64 0) := (blk_cell BK152.out 1).trans rfl
      have hcz24_2 : w21.cell? ⟨gb152, 2, none⟩ = some (.int .u64 0) := (blk_cell BK152.out 2).trans rfl
      have hcz24_3 : w21.cell? ⟨gb152, 3, none⟩ = some (.int .u64 0) := (blk_cell BK152.out 3).trans rfl
      have hcz24_4 : w21.cell? ⟨gb152, 4, none⟩ = some (.int .i64 0) := (blk_cell BK152.out 4).trans rfl
      have hfz24_0 := blk_frozen BK152.out 0
      have hfz24_1 := blk_frozen BK152.out 1
      have hfz24_2 := blk_frozen BK152.out 2
      have hfz24_3 := blk_frozen BK152.out 3
      have hfz24_4 := blk_frozen BK152.out 4
      go_wp2
      refine bodyPost_ret (results_ct rfl _ _ gb152 53 #[.int .u64 0, .int .u64 0, .int .u64 0, .int .u64 0, .int .i64 0] (0, 0) _ rfl u4_5 Try.underlying53 rfl (by kernel_rfl)) rfl ?_
      exact ⟨by first | rfl | (simp [errW_none, errW_some] <;> rfl) | (simp [*, errW_none, errW_some] <;> rfl), u4_3⟩
    rw [if_neg c22] at H
    have c22b0 : decide (t154 < 0) = false := decide_eq_false c22
    clear c22
    (first | rw [c22b0] | (simp only [i64_w, i32_w]; rw [c22b0]) | skip)
    by_cases c25 : 0 ≤ t154
    rotate_left
    · rw [if_neg c25] at H
      exact absurd H (by simp)
    rw [if_pos c25] at H
    have c25b0 : decide (0 ≤ t154) = true := decide_eq_true c25
    clear c25
    by_cases c26 : t154 < (l0_0.length : Int)
    rotate_left
    · rw [if_neg c26] at H
      exact absurd H (by simp)
    rw [if_pos c26] at H
    have c26b0 : decide (t154 < (l0_0.length : Int)) = true := decide_eq_true c26
    clear c26
    simp only [Option.some.injEq, Prod.mk.injEq] at H
    obtain ⟨rfl, rfl, rfl, rfl, rfl, rfl⟩ := H
    have hnb27 := NB151_152.out
    have hnc27 := NB152_151.out
    have hcz28_0 : w21.cell? ⟨gb151, 0, none⟩ = some (.slice A0_0 l0_0.length c0_0) := (blk_cell BK151.out 0).trans rfl
    have hfz28_0 := blk_frozen BK151.out 0
    have p155 : 0 ≤ (t154 : Int) := of_decide_eq_true u4_6
    have q155 : t154 < (l0_0.length : Int) := of_decide_eq_true u4_6
    obtain ⟨ad155, e155, hx155_0, hx155_1, hx155_2, hx155_3, hx155_4⟩ := at_T53 HR0_0.out t154 p155 q155
    cases e155
    replace hx155_0 := (HB.out.cell (World.block_lt_of_cell? w _ hx155_0)).trans hx155_0
    replace hx155_1 := (HB.out.cell (World.block_lt_of_cell? w _ hx155_1)).trans hx155_1
    replace hx155_2 := (HB.out.cell (World.block_lt_of_cell? w _ hx155_2)).trans hx155_2
    replace hx155_3 := (HB.out.cell (World.block_lt_of_cell? w _ hx155_3)).trans hx155_3
    replace hx155_4 := (HB.out.cell (World.block_lt_of_cell? w _ hx155_4)).trans hx155_4
    replace p155 := eq_true p155
    replace q155 := eq_true q155
    have hcz29_0 : w21.cell? ⟨gb152, 0, none⟩ = some (.int .u64 0) := (blk_cell BK152.out 0).trans rfl
    have hcz29_1 : w21.cell? ⟨gb152, 1, none⟩ = some (.int .u64 0) := (blk_cell BK152.out 1).trans rfl
    have hcz29_2 : w21.cell? ⟨gb152, 2, none⟩ = some (.int .u64 0) := (blk_cell BK152.out 2).trans rfl
    have hcz29_3 : w21.cell? ⟨gb152, 3, none⟩ = some (.int .u64 0) := (blk_cell BK152.out 3).trans rfl
    have hcz29_4 : w21.cell? ⟨gb152, 4, none⟩ = some (.int .i64 0) := (blk_cell BK152.out 4).trans rfl
    have hfz29_0 := blk_frozen BK152.out 0
    have hfz29_1 := blk_frozen BK152.out 1
    have hfz29_2 := blk_frozen BK152.out 2
    have hfz29_3 := blk_frozen BK152.out 3
    have hfz29_4 := blk_frozen BK152.out 4
    go_wp2
    refine bodyPost_ret (results_ct rfl _ _ gb152 53 #[.int .u64 ((rd_T53 l0_0 t154).f0), .int .u64 ((rd_T53 l0_0 t154).f1), .int .u64 ((rd_T53 l0_0 t154).f2), .int .u64 ((rd_T53 l0_0 t154).f3), .int .i64 ((rd_T53 l0_0 t154).f4)] (0, 0) _ rfl (by (with_reducible repeat (first | refine blk_drewN ?_ _ | refine blk_drew ?_ | refine blk_alloc ?_ _)); refine blk_put (cs := #[.int .u64 ((rd_T53 l0_0 t154).f0), .int .u64 ((rd_T53 l0_0 t154).f1), .int .u64 ((rd_T53 l0_0 t154).f2), .int .u64 ((rd_T53 l0_0 t154).f3), .int .i64 0]) ?_ 4 _ rfl; (with_reducible repeat (first | refine blk_drewN ?_ _ | refine blk_drew ?_ | refine blk_alloc ?_ _)); refine blk_put (cs := #[.int .u64 ((rd_T53 l0_0 t154).f0), .int .u64 ((rd_T53 l0_0 t154).f1), .int .u64 ((rd_T53 l0_0 t154).f2), .int .u64 0, .int .i64 0]) ?_ 3 _ rfl; (with_reducible repeat (first | refine blk_drewN ?_ _ | refine blk_drew ?_ | refine blk_alloc ?_ _)); refine blk_put (cs := #[.int .u64 ((rd_T53 l0_0 t154).f0), .int .u64 ((rd_T53 l0_0 t154).f1), .int .u64 0, .int .u64 0, .int .i64 0]) ?_ 2 _ rfl; (with_reducible repeat (first | refine blk_drewN ?_ _ | refine blk_drew ?_ | refine blk_alloc ?_ _)); refine blk_put (cs := #[.int .u64 ((rd_T53 l0_0 t154).f0), .int .u64 0, .int .u64 0, .int .u64 0, .int .i64 0]) ?_ 1 _ rfl; (with_reducible repeat (first | refine blk_drewN ?_ _ | refine blk_drew ?_ | refine blk_alloc ?_ _)); refine blk_put (cs := #[.int .u64 0, .int .u64 0, .int .u64 0, .int .u64 0, .int .i64 0]) ?_ 0 _ rfl; (with_reducible repeat (first | refine blk_drewN ?_ _ | refine blk_drew ?_ | refine blk_alloc ?_ _)); exact BK152.out) Try.underlying53 rfl (by kernel_rfl)) rfl ?_
    exact ⟨by first | rfl | (simp [errW_none, errW_some] <;> rfl) | (simp [*, errW_none, errW_some] <;> rfl), u4_3⟩

/-! ### spec_l10Copy: function 54 -/
def spec_l10Copy.l0 : Nat → Int → List (S53) → List (S53) → Option ((List (S53)))
  | 0, _, _, _ => none
  | k + 1, x4, x157000, x159000 => if x4 < (x157000.length : Int) then (if 0 ≤ x4 then (if x159000.length < 3518437208883 then (spec_l10Copy.l0 k (wrap64 (x4 + 1)) x157000 (x159000 ++ [(⟨(rd_T53 x157000 x4).f0, (rd_T53 x157000 x4).f1, (rd_T53 x157000 x4).f2, (rd_T53 x157000 x4).f3, (rd_T53 x157000 x4).f4⟩ : S53)])) else (none)) else (none)) else (some x159000)
def spec_l10Copy.f (k : Nat) (l0_0 : List (S53)) : Option ((List (S53))) := spec_l10Copy.l0 k 0 l0_0 ([] : List (S53))
theorem spec_l10Copy.mono_l : ∀ k, (∀ y0 y1 y2, LeO (spec_l10Copy.l0 k y0 y1 y2) (spec_l10Copy.l0 (k + 1) y0 y1 y2))
  | 0 => fun _ _ _ r h => by simp [spec_l10Copy.l0] at h
  | k + 1 => by
    have ih0 := spec_l10Copy.mono_l k
    · intro y0 y1 y2
      unfold spec_l10Copy.l0
      repeat' first
      | (with_reducible exact ih0 _ _ _)
      | (with_reducible exact LeO.refl _)
      | (with_reducible exact LeO.none _)
      | (with_reducible refine LeO.ite ?_ ?_)
      | (with_reducible refine LeO.bind ?_ (fun _ => ?_))
      | exact ih0 _ _ _
      | exact LeO.none _
      | refine LeO.ite ?_ ?_
      | refine LeO.bind ?_ (fun _ => ?_)
theorem spec_l10Copy.mono : ∀ a0 k, LeO (spec_l10Copy.f k a0) (spec_l10Copy.f (k + 1) a0) := by
  intro a0 k
  have ih0 := spec_l10Copy.mono_l k
  unfold spec_l10Copy.f
  repeat' first
      | (with_reducible exact ih0 _ _ _)
      | (with_reducible exact LeO.refl _)
      | (with_reducible exact LeO.none _)
      | (with_reducible refine LeO.ite ?_ ?_)
      | (with_reducible refine LeO.bind ?_ (fun _ => ?_))
      | exact ih0 _ _ _
      | exact LeO.none _
      | refine LeO.ite ?_ ?_
      | refine LeO.bind ?_ (fun _ => ?_)
def spec_l10Copy.T5 : Bool × List (List Nat × List Nat) := (true, [([], []), ([0], [0]), ([], []), ([2], [2]), ([], []), ([3, 4], [3, 4]), ([5], [5]), ([6], [6]), ([1, 7], [1, 7]), ([0, 1, 2, 3, 4, 5, 6, 7, 8], []), ([9, 8, 8, 0, 1, 2, 3, 4, 5, 6, 7, 8], [8, 9])])
def spec_l10Copy.B5 : List Nat := [0, 1, 0, 4, 0, 28, 60, 124, 255, 511, 1023]
theorem spec_l10Copy.tab5 : rtab .any (opsOf Try.f54 5) = spec_l10Copy.T5 := by kernel_rfl
theorem spec_l10Copy.bits5 : waitsOk spec_l10Copy.T5.2 spec_l10Copy.B5 = true := by kernel_rfl
set_option maxHeartbeats 8000000 in
set_option maxRecDepth 100000 in
theorem spec_l10Copy.calls (k : Nat) (A0_0 : Option Addr) (c0_0 : Nat) (l0_0 : List (S53)) (r : List (S53)) (w : World) (hr0_0 : Kd.C k53 w A0_0 l0_0.length l0_0) (hc0_0 : l0_0.length ≤ c0_0) (h : spec_l10Copy.f k l0_0 = some r) :
    Calls Try.prog 54 #[.agg #[.slice A0_0 l0_0.length c0_0]] w fun e w' => ∃ v0_ : Value, e = .returned (.agg #[v0_]) ∧ Kd.R k53 53 w' w.heap.size (fun _ => True) v0_ r ∧ Below w.heap.size w w' := by
  have hu29 := Try.underlying29
  have hu53 := Try.underlying53
  have HR0_0 := Aside0.mk hr0_0
  have HC0_0 := Aside0.mk hc0_0
  clear hr0_0 hc0_0
  have HB := Aside0.mk (Below.refl w.heap.size w)
  have H : (spec_l10Copy.l0 k 0 l0_0 ([] : List (S53))) = some r := h
  clear h
  have H' := Aside0.mk H
  clear H
  go_enter Try.func54, Try.ntmps54
  go_wp2_with (first | ((with_reducible refine gate_dst (N := 1) rfl ?_); refine box_event ?hg (N := 1) ?hd (cs := #[.slice A0_0 l0_0.length c0_0]) (t := 29) ?hr ?_; (case hd => rfl); (case hg => rfl); (case hr => first | (go_simp; done) | (go_simp; rfl)); intro gb156 hg w2 hbox hb; have n0_ := Aside0.mk (below_step u4_2 hb); have n1_ := Aside0.mk (hbox); have n2_ := Aside0.mk ((by rw [hg]; exact (below_size u4_2) : w.heap.size ≤ gb156)); have n3_ := Aside0.mk ((by rw [hg]; exact (below_size u4_2) : w.heap.size ≤ gb156)); clear HB; have HB := n0_; have BK156 := n1_; have GW156 := n2_; have GE156 := n3_; clear n0_ n1_ n2_ n3_; clear hb hbox hg) | ((with_reducible refine gate_dst (N := 2) rfl ?_); refine box_event ?hg (N := 2) ?hd (cs := #[.slice none 0 0]) (t := 29) ?hr ?_; (case hd => rfl); (case hg => rfl); (case hr => first | (go_simp; done) | (go_simp; rfl)); intro gb157 hg w3 hbox hb; have n0_ := Aside0.mk (blk_below (g := gb156) (o := .cells #[.slice A0_0 l0_0.length c0_0] 29 (0, 0)) u4_12 hb); have n1_ := Aside0.mk (below_step u4_22 hb); have n2_ := Aside0.mk (hbox); have n3_ := Aside0.mk ((by rw [hg]; exact (below_size u4_22) : w.heap.size ≤ gb157)); have n4_ := Aside0.mk ((by rw [hg]; exact (below_size u4_22) : w.heap.size ≤ gb157)); have n5_ := Aside0.mk ((by rw [hg]; exact Nat.ne_of_lt (blk_lt (g := gb156) (o := .cells #[.slice A0_0 l0_0.length c0_0] 29 (0, 0)) u4_12) : gb156 ≠ gb157)); have n6_ := Aside0.mk ((by rw [hg]; exact Nat.ne_of_gt (blk_lt (g := gb156) (o := .cells #[.slice A0_0 l0_0.length c0_0] 29 (0, 0)) u4_12) : gb157 ≠ gb156)); clear BK156; clear HB; have BK156 := n0_; have HB := n1_; have BK157 := n2_; have GW157 := n3_; have GE157 := n4_; have NB156_157 := n5_; have NB157_156 := n6_; clear n0_ n1_ n2_ n3_ n4_ n5_ n6_; clear hb hbox hg) | ((with_reducible refine gate_dst (N := 3) rfl ?_); refine box_event ?hg (N := 3) ?hd (cs := #[.slice none 0 0]) (t := 29) ?hr ?_; (case hd => rfl); (case hg => rfl); (case hr => first | (go_simp; done) | (go_simp; rfl)); intro gb158 hg w4 hbox hb; have n0_ := Aside0.mk (blk_below (g := gb156) (o := .cells #[.slice A0_0 l0_0.length c0_0] 29 (0, 0)) u4_12 hb); have n1_ := Aside0.mk (blk_below (g := gb157) (o := .cells #[.slice none 0 0] 29 (0, 0)) u4_18 hb); have n2_ := Aside0.mk (below_step u4_16 hb); have n3_ := Aside0.mk (hbox); have n4_ := Aside0.mk ((by rw [hg]; exact (below_size u4_16) : w.heap.size ≤ gb158)); have n5_ := Aside0.mk ((by rw [hg]; exact (below_size u4_16) : w.heap.size ≤ gb158)); have n6_ := Aside0.mk ((by rw [hg]; exact Nat.ne_of_lt (blk_lt (g := gb156) (o := .cells #[.slice A0_0 l0_0.length c0_0] 29 (0, 0)) u4_12) : gb156 ≠ gb158)); have n7_ := Aside0.mk ((by rw [hg]; exact Nat.ne_of_gt (blk_lt (g := gb156) (o := .cells #[.slice A0_0 l0_0.length c0_0] 29 (0, 0)) u4_12) : gb158 ≠ gb156)); have n8_ := Aside0.mk ((by rw [hg]; exact Nat.ne_of_lt (blk_lt (g := gb157) (o := .cells #[.slice none 0 0] 29 (0, 0)) u4_18) : gb157 ≠ gb158)); have n9_ := Aside0.mk ((by rw [hg]; exact Nat.ne_of_gt (blk_lt (g := gb157) (o := .cells #[.slice none 0 0] 29 (0, 0)) u4_18) : gb158 ≠ gb157)); clear BK156; clear BK157; clear HB; have BK156 := n0_; have BK157 := n1_; have HB := n2_; have BK158 := n3_; have GW158 := n4_; have GE158 := n5_; have NB156_158 := n6_; have NB158_156 := n7_; have NB157_158 := n8_; have NB158_157 := n9_; clear n0_ n1_ n2_ n3_ n4_ n5_ n6_ n7_ n8_ n9_; clear hb hbox hg; have hnb5 := NB158_156.out; have hnc5 := NB156_158.out; have hnb6 := NB158_157.out; have hnc6 := NB157_158.out; have hcz7_0 : w4.cell? ⟨gb158, 0, none⟩ = some (.slice none 0 0) := (blk_cell BK158.out 0).trans rfl; have hfz7_0 := blk_frozen BK158.out 0))
  go_loopg [4] k (fun kq v4 w' => ∃ (x4_1 : Int) (x159000_1 : List (S53)) (u159000 : Value), v4 = .int .i64 x4_1 ∧ Aside0 (spec_l10Copy.l0 kq x4_1 l0_0 x159000_1 = some r) ∧ Aside0 (kq ≤ k) ∧ Aside0 (Kd.R k53 53 w' w.heap.size (fun _ => True) u159000 x159000_1) ∧ Aside0 (w'.heap[gb156]? = some (.cells #[(.slice A0_0 l0_0.length c0_0)] 29 (0, 0))) ∧ Aside0 (w'.heap[gb157]? = some (.cells #[(.slice none 0 0)] 29 (0, 0))) ∧ Aside0 (w'.heap[gb158]? = some (.cells #[u159000] 29 (0, 0))) ∧ Aside0 (Below w.heap.size w w'))
  case atStart => exact ⟨(0), (([] : List (S53))), (.slice none 0 0), u4_20, H', ⟨Nat.le_refl _⟩, ⟨(by first | exact Kd.R_nil _ _ _ _ _ | exact Kd.N_nil _ _ _ _ _ | exact Kd.V_nil _ _ _ _ _ | exact Kd.Q_nil _ _ _ _ _ | exact Kd.S_nil _ _ _ _ _)⟩, ⟨u4_25⟩, ⟨u4_26⟩, ⟨(by (with_reducible repeat (first | refine blk_drewN ?_ _ | refine blk_drew ?_ | refine blk_alloc ?_ _)); refine blk_put (cs := #[.slice none 0 0]) ?_ 0 _ rfl; (with_reducible repeat (first | refine blk_drewN ?_ _ | refine blk_drew ?_ | refine blk_alloc ?_ _)); exact BK158.out)⟩, ⟨u4_8⟩⟩
  clear H'
  try clear p2
  try clear c5
  try clear c6
  try clear hcz7_0
  try clear hfz7_0
  obtain ⟨x4_1, x159000_1, u159000, rfl, HA, HK1, HO_159000, BK156, BK157, BK158, HB⟩ := hrel
  cases gk with
  | zero => exact absurd HA.out (by simp [spec_l10Copy.l0])
  | succ k1 =>
    have H := HA.out
    clear HA
    simp only [spec_l10Copy.l0] at H
    by_cases c8 : x4_1 < (l0_0.length : Int)
    rotate_left
    · rw [if_neg c8] at H
      have c8b0 : decide (x4_1 < (l0_0.length : Int)) = false := decide_eq_false c8
      clear c8
      obtain rfl := Option.some.inj H
      have hnb18 := NB156_157.out
      have hnc18 := NB157_156.out
      have hnb19 := NB156_158.out
      have hnc19 := NB158_156.out
      have hcz20_0 : wr.cell? ⟨gb156, 0, none⟩ = some (.slice A0_0 l0_0.length c0_0) := (blk_cell BK156.out 0).trans rfl
      have hfz20_0 := blk_frozen BK156.out 0
      have hnb21 := NB158_157.out
      have hnc21 := NB157_158.out
      have hcz22_0 : wr.cell? ⟨gb158, 0, none⟩ = some (u159000) := (blk_cell BK158.out 0).trans rfl
      have hfz22_0 := blk_frozen BK158.out 0
      obtain ⟨Ao23, co23, eo23⟩ := Kd.R_slice HO_159000.out
      subst eo23
      have hcz24_0 : wr.cell? ⟨gb157, 0, none⟩ = some (.slice none 0 0) := (blk_cell BK157.out 0).trans rfl
      have hfz24_0 := blk_frozen BK157.out 0
      go_wp2
      refine bodyPost_ret (results_cell_row rfl _ _ gb157 29 #[.slice Ao23 x159000_1.length co23] (0, 0) _ rfl (by (with_reducible repeat (first | refine blk_drewN ?_ _ | refine blk_drew ?_ | refine blk_alloc ?_ _)); refine blk_put (cs := #[.slice none 0 0]) ?_ 0 _ rfl; (with_reducible repeat (first | refine blk_drewN ?_ _ | refine blk_drew ?_ | refine blk_alloc ?_ _)); exact BK157.out) Try.underlying29 rfl (by kernel_rfl)) rfl ?_
      exact ⟨_, by first | rfl | (simp [errW_none, errW_some] <;> rfl) | (simp [*, errW_none, errW_some] <;> rfl), (by (with_reducible repeat (first | apply Kd.R_alloc | apply Kd.R_drewN | apply Kd.R_drew)); exact Kd.R_mono (Kd.R_far (p := ⟨gb157, 0, none⟩) (Kd.R_types HO_159000.out BK157.out (by decide)) (fun _ hk => hk.2) (.slice Ao23 x159000_1.length co23)) (fun _ hk => trivial)), u4_8⟩
    rw [if_pos c8] at H
    have c8b0 : decide (x4_1 < (l0_0.length : Int)) = true := decide_eq_true c8
    clear c8
    by_cases c9 : 0 ≤ x4_1
    rotate_left
    · rw [if_neg c9] at H
      exact absurd H (by simp)
    rw [if_pos c9] at H
    have c9b0 : decide (0 ≤ x4_1) = true := decide_eq_true c9
    clear c9
    by_cases c10 : x159000_1.length < 3518437208883
    rotate_left
    · rw [if_neg c10] at H
      exact absurd H (by simp)
    rw [if_pos c10] at H
    have LMc10 := Aside0.mk c10
    clear c10
    obtain ⟨y160, hy160⟩ : ∃ y_ : List (S53), y_ = (x159000_1 ++ [(⟨(rd_T53 l0_0 x4_1).f0, (rd_T53 l0_0 x4_1).f1, (rd_T53 l0_0 x4_1).f2, (rd_T53 l0_0 x4_1).f3, (rd_T53 l0_0 x4_1).f4⟩ : S53)]) := ⟨_, rfl⟩
    replace H : (spec_l10Copy.l0 k1 (wrap64 (x4_1 + 1)) l0_0 y160) = some r := by first | (rw [hy160]; with_reducible exact H) | (have H2_ := (Option.bind_some _ _).symm.trans H; rw [hy160]; with_reducible exact H2_) | (have H2_ := (Option.bind_some _ _).symm.trans H; with_reducible exact H2_) | with_reducible exact H | (rw [hy160]; exact H) | exact H
    have Ny160 := Aside0.mk hy160
    clear hy160
    have H' := Aside0.mk H
    clear H
    have hnb11 := NB156_157.out
    have hnc11 := NB157_156.out
    have hnb12 := NB156_158.out
    have hnc12 := NB158_156.out
    have hcz13_0 : wr.cell? ⟨gb156, 0, none⟩ = some (.slice A0_0 l0_0.length c0_0) := (blk_cell BK156.out 0).trans rfl
    have hfz13_0 := blk_frozen BK156.out 0
    try go_wp2
    have n0_ := Aside0.mk (Kd.R_drew HO_159000.out)
    have n1_ := Aside0.mk (blk_drew BK156.out)
    have n2_ := Aside0.mk (blk_drew BK157.out)
    have n3_ := Aside0.mk (blk_drew BK158.out)
    have n4_ := Aside0.mk (below_drew1 HB.out)
    clear HO_159000
    clear BK156
    clear BK157
    clear BK158
    clear HB
    have HO_159000 := n0_
    have BK156 := n1_
    have BK157 := n2_
    have BK158 := n3_
    have HB := n4_
    clear n0_ n1_ n2_ n3_ n4_
    have p159 : 0 ≤ (x4_1 : Int) := of_decide_eq_true u4_6
    have q159 : x4_1 < (l0_0.length : Int) := of_decide_eq_true u4_6
    obtain ⟨ad159, e159, hx159_0, hx159_1, hx159_2, hx159_3, hx159_4⟩ := at_T53 HR0_0.out x4_1 p159 q159
    have hw159_4 := hx159_4
    have hw159_3 := hx159_3
    have hw159_2 := hx159_2
    have hw159_1 := hx159_1
    have hw159_0 := hx159_0
    cases e159
    replace hx159_0 := (HB.out.cell (World.block_lt_of_cell? w _ hx159_0)).trans hx159_0
    replace hx159_1 := (HB.out.cell (World.block_lt_of_cell? w _ hx159_1)).trans hx159_1
    replace hx159_2 := (HB.out.cell (World.block_lt_of_cell? w _ hx159_2)).trans hx159_2
    replace hx159_3 := (HB.out.cell (World.block_lt_of_cell? w _ hx159_3)).trans hx159_3
    replace hx159_4 := (HB.out.cell (World.block_lt_of_cell? w _ hx159_4)).trans hx159_4
    replace p159 := eq_true p159
    replace q159 := eq_true q159
    refine start_ (n := 11) (S := fun w' => w'.cell? ⟨gb158, 0, none⟩ = some (u159000) ∧ w'.cell? ⟨gb156, 0, none⟩ = some (.slice (some ad159) l0_0.length c0_0) ∧ w'.cell? (ad159.add ((x4_1).toNat * 5)) = some (.int .u64 ((rd_T53 l0_0 x4_1).f0)) ∧ w'.cell? ⟨(ad159.add ((x4_1).toNat * 5)).block, (ad159.add ((x4_1).toNat * 5)).off + 1, none⟩ = some (.int .u64 ((rd_T53 l0_0 x4_1).f1)) ∧ w'.cell? ⟨(ad159.add ((x4_1).toNat * 5)).block, (ad159.add ((x4_1).toNat * 5)).off + 2, none⟩ = some (.int .u64 ((rd_T53 l0_0 x4_1).f2)) ∧ w'.cell? ⟨(ad159.add ((x4_1).toNat * 5)).block, (ad159.add ((x4_1).toNat * 5)).off + 3, none⟩ = some (.int .u64 ((rd_T53 l0_0 x4_1).f3)) ∧ w'.cell? ⟨(ad159.add ((x4_1).toNat * 5)).block, (ad159.add ((x4_1).toNat * 5)).off + 4, none⟩ = some (.int .i64 ((rd_T53 l0_0 x4_1).f4))) (ds := [10]) #[false, false, false, false, false, false, false, false, false, false, false] (by kernel_rfl) rfl rfl ⟨(blk_cell BK158.out 0).trans rfl, (blk_cell BK156.out 0).trans rfl, ((HB.out.cell (World.block_lt_of_cell? w _ hw159_0)).trans hw159_0), ((HB.out.cell (World.block_lt_of_cell? w _ hw159_1)).trans hw159_1), ((HB.out.cell (World.block_lt_of_cell? w _ hw159_2)).trans hw159_2), ((HB.out.cell (World.block_lt_of_cell? w _ hw159_3)).trans hw159_3), ((HB.out.cell (World.block_lt_of_cell? w _ hw159_4)).trans hw159_4)⟩ (fun hHeld => ?_); refine with_tabW spec_l10Copy.tab5 spec_l10Copy.bits5 (fun HT_ HW_ => ?_)
    generalize wr.drew = w14 at HO_159000 BK156 BK157 BK158 HB hx159_0 hx159_1 hx159_2 hx159_3 hx159_4 hHeld ⊢
    refine pure_ (i := 0) (N := some 13) (v := ?_) (a' := ?_) #[true, false, false, false, false, false, false, false, false, false, false] rfl rfl (any_of HT_.out (by kernel_rfl)) (fun _ _ _ h => h) (Or.inl ⟨by rfl, ?_⟩) ?_ ?_
    rotate_left
    · intro w'
      go_simp
      with_reducible rfl
    rotate_left
    · simp only [Act.put, List.setIfInBounds_toArray, List.set_cons_zero, List.set_cons_succ, i64_w, i32_w]
      rfl
    refine pure_ (i := 2) (N := some 15) (v := ?_) (a' := ?_) #[true, false, true, false, false, false, false, false, false, false, false] rfl rfl (any_of HT_.out (by kernel_rfl)) (fun _ _ _ h => h) (Or.inl ⟨by rfl, ?_⟩) ?_ ?_
    rotate_left
    · intro w'
      go_simp
      with_reducible rfl
    rotate_left
    · simp only [Act.put, List.setIfInBounds_toArray, List.set_cons_zero, List.set_cons_succ, i64_w, i32_w]
      rfl
    refine pure_ (i := 4) (N := some 17) (v := ?_) (a' := ?_) #[true, false, true, false, true, false, false, false, false, false, false] rfl rfl (any_of HT_.out (by kernel_rfl)) (fun _ _ _ h => h) (Or.inl ⟨by rfl, ?_⟩) ?_ ?_
    rotate_left
    · intro w'
      go_simp
      with_reducible rfl
    rotate_left
    · simp only [Act.put, List.setIfInBounds_toArray, List.set_cons_zero, List.set_cons_succ, i64_w, i32_w]
      rfl
    refine take_ (i := 1) (N := some 14) (v := ?_) (a' := ?_) #[true, true, true, false, true, false, false, false, false, false, false] rfl rfl (take_ofW HT_.out HW_.out (by kernel_rfl)) (fun _ _ _ h => h) (Or.inl ⟨by rfl, ?_⟩) hHeld ?_ ?_
    rotate_left
    · rintro w' ⟨s0, s1, s2, s3, s4, s5, s6⟩
      go_simp
      with_reducible rfl
    rotate_left
    · simp only [Act.put, List.setIfInBounds_toArray, List.set_cons_zero, List.set_cons_succ, i64_w, i32_w]
      rfl
    refine take_ (i := 3) (N := some 16) (v := ?_) (a' := ?_) #[true, true, true, true, true, false, false, false, false, false, false] rfl rfl (take_ofW HT_.out HW_.out (by kernel_rfl)) (fun _ _ _ h => h) (Or.inl ⟨by rfl, ?_⟩) hHeld ?_ ?_
    rotate_left
    · rintro w' ⟨s0, s1, s2, s3, s4, s5, s6⟩
      go_simp
      with_reducible rfl
    rotate_left
    · simp only [Act.put, List.setIfInBounds_toArray, List.set_cons_zero, List.set_cons_succ, i64_w, i32_w]
      rfl
    refine pure_ (i := 5) (N := some 18) (v := ?_) (a' := ?_) #[true, true, true, true, true, true, false, false, false, false, false] rfl rfl (any_of HT_.out (by kernel_rfl)) (fun _ _ _ h => h) (Or.inl ⟨by rfl, ?_⟩) ?_ ?_
    rotate_left
    · intro w'
      go_simp
      with_reducible rfl
    rotate_left
    · simp only [Act.put, List.setIfInBounds_toArray, List.set_cons_zero, List.set_cons_succ, i64_w, i32_w]
      rfl
    refine take_ (i := 6) (N := some 19) (v := ?_) (a' := ?_) #[true, true, true, true, true, true, true, false, false, false, false] rfl rfl (take_ofW HT_.out HW_.out (by kernel_rfl)) (fun _ _ _ h => h) (Or.inl ⟨by rfl, ?_⟩) hHeld ?_ ?_
    rotate_left
    · rintro w' ⟨s0, s1, s2, s3, s4, s5, s6⟩
      go_simp
      with_reducible rfl
    rotate_left
    · simp only [Act.put, List.setIfInBounds_toArray, List.set_cons_zero, List.set_cons_succ, i64_w, i32_w]
      rfl
    refine one_ (i := 7) (N := some 20) #[true, true, true, true, true, true, true, true, false, false, false] rfl rfl (one_of HT_.out (by kernel_rfl)) (by decide) (fun K hK => ?_)
    refine value_ (w1 := ?_) (v := ?_) (by rfl) rfl ?_ ?_
    rotate_left 2
    · go_simp
      constructor
      · rfl
      rfl
    refine hK.out _ _ ⟨(blk_cell (blk_alloc BK158.out _) 0).trans rfl, (blk_cell (blk_alloc BK156.out _) 0).trans rfl, (World.cell?_alloc_lt _ _ _ (World.block_lt_of_cell? _ _ (((HB.out.cell (World.block_lt_of_cell? w _ hw159_0)).trans hw159_0)))).trans (((HB.out.cell (World.block_lt_of_cell? w _ hw159_0)).trans hw159_0)), (World.cell?_alloc_lt _ _ _ (World.block_lt_of_cell? _ _ (((HB.out.cell (World.block_lt_of_cell? w _ hw159_1)).trans hw159_1)))).trans (((HB.out.cell (World.block_lt_of_cell? w _ hw159_1)).trans hw159_1)), (World.cell?_alloc_lt _ _ _ (World.block_lt_of_cell? _ _ (((HB.out.cell (World.block_lt_of_cell? w _ hw159_2)).trans hw159_2)))).trans (((HB.out.cell (World.block_lt_of_cell? w _ hw159_2)).trans hw159_2)), (World.cell?_alloc_lt _ _ _ (World.block_lt_of_cell? _ _ (((HB.out.cell (World.block_lt_of_cell? w _ hw159_3)).trans hw159_3)))).trans (((HB.out.cell (World.block_lt_of_cell? w _ hw159_3)).trans hw159_3)), (World.cell?_alloc_lt _ _ _ (World.block_lt_of_cell? _ _ (((HB.out.cell (World.block_lt_of_cell? w _ hw159_4)).trans hw159_4)))).trans (((HB.out.cell (World.block_lt_of_cell? w _ hw159_4)).trans hw159_4))⟩ (fun hHeld => ?_)
    clear hK K
    refine norm_ (a' := ?_) ?_ ?_
    rotate_left
    · show Act.put _ (some 20) _ = _
      simp only [Act.put, List.setIfInBounds_toArray, List.set_cons_zero, List.set_cons_succ, i64_w, i32_w]
      rfl
    refine one_ (i := 8) (N := some 21) #[true, true, true, true, true, true, true, true, true, false, false] rfl rfl (one_of HT_.out (by kernel_rfl)) (by decide) (fun K hK => ?_)
    refine Kd.R_append_step k53 (w0 := w) w.heap.size (by rfl) (.tmp 14) (.tmp 20) 27 53 (.agg #[(.int .u64 0), (.int .u64 0), (.int .u64 0), (.int .u64 0), (.int .i64 0)]) 40 rfl Try.underlying27 info53 rfl (by decide) (by omega) u159000 x159000_1 (⟨(rd_T53 l0_0 x4_1).f0, (rd_T53 l0_0 x4_1).f1, (rd_T53 l0_0 x4_1).f2, (rd_T53 l0_0 x4_1).f3, (rd_T53 l0_0 x4_1).f4⟩ : S53) [.int .u64 ((rd_T53 l0_0 x4_1).f0), .int .u64 ((rd_T53 l0_0 x4_1).f1), .int .u64 ((rd_T53 l0_0 x4_1).f2), .int .u64 ((rd_T53 l0_0 x4_1).f3), .int .i64 ((rd_T53 l0_0 x4_1).f4)] (fun _ => True) (fun _ => False) rfl rfl ?aP (fun _ hk => hk.elim) ?aF ?aO ?aB ?aS ?aL ?_
    (case aP => exact k53_mkM _ _ _ (⟨(rd_T53 l0_0 x4_1).f0, (rd_T53 l0_0 x4_1).f1, (rd_T53 l0_0 x4_1).f2, (rd_T53 l0_0 x4_1).f3, (rd_T53 l0_0 x4_1).f4⟩ : S53))
    (case aB => exact u4_8)
    (case aF => exact (fun _ _ => trivial))
    (case aO => exact (by (with_reducible repeat (first | apply Kd.R_alloc | apply Kd.R_drewN | apply Kd.R_drew)); exact HO_159000.out))
    (case aS => exact (below_size u4_8))
    (case aL => have := LMc10.out; omega)
    intro v161 w15 ho hb hg hat
    rw [← Ny160.out] at ho
    have n0_ := Aside0.mk (blk_grown (g := gb156) (o := .cells #[.slice (some ad159) l0_0.length c0_0] 29 (0, 0)) u4_12 hg (Kd.R_ne HO_159000.out BK156.out (by decide)))
    have n1_ := Aside0.mk (blk_grown (g := gb157) (o := .cells #[.slice none 0 0] 29 (0, 0)) u4_18 hg (Kd.R_ne HO_159000.out BK157.out (by decide)))
    have n2_ := Aside0.mk (blk_grown (g := gb158) (o := .cells #[u159000] 29 (0, 0)) (by (with_reducible repeat (first | refine blk_drewN ?_ _ | refine blk_drew ?_ | refine blk_alloc ?_ _)); exact BK158.out) hg (Kd.R_ne HO_159000.out BK158.out (by decide)))
    have n3_ := Aside0.mk (hb)
    have n4_ := Aside0.mk (ho)
    clear BK156
    clear BK157
    clear BK158
    clear HB
    clear HO_159000
    have BK156 := n0_
    have BK157 := n1_
    have BK158 := n2_
    have HB := n3_
    have HO162 := n4_
    clear n0_ n1_ n2_ n3_ n4_
    clear ho hb hg hat
    obtain ⟨Ao16, co16, eo16⟩ := Kd.R_slice HO162.out
    (first | subst eo16 | (injection eo16 with f1_ f2_ f3_; have f4_ := f1_.symm; have f5_ := f3_.symm; clear f1_ f2_ f3_; subst f4_; subst f5_))
    refine hK.out _ _ ⟨(blk_cell BK158.out 0).trans rfl, (blk_cell BK156.out 0).trans rfl, ((HB.out.cell (World.block_lt_of_cell? w _ hw159_0)).trans hw159_0), ((HB.out.cell (World.block_lt_of_cell? w _ hw159_1)).trans hw159_1), ((HB.out.cell (World.block_lt_of_cell? w _ hw159_2)).trans hw159_2), ((HB.out.cell (World.block_lt_of_cell? w _ hw159_3)).trans hw159_3), ((HB.out.cell (World.block_lt_of_cell? w _ hw159_4)).trans hw159_4)⟩ (fun hHeld => ?_)
    clear hK K
    refine norm_ (a' := ?_) ?_ ?_
    rotate_left
    · show Act.put _ (some 21) _ = _
      simp only [Act.put, List.setIfInBounds_toArray, List.set_cons_zero, List.set_cons_succ, i64_w, i32_w]
      rfl
    refine pure_ (i := 9) (N := some 22) (v := ?_) (a' := ?_) #[true, true, true, true, true, true, true, true, true, true, false] rfl rfl (any_of HT_.out (by kernel_rfl)) (fun _ _ _ h => h) (Or.inl ⟨by rfl, ?_⟩) ?_ ?_
    rotate_left
    · intro w'
      go_simp
      with_reducible rfl
    rotate_left
    · simp only [Act.put, List.setIfInBounds_toArray, List.set_cons_zero, List.set_cons_succ, i64_w, i32_w]
      rfl
    refine last_ (i := 10) (N := none) #[true, true, true, true, true, true, true, true, true, true, true] rfl rfl (one_of HT_.out (by kernel_rfl)) (by decide) (fun K hK => ?_)
    have hs17 : w15.cell? ⟨gb158, 0, none⟩ = some (u159000) := (blk_cell BK158.out 0).trans rfl
    have hfs17 := blk_frozen BK158.out 0
    have hns17_0 := NB156_158.out
    have hns17_1 := NB157_158.out
    have hms17_0 := NB158_156.out
    have hms17_1 := NB158_157.out
    refine skip_ (w1 := ?_) (by rfl) rfl ?_ ?_
    rotate_left
    · go_simp
      rfl
    refine hK.out _ _ ?_
    clear hK K
    refine done_ (done_of HT_.out (by kernel_rfl)) ?_
    try go_wp2
    go_roundg k1
    case measure => have := HK1.out; omega
    case rel => exact ⟨(wrap64 (x4_1 + 1)), (y160), (.slice Ao16 y160.length co16), u4_20, H', ⟨by have := HK1.out; omega⟩, ⟨(by (with_reducible repeat (first | apply Kd.R_alloc | apply Kd.R_drewN | apply Kd.R_drew)); exact Kd.R_mono (Kd.R_far (p := ⟨gb158, 0, none⟩) (Kd.R_types HO162.out BK158.out (by decide)) (fun _ hk => hk.2) (.slice Ao16 y160.length co16)) (fun _ hk => trivial))⟩, ⟨u4_25⟩, ⟨u4_26⟩, ⟨(by (with_reducible repeat (first | refine blk_drewN ?_ _ | refine blk_drew ?_ | refine blk_alloc ?_ _)); refine blk_put (cs := #[u159000]) ?_ 0 _ rfl; (with_reducible repeat (first | refine blk_drewN ?_ _ | refine blk_drew ?_ | refine blk_alloc ?_ _)); exact BK158.out)⟩, ⟨u4_8⟩⟩

/-! ### spec_l10With: function 55 -/
def spec_l10With.l0 : Nat → Int → Int → Int → Int → Int → Int → List (S53) → Option ((List (S53)))
  | 0, _, _, _, _, _, _, _ => none
  | k + 1, x6, x165000, x165001, x165002, x165003, x165004, x170000 => if x6 < (x170000.length : Int) then (if 0 ≤ x6 then (if ((rd_T53 x170000 x6).f0) = x165000 then (spec_l10With.l0 k (wrap64 (x6 + 1)) x165000 x165001 x165002 x165003 x165004 (x170000.set (x6 : Int).toNat (⟨x165000, x165001, x165002, x165003, x165004⟩ : S53))) else (spec_l10With.l0 k (wrap64 (x6 + 1)) x165000 x165001 x165002 x165003 x165004 x170000)) else (none)) else (some x170000)
def spec_l10With.f (k : Nat) (l0_0 : List (S53)) (a1_0 : Int) (a1_1 : Int) (a1_2 : Int) (a1_3 : Int) (a1_4 : Int) : Option ((List (S53))) := (spec_l10Copy.f k l0_0).bind fun t166 => (spec_l10With.l0 k 0 a1_0 a1_1 a1_2 a1_3 a1_4 t166)
theorem spec_l10With.mono_l : ∀ k, (∀ y0 y1 y2 y3 y4 y5 y6, LeO (spec_l10With.l0 k y0 y1 y2 y3 y4 y5 y6) (spec_l10With.l0 (k + 1) y0 y1 y2 y3 y4 y5 y6))
  | 0 => fun _ _ _ _ _ _ _ r h => by simp [spec_l10With.l0] at h
  | k + 1 => by
    have ih0 := spec_l10With.mono_l k
    · intro y0 y1 y2 y3 y4 y5 y6
      unfold spec_l10With.l0
      repeat' first
      | (with_reducible exact ih0 _ _ _ _ _ _ _)
      | (with_reducible exact spec_l10Copy.mono _ _)
      | (with_reducible exact LeO.refl _)
      | (with_reducible exact LeO.none _)
      | (with_reducible refine LeO.ite ?_ ?_)
      | (with_reducible refine LeO.bind ?_ (fun _ => ?_))
      | exact ih0 _ _ _ _ _ _ _
      | exact spec_l10Copy.mono _ _
      | exact LeO.none _
      | refine LeO.ite ?_ ?_
      | refine LeO.bind ?_ (fun _ => ?_)
theorem spec_l10With.mono : ∀ a0 a1 a2 a3 a4 a5 k, LeO (spec_l10With.f k a0 a1 a2 a3 a4 a5) (spec_l10With.f (k + 1) a0 a1 a2 a3 a4 a5) := by
  intro a0 a1 a2 a3 a4 a5 k
  have ih0 := spec_l10With.mono_l k
  unfold spec_l10With.f
  repeat' first
      | (with_reducible exact ih0 _ _ _ _ _ _ _)
      | (with_reducible exact spec_l10Copy.mono _ _)
      | (with_reducible exact LeO.refl _)
      | (with_reducible exact LeO.none _)
      | (with_reducible refine LeO.ite ?_ ?_)
      | (with_reducible refine LeO.bind ?_ (fun _ => ?_))
      | exact ih0 _ _ _ _ _ _ _
      | exact spec_l10Copy.mono _ _
      | exact LeO.none _
      | refine LeO.ite ?_ ?_
      | refine LeO.bind ?_ (fun _ => ?_)
set_option maxHeartbeats 8000000 in
set_option maxRecDepth 100000 in
theorem spec_l10With.calls (k : Nat) (A0_0 : Option Addr) (c0_0 : Nat) (l0_0 : List (S53)) (a1_0 : Int) (a1_1 : Int) (a1_2 : Int) (a1_3 : Int) (a1_4 : Int) (r : List (S53)) (w : World) (hr0_0 : Kd.C k53 w A0_0 l0_0.length l0_0) (hc0_0 : l0_0.length ≤ c0_0) (h : spec_l10With.f k l0_0 a1_0 a1_1 a1_2 a1_3 a1_4 = some r) :
    Calls Try.prog 55 #[.agg #[.slice A0_0 l0_0.length c0_0], .agg #[.int .u64 a1_0, .int .u64 a1_1, .int .u64 a1_2, .int .u64 a1_3, .int .i64 a1_4]] w fun e w' => ∃ v0_ : Value, e = .returned (.agg #[v0_]) ∧ Kd.R k53 53 w' w.heap.size (fun _ => True) v0_ r ∧ Below w.heap.size w w' := by
  have hu29 := Try.underlying29
  have hu53 := Try.underlying53
  have HR0_0 := Aside0.mk hr0_0
  have HC0_0 := Aside0.mk hc0_0
  clear hr0_0 hc0_0
  have HB := Aside0.mk (Below.refl w.heap.size w)
  have H : ((spec_l10Copy.f k l0_0).bind fun t166 => (spec_l10With.l0 k 0 a1_0 a1_1 a1_2 a1_3 a1_4 t166)) = some r := h
  clear h
  replace H := Option.bind_eq_some_iff.mp H
  obtain ⟨t166, A30, H⟩ := H
  replace H : (spec_l10With.l0 k 0 a1_0 a1_1 a1_2 a1_3 a1_4 t166) = some r := H
  have A3 := Aside0.mk A30
  clear A30
  have H' := Aside0.mk H
  clear H
  go_enter Try.func55, Try.ntmps55
  go_wp2_with (first | (first | ((with_reducible refine gate_dst (N := 2) rfl ?_); refine box_event ?hg (N := 2) ?hd (cs := #[.slice A0_0 l0_0.length c0_0]) (t := 29) ?hr ?_; (case hd => rfl); (case hg => rfl); (case hr => first | (go_simp; done) | (go_simp; rfl)); intro gb163 hg w4 hbox hb; have n0_ := Aside0.mk (below_step u4_2 hb); have n1_ := Aside0.mk (hbox); have n2_ := Aside0.mk ((by rw [hg]; exact (below_size u4_2) : w.heap.size ≤ gb163)); have n3_ := Aside0.mk ((by rw [hg]; exact (below_size u4_2) : w.heap.size ≤ gb163)); clear HB; have HB := n0_; have BK163 := n1_; have GW163 := n2_; have GE163 := n3_; clear n0_ n1_ n2_ n3_; clear hb hbox hg) | ((with_reducible refine gate_dst (N := 3) rfl ?_); refine box_event ?hg (N := 3) ?hd (cs := #[.int .u64 a1_0, .int .u64 a1_1, .int .u64 a1_2, .int .u64 a1_3, .int .i64 a1_4]) (t := 53) ?hr ?_; (case hd => rfl); (case hg => rfl); (case hr => first | (go_simp; done) | (go_simp; rfl)); intro gb164 hg w5 hbox hb; have n0_ := Aside0.mk (blk_below (g := gb163) (o := .cells #[.slice A0_0 l0_0.length c0_0] 29 (0, 0)) u4_0 hb); have n1_ := Aside0.mk (below_step u4_23 hb); have n2_ := Aside0.mk (hbox); have n3_ := Aside0.mk ((by rw [hg]; exact (below_size u4_23) : w.heap.size ≤ gb164)); have n4_ := Aside0.mk ((by rw [hg]; exact (below_size u4_23) : w.heap.size ≤ gb164)); have n5_ := Aside0.mk ((by rw [hg]; exact Nat.ne_of_lt (blk_lt (g := gb163) (o := .cells #[.slice A0_0 l0_0.length c0_0] 29 (0, 0)) u4_0) : gb163 ≠ gb164)); have n6_ := Aside0.mk ((by rw [hg]; exact Nat.ne_of_gt (blk_lt (g := gb163) (o := .cells #[.slice A0_0 l0_0.length c0_0] 29 (0, 0)) u4_0) : gb164 ≠ gb163)); clear BK163; clear HB; have BK163 := n0_; have HB := n1_; have BK164 := n2_; have GW164 := n3_; have GE164 := n4_; have NB163_164 := n5_; have NB164_163 := n6_; clear n0_ n1_ n2_ n3_ n4_ n5_ n6_; clear hb hbox hg) | ((with_reducible refine gate_dst (N := 4) rfl ?_); refine box_event ?hg (N := 4) ?hd (cs := #[.slice none 0 0]) (t := 29) ?hr ?_; (case hd => rfl); (case hg => rfl); (case hr => first | (go_simp; done) | (go_simp; rfl)); intro gb165 hg w6 hbox hb; have n0_ := Aside0.mk (blk_below (g := gb163) (o := .cells #[.slice A0_0 l0_0.length c0_0] 29 (0, 0)) u4_0 hb); have n1_ := Aside0.mk (blk_below (g := gb164) (o := .cells #[.int .u64 a1_0, .int .u64 a1_1, .int .u64 a1_2, .int .u64 a1_3, .int .i64 a1_4] 53 (0, 0)) u4_1 hb); have n2_ := Aside0.mk (below_step u4_17 hb); have n3_ := Aside0.mk (hbox); have n4_ := Aside0.mk ((by rw [hg]; exact (below_size u4_17) : w.heap.size ≤ gb165)); have n5_ := Aside0.mk ((by rw [hg]; exact (below_size u4_17) : w.heap.size ≤ gb165)); have n6_ := Aside0.mk ((by rw [hg]; exact Nat.ne_of_lt (blk_lt (g := gb163) (o := .cells #[.slice A0_0 l0_0.length c0_0] 29 (0, 0)) u4_0) : gb163 ≠ gb165)); have n7_ := Aside0.mk ((by rw [hg]; exact Nat.ne_of_gt (blk_lt (g := gb163) (o := .cells #[.slice A0_0 l0_0.length c0_0] 29 (0, 0)) u4_0) : gb165 ≠ gb163)); have n8_ := Aside0.mk ((by rw [hg]; exact Nat.ne_of_lt (blk_lt (g := gb164) (o := .cells #[.int .u64 a1_0, .int .u64 a1_1, .int .u64 a1_2, .int .u64 a1_3, .int .i64 a1_4] 53 (0, 0)) u4_1) : gb164 ≠ gb165)); have n9_ := Aside0.mk ((by rw [hg]; exact Nat.ne_of_gt (blk_lt (g := gb164) (o := .cells #[.int .u64 a1_0, .int .u64 a1_1, .int .u64 a1_2, .int .u64 a1_3, .int .i64 a1_4] 53 (0, 0)) u4_1) : gb165 ≠ gb164)); clear BK163; clear BK164; clear HB; have BK163 := n0_; have BK164 := n1_; have HB := n2_; have BK165 := n3_; have GW165 := n4_; have GE165 := n5_; have NB163_165 := n6_; have NB165_163 := n7_; have NB164_165 := n8_; have NB165_164 := n9_; clear n0_ n1_ n2_ n3_ n4_ n5_ n6_ n7_ n8_ n9_; clear hb hbox hg; have hnb7 := NB163_164.out; have hnc7 := NB164_163.out; have hnb8 := NB163_165.out; have hnc8 := NB165_163.out; have hcz9_0 : w6.cell? ⟨gb163, 0, none⟩ = some (.slice A0_0 l0_0.length c0_0) := (blk_cell BK163.out 0).trans rfl; have hfz9_0 := blk_frozen BK163.out 0) | (go_at_call 54; (with_reducible refine (spec_l10Copy.calls k _ _ l0_0 t166 _ ?side1 ?side2 A3.out).mono ?_); (case side1 => exact u4_11); (case side2 => exact HC0_0.out); rintro e w10 ⟨v167, rfl, ho0, hb⟩; have n0_ := Aside0.mk (Kd.R_lower (Kd.R_newB ho0 (g := gb164) (o := .cells #[.int .u64 a1_0, .int .u64 a1_1, .int .u64 a1_2, .int .u64 a1_3, .int .i64 a1_4] 53 (0, 0)) u4_1) (below_size u4_4)); have n1_ := Aside0.mk (blk_below (g := gb163) (o := .cells #[.slice A0_0 l0_0.length c0_0] 29 (0, 0)) u4_0 hb); have n2_ := Aside0.mk (blk_below (g := gb164) (o := .cells #[.int .u64 a1_0, .int .u64 a1_1, .int .u64 a1_2, .int .u64 a1_3, .int .i64 a1_4] 53 (0, 0)) u4_1 hb); have n3_ := Aside0.mk (blk_below (g := gb165) (o := .cells #[.slice none 0 0] 29 (0, 0)) u4_7 hb); have n4_ := Aside0.mk (below_step u4_4 hb); clear BK163; clear BK164; clear BK165; clear HB; have HO168 := n0_; have BK163 := n1_; have BK164 := n2_; have BK165 := n3_; have HB := n4_; clear n0_ n1_ n2_ n3_ n4_; (try clear hb); (try clear hb2); (try clear hk); (try clear hi); (try clear ho0)) | ((with_reducible refine gate_dst (N := 5) rfl ?_); refine box_event ?hg (N := 5) ?hd (cs := #[.slice none 0 0]) (t := 29) ?hr ?_; (case hd => rfl); (case hg => rfl); (case hr => first | (go_simp; done) | (go_simp; rfl)); intro gb169 hg w11 hbox hb; have n0_ := Aside0.mk (Kd.R_below (by (with_reducible repeat (first | apply Kd.R_alloc | apply Kd.R_drewN | apply Kd.R_drew)); exact HO168.out) hb); have n1_ := Aside0.mk (blk_below (g := gb163) (o := .cells #[.slice A0_0 l0_0.length c0_0] 29 (0, 0)) u4_0 hb); have n2_ := Aside0.mk (blk_below (g := gb164) (o := .cells #[.int .u64 a1_0, .int .u64 a1_1, .int .u64 a1_2, .int .u64 a1_3, .int .i64 a1_4] 53 (0, 0)) u4_1 hb); have n3_ := Aside0.mk (blk_below (g := gb165) (o := .cells #[.slice none 0 0] 29 (0, 0)) u4_7 hb); have n4_ := Aside0.mk (below_step u4_4 hb); have n5_ := Aside0.mk (hbox); have n6_ := Aside0.mk ((by rw [hg]; exact (below_size u4_4) : w.heap.size ≤ gb169)); have n7_ := Aside0.mk ((by rw [hg]; exact (below_size u4_4) : w.heap.size ≤ gb169)); have n8_ := Aside0.mk ((by rw [hg]; exact Nat.ne_of_lt (blk_lt (g := gb163) (o := .cells #[.slice A0_0 l0_0.length c0_0] 29 (0, 0)) u4_0) : gb163 ≠ gb169)); have n9_ := Aside0.mk ((by rw [hg]; exact Nat.ne_of_gt (blk_lt (g := gb163) (o := .cells #[.slice A0_0 l0_0.length c0_0] 29 (0, 0)) u4_0) : gb169 ≠ gb163)); have n10_ := Aside0.mk ((by rw [hg]; exact Nat.ne_of_lt (blk_lt (g := gb164) (o := .cells #[.int .u64 a1_0, .int .u64 a1_1, .int .u64 a1_2, .int .u64 a1_3, .int .i64 a1_4] 53 (0, 0)) u4_1) : gb164 ≠ gb169)); have n11_ := Aside0.mk ((by rw [hg]; exact Nat.ne_of_gt (blk_lt (g := gb164) (o := .cells #[.int .u64 a1_0, .int .u64 a1_1, .int .u64 a1_2, .int .u64 a1_3, .int .i64 a1_4] 53 (0, 0)) u4_1) : gb169 ≠ gb164)); have n12_ := Aside0.mk ((by rw [hg]; exact Nat.ne_of_lt (blk_lt (g := gb165) (o := .cells #[.slice none 0 0] 29 (0, 0)) u4_7) : gb165 ≠ gb169)); have n13_ := Aside0.mk ((by rw [hg]; exact Nat.ne_of_gt (blk_lt (g := gb165) (o := .cells #[.slice none 0 0] 29 (0, 0)) u4_7) : gb169 ≠ gb165)); clear HO168; clear BK163; clear BK164; clear BK165; clear HB; have HO168 := n0_; have BK163 := n1_; have BK164 := n2_; have BK165 := n3_; have HB := n4_; have BK169 := n5_; have GW169 := n6_; have GE169 := n7_; have NB163_169 := n8_; have NB169_163 := n9_; have NB164_169 := n10_; have NB169_164 := n11_; have NB165_169 := n12_; have NB169_165 := n13_; clear n0_ n1_ n2_ n3_ n4_ n5_ n6_ n7_ n8_ n9_ n10_ n11_ n12_ n13_; clear hb hbox hg; obtain ⟨Ao12, co12, eo12⟩ := Kd.R_slice HO168.out; subst eo12; have hnb13 := NB169_163.out; have hnc13 := NB163_169.out; have hnb14 := NB169_164.out; have hnc14 := NB164_169.out; have hnb15 := NB169_165.out; have hnc15 := NB165_169.out; have hcz16_0 : w11.cell? ⟨gb169, 0, none⟩ = some (.slice none 0 0) := (blk_cell BK169.out 0).trans rfl; have hfz16_0 := blk_frozen BK169.out 0)) | go_quiet (first | (go_at_call 54; (with_reducible refine (spec_l10Copy.calls k _ _ l0_0 t166 _ ?side1 ?side2 A3.out).mono ?_); (case side1 => exact u4_11); (case side2 => exact HC0_0.out); rintro e w10 ⟨v167, rfl, ho0, hb⟩; have n0_ := Aside0.mk (Kd.R_lower (Kd.R_newB ho0 (g := gb164) (o := .cells #[.int .u64 a1_0, .int .u64 a1_1, .int .u64 a1_2, .int .u64 a1_3, .int .i64 a1_4] 53 (0, 0)) u4_1) (below_size u4_4)); have n1_ := Aside0.mk (blk_below (g := gb163) (o := .cells #[.slice A0_0 l0_0.length c0_0] 29 (0, 0)) u4_0 hb); have n2_ := Aside0.mk (blk_below (g := gb164) (o := .cells #[.int .u64 a1_0, .int .u64 a1_1, .int .u64 a1_2, .int .u64 a1_3, .int .i64 a1_4] 53 (0, 0)) u4_1 hb); have n3_ := Aside0.mk (blk_below (g := gb165) (o := .cells #[.slice none 0 0] 29 (0, 0)) u4_7 hb); have n4_ := Aside0.mk (below_step u4_4 hb); clear BK163; clear BK164; clear BK165; clear HB; have HO168 := n0_; have BK163 := n1_; have BK164 := n2_; have BK165 := n3_; have HB := n4_; clear n0_ n1_ n2_ n3_ n4_; (try clear hb); (try clear hb2); (try clear hk); (try clear hi); (try clear ho0))))
  go_loopg [6] k (fun kq v6 w' => ∃ (x6_1 : Int) (x165000_1 : Int) (x165001_1 : Int) (x165002_1 : Int) (x165003_1 : Int) (x165004_1 : Int) (x170000_1 : List (S53)) (u170000 : Value), v6 = .int .i64 x6_1 ∧ Aside0 (spec_l10With.l0 kq x6_1 x165000_1 x165001_1 x165002_1 x165003_1 x165004_1 x170000_1 = some r) ∧ Aside0 (kq ≤ k) ∧ Aside0 (Kd.R k53 53 w' w.heap.size (fun k_ => k_ ≠ gb164) u170000 x170000_1) ∧ Aside0 (w'.heap[gb163]? = some (.cells #[(.slice A0_0 l0_0.length c0_0)] 29 (0, 0))) ∧ Aside0 (w'.heap[gb164]? = some (.cells #[.int .u64 x165000_1, .int .u64 x165001_1, .int .u64 x165002_1, .int .u64 x165003_1, .int .i64 x165004_1] 53 (0, 0))) ∧ Aside0 (w'.heap[gb165]? = some (.cells #[(.slice none 0 0)] 29 (0, 0))) ∧ Aside0 (w'.heap[gb169]? = some (.cells #[u170000] 29 (0, 0))) ∧ Aside0 (Below w.heap.size w w'))
  case atStart => exact ⟨(0), (a1_0), (a1_1), (a1_2), (a1_3), (a1_4), (t166), (.slice Ao12 t166.length co12), u4_20, H', ⟨Nat.le_refl _⟩, ⟨(by (with_reducible repeat (first | apply Kd.R_alloc | apply Kd.R_drewN | apply Kd.R_drew)); exact Kd.R_mono (Kd.R_far (p := ⟨gb169, 0, none⟩) (Kd.R_types HO168.out BK169.out (by decide)) (fun _ hk => hk.2) (.slice Ao12 t166.length co12)) (fun _ hk => hk.1.2))⟩, ⟨(by (with_reducible repeat (first | refine blk_drewN ?_ _ | refine blk_drew ?_ | refine blk_alloc ?_ _)); refine blk_far ?_ NB163_169.out _; (with_reducible repeat (first | refine blk_drewN ?_ _ | refine blk_drew ?_ | refine blk_alloc ?_ _)); exact BK163.out)⟩, ⟨(by (with_reducible repeat (first | refine blk_drewN ?_ _ | refine blk_drew ?_ | refine blk_alloc ?_ _)); refine blk_far ?_ NB164_169.out _; (with_reducible repeat (first | refine blk_drewN ?_ _ | refine blk_drew ?_ | refine blk_alloc ?_ _)); exact BK164.out)⟩, ⟨(by (with_reducible repeat (first | refine blk_drewN ?_ _ | refine blk_drew ?_ | refine blk_alloc ?_ _)); refine blk_far ?_ NB165_169.out _; (with_reducible repeat (first | refine blk_drewN ?_ _ | refine blk_drew ?_ | refine blk_alloc ?_ _)); exact BK165.out)⟩, ⟨(by (with_reducible repeat (first | refine blk_drewN ?_ _ | refine blk_drew ?_ | refine blk_alloc ?_ _)); refine blk_put (cs := #[.slice none 0 0]) ?_ 0 _ rfl; (with_reducible repeat (first | refine blk_drewN ?_ _ | refine blk_drew ?_ | refine blk_alloc ?_ _)); exact BK169.out)⟩, ⟨u4_10⟩⟩
  clear H'
  try clear c1
  try clear p2
  try clear c5
  try clear c7
  try clear c8
  try clear c13
  try clear c14
  try clear c15
  try clear hcz16_0
  try clear hcz9_0
  try clear hfz16_0
  try clear hfz9_0
  obtain ⟨x6_1, x165000_1, x165001_1, x165002_1, x165003_1, x165004_1, x170000_1, u170000, rfl, HA, HK1, HO_170000, BK163, BK164, BK165, BK169, HB⟩ := hrel
  cases gk with
  | zero => exact absurd HA.out (by simp [spec_l10With.l0])
  | succ k1 =>
    have H := HA.out
    clear HA
    simp only [spec_l10With.l0] at H
    by_cases c17 : x6_1 < (x170000_1.length : Int)
    rotate_left
    · rw [if_neg c17] at H
      have c17b0 : decide (x6_1 < (x170000_1.length : Int)) = false := decide_eq_false c17
      clear c17
      obtain rfl := Option.some.inj H
      have hnb38 := NB169_163.out
      have hnc38 := NB163_169.out
      have hnb39 := NB169_164.out
      have hnc39 := NB164_169.out
      have hnb40 := NB169_165.out
      have hnc40 := NB165_169.out
      have hcz41_0 : wr.cell? ⟨gb169, 0, none⟩ = some (u170000) := (blk_cell BK169.out 0).trans rfl
      have hfz41_0 := blk_frozen BK169.out 0
      obtain ⟨Ao42, co42, eo42⟩ := Kd.R_slice HO_170000.out
      subst eo42
      have hnb43 := NB165_163.out
      have hnc43 := NB163_165.out
      have hnb44 := NB165_164.out
      have hnc44 := NB164_165.out
      have hcz45_0 : wr.cell? ⟨gb165, 0, none⟩ = some (.slice none 0 0) := (blk_cell BK165.out 0).trans rfl
      have hfz45_0 := blk_frozen BK165.out 0
      go_wp2
      repeat (go_quiet (fail); try go_wp2)
      refine bodyPost_ret (results_cell_row rfl _ _ gb165 29 #[.slice Ao42 x170000_1.length co42] (0, 0) _ rfl (by (with_reducible repeat (first | refine blk_drewN ?_ _ | refine blk_drew ?_ | refine blk_alloc ?_ _)); refine blk_put (cs := #[.slice none 0 0]) ?_ 0 _ rfl; (with_reducible repeat (first | refine blk_drewN ?_ _ | refine blk_drew ?_ | refine blk_alloc ?_ _)); exact BK165.out) Try.underlying29 rfl (by kernel_rfl)) rfl ?_
      exact ⟨_, by first | rfl | (simp [errW_none, errW_some] <;> rfl) | (simp [*, errW_none, errW_some] <;> rfl), (by (with_reducible repeat (first | apply Kd.R_alloc | apply Kd.R_drewN | apply Kd.R_drew)); exact Kd.R_mono (Kd.R_far (p := ⟨gb165, 0, none⟩) (Kd.R_types HO_170000.out BK165.out (by decide)) (fun _ hk => hk.2) (.slice Ao42 x170000_1.length co42)) (fun _ hk => trivial)), u4_10⟩
    rw [if_pos c17] at H
    have c17b0 : decide (x6_1 < (x170000_1.length : Int)) = true := decide_eq_true c17
    clear c17
    by_cases c18 : 0 ≤ x6_1
    rotate_left
    · rw [if_neg c18] at H
      exact absurd H (by simp)
    rw [if_pos c18] at H
    have c18b0 : decide (0 ≤ x6_1) = true := decide_eq_true c18
    clear c18
    have H9 := Aside0.mk H
    clear H
    have hnb19 := NB169_163.out
    have hnc19 := NB163_169.out
    have hnb20 := NB169_164.out
    have hnc20 := NB164_169.out
    have hnb21 := NB169_165.out
    have hnc21 := NB165_169.out
    have hcz22_0 : wr.cell? ⟨gb169, 0, none⟩ = some (u170000) := (blk_cell BK169.out 0).trans rfl
    have hfz22_0 := blk_frozen BK169.out 0
    obtain ⟨Ao23, co23, eo23⟩ := Kd.R_slice HO_170000.out
    subst eo23
    have p170 : 0 ≤ (x6_1 : Int) := of_decide_eq_true u4_6
    have q170 : x6_1 < (x170000_1.length : Int) := of_decide_eq_true u4_6
    obtain ⟨ad170, e170, hx170_0, hx170_1, hx170_2, hx170_3, hx170_4⟩ := at_T53 (Kd.R_reads' HO_170000.out).2.2 x6_1 p170 q170
    cases e170
    replace p170 := eq_true p170
    replace q170 := eq_true q170
    have hnb24 := NB164_163.out
    have hnc24 := NB163_164.out
    have hnb25 := NB164_165.out
    have hnc25 := NB165_164.out
    have hcz26_0 : wr.cell? ⟨gb164, 0, none⟩ = some (.int .u64 x165000_1) := (blk_cell BK164.out 0).trans rfl
    have hcz26_1 : wr.cell? ⟨gb164, 1, none⟩ = some (.int .u64 x165001_1) := (blk_cell BK164.out 1).trans rfl
    have hcz26_2 : wr.cell? ⟨gb164, 2, none⟩ = some (.int .u64 x165002_1) := (blk_cell BK164.out 2).trans rfl
    have hcz26_3 : wr.cell? ⟨gb164, 3, none⟩ = some (.int .u64 x165003_1) := (blk_cell BK164.out 3).trans rfl
    have hcz26_4 : wr.cell? ⟨gb164, 4, none⟩ = some (.int .i64 x165004_1) := (blk_cell BK164.out 4).trans rfl
    have hfz26_0 := blk_frozen BK164.out 0
    have hfz26_1 := blk_frozen BK164.out 1
    have hfz26_2 := blk_frozen BK164.out 2
    have hfz26_3 := blk_frozen BK164.out 3
    have hfz26_4 := blk_frozen BK164.out 4
    go_upto_if 24 with (fail)
    repeat (go_quiet (fail); go_upto_if 24 with (fail))
    have H := H9.out
    clear H9
    by_cases c27 : ((rd_T53 x170000_1 x6_1).f0) = x165000_1
    rotate_left
    · rw [if_neg c27] at H
      have c27b0 : (((rd_T53 x170000_1 x6_1).f0) == x165000_1) = false := beq_eq_false_iff_ne.mpr c27
      have c27b1 : (((rd_T53 x170000_1 x6_1).f0) != x165000_1) = true := bne_iff_ne.mpr c27
      (first | rw [c27b0] | (simp only [i64_w, i32_w]; rw [c27b0]) | skip)
      have H' := Aside0.mk H
      clear H
      go_wp2
      repeat (go_quiet (fail); try go_wp2)
      go_roundg k1
      case measure => have := HK1.out; omega
      case rel => exact ⟨(wrap64 (x6_1 + 1)), (x165000_1), (x165001_1), (x165002_1), (x165003_1), (x165004_1), (x170000_1), (.slice (some ad170) x170000_1.length co23), u4_20, H', ⟨by have := HK1.out; omega⟩, ⟨u4_15⟩, ⟨u4_0⟩, ⟨u4_1⟩, ⟨u4_7⟩, ⟨u4_19⟩, ⟨u4_10⟩⟩
    rw [if_pos c27] at H
    have c27b0 : (((rd_T53 x170000_1 x6_1).f0) == x165000_1) = true := beq_iff_eq.mpr c27
    have c27b1 : (((rd_T53 x170000_1 x6_1).f0) != x165000_1) = false := bne_eq_false_iff_eq.mpr c27
    clear c27
    (first | rw [c27b0] | (simp only [i64_w, i32_w]; rw [c27b0]) | skip)
    obtain ⟨y171, hy171⟩ : ∃ y_ : List (S53), y_ = (x170000_1.set (x6_1 : Int).toNat (⟨x165000_1, x165001_1, x165002_1, x165003_1, x165004_1⟩ : S53)) := ⟨_, rfl⟩
    replace H : (spec_l10With.l0 k1 (wrap64 (x6_1 + 1)) x165000_1 x165001_1 x165002_1 x165003_1 x165004_1 y171) = some r := by first | (rw [hy171]; with_reducible exact H) | (have H2_ := (Option.bind_some _ _).symm.trans H; rw [hy171]; with_reducible exact H2_) | (have H2_ := (Option.bind_some _ _).symm.trans H; with_reducible exact H2_) | with_reducible exact H | (rw [hy171]; exact H) | exact H
    have Ny171 := Aside0.mk hy171
    clear hy171
    have H' := Aside0.mk H
    clear H
    have hnb29 := NB169_163.out
    have hnc29 := NB163_169.out
    have hnb30 := NB169_164.out
    have hnc30 := NB164_169.out
    have hnb31 := NB169_165.out
    have hnc31 := NB165_169.out
    have hcz32_0 : wr.cell? ⟨gb169, 0, none⟩ = some (.slice (some ad170) x170000_1.length co23) := (blk_cell BK169.out 0).trans rfl
    have hfz32_0 := blk_frozen BK169.out 0
    have hnb33 := NB164_163.out
    have hnc33 := NB163_164.out
    have hnb34 := NB164_165.out
    have hnc34 := NB165_164.out
    have hcz35_0 : wr.cell? ⟨gb164, 0, none⟩ = some (.int .u64 x165000_1) := (blk_cell BK164.out 0).trans rfl
    have hcz35_1 : wr.cell? ⟨gb164, 1, none⟩ = some (.int .u64 x165001_1) := (blk_cell BK164.out 1).trans rfl
    have hcz35_2 : wr.cell? ⟨gb164, 2, none⟩ = some (.int .u64 x165002_1) := (blk_cell BK164.out 2).trans rfl
    have hcz35_3 : wr.cell? ⟨gb164, 3, none⟩ = some (.int .u64 x165003_1) := (blk_cell BK164.out 3).trans rfl
    have hcz35_4 : wr.cell? ⟨gb164, 4, none⟩ = some (.int .i64 x165004_1) := (blk_cell BK164.out 4).trans rfl
    have hfz35_0 := blk_frozen BK164.out 0
    have hfz35_1 := blk_frozen BK164.out 1
    have hfz35_2 := blk_frozen BK164.out 2
    have hfz35_3 := blk_frozen BK164.out 3
    have hfz35_4 := blk_frozen BK164.out 4
    have p28 : 0 ≤ (x6_1 : Int) := of_decide_eq_true u4_6
    have q28 : (x6_1 : Int) < ((x170000_1.length : Int) : Int) := of_decide_eq_true u4_6
    obtain ⟨go28, co28, eo28, gb28, gl28, cl28, HG28⟩ := Kd.R_form HO_170000.out (by omega)
    (first | cases eo28 | (injection eo28 with ea_ en_ ec_; (first | subst ea_ | (injection ea_ with ea_; subst ea_)); subst ec_; clear en_))
    have GB28 := Aside0.mk gb28
    have GG28 := Aside0.mk HG28
    clear gb28 gl28 HG28
    (first | simp only [add_plain] at hx170_0 | skip)
    (first | simp only [add_plain] at hx170_1 | skip)
    (first | simp only [add_plain] at hx170_2 | skip)
    (first | simp only [add_plain] at hx170_3 | skip)
    (first | simp only [add_plain] at hx170_4 | skip)
    obtain ⟨ce28, hcl28, hM28, hcc28, hfr28⟩ := Kd.R_elem HO_170000.out z53 (x6_1 : Int) p28 q28
    obtain rfl := k53_openM hM28
    have hx28_0 : wr.cell? ⟨go28, (x6_1 : Int).toNat * 5, none⟩ = some (.int .u64 ((rd_T53 x170000_1 x6_1).f0)) := hcc28 0 _ rfl
    have hx28_1 : wr.cell? ⟨go28, (x6_1 : Int).toNat * 5 + 1, none⟩ = some (.int .u64 ((rd_T53 x170000_1 x6_1).f1)) := hcc28 1 _ rfl
    have hx28_2 : wr.cell? ⟨go28, (x6_1 : Int).toNat * 5 + 2, none⟩ = some (.int .u64 ((rd_T53 x170000_1 x6_1).f2)) := hcc28 2 _ rfl
    have hx28_3 : wr.cell? ⟨go28, (x6_1 : Int).toNat * 5 + 3, none⟩ = some (.int .u64 ((rd_T53 x170000_1 x6_1).f3)) := hcc28 3 _ rfl
    have hx28_4 : wr.cell? ⟨go28, (x6_1 : Int).toNat * 5 + 4, none⟩ = some (.int .i64 ((rd_T53 x170000_1 x6_1).f4)) := hcc28 4 _ rfl
    have hf28_0 : wr.frozen? ⟨go28, (x6_1 : Int).toNat * 5, none⟩ = false := hfr28 0
    have hf28_1 : wr.frozen? ⟨go28, (x6_1 : Int).toNat * 5 + 1, none⟩ = false := hfr28 1
    have hf28_2 : wr.frozen? ⟨go28, (x6_1 : Int).toNat * 5 + 2, none⟩ = false := hfr28 2
    have hf28_3 : wr.frozen? ⟨go28, (x6_1 : Int).toNat * 5 + 3, none⟩ = false := hfr28 3
    have hf28_4 : wr.frozen? ⟨go28, (x6_1 : Int).toNat * 5 + 4, none⟩ = false := hfr28 4
    clear hcl28 hcc28 hfr28 hM28
    replace p28 := eq_true p28
    replace q28 := eq_true q28
    have HX36 := Aside0.mk (show Kd.R k53 53 wr w.heap.size (fun k_ => k_ ≠ gb164) (.slice (some ⟨go28, 0, none⟩) x170000_1.length co23) x170000_1 from u4_15)
    obtain ⟨ce36, hcl36, hM36, hcc36, hfr36⟩ := Kd.R_elem HX36.out z53 (x6_1 : Int) (of_decide_eq_true u4_6) (by have h_ : (x6_1 : Int) < ((x170000_1.length : Int) : Int) := of_decide_eq_true u4_6; first | exact h_ | (have e_ := (Kd.R_reads' HO_170000.out).1; omega) | simpa using h_)
    obtain rfl := k53_openM hM36
    have HP36 := Kd.R_seg HX36.out (x6_1 : Int) (of_decide_eq_true u4_6) (by have h_ : (x6_1 : Int) < ((x170000_1.length : Int) : Int) := of_decide_eq_true u4_6; first | exact h_ | (have e_ := (Kd.R_reads' HO_170000.out).1; omega) | simpa using h_) (seg := [.int .u64 x165000_1, .int .u64 x165001_1, .int .u64 x165002_1, .int .u64 x165003_1, .int .i64 x165004_1]) (j := 0) hcl36 hcc36 (show 5 ≤ 5 from by decide) (x' := (⟨x165000_1, x165001_1, x165002_1, x165003_1, x165004_1⟩ : S53)) (k53_mkM _ _ _ (⟨x165000_1, x165001_1, x165002_1, x165003_1, x165004_1⟩ : S53) ) (fun _ hk => hk)
    have hx36_0 := hcc36 0 _ rfl
    (try simp only [show (k53).sz = 5 from rfl, Nat.mul_one, Nat.add_zero] at hx36_0)
    have hf36_0 := hfr36 0
    (try simp only [show (k53).sz = 5 from rfl, Nat.mul_one, Nat.add_zero] at hf36_0)
    have hx36_1 := hcc36 1 _ rfl
    (try simp only [show (k53).sz = 5 from rfl, Nat.mul_one, Nat.add_zero] at hx36_1)
    have hf36_1 := hfr36 1
    (try simp only [show (k53).sz = 5 from rfl, Nat.mul_one, Nat.add_zero] at hf36_1)
    have hx36_2 := hcc36 2 _ rfl
    (try simp only [show (k53).sz = 5 from rfl, Nat.mul_one, Nat.add_zero] at hx36_2)
    have hf36_2 := hfr36 2
    (try simp only [show (k53).sz = 5 from rfl, Nat.mul_one, Nat.add_zero] at hf36_2)
    have hx36_3 := hcc36 3 _ rfl
    (try simp only [show (k53).sz = 5 from rfl, Nat.mul_one, Nat.add_zero] at hx36_3)
    have hf36_3 := hfr36 3
    (try simp only [show (k53).sz = 5 from rfl, Nat.mul_one, Nat.add_zero] at hf36_3)
    have hx36_4 := hcc36 4 _ rfl
    (try simp only [show (k53).sz = 5 from rfl, Nat.mul_one, Nat.add_zero] at hx36_4)
    have hf36_4 := hfr36 4
    (try simp only [show (k53).sz = 5 from rfl, Nat.mul_one, Nat.add_zero] at hf36_4)
    clear hcl36 hcc36 hfr36 hM36
    go_wp2_with (first | (first | ((with_reducible refine gate_store (t := 53) (p := 29) rfl ?_); (try (rw [drewN_self wr]; generalize hq_ : World.drewN wr _ = wr; have n0_ := Aside0.mk (Kd.R_at hq_ HO_170000.out); have n1_ := Aside0.mk (blk_at hq_ BK163.out); have n2_ := Aside0.mk (blk_at hq_ BK164.out); have n3_ := Aside0.mk (blk_at hq_ BK165.out); have n4_ := Aside0.mk (blk_at hq_ BK169.out); have n5_ := Aside0.mk (below_at hq_ HB.out); clear hq_ HO_170000 BK163 BK164 BK165 BK169 HB; have HO_170000 := n0_; have BK163 := n1_; have BK164 := n2_; have BK165 := n3_; have BK169 := n4_; have HB := n5_; clear n0_ n1_ n2_ n3_ n4_ n5_; (try (have HX36 := Aside0.mk (show Kd.R k53 53 wr w.heap.size (fun k_ => k_ ≠ gb164) (.slice (some ⟨go28, 0, none⟩) x170000_1.length co23) x170000_1 from u4_15))); (try (obtain ⟨ce36, hcl36, hM36, hcc36, hfr36⟩ := Kd.R_elem HX36.out z53 (x6_1 : Int) (of_decide_eq_true u4_6) (by have h_ : (x6_1 : Int) < ((x170000_1.length : Int) : Int) := of_decide_eq_true u4_6; first | exact h_ | (have e_ := (Kd.R_reads' HO_170000.out).1; omega) | simpa using h_))); (try (obtain rfl := k53_openM hM36)); (try (have HP36 := Kd.R_seg HX36.out (x6_1 : Int) (of_decide_eq_true u4_6) (by have h_ : (x6_1 : Int) < ((x170000_1.length : Int) : Int) := of_decide_eq_true u4_6; first | exact h_ | (have e_ := (Kd.R_reads' HO_170000.out).1; omega) | simpa using h_) (seg := [.int .u64 x165000_1, .int .u64 x165001_1, .int .u64 x165002_1, .int .u64 x165003_1, .int .i64 x165004_1]) (j := 0) hcl36 hcc36 (show 5 ≤ 5 from by decide) (x' := (⟨x165000_1, x165001_1, x165002_1, x165003_1, x165004_1⟩ : S53)) (k53_mkM _ _ _ (⟨x165000_1, x165001_1, x165002_1, x165003_1, x165004_1⟩ : S53) ) (fun _ hk => hk))); (try (have hx36_0 := hcc36 0 _ rfl)); (try (try simp only [show (k53).sz = 5 from rfl, Nat.mul_one, Nat.add_zero] at hx36_0)); (try (have hf36_0 := hfr36 0)); (try (try simp only [show (k53).sz = 5 from rfl, Nat.mul_one, Nat.add_zero] at hf36_0)); (try (have hx36_1 := hcc36 1 _ rfl)); (try (try simp only [show (k53).sz = 5 from rfl, Nat.mul_one, Nat.add_zero] at hx36_1)); (try (have hf36_1 := hfr36 1)); (try (try simp only [show (k53).sz = 5 from rfl, Nat.mul_one, Nat.add_zero] at hf36_1)); (try (have hx36_2 := hcc36 2 _ rfl)); (try (try simp only [show (k53).sz = 5 from rfl, Nat.mul_one, Nat.add_zero] at hx36_2)); (try (have hf36_2 := hfr36 2)); (try (try simp only [show (k53).sz = 5 from rfl, Nat.mul_one, Nat.add_zero] at hf36_2)); (try (have hx36_3 := hcc36 3 _ rfl)); (try (try simp only [show (k53).sz = 5 from rfl, Nat.mul_one, Nat.add_zero] at hx36_3)); (try (have hf36_3 := hfr36 3)); (try (try simp only [show (k53).sz = 5 from rfl, Nat.mul_one, Nat.add_zero] at hf36_3)); (try (have hx36_4 := hcc36 4 _ rfl)); (try (try simp only [show (k53).sz = 5 from rfl, Nat.mul_one, Nat.add_zero] at hx36_4)); (try (have hf36_4 := hfr36 4)); (try (try simp only [show (k53).sz = 5 from rfl, Nat.mul_one, Nat.add_zero] at hf36_4)); (try (clear hcl36 hcc36 hfr36 hM36)))); refine store_event (t := 53) (p := 29) (v := ?vo_w37) (w1 := (((((wr.setCell ⟨go28, (x6_1 : Int).toNat * 5, none⟩ (.int .u64 x165000_1)).setCell ⟨go28, (x6_1 : Int).toNat * 5 + 1, none⟩ (.int .u64 x165001_1)).setCell ⟨go28, (x6_1 : Int).toNat * 5 + 2, none⟩ (.int .u64 x165002_1)).setCell ⟨go28, (x6_1 : Int).toNat * 5 + 3, none⟩ (.int .u64 x165003_1)).setCell ⟨go28, (x6_1 : Int).toNat * 5 + 4, none⟩ (.int .i64 x165004_1))) ?hg ?ho ?hn ?hr ?_; (case ho => rfl); (case hg => rfl); (case hn => rfl); (case hr => first | (go_simp; done) | (go_simp; rfl)); intro w37 hw; have hg : wr.grownBy w37 (some go28) := (by rw [hw]; exact HP36.2); have hp_ : Kd.R k53 53 w37 w.heap.size (fun k_ => k_ ≠ gb164) (.slice (some ⟨go28, 0, none⟩) x170000_1.length co23) y171 := (by rw [hw, Ny171.out]; exact HP36.1); clear HP36; have n0_ := Aside0.mk (hp_); have n1_ := Aside0.mk (blk_grown (g := gb163) (o := .cells #[.slice A0_0 l0_0.length c0_0] 29 (0, 0)) u4_0 hg (Kd.R_ne HO_170000.out BK163.out (by decide))); have n2_ := Aside0.mk (blk_grown (g := gb164) (o := .cells #[.int .u64 x165000_1, .int .u64 x165001_1, .int .u64 x165002_1, .int .u64 x165003_1, .int .i64 x165004_1] 53 (0, 0)) u4_1 hg (Kd.R_away HO_170000.out (fun _ hk => hk))); have n3_ := Aside0.mk (blk_grown (g := gb165) (o := .cells #[.slice none 0 0] 29 (0, 0)) u4_7 hg (Kd.R_ne HO_170000.out BK165.out (by decide))); have n4_ := Aside0.mk (blk_grown (g := gb169) (o := .cells #[.slice (some ⟨go28, 0, none⟩) x170000_1.length co23] 29 (0, 0)) u4_19 hg (Kd.R_ne HO_170000.out BK169.out (by decide))); have n5_ := Aside0.mk ((by rw [hw]; exact below_set (below_set (below_set (below_set (below_set (HB.out) GB28.out) GB28.out) GB28.out) GB28.out) GB28.out : Below w.heap.size w w37)); clear HO_170000; clear BK163; clear BK164; clear BK165; clear BK169; clear HB; have HO_170000 := n0_; have BK163 := n1_; have BK164 := n2_; have BK165 := n3_; have BK169 := n4_; have HB := n5_; clear n0_ n1_ n2_ n3_ n4_ n5_; clear hg hw hp_)) | go_quiet (first | ((with_reducible refine gate_store (t := 53) (p := 29) rfl ?_); (try (rw [drewN_self wr]; generalize hq_ : World.drewN wr _ = wr; have n0_ := Aside0.mk (Kd.R_at hq_ HO_170000.out); have n1_ := Aside0.mk (blk_at hq_ BK163.out); have n2_ := Aside0.mk (blk_at hq_ BK164.out); have n3_ := Aside0.mk (blk_at hq_ BK165.out); have n4_ := Aside0.mk (blk_at hq_ BK169.out); have n5_ := Aside0.mk (below_at hq_ HB.out); clear hq_ HO_170000 BK163 BK164 BK165 BK169 HB; have HO_170000 := n0_; have BK163 := n1_; have BK164 := n2_; have BK165 := n3_; have BK169 := n4_; have HB := n5_; clear n0_ n1_ n2_ n3_ n4_ n5_; (try (have HX36 := Aside0.mk (show Kd.R k53 53 wr w.heap.size (fun k_ => k_ ≠ gb164) (.slice (some ⟨go28, 0, none⟩) x170000_1.length co23) x170000_1 from u4_15))); (try (obtain ⟨ce36, hcl36, hM36, hcc36, hfr36⟩ := Kd.R_elem HX36.out z53 (x6_1 : Int) (of_decide_eq_true u4_6) (by have h_ : (x6_1 : Int) < ((x170000_1.length : Int) : Int) := of_decide_eq_true u4_6; first | exact h_ | (have e_ := (Kd.R_reads' HO_170000.out).1; omega) | simpa using h_))); (try (obtain rfl := k53_openM hM36)); (try (have HP36 := Kd.R_seg HX36.out (x6_1 : Int) (of_decide_eq_true u4_6) (by have h_ : (x6_1 : Int) < ((x170000_1.length : Int) : Int) := of_decide_eq_true u4_6; first | exact h_ | (have e_ := (Kd.R_reads' HO_170000.out).1; omega) | simpa using h_) (seg := [.int .u64 x165000_1, .int .u64 x165001_1, .int .u64 x165002_1, .int .u64 x165003_1, .int .i64 x165004_1]) (j := 0) hcl36 hcc36 (show 5 ≤ 5 from by decide) (x' := (⟨x165000_1, x165001_1, x165002_1, x165003_1, x165004_1⟩ : S53)) (k53_mkM _ _ _ (⟨x165000_1, x165001_1, x165002_1, x165003_1, x165004_1⟩ : S53) ) (fun _ hk => hk))); (try (have hx36_0 := hcc36 0 _ rfl)); (try (try simp only [show (k53).sz = 5 from rfl, Nat.mul_one, Nat.add_zero] at hx36_0)); (try (have hf36_0 := hfr36 0)); (try (try simp only [show (k53).sz = 5 from rfl, Nat.mul_one, Nat.add_zero] at hf36_0)); (try (have hx36_1 := hcc36 1 _ rfl)); (try (try simp only [show (k53).sz = 5 from rfl, Nat.mul_one, Nat.add_zero] at hx36_1)); (try (have hf36_1 := hfr36 1)); (try (try simp only [show (k53).sz = 5 from rfl, Nat.mul_one, Nat.add_zero] at hf36_1)); (try (have hx36_2 := hcc36 2 _ rfl)); (try (try simp only [show (k53).sz = 5 from rfl, Nat.mul_one, Nat.add_zero] at hx36_2)); (try (have hf36_2 := hfr36 2)); (try (try simp only [show (k53).sz = 5 from rfl, Nat.mul_one, Nat.add_zero] at hf36_2)); (try (have hx36_3 := hcc36 3 _ rfl)); (try (try simp only [show (k53).sz = 5 from rfl, Nat.mul_one, Nat.add_zero] at hx36_3)); (try (have hf36_3 := hfr36 3)); (try (try simp only [show (k53).sz = 5 from rfl, Nat.mul_one, Nat.add_zero] at hf36_3)); (try (have hx36_4 := hcc36 4 _ rfl)); (try (try simp only [show (k53).sz = 5 from rfl, Nat.mul_one, Nat.add_zero] at hx36_4)); (try (have hf36_4 := hfr36 4)); (try (try simp only [show (k53).sz = 5 from rfl, Nat.mul_one, Nat.add_zero] at hf36_4)); (try (clear hcl36 hcc36 hfr36 hM36)))); refine store_event (t := 53) (p := 29) (v := ?vo_w37) (w1 := (((((wr.setCell ⟨go28, (x6_1 : Int).toNat * 5, none⟩ (.int .u64 x165000_1)).setCell ⟨go28, (x6_1 : Int).toNat * 5 + 1, none⟩ (.int .u64 x165001_1)).setCell ⟨go28, (x6_1 : Int).toNat * 5 + 2, none⟩ (.int .u64 x165002_1)).setCell ⟨go28, (x6_1 : Int).toNat * 5 + 3, none⟩ (.int .u64 x165003_1)).setCell ⟨go28, (x6_1 : Int).toNat * 5 + 4, none⟩ (.int .i64 x165004_1))) ?hg ?ho ?hn ?hr ?_; (case ho => rfl); (case hg => rfl); (case hn => rfl); (case hr => first | (go_simp; done) | (go_simp; rfl)); intro w37 hw; have hg : wr.grownBy w37 (some go28) := (by rw [hw]; exact HP36.2); have hp_ : Kd.R k53 53 w37 w.heap.size (fun k_ => k_ ≠ gb164) (.slice (some ⟨go28, 0, none⟩) x170000_1.length co23) y171 := (by rw [hw, Ny171.out]; exact HP36.1); clear HP36; have n0_ := Aside0.mk (hp_); have n1_ := Aside0.mk (blk_grown (g := gb163) (o := .cells #[.slice A0_0 l0_0.length c0_0] 29 (0, 0)) u4_0 hg (Kd.R_ne HO_170000.out BK163.out (by decide))); have n2_ := Aside0.mk (blk_grown (g := gb164) (o := .cells #[.int .u64 x165000_1, .int .u64 x165001_1, .int .u64 x165002_1, .int .u64 x165003_1, .int .i64 x165004_1] 53 (0, 0)) u4_1 hg (Kd.R_away HO_170000.out (fun _ hk => hk))); have n3_ := Aside0.mk (blk_grown (g := gb165) (o := .cells #[.slice none 0 0] 29 (0, 0)) u4_7 hg (Kd.R_ne HO_170000.out BK165.out (by decide))); have n4_ := Aside0.mk (blk_grown (g := gb169) (o := .cells #[.slice (some ⟨go28, 0, none⟩) x170000_1.length co23] 29 (0, 0)) u4_19 hg (Kd.R_ne HO_170000.out BK169.out (by decide))); have n5_ := Aside0.mk ((by rw [hw]; exact below_set (below_set (below_set (below_set (below_set (HB.out) GB28.out) GB28.out) GB28.out) GB28.out) GB28.out : Below w.heap.size w w37)); clear HO_170000; clear BK163; clear BK164; clear BK165; clear BK169; clear HB; have HO_170000 := n0_; have BK163 := n1_; have BK164 := n2_; have BK165 := n3_; have BK169 := n4_; have HB := n5_; clear n0_ n1_ n2_ n3_ n4_ n5_; clear hg hw hp_)))
    go_roundg k1
    case measure => have := HK1.out; omega
    case rel => exact ⟨(wrap64 (x6_1 + 1)), (x165000_1), (x165001_1), (x165002_1), (x165003_1), (x165004_1), (y171), (.slice (some ⟨go28, 0, none⟩) x170000_1.length co23), u4_20, H', ⟨by have := HK1.out; omega⟩, ⟨u4_15⟩, ⟨u4_0⟩, ⟨u4_1⟩, ⟨u4_7⟩, ⟨u4_19⟩, ⟨u4_10⟩⟩

end Go.Proofs.Ytdbfjakhkclggaa.QFnExactWithdraw
