-- Printed by the session's own program wip/prx.py.
import Derived.Test.YtdbfjakhkclggaaQFnOpenedx0
import Derived.Test.YtdbfjakhkclggaaQFnOpenedx4
namespace Go.Proofs.Ytdbfjakhkclggaa.QFnOpened
open Go.RowKit Go.Proofs.YtdbfjakhkclggaaW.PrintWords Go.Proofs.YtdbfjakhkclggaaW.PrintLast Go.Proofs.YtdbfjakhkclggaaW.PrintMore
attribute [local go_sem] max2_int min2_int max_two min_two max_three min_three max_four min_four Go.Proofs.Ytdbfjakhkclggaa.Set.isSome_setCell Go.Proofs.Ytdbfjakhkclggaa.Add.add64   -- for this text's walks alone
set_option linter.unusedVariables false
set_option linter.unusedSimpArgs false

-- squeezed
theorem u5_0 {P : Prop} (h : P := by (with_reducible repeat (first | refine blk_drewN ?_ _ | refine blk_drew ?_ | refine blk_alloc ?_ _)); exact BK155.out) : P := h
theorem u5_1 {P : Prop} (h : P := by (with_reducible repeat (first | refine blk_drewN ?_ _ | refine blk_drew ?_ | refine blk_alloc ?_ _)); exact BK156.out) : P := h
theorem u5_2 {P : Prop} (h : P := by repeat (first | (with_reducible first | exact HB.out | apply below_alloc | apply pw_below_drewN | apply below_drew1) | exact HB.out)) : P := h
theorem u5_3 {P : Prop} (h : P := by repeat (first | (with_reducible first | exact HB.out | apply below_alloc | apply pw_below_drewN | apply below_drew1 | refine below_set ?_ GE143.out | refine below_set ?_ GE144.out) | exact HB.out)) : P := h
theorem u5_4 {P : Prop} (h : P := by repeat (first | (with_reducible first | exact HB.out | apply below_alloc | apply pw_below_drewN | apply below_drew1 | refine below_set ?_ GE155.out | refine below_set ?_ GE156.out | refine below_set ?_ GE157.out) | exact HB.out)) : P := h
theorem u5_5 {P : Prop} (h : P := by (with_reducible repeat (first | refine blk_drewN ?_ _ | refine blk_drew ?_ | refine blk_alloc ?_ _)); refine blk_put (cs := #[.int .u64 0, .int .u64 0, .int .u64 0, .int .u64 0, .int .i64 0]) ?_ 4 _ rfl; (with_reducible repeat (first | refine blk_drewN ?_ _ | refine blk_drew ?_ | refine blk_alloc ?_ _)); refine blk_put (cs := #[.int .u64 0, .int .u64 0, .int .u64 0, .int .u64 0, .int .i64 0]) ?_ 3 _ rfl; (with_reducible repeat (first | refine blk_drewN ?_ _ | refine blk_drew ?_ | refine blk_alloc ?_ _)); refine blk_put (cs := #[.int .u64 0, .int .u64 0, .int .u64 0, .int .u64 0, .int .i64 0]) ?_ 2 _ rfl; (with_reducible repeat (first | refine blk_drewN ?_ _ | refine blk_drew ?_ | refine blk_alloc ?_ _)); refine blk_put (cs := #[.int .u64 0, .int .u64 0, .int .u64 0, .int .u64 0, .int .i64 0]) ?_ 1 _ rfl; (with_reducible repeat (first | refine blk_drewN ?_ _ | refine blk_drew ?_ | refine blk_alloc ?_ _)); refine blk_put (cs := #[.int .u64 0, .int .u64 0, .int .u64 0, .int .u64 0, .int .i64 0]) ?_ 0 _ rfl; (with_reducible repeat (first | refine blk_drewN ?_ _ | refine blk_drew ?_ | refine blk_alloc ?_ _)); exact BK144.out) : P := h
theorem u5_6 {P : Prop} (h : P := by first | (with_reducible assumption) | assumption) : P := h
theorem u5_7 {P : Prop} (h : P := by (with_reducible repeat (first | refine blk_drewN ?_ _ | refine blk_drew ?_ | refine blk_alloc ?_ _)); exact BK157.out) : P := h
theorem u5_8 {P : Prop} (h : P := by repeat (first | (with_reducible first | exact HB.out | apply below_alloc | apply pw_below_drewN | apply below_drew1 | refine below_set ?_ GE148.out | refine below_set ?_ GE149.out | refine below_set ?_ GE150.out) | exact HB.out)) : P := h
theorem u5_9 {P : Prop} (h : P := by (with_reducible repeat (first | refine blk_drewN ?_ _ | refine blk_drew ?_ | refine blk_alloc ?_ _)); exact BK143.out) : P := h
theorem u5_10 {P : Prop} (h : P := by repeat (first | (with_reducible first | exact HB.out | apply below_alloc | apply pw_below_drewN | apply below_drew1 | refine below_set ?_ GE155.out | refine below_set ?_ GE156.out | refine below_set ?_ GE157.out | refine below_set ?_ GE161.out) | exact HB.out)) : P := h
theorem u5_11 {P : Prop} (h : P := by repeat (first | exact (Kd.C_below HR0_0.out HB.out) | (with_reducible refine Kd.C_alloc ?_ _) | (with_reducible refine Kd.C_drewN ?_ _) | (with_reducible refine Kd.C_drew ?_))) : P := h
theorem u5_12 {P : Prop} (h : P := by (with_reducible repeat (first | refine blk_drewN ?_ _ | refine blk_drew ?_ | refine blk_alloc ?_ _)); exact BK148.out) : P := h
theorem u5_13 {P : Prop} (h : P := by repeat (first | (with_reducible first | exact HB.out | apply below_alloc | apply pw_below_drewN | apply below_drew1 | refine below_set ?_ GE141.out) | exact HB.out)) : P := h
theorem u5_14 {P : Prop} (h : P := by (with_reducible repeat (first | refine blk_drewN ?_ _ | refine blk_drew ?_ | refine blk_alloc ?_ _)); exact BK144.out) : P := h
theorem u5_15 {P : Prop} (h : P := by (with_reducible repeat (first | apply Kd.R_alloc | apply Kd.R_drewN | apply Kd.R_drew)); exact HO_162000.out) : P := h
theorem u5_16 {P : Prop} (h : P := by repeat (first | (with_reducible first | exact HB.out | apply below_alloc | apply pw_below_drewN | apply below_drew1 | refine below_set ?_ GE148.out | refine below_set ?_ GE149.out) | exact HB.out)) : P := h
theorem u5_17 {P : Prop} (h : P := by repeat (first | (with_reducible first | exact HB.out | apply below_alloc | apply pw_below_drewN | apply below_drew1 | refine below_set ?_ GE155.out | refine below_set ?_ GE156.out) | exact HB.out)) : P := h
theorem u5_18 {P : Prop} (h : P := by (with_reducible repeat (first | refine blk_drewN ?_ _ | refine blk_drew ?_ | refine blk_alloc ?_ _)); exact BK149.out) : P := h
theorem u5_19 {P : Prop} (h : P := by (with_reducible repeat (first | refine blk_drewN ?_ _ | refine blk_drew ?_ | refine blk_alloc ?_ _)); exact BK161.out) : P := h
theorem u5_20 {P : Prop} (h : P := by first | rfl | (simp; done) | (simp [*]; done)) : P := h
theorem u5_21 {P : Prop} (h : P := by repeat (first | (with_reducible first | exact HB.out | apply below_alloc | apply pw_below_drewN | apply below_drew1 | refine below_set ?_ GE143.out) | exact HB.out)) : P := h
theorem u5_22 {P : Prop} (h : P := by repeat (first | (with_reducible first | exact HB.out | apply below_alloc | apply pw_below_drewN | apply below_drew1 | refine below_set ?_ GE148.out) | exact HB.out)) : P := h
theorem u5_23 {P : Prop} (h : P := by repeat (first | (with_reducible first | exact HB.out | apply below_alloc | apply pw_below_drewN | apply below_drew1 | refine below_set ?_ GE155.out) | exact HB.out)) : P := h
theorem u5_24 {P : Prop} (h : P := by (try simp only [List.map_toArray, List.map_cons, List.map_nil]); first | done | rfl | (simp only [List.length_drop, List.length_take]; rfl)) : P := h
theorem u5_25 {P : Prop} (h : P := by (with_reducible repeat (first | refine blk_drewN ?_ _ | refine blk_drew ?_ | refine blk_alloc ?_ _)); refine blk_far ?_ NB148_150.out _; (with_reducible repeat (first | refine blk_drewN ?_ _ | refine blk_drew ?_ | refine blk_alloc ?_ _)); exact BK148.out) : P := h
theorem u5_26 {P : Prop} (h : P := by (with_reducible repeat (first | refine blk_drewN ?_ _ | refine blk_drew ?_ | refine blk_alloc ?_ _)); refine blk_far ?_ NB149_150.out _; (with_reducible repeat (first | refine blk_drewN ?_ _ | refine blk_drew ?_ | refine blk_alloc ?_ _)); exact BK149.out) : P := h
theorem u5_27 {P : Prop} (h : P := by (with_reducible repeat (first | refine blk_drewN ?_ _ | refine blk_drew ?_ | refine blk_alloc ?_ _)); exact BK141.out) : P := h
/-! ### spec_l10Find: function 68 -/
def spec_l10Find.l0 : Nat → Int → Int → List (S53) → Option (Int)
  | 0, _, _, _ => none
  | k + 1, x1, x5, x142000 => if x5 < (x142000.length : Int) then (if 0 ≤ x5 then (if ((rd_T53 x142000 x5).f0) = x1 then (some x5) else (spec_l10Find.l0 k x1 (wrap64 (x5 + 1)) x142000)) else (none)) else (some (-1))
def spec_l10Find.f (k : Nat) (l0_0 : List (S53)) (a1 : Int) : Option (Int) := spec_l10Find.l0 k a1 0 l0_0
theorem spec_l10Find.mono_l : ∀ k, (∀ y0 y1 y2, LeO (spec_l10Find.l0 k y0 y1 y2) (spec_l10Find.l0 (k + 1) y0 y1 y2))
  | 0 => fun _ _ _ r h => by simp [spec_l10Find.l0] at h
  | k + 1 => by
    have ih0 := spec_l10Find.mono_l k
    · intro y0 y1 y2
      unfold spec_l10Find.l0
      repeat' first
      | (with_reducible exact ih0 _ _ _)
      | (with_reducible exact LeO.refl _)
      | (with_reducible exact LeO.none _)
      | (with_reducible refine LeO.ite ?_ ?_)
      | (with_reducible refine LeO.bind ?_ (fun _ => ?_))
      | exact ih0 _ _ _
      | exact LeO.none _
      | refine LeO.ite ?_ ?_
      | refine LeO.bind ?_ (fun _ => ?_)
theorem spec_l10Find.mono : ∀ a0 a1 k, LeO (spec_l10Find.f k a0 a1) (spec_l10Find.f (k + 1) a0 a1) := by
  intro a0 a1 k
  have ih0 := spec_l10Find.mono_l k
  unfold spec_l10Find.f
  repeat' first
      | (with_reducible exact ih0 _ _ _)
      | (with_reducible exact LeO.refl _)
      | (with_reducible exact LeO.none _)
      | (with_reducible refine LeO.ite ?_ ?_)
      | (with_reducible refine LeO.bind ?_ (fun _ => ?_))
      | exact ih0 _ _ _
      | exact LeO.none _
      | refine LeO.ite ?_ ?_
      | refine LeO.bind ?_ (fun _ => ?_)
set_option maxHeartbeats 8000000 in
set_option maxRecDepth 100000 in
theorem spec_l10Find.calls (k : Nat) (A0_0 : Option Addr) (c0_0 : Nat) (l0_0 : List (S53)) (a1 : Int) (r : Int) (w : World) (hr0_0 : Kd.C k53 w A0_0 l0_0.length l0_0) (hc0_0 : l0_0.length ≤ c0_0) (h : spec_l10Find.f k l0_0 a1 = some r) :
    Calls Try.prog 68 #[.agg #[.slice A0_0 l0_0.length c0_0], .int .u64 a1] w fun e w' => e = .returned (.int .i64 r) ∧ Below w.heap.size w w' := by
  have hu29 := Try.underlying29
  have HR0_0 := Aside0.mk hr0_0
  have HC0_0 := Aside0.mk hc0_0
  clear hr0_0 hc0_0
  have HB := Aside0.mk (Below.refl w.heap.size w)
  have H : (spec_l10Find.l0 k a1 0 l0_0) = some r := h
  clear h
  have H' := Aside0.mk H
  clear H
  go_enter Try.func68, Try.ntmps68
  go_wp2_with (first | ((with_reducible refine gate_dst (N := 2) rfl ?_); refine box_event ?hg (N := 2) ?hd (cs := #[.slice A0_0 l0_0.length c0_0]) (t := 29) ?hr ?_; (case hd => rfl); (case hg => rfl); (case hr => first | (go_simp; done) | (go_simp; rfl)); intro gb141 hg w3 hbox hb; have n0_ := Aside0.mk (below_step u5_2 hb); have n1_ := Aside0.mk (hbox); have n2_ := Aside0.mk ((by rw [hg]; exact (below_size u5_2) : w.heap.size ≤ gb141)); have n3_ := Aside0.mk ((by rw [hg]; exact (below_size u5_2) : w.heap.size ≤ gb141)); clear HB; have HB := n0_; have BK141 := n1_; have GW141 := n2_; have GE141 := n3_; clear n0_ n1_ n2_ n3_; clear hb hbox hg))
  go_loopg [5] k (fun kq v5 w' => ∃ (x5_1 : Int), v5 = .int .i64 x5_1 ∧ Aside0 (spec_l10Find.l0 kq a1 x5_1 l0_0 = some r) ∧ Aside0 (kq ≤ k) ∧ Aside0 (w'.heap[gb141]? = some (.cells #[(.slice A0_0 l0_0.length c0_0)] 29 (0, 0))) ∧ Aside0 (Below w.heap.size w w'))
  case atStart => exact ⟨(0), u5_20, H', ⟨Nat.le_refl _⟩, ⟨u5_27⟩, ⟨u5_13⟩⟩
  clear H'
  try clear p2
  obtain ⟨x5_1, rfl, HA, HK1, BK141, HB⟩ := hrel
  cases gk with
  | zero => exact absurd HA.out (by simp [spec_l10Find.l0])
  | succ k1 =>
    have H := HA.out
    clear HA
    simp only [spec_l10Find.l0] at H
    by_cases c4 : x5_1 < (l0_0.length : Int)
    rotate_left
    · rw [if_neg c4] at H
      have c4b0 : decide (x5_1 < (l0_0.length : Int)) = false := decide_eq_false c4
      clear c4
      obtain rfl := Option.some.inj H
      have hcz8_0 : wr.cell? ⟨gb141, 0, none⟩ = some (.slice A0_0 l0_0.length c0_0) := (blk_cell BK141.out 0).trans rfl
      have hfz8_0 := blk_frozen BK141.out 0
      go_wp2
      go_ret
      exact ⟨by first | rfl | (simp [errW_none, errW_some] <;> rfl) | (simp [*, errW_none, errW_some] <;> rfl), u5_13⟩
    rw [if_pos c4] at H
    have c4b0 : decide (x5_1 < (l0_0.length : Int)) = true := decide_eq_true c4
    clear c4
    by_cases c5 : 0 ≤ x5_1
    rotate_left
    · rw [if_neg c5] at H
      exact absurd H (by simp)
    rw [if_pos c5] at H
    have c5b0 : decide (0 ≤ x5_1) = true := decide_eq_true c5
    clear c5
    have H9 := Aside0.mk H
    clear H
    have hcz6_0 : wr.cell? ⟨gb141, 0, none⟩ = some (.slice A0_0 l0_0.length c0_0) := (blk_cell BK141.out 0).trans rfl
    have hfz6_0 := blk_frozen BK141.out 0
    have p142 : 0 ≤ (x5_1 : Int) := of_decide_eq_true u5_6
    have q142 : x5_1 < (l0_0.length : Int) := of_decide_eq_true u5_6
    obtain ⟨ad142, e142, hx142_0, hx142_1, hx142_2, hx142_3, hx142_4⟩ := at_T53 HR0_0.out x5_1 p142 q142
    cases e142
    replace hx142_0 := (HB.out.cell (World.block_lt_of_cell? w _ hx142_0)).trans hx142_0
    replace hx142_1 := (HB.out.cell (World.block_lt_of_cell? w _ hx142_1)).trans hx142_1
    replace hx142_2 := (HB.out.cell (World.block_lt_of_cell? w _ hx142_2)).trans hx142_2
    replace hx142_3 := (HB.out.cell (World.block_lt_of_cell? w _ hx142_3)).trans hx142_3
    replace hx142_4 := (HB.out.cell (World.block_lt_of_cell? w _ hx142_4)).trans hx142_4
    replace p142 := eq_true p142
    replace q142 := eq_true q142
    go_upto_if 20 with (fail)
    have H := H9.out
    clear H9
    by_cases c7 : ((rd_T53 l0_0 x5_1).f0) = a1
    · rw [if_pos c7] at H
      have c7b0 : (((rd_T53 l0_0 x5_1).f0) == a1) = true := beq_iff_eq.mpr c7
      have c7b1 : (((rd_T53 l0_0 x5_1).f0) != a1) = false := bne_eq_false_iff_eq.mpr c7
      clear c7
      (first | rw [c7b0] | (simp only [i64_w, i32_w]; rw [c7b0]) | skip)
      obtain rfl := Option.some.inj H
      go_wp2
      go_ret
      exact ⟨by first | rfl | (simp [errW_none, errW_some] <;> rfl) | (simp [*, errW_none, errW_some] <;> rfl), u5_13⟩
    rw [if_neg c7] at H
    have c7b0 : (((rd_T53 l0_0 x5_1).f0) == a1) = false := beq_eq_false_iff_ne.mpr c7
    have c7b1 : (((rd_T53 l0_0 x5_1).f0) != a1) = true := bne_iff_ne.mpr c7
    (first | rw [c7b0] | (simp only [i64_w, i32_w]; rw [c7b0]) | skip)
    have H' := Aside0.mk H
    clear H
    go_wp2
    go_roundg k1
    case measure => have := HK1.out; omega
    case rel => exact ⟨(wrap64 (x5_1 + 1)), u5_20, H', ⟨by have := HK1.out; omega⟩, ⟨u5_27⟩, ⟨u5_13⟩⟩

/-! ### spec_l10Of: function 53 -/
def spec_l10Of.j0 : Nat → Int → Bool → List (S53) → Option (Int × Int × Int × Int × Int × Int)
  | 0, _, _, _ => none
  | k + 1, x1, x15, x144000 => if x15 = true then (some (0, 0, 0, 0, 0, 1)) else ((spec_l10Find.f k x144000 x1).bind fun t146 => (if t146 < 0 then (some (0, 0, 0, 0, 0, 2)) else (if 0 ≤ t146 then (if t146 < (x144000.length : Int) then (some ((rd_T53 x144000 t146).f0, (rd_T53 x144000 t146).f1, (rd_T53 x144000 t146).f2, (rd_T53 x144000 t146).f3, (rd_T53 x144000 t146).f4, 0)) else (none)) else (none))))
def spec_l10Of.f (k : Nat) (l0_0 : List (S53)) (a1 : Int) (a2 : Int) : Option (Int × Int × Int × Int × Int × Int) := (spec_BookOk.f k l0_0).bind fun t145 => (if t145 = true then (spec_l10Of.j0 k a1 (decide (a2 < 1)) l0_0) else (spec_l10Of.j0 k a1 true l0_0))
theorem spec_l10Of.mono_l : ∀ k, (∀ y0 y1 y2, LeO (spec_l10Of.j0 k y0 y1 y2) (spec_l10Of.j0 (k + 1) y0 y1 y2))
  | 0 => fun _ _ _ r h => by simp [spec_l10Of.j0] at h
  | k + 1 => by
    have ih0 := spec_l10Of.mono_l k
    · intro y0 y1 y2
      unfold spec_l10Of.j0
      repeat' first
      | (with_reducible exact ih0 _ _ _)
      | (with_reducible exact spec_BookOk.mono _ _)
      | (with_reducible exact spec_l10Find.mono _ _ _)
      | (with_reducible exact LeO.refl _)
      | (with_reducible exact LeO.none _)
      | (with_reducible refine LeO.ite ?_ ?_)
      | (with_reducible refine LeO.bind ?_ (fun _ => ?_))
      | exact ih0 _ _ _
      | exact spec_BookOk.mono _ _
      | exact spec_l10Find.mono _ _ _
      | exact LeO.none _
      | refine LeO.ite ?_ ?_
      | refine LeO.bind ?_ (fun _ => ?_)
theorem spec_l10Of.mono : ∀ a0 a1 a2 k, LeO (spec_l10Of.f k a0 a1 a2) (spec_l10Of.f (k + 1) a0 a1 a2) := by
  intro a0 a1 a2 k
  have ih0 := spec_l10Of.mono_l k
  unfold spec_l10Of.f
  repeat' first
      | (with_reducible exact ih0 _ _ _)
      | (with_reducible exact spec_BookOk.mono _ _)
      | (with_reducible exact spec_l10Find.mono _ _ _)
      | (with_reducible exact LeO.refl _)
      | (with_reducible exact LeO.none _)
      | (with_reducible refine LeO.ite ?_ ?_)
      | (with_reducible refine LeO.bind ?_ (fun _ => ?_))
      | exact ih0 _ _ _
      | exact spec_BookOk.mono _ _
      | exact spec_l10Find.mono _ _ _
      | exact LeO.none _
      | refine LeO.ite ?_ ?_
      | refine LeO.bind ?_ (fun _ => ?_)
set_option maxHeartbeats 8000000 in
set_option maxRecDepth 100000 in
theorem spec_l10Of.calls (k : Nat) (A0_0 : Option Addr) (c0_0 : Nat) (l0_0 : List (S53)) (a1 : Int) (a2 : Int) (r1 : Int) (r2 : Int) (r3 : Int) (r4 : Int) (r5 : Int) (r6 : Int) (w : World) (hr0_0 : Kd.C k53 w A0_0 l0_0.length l0_0) (hc0_0 : l0_0.length ≤ c0_0) (h : spec_l10Of.f k l0_0 a1 a2 = some (r1, r2, r3, r4, r5, r6)) :
    Calls Try.prog 53 #[.agg #[.slice A0_0 l0_0.length c0_0], .int .u64 a1, .int .i64 a2] w fun e w' => e = .returned (.tuple #[.agg #[.int .u64 r1, .int .u64 r2, .int .u64 r3, .int .u64 r4, .int .i64 r5], .int .i64 r6]) ∧ Below w.heap.size w w' := by
  have hu29 := Try.underlying29
  have hu53 := Try.underlying53
  have HR0_0 := Aside0.mk hr0_0
  have HC0_0 := Aside0.mk hc0_0
  clear hr0_0 hc0_0
  have HB := Aside0.mk (Below.refl w.heap.size w)
  have H : ((spec_BookOk.f k l0_0).bind fun t145 => (if t145 = true then (spec_l10Of.j0 k a1 (decide (a2 < 1)) l0_0) else (spec_l10Of.j0 k a1 true l0_0))) = some (r1, r2, r3, r4, r5, r6) := h
  clear h
  have HC4 := Aside0.mk H
  clear H
  go_enter Try.func53, Try.ntmps53
  go_upto_region 1 with (first | ((with_reducible refine gate_dst (N := 3) rfl ?_); refine box_event ?hg (N := 3) ?hd (cs := #[.slice A0_0 l0_0.length c0_0]) (t := 29) ?hr ?_; (case hd => rfl); (case hg => rfl); (case hr => first | (go_simp; done) | (go_simp; rfl)); intro gb143 hg w5 hbox hb; have n0_ := Aside0.mk (below_step u5_2 hb); have n1_ := Aside0.mk (hbox); have n2_ := Aside0.mk ((by rw [hg]; exact (below_size u5_2) : w.heap.size ≤ gb143)); have n3_ := Aside0.mk ((by rw [hg]; exact (below_size u5_2) : w.heap.size ≤ gb143)); clear HB; have HB := n0_; have BK143 := n1_; have GW143 := n2_; have GE143 := n3_; clear n0_ n1_ n2_ n3_; clear hb hbox hg) | ((with_reducible refine gate_dst (N := 6) rfl ?_); refine box_event ?hg (N := 6) ?hd (cs := #[.int .u64 0, .int .u64 0, .int .u64 0, .int .u64 0, .int .i64 0]) (t := 53) ?hr ?_; (case hd => rfl); (case hg => rfl); (case hr => first | (go_simp; done) | (go_simp; rfl)); intro gb144 hg w6 hbox hb; have n0_ := Aside0.mk (blk_below (g := gb143) (o := .cells #[.slice A0_0 l0_0.length c0_0] 29 (0, 0)) u5_9 hb); have n1_ := Aside0.mk (below_step u5_21 hb); have n2_ := Aside0.mk (hbox); have n3_ := Aside0.mk ((by rw [hg]; exact (below_size u5_21) : w.heap.size ≤ gb144)); have n4_ := Aside0.mk ((by rw [hg]; exact (below_size u5_21) : w.heap.size ≤ gb144)); have n5_ := Aside0.mk ((by rw [hg]; exact Nat.ne_of_lt (blk_lt (g := gb143) (o := .cells #[.slice A0_0 l0_0.length c0_0] 29 (0, 0)) u5_9) : gb143 ≠ gb144)); have n6_ := Aside0.mk ((by rw [hg]; exact Nat.ne_of_gt (blk_lt (g := gb143) (o := .cells #[.slice A0_0 l0_0.length c0_0] 29 (0, 0)) u5_9) : gb144 ≠ gb143)); clear BK143; clear HB; have BK143 := n0_; have HB := n1_; have BK144 := n2_; have GW144 := n3_; have GE144 := n4_; have NB143_144 := n5_; have NB144_143 := n6_; clear n0_ n1_ n2_ n3_ n4_ n5_ n6_; clear hb hbox hg))
  (try simp only [Act.put, List.setIfInBounds_toArray, List.set_cons_zero, List.set_cons_succ])
  go_cut [15] (fun v15 wc => ∃ (kq : Nat) (x15_3 : Bool), v15 = .bool x15_3 ∧ Aside0 (spec_l10Of.j0 kq a1 x15_3 l0_0 = some (r1, r2, r3, r4, r5, r6)) ∧ Aside0 (kq ≤ k) ∧ Aside0 (wc.heap[gb143]? = some (.cells #[(.slice A0_0 l0_0.length c0_0)] 29 (0, 0))) ∧ Aside0 (wc.heap[gb144]? = some (.cells #[.int .u64 0, .int .u64 0, .int .u64 0, .int .u64 0, .int .i64 0] 53 (0, 0))) ∧ Aside0 (Below w.heap.size w wc))
  case first =>
    have H := HC4.out
    clear HC4
    replace H := Option.bind_eq_some_iff.mp H
    obtain ⟨t145, A70, H⟩ := H
    have A7 := Aside0.mk A70
    clear A70
    by_cases c8 : t145 = true
    · subst c8
      rw [if_pos rfl] at H
      have H' := Aside0.mk H
      clear H
      have hnb9 := NB143_144.out
      have hnc9 := NB144_143.out
      have hcz10_0 : w6.cell? ⟨gb143, 0, none⟩ = some (.slice A0_0 l0_0.length c0_0) := (blk_cell BK143.out 0).trans rfl
      have hfz10_0 := blk_frozen BK143.out 0
      go_wp2_with (first | ((with_reducible refine gate_callee (f := 18) rfl ?_); refine goesL_ (some 10) rfl rfl Try.func18 (by kernel_rfl) rfl #[.agg #[.slice A0_0 l0_0.length c0_0]] rfl u5_24 ?_; (with_reducible refine (spec_BookOk.calls k _ _ l0_0 true _ ?side1 ?side2 A7.out).mono ?_); (case side1 => exact u5_11); (case side2 => exact HC0_0.out); rintro e w11 ⟨rfl, hb⟩; refine ⟨_, rfl, ?_⟩; have n0_ := Aside0.mk (blk_below (g := gb143) (o := .cells #[.slice A0_0 l0_0.length c0_0] 29 (0, 0)) u5_9 hb); have n1_ := Aside0.mk (blk_below (g := gb144) (o := .cells #[.int .u64 0, .int .u64 0, .int .u64 0, .int .u64 0, .int .i64 0] 53 (0, 0)) u5_14 hb); have n2_ := Aside0.mk (below_step u5_3 hb); clear BK143; clear BK144; clear HB; have BK143 := n0_; have BK144 := n1_; have HB := n2_; clear n0_ n1_ n2_; (try clear hb); (try clear hb2); (try clear hk); (try clear hi)))
      go_meet
      case rel => exact ⟨_, (decide (a2 < 1)), u5_20, H', ⟨by first | omega | exact Nat.le_refl _⟩, ⟨u5_9⟩, ⟨u5_14⟩, ⟨u5_3⟩⟩
    replace c8 := Bool.eq_false_iff.mpr c8
    subst c8
    rw [if_neg (show ¬ (false = true) by decide)] at H
    have H' := Aside0.mk H
    clear H
    have hnb12 := NB143_144.out
    have hnc12 := NB144_143.out
    have hcz13_0 : w6.cell? ⟨gb143, 0, none⟩ = some (.slice A0_0 l0_0.length c0_0) := (blk_cell BK143.out 0).trans rfl
    have hfz13_0 := blk_frozen BK143.out 0
    go_wp2_with (first | ((with_reducible refine gate_callee (f := 18) rfl ?_); refine goesL_ (some 10) rfl rfl Try.func18 (by kernel_rfl) rfl #[.agg #[.slice A0_0 l0_0.length c0_0]] rfl u5_24 ?_; (with_reducible refine (spec_BookOk.calls k _ _ l0_0 false _ ?side1 ?side2 A7.out).mono ?_); (case side1 => exact u5_11); (case side2 => exact HC0_0.out); rintro e w14 ⟨rfl, hb⟩; refine ⟨_, rfl, ?_⟩; have n0_ := Aside0.mk (blk_below (g := gb143) (o := .cells #[.slice A0_0 l0_0.length c0_0] 29 (0, 0)) u5_9 hb); have n1_ := Aside0.mk (blk_below (g := gb144) (o := .cells #[.int .u64 0, .int .u64 0, .int .u64 0, .int .u64 0, .int .i64 0] 53 (0, 0)) u5_14 hb); have n2_ := Aside0.mk (below_step u5_3 hb); clear BK143; clear BK144; clear HB; have BK143 := n0_; have BK144 := n1_; have HB := n2_; clear n0_ n1_ n2_; (try clear hb); (try clear hb2); (try clear hk); (try clear hi)))
    go_meet
    case rel => exact ⟨_, (true), u5_20, H', ⟨by first | omega | exact Nat.le_refl _⟩, ⟨u5_9⟩, ⟨u5_14⟩, ⟨u5_3⟩⟩
  clear HC4
  try clear c1
  try clear p2
  try clear c5
  try clear c8
  try clear c9
  try clear c12
  try clear hcz10_0
  try clear hcz13_0
  try clear hfz10_0
  try clear hfz13_0
  obtain ⟨kq, x15_3, rfl, HA, HJ3, BK143, BK144, HB⟩ := hcut
  cases kq with
  | zero => exact absurd HA.out (by simp [spec_l10Of.j0])
  | succ kj3 =>
    have H := HA.out
    clear HA
    simp only [spec_l10Of.j0] at H
    by_cases c15 : x15_3 = true
    · subst c15
      rw [if_pos rfl] at H
      simp only [Option.some.injEq, Prod.mk.injEq] at H
      obtain ⟨rfl, rfl, rfl, rfl, rfl, rfl⟩ := H
      have hnb16 := NB144_143.out
      have hnc16 := NB143_144.out
      have hcz17_0 : wc.cell? ⟨gb144, 0, none⟩ = some (.int .u64 0) := (blk_cell BK144.out 0).trans rfl
      have hcz17_1 : wc.cell? ⟨gb144, 1, none⟩ = some (.int .u64 0) := (blk_cell BK144.out 1).trans rfl
      have hcz17_2 : wc.cell? ⟨gb144, 2, none⟩ = some (.int .u64 0) := (blk_cell BK144.out 2).trans rfl
      have hcz17_3 : wc.cell? ⟨gb144, 3, none⟩ = some (.int .u64 0) := (blk_cell BK144.out 3).trans rfl
      have hcz17_4 : wc.cell? ⟨gb144, 4, none⟩ = some (.int .i64 0) := (blk_cell BK144.out 4).trans rfl
      have hfz17_0 := blk_frozen BK144.out 0
      have hfz17_1 := blk_frozen BK144.out 1
      have hfz17_2 := blk_frozen BK144.out 2
      have hfz17_3 := blk_frozen BK144.out 3
      have hfz17_4 := blk_frozen BK144.out 4
      go_wp2
      refine bodyPost_ret (results_ct rfl _ _ gb144 53 #[.int .u64 0, .int .u64 0, .int .u64 0, .int .u64 0, .int .i64 0] (0, 0) _ rfl u5_5 Try.underlying53 rfl (by kernel_rfl)) rfl ?_
      exact ⟨by first | rfl | (simp [errW_none, errW_some] <;> rfl) | (simp [*, errW_none, errW_some] <;> rfl), u5_3⟩
    replace c15 := Bool.eq_false_iff.mpr c15
    subst c15
    rw [if_neg (show ¬ (false = true) by decide)] at H
    replace H := Option.bind_eq_some_iff.mp H
    obtain ⟨t146, A180, H⟩ := H
    have A18 := Aside0.mk A180
    clear A180
    have H9 := Aside0.mk H
    clear H
    have hnb19 := NB143_144.out
    have hnc19 := NB144_143.out
    have hcz20_0 : wc.cell? ⟨gb143, 0, none⟩ = some (.slice A0_0 l0_0.length c0_0) := (blk_cell BK143.out 0).trans rfl
    have hfz20_0 := blk_frozen BK143.out 0
    go_upto_if 21 with (first | ((with_reducible refine gate_callee (f := 68) rfl ?_); refine goesL_ (some 19) rfl rfl Try.func68 (by kernel_rfl) rfl #[.agg #[.slice A0_0 l0_0.length c0_0], .int .u64 a1] rfl u5_24 ?_; (with_reducible refine (spec_l10Find.calls kj3 _ _ l0_0 a1 t146 _ ?side1 ?side2 A18.out).mono ?_); (case side1 => exact u5_11); (case side2 => exact HC0_0.out); rintro e w21 ⟨rfl, hb⟩; refine ⟨_, rfl, ?_⟩; have n0_ := Aside0.mk (blk_below (g := gb143) (o := .cells #[.slice A0_0 l0_0.length c0_0] 29 (0, 0)) u5_9 hb); have n1_ := Aside0.mk (blk_below (g := gb144) (o := .cells #[.int .u64 0, .int .u64 0, .int .u64 0, .int .u64 0, .int .i64 0] 53 (0, 0)) u5_14 hb); have n2_ := Aside0.mk (below_step u5_3 hb); clear BK143; clear BK144; clear HB; have BK143 := n0_; have BK144 := n1_; have HB := n2_; clear n0_ n1_ n2_; (try clear hb); (try clear hb2); (try clear hk); (try clear hi)))
    have H := H9.out
    clear H9
    by_cases c22 : t146 < 0
    · rw [if_pos c22] at H
      have c22b0 : decide (t146 < 0) = true := decide_eq_true c22
      clear c22
      (first | rw [c22b0] | (simp only [i64_w, i32_w]; rw [c22b0]) | skip)
      simp only [Option.some.injEq, Prod.mk.injEq] at H
      obtain ⟨rfl, rfl, rfl, rfl, rfl, rfl⟩ := H
      have hnb23 := NB144_143.out
      have hnc23 := NB143_144.out
      have hcz24_0 : w21.cell? ⟨gb144, 0, none⟩ = some (.int .u64 0) := (blk_cell BK144.out 0).trans rfl
      have hcz24_1 : w21.cell? ⟨gb144, 1, none⟩ = some (.int .u64 0) := (blk_cell BK144.out 1).trans rfl
      have hcz24_2 : w21.cell? ⟨gb144, 2, none⟩ = some (.int .u64 0) := (blk_cell BK144.out 2).trans rfl
      have hcz24_3 : w21.cell? ⟨gb144, 3, none⟩ = some (.int .u64 0) := (blk_cell BK144.out 3).trans rfl
      have hcz24_4 : w21.cell? ⟨gb144, 4, none⟩ = some (.int .i64 0) := (blk_cell BK144.out 4).trans rfl
      have hfz24_0 := blk_frozen BK144.out 0
      have hfz24_1 := blk_frozen BK144.out 1
      have hfz24_2 := blk_frozen BK144.out 2
      have hfz24_3 := blk_frozen BK144.out 3
      have hfz24_4 := blk_frozen BK144.out 4
      go_wp2
      refine bodyPost_ret (results_ct rfl _ _ gb144 53 #[.int .u64 0, .int .u64 0, .int .u64 0, .int .u64 0, .int .i64 0] (0, 0) _ rfl u5_5 Try.underlying53 rfl (by kernel_rfl)) rfl ?_
      exact ⟨by first | rfl | (simp [errW_none, errW_some] <;> rfl) | (simp [*, errW_none, errW_some] <;> rfl), u5_3⟩
    rw [if_neg c22] at H
    have c22b0 : decide (t146 < 0) = false := decide_eq_false c22
    clear c22
    (first | rw [c22b0] | (simp only [i64_w, i32_w]; rw [c22b0]) | skip)
    by_cases c25 : 0 ≤ t146
    rotate_left
    · rw [if_neg c25] at H
      exact absurd H (by simp)
    rw [if_pos c25] at H
    have c25b0 : decide (0 ≤ t146) = true := decide_eq_true c25
    clear c25
    by_cases c26 : t146 < (l0_0.length : Int)
    rotate_left
    · rw [if_neg c26] at H
      exact absurd H (by simp)
    rw [if_pos c26] at H
    have c26b0 : decide (t146 < (l0_0.length : Int)) = true := decide_eq_true c26
    clear c26
    simp only [Option.some.injEq, Prod.mk.injEq] at H
    obtain ⟨rfl, rfl, rfl, rfl, rfl, rfl⟩ := H
    have hnb27 := NB143_144.out
    have hnc27 := NB144_143.out
    have hcz28_0 : w21.cell? ⟨gb143, 0, none⟩ = some (.slice A0_0 l0_0.length c0_0) := (blk_cell BK143.out 0).trans rfl
    have hfz28_0 := blk_frozen BK143.out 0
    have p147 : 0 ≤ (t146 : Int) := of_decide_eq_true u5_6
    have q147 : t146 < (l0_0.length : Int) := of_decide_eq_true u5_6
    obtain ⟨ad147, e147, hx147_0, hx147_1, hx147_2, hx147_3, hx147_4⟩ := at_T53 HR0_0.out t146 p147 q147
    cases e147
    replace hx147_0 := (HB.out.cell (World.block_lt_of_cell? w _ hx147_0)).trans hx147_0
    replace hx147_1 := (HB.out.cell (World.block_lt_of_cell? w _ hx147_1)).trans hx147_1
    replace hx147_2 := (HB.out.cell (World.block_lt_of_cell? w _ hx147_2)).trans hx147_2
    replace hx147_3 := (HB.out.cell (World.block_lt_of_cell? w _ hx147_3)).trans hx147_3
    replace hx147_4 := (HB.out.cell (World.block_lt_of_cell? w _ hx147_4)).trans hx147_4
    replace p147 := eq_true p147
    replace q147 := eq_true q147
    have hcz29_0 : w21.cell? ⟨gb144, 0, none⟩ = some (.int .u64 0) := (blk_cell BK144.out 0).trans rfl
    have hcz29_1 : w21.cell? ⟨gb144, 1, none⟩ = some (.int .u64 0) := (blk_cell BK144.out 1).trans rfl
    have hcz29_2 : w21.cell? ⟨gb144, 2, none⟩ = some (.int .u64 0) := (blk_cell BK144.out 2).trans rfl
    have hcz29_3 : w21.cell? ⟨gb144, 3, none⟩ = some (.int .u64 0) := (blk_cell BK144.out 3).trans rfl
    have hcz29_4 : w21.cell? ⟨gb144, 4, none⟩ = some (.int .i64 0) := (blk_cell BK144.out 4).trans rfl
    have hfz29_0 := blk_frozen BK144.out 0
    have hfz29_1 := blk_frozen BK144.out 1
    have hfz29_2 := blk_frozen BK144.out 2
    have hfz29_3 := blk_frozen BK144.out 3
    have hfz29_4 := blk_frozen BK144.out 4
    go_wp2
    refine bodyPost_ret (results_ct rfl _ _ gb144 53 #[.int .u64 ((rd_T53 l0_0 t146).f0), .int .u64 ((rd_T53 l0_0 t146).f1), .int .u64 ((rd_T53 l0_0 t146).f2), .int .u64 ((rd_T53 l0_0 t146).f3), .int .i64 ((rd_T53 l0_0 t146).f4)] (0, 0) _ rfl (by (with_reducible repeat (first | refine blk_drewN ?_ _ | refine blk_drew ?_ | refine blk_alloc ?_ _)); refine blk_put (cs := #[.int .u64 ((rd_T53 l0_0 t146).f0), .int .u64 ((rd_T53 l0_0 t146).f1), .int .u64 ((rd_T53 l0_0 t146).f2), .int .u64 ((rd_T53 l0_0 t146).f3), .int .i64 0]) ?_ 4 _ rfl; (with_reducible repeat (first | refine blk_drewN ?_ _ | refine blk_drew ?_ | refine blk_alloc ?_ _)); refine blk_put (cs := #[.int .u64 ((rd_T53 l0_0 t146).f0), .int .u64 ((rd_T53 l0_0 t146).f1), .int .u64 ((rd_T53 l0_0 t146).f2), .int .u64 0, .int .i64 0]) ?_ 3 _ rfl; (with_reducible repeat (first | refine blk_drewN ?_ _ | refine blk_drew ?_ | refine blk_alloc ?_ _)); refine blk_put (cs := #[.int .u64 ((rd_T53 l0_0 t146).f0), .int .u64 ((rd_T53 l0_0 t146).f1), .int .u64 0, .int .u64 0, .int .i64 0]) ?_ 2 _ rfl; (with_reducible repeat (first | refine blk_drewN ?_ _ | refine blk_drew ?_ | refine blk_alloc ?_ _)); refine blk_put (cs := #[.int .u64 ((rd_T53 l0_0 t146).f0), .int .u64 0, .int .u64 0, .int .u64 0, .int .i64 0]) ?_ 1 _ rfl; (with_reducible repeat (first | refine blk_drewN ?_ _ | refine blk_drew ?_ | refine blk_alloc ?_ _)); refine blk_put (cs := #[.int .u64 0, .int .u64 0, .int .u64 0, .int .u64 0, .int .i64 0]) ?_ 0 _ rfl; (with_reducible repeat (first | refine blk_drewN ?_ _ | refine blk_drew ?_ | refine blk_alloc ?_ _)); exact BK144.out) Try.underlying53 rfl (by kernel_rfl)) rfl ?_
    exact ⟨by first | rfl | (simp [errW_none, errW_some] <;> rfl) | (simp [*, errW_none, errW_some] <;> rfl), u5_3⟩

/-! ### spec_l10Copy: function 54 -/
def spec_l10Copy.l0 : Nat → Int → List (S53) → List (S53) → Option ((List (S53)))
  | 0, _, _, _ => none
  | k + 1, x4, x149000, x151000 => if x4 < (x149000.length : Int) then (if 0 ≤ x4 then (if x151000.length < 3518437208883 then (spec_l10Copy.l0 k (wrap64 (x4 + 1)) x149000 (x151000 ++ [(⟨(rd_T53 x149000 x4).f0, (rd_T53 x149000 x4).f1, (rd_T53 x149000 x4).f2, (rd_T53 x149000 x4).f3, (rd_T53 x149000 x4).f4⟩ : S53)])) else (none)) else (none)) else (some x151000)
def spec_l10Copy.f (k : Nat) (l0_0 : List (S53)) : Option ((List (S53))) := spec_l10Copy.l0 k 0 l0_0 ([] : List (S53))
theorem spec_l10Copy.mono_l : ∀ k, (∀ y0 y1 y2, LeO (spec_l10Copy.l0 k y0 y1 y2) (spec_l10Copy.l0 (k + 1) y0 y1 y2))
  | 0 => fun _ _ _ r h => by simp [spec_l10Copy.l0] at h
  | k + 1 => by
    have ih0 := spec_l10Copy.mono_l k
    · intro y0 y1 y2
      unfold spec_l10Copy.l0
      repeat' first
      | (with_reducible exact ih0 _ _ _)
      | (with_reducible exact LeO.refl _)
      | (with_reducible exact LeO.none _)
      | (with_reducible refine LeO.ite ?_ ?_)
      | (with_reducible refine LeO.bind ?_ (fun _ => ?_))
      | exact ih0 _ _ _
      | exact LeO.none _
      | refine LeO.ite ?_ ?_
      | refine LeO.bind ?_ (fun _ => ?_)
theorem spec_l10Copy.mono : ∀ a0 k, LeO (spec_l10Copy.f k a0) (spec_l10Copy.f (k + 1) a0) := by
  intro a0 k
  have ih0 := spec_l10Copy.mono_l k
  unfold spec_l10Copy.f
  repeat' first
      | (with_reducible exact ih0 _ _ _)
      | (with_reducible exact LeO.refl _)
      | (with_reducible exact LeO.none _)
      | (with_reducible refine LeO.ite ?_ ?_)
      | (with_reducible refine LeO.bind ?_ (fun _ => ?_))
      | exact ih0 _ _ _
      | exact LeO.none _
      | refine LeO.ite ?_ ?_
      | refine LeO.bind ?_ (fun _ => ?_)
def spec_l10Copy.T5 : Bool × List (List Nat × List Nat) := (true, [([], []), ([0], [0]), ([], []), ([2], [2]), ([], []), ([3, 4], [3, 4]), ([5], [5]), ([6], [6]), ([1, 7], [1, 7]), ([0, 1, 2, 3, 4, 5, 6, 7, 8], []), ([9, 8, 8, 0, 1, 2, 3, 4, 5, 6, 7, 8], [8, 9])])
def spec_l10Copy.B5 : List Nat := [0, 1, 0, 4, 0, 28, 60, 124, 255, 511, 1023]
theorem spec_l10Copy.tab5 : rtab .any (opsOf Try.f54 5) = spec_l10Copy.T5 := by kernel_rfl
theorem spec_l10Copy.bits5 : waitsOk spec_l10Copy.T5.2 spec_l10Copy.B5 = true := by kernel_rfl
set_option maxHeartbeats 8000000 in
set_option maxRecDepth 100000 in
theorem spec_l10Copy.calls (k : Nat) (A0_0 : Option Addr) (c0_0 : Nat) (l0_0 : List (S53)) (r : List (S53)) (w : World) (hr0_0 : Kd.C k53 w A0_0 l0_0.length l0_0) (hc0_0 : l0_0.length ≤ c0_0) (h : spec_l10Copy.f k l0_0 = some r) :
    Calls Try.prog 54 #[.agg #[.slice A0_0 l0_0.length c0_0]] w fun e w' => ∃ v0_ : Value, e = .returned (.agg #[v0_]) ∧ Kd.R k53 53 w' w.heap.size (fun _ => True) v0_ r ∧ Below w.heap.size w w' := by
  have hu29 := Try.underlying29
  have hu53 := Try.underlying53
  have HR0_0 := Aside0.mk hr0_0
  have HC0_0 := Aside0.mk hc0_0
  clear hr0_0 hc0_0
  have HB := Aside0.mk (Below.refl w.heap.size w)
  have H : (spec_l10Copy.l0 k 0 l0_0 ([] : List (S53))) = some r := h
  clear h
  have H' := Aside0.mk H
  clear H
  go_enter Try.func54, Try.ntmps54
  go_wp2_with (first | ((with_reducible refine gate_dst (N := 1) rfl ?_); refine box_event ?hg (N := 1) ?hd (cs := #[.slice A0_0 l0_0.length c0_0]) (t := 29) ?hr ?_; (case hd => rfl); (case hg => rfl); (case hr => first | (go_simp; done) | (go_simp; rfl)); intro gb148 hg w2 hbox hb; have n0_ := Aside0.mk (below_step u5_2 hb); have n1_ := Aside0.mk (hbox); have n2_ := Aside0.mk ((by rw [hg]; exact (below_size u5_2) : w.heap.size ≤ gb148)); have n3_ := Aside0.mk ((by rw [hg]; exact (below_size u5_2) : w.heap.size ≤ gb148)); clear HB; have HB := n0_; have BK148 := n1_; have GW148 := n2_; have GE148 := n3_; clear n0_ n1_ n2_ n3_; clear hb hbox hg) | ((with_reducible refine gate_dst (N := 2) rfl ?_); refine box_event ?hg (N := 2) ?hd (cs := #[.slice none 0 0]) (t := 29) ?hr ?_; (case hd => rfl); (case hg => rfl); (case hr => first | (go_simp; done) | (go_simp; rfl)); intro gb149 hg w3 hbox hb; have n0_ := Aside0.mk (blk_below (g := gb148) (o := .cells #[.slice A0_0 l0_0.length c0_0] 29 (0, 0)) u5_12 hb); have n1_ := Aside0.mk (below_step u5_22 hb); have n2_ := Aside0.mk (hbox); have n3_ := Aside0.mk ((by rw [hg]; exact (below_size u5_22) : w.heap.size ≤ gb149)); have n4_ := Aside0.mk ((by rw [hg]; exact (below_size u5_22) : w.heap.size ≤ gb149)); have n5_ := Aside0.mk ((by rw [hg]; exact Nat.ne_of_lt (blk_lt (g := gb148) (o := .cells #[.slice A0_0 l0_0.length c0_0] 29 (0, 0)) u5_12) : gb148 ≠ gb149)); have n6_ := Aside0.mk ((by rw [hg]; exact Nat.ne_of_gt (blk_lt (g := gb148) (o := .cells #[.slice A0_0 l0_0.length c0_0] 29 (0, 0)) u5_12) : gb149 ≠ gb148)); clear BK148; clear HB; have BK148 := n0_; have HB := n1_; have BK149 := n2_; have GW149 := n3_; have GE149 := n4_; have NB148_149 := n5_; have NB149_148 := n6_; clear n0_ n1_ n2_ n3_ n4_ n5_ n6_; clear hb hbox hg) | ((with_reducible refine gate_dst (N := 3) rfl ?_); refine box_event ?hg (N := 3) ?hd (cs := #[.slice none 0 0]) (t := 29) ?hr ?_; (case hd => rfl); (case hg => rfl); (case hr => first | (go_simp; done) | (go_simp; rfl)); intro gb150 hg w4 hbox hb; have n0_ := Aside0.mk (blk_below (g := gb148) (o := .cells #[.slice A0_0 l0_0.length c0_0] 29 (0, 0)) u5_12 hb); have n1_ := Aside0.mk (blk_below (g := gb149) (o := .cells #[.slice none 0 0] 29 (0, 0)) u5_18 hb); have n2_ := Aside0.mk (below_step u5_16 hb); have n3_ := Aside0.mk (hbox); have n4_ := Aside0.mk ((by rw [hg]; exact (below_size u5_16) : w.heap.size ≤ gb150)); have n5_ := Aside0.mk ((by rw [hg]; exact (below_size u5_16) : w.heap.size ≤ gb150)); have n6_ := Aside0.mk ((by rw [hg]; exact Nat.ne_of_lt (blk_lt (g := gb148) (o := .cells #[.slice A0_0 l0_0.length c0_0] 29 (0, 0)) u5_12) : gb148 ≠ gb150)); have n7_ := Aside0.mk ((by rw [hg]; exact Nat.ne_of_gt (blk_lt (g := gb148) (o := .cells #[.slice A0_0 l0_0.length c0_0] 29 (0, 0)) u5_12) : gb150 ≠ gb148)); have n8_ := Aside0.mk ((by rw [hg]; exact Nat.ne_of_lt (blk_lt (g := gb149) (o := .cells #[.slice none 0 0] 29 (0, 0)) u5_18) : gb149 ≠ gb150)); have n9_ := Aside0.mk ((by rw [hg]; exact Nat.ne_of_gt (blk_lt (g := gb149) (o := .cells #[.slice none 0 0] 29 (0, 0)) u5_18) : gb150 ≠ gb149)); clear BK148; clear BK149; clear HB; have BK148 := n0_; have BK149 := n1_; have HB := n2_; have BK150 := n3_; have GW150 := n4_; have GE150 := n5_; have NB148_150 := n6_; have NB150_148 := n7_; have NB149_150 := n8_; have NB150_149 := n9_; clear n0_ n1_ n2_ n3_ n4_ n5_ n6_ n7_ n8_ n9_; clear hb hbox hg; have hnb5 := NB150_148.out; have hnc5 := NB148_150.out; have hnb6 := NB150_149.out; have hnc6 := NB149_150.out; have hcz7_0 : w4.cell? ⟨gb150, 0, none⟩ = some (.slice none 0 0) := (blk_cell BK150.out 0).trans rfl; have hfz7_0 := blk_frozen BK150.out 0))
  go_loopg [4] k (fun kq v4 w' => ∃ (x4_1 : Int) (x151000_1 : List (S53)) (u151000 : Value), v4 = .int .i64 x4_1 ∧ Aside0 (spec_l10Copy.l0 kq x4_1 l0_0 x151000_1 = some r) ∧ Aside0 (kq ≤ k) ∧ Aside0 (Kd.R k53 53 w' w.heap.size (fun _ => True) u151000 x151000_1) ∧ Aside0 (w'.heap[gb148]? = some (.cells #[(.slice A0_0 l0_0.length c0_0)] 29 (0, 0))) ∧ Aside0 (w'.heap[gb149]? = some (.cells #[(.slice none 0 0)] 29 (0, 0))) ∧ Aside0 (w'.heap[gb150]? = some (.cells #[u151000] 29 (0, 0))) ∧ Aside0 (Below w.heap.size w w'))
  case atStart => exact ⟨(0), (([] : List (S53))), (.slice none 0 0), u5_20, H', ⟨Nat.le_refl _⟩, ⟨(by first | exact Kd.R_nil _ _ _ _ _ | exact Kd.N_nil _ _ _ _ _ | exact Kd.V_nil _ _ _ _ _ | exact Kd.Q_nil _ _ _ _ _ | exact Kd.S_nil _ _ _ _ _)⟩, ⟨u5_25⟩, ⟨u5_26⟩, ⟨(by (with_reducible repeat (first | refine blk_drewN ?_ _ | refine blk_drew ?_ | refine blk_alloc ?_ _)); refine blk_put (cs := #[.slice none 0 0]) ?_ 0 _ rfl; (with_reducible repeat (first | refine blk_drewN ?_ _ | refine blk_drew ?_ | refine blk_alloc ?_ _)); exact BK150.out)⟩, ⟨u5_8⟩⟩
  clear H'
  try clear p2
  try clear c5
  try clear c6
  try clear hcz7_0
  try clear hfz7_0
  obtain ⟨x4_1, x151000_1, u151000, rfl, HA, HK1, HO_151000, BK148, BK149, BK150, HB⟩ := hrel
  cases gk with
  | zero => exact absurd HA.out (by simp [spec_l10Copy.l0])
  | succ k1 =>
    have H := HA.out
    clear HA
    simp only [spec_l10Copy.l0] at H
    by_cases c8 : x4_1 < (l0_0.length : Int)
    rotate_left
    · rw [if_neg c8] at H
      have c8b0 : decide (x4_1 < (l0_0.length : Int)) = false := decide_eq_false c8
      clear c8
      obtain rfl := Option.some.inj H
      have hnb18 := NB148_149.out
      have hnc18 := NB149_148.out
      have hnb19 := NB148_150.out
      have hnc19 := NB150_148.out
      have hcz20_0 : wr.cell? ⟨gb148, 0, none⟩ = some (.slice A0_0 l0_0.length c0_0) := (blk_cell BK148.out 0).trans rfl
      have hfz20_0 := blk_frozen BK148.out 0
      have hnb21 := NB150_149.out
      have hnc21 := NB149_150.out
      have hcz22_0 : wr.cell? ⟨gb150, 0, none⟩ = some (u151000) := (blk_cell BK150.out 0).trans rfl
      have hfz22_0 := blk_frozen BK150.out 0
      obtain ⟨Ao23, co23, eo23⟩ := Kd.R_slice HO_151000.out
      subst eo23
      have hcz24_0 : wr.cell? ⟨gb149, 0, none⟩ = some (.slice none 0 0) := (blk_cell BK149.out 0).trans rfl
      have hfz24_0 := blk_frozen BK149.out 0
      go_wp2
      refine bodyPost_ret (results_cell_row rfl _ _ gb149 29 #[.slice Ao23 x151000_1.length co23] (0, 0) _ rfl (by (with_reducible repeat (first | refine blk_drewN ?_ _ | refine blk_drew ?_ | refine blk_alloc ?_ _)); refine blk_put (cs := #[.slice none 0 0]) ?_ 0 _ rfl; (with_reducible repeat (first | refine blk_drewN ?_ _ | refine blk_drew ?_ | refine blk_alloc ?_ _)); exact BK149.out) Try.underlying29 rfl (by kernel_rfl)) rfl ?_
      exact ⟨_, by first | rfl | (simp [errW_none, errW_some] <;> rfl) | (simp [*, errW_none, errW_some] <;> rfl), (by (with_reducible repeat (first | apply Kd.R_alloc | apply Kd.R_drewN | apply Kd.R_drew)); exact Kd.R_mono (Kd.R_far (p := ⟨gb149, 0, none⟩) (Kd.R_types HO_151000.out BK149.out (by decide)) (fun _ hk => hk.2) (.slice Ao23 x151000_1.length co23)) (fun _ hk => trivial)), u5_8⟩
    rw [if_pos c8] at H
    have c8b0 : decide (x4_1 < (l0_0.length : Int)) = true := decide_eq_true c8
    clear c8
    by_cases c9 : 0 ≤ x4_1
    rotate_left
    · rw [if_neg c9] at H
      exact absurd H (by simp)
    rw [if_pos c9] at H
    have c9b0 : decide (0 ≤ x4_1) = true := decide_eq_true c9
    clear c9
    by_cases c10 : x151000_1.length < 3518437208883
    rotate_left
    · rw [if_neg c10] at H
      exact absurd H (by simp)
    rw [if_pos c10] at H
    have LMc10 := Aside0.mk c10
    clear c10
    obtain ⟨y152, hy152⟩ : ∃ y_ : List (S53), y_ = (x151000_1 ++ [(⟨(rd_T53 l0_0 x4_1).f0, (rd_T53 l0_0 x4_1).f1, (rd_T53 l0_0 x4_1).f2, (rd_T53 l0_0 x4_1).f3, (rd_T53 l0_0 x4_1).f4⟩ : S53)]) := ⟨_, rfl⟩
    replace H : (spec_l10Copy.l0 k1 (wrap64 (x4_1 + 1)) l0_0 y152) = some r := by first | (rw [hy152]; with_reducible exact H) | (have H2_ := (Option.bind_some _ _).symm.trans H; rw [hy152]; with_reducible exact H2_) | (have H2_ := (Option.bind_some _ _).symm.trans H; with_reducible exact H2_) | with_reducible exact H | (rw [hy152]; exact H) | exact H
    have Ny152 := Aside0.mk hy152
    clear hy152
    have H' := Aside0.mk H
    clear H
    have hnb11 := NB148_149.out
    have hnc11 := NB149_148.out
    have hnb12 := NB148_150.out
    have hnc12 := NB150_148.out
    have hcz13_0 : wr.cell? ⟨gb148, 0, none⟩ = some (.slice A0_0 l0_0.length c0_0) := (blk_cell BK148.out 0).trans rfl
    have hfz13_0 := blk_frozen BK148.out 0
    try go_wp2
    have n0_ := Aside0.mk (Kd.R_drew HO_151000.out)
    have n1_ := Aside0.mk (blk_drew BK148.out)
    have n2_ := Aside0.mk (blk_drew BK149.out)
    have n3_ := Aside0.mk (blk_drew BK150.out)
    have n4_ := Aside0.mk (below_drew1 HB.out)
    clear HO_151000
    clear BK148
    clear BK149
    clear BK150
    clear HB
    have HO_151000 := n0_
    have BK148 := n1_
    have BK149 := n2_
    have BK150 := n3_
    have HB := n4_
    clear n0_ n1_ n2_ n3_ n4_
    have p151 : 0 ≤ (x4_1 : Int) := of_decide_eq_true u5_6
    have q151 : x4_1 < (l0_0.length : Int) := of_decide_eq_true u5_6
    obtain ⟨ad151, e151, hx151_0, hx151_1, hx151_2, hx151_3, hx151_4⟩ := at_T53 HR0_0.out x4_1 p151 q151
    have hw151_4 := hx151_4
    have hw151_3 := hx151_3
    have hw151_2 := hx151_2
    have hw151_1 := hx151_1
    have hw151_0 := hx151_0
    cases e151
    replace hx151_0 := (HB.out.cell (World.block_lt_of_cell? w _ hx151_0)).trans hx151_0
    replace hx151_1 := (HB.out.cell (World.block_lt_of_cell? w _ hx151_1)).trans hx151_1
    replace hx151_2 := (HB.out.cell (World.block_lt_of_cell? w _ hx151_2)).trans hx151_2
    replace hx151_3 := (HB.out.cell (World.block_lt_of_cell? w _ hx151_3)).trans hx151_3
    replace hx151_4 := (HB.out.cell (World.block_lt_of_cell? w _ hx151_4)).trans hx151_4
    replace p151 := eq_true p151
    replace q151 := eq_true q151
    refine start_ (n := 11) (S := fun w' => w'.cell? ⟨gb150, 0, none⟩ = some (u151000) ∧ w'.cell? ⟨gb148, 0, none⟩ = some (.slice (some ad151) l0_0.length c0_0) ∧ w'.cell? (ad151.add ((x4_1).toNat * 5)) = some (.int .u64 ((rd_T53 l0_0 x4_1).f0)) ∧ w'.cell? ⟨(ad151.add ((x4_1).toNat * 5)).block, (ad151.add ((x4_1).toNat * 5)).off + 1, none⟩ = some (.int .u64 ((rd_T53 l0_0 x4_1).f1)) ∧ w'.cell? ⟨(ad151.add ((x4_1).toNat * 5)).block, (ad151.add ((x4_1).toNat * 5)).off + 2, none⟩ = some (.int .u64 ((rd_T53 l0_0 x4_1).f2)) ∧ w'.cell? ⟨(ad151.add ((x4_1).toNat * 5)).block, (ad151.add ((x4_1).toNat * 5)).off + 3, none⟩ = some (.int .u64 ((rd_T53 l0_0 x4_1).f3)) ∧ w'.cell? ⟨(ad151.add ((x4_1).toNat * 5)).block, (ad151.add ((x4_1).toNat * 5)).off + 4, none⟩ = some (.int .i64 ((rd_T53 l0_0 x4_1).f4))) (ds := [10]) #[false, false, false, false, false, false, false, false, false, false, false] (by kernel_rfl) rfl rfl ⟨(blk_cell BK150.out 0).trans rfl, (blk_cell BK148.out 0).trans rfl, ((HB.out.cell (World.block_lt_of_cell? w _ hw151_0)).trans hw151_0), ((HB.out.cell (World.block_lt_of_cell? w _ hw151_1)).trans hw151_1), ((HB.out.cell (World.block_lt_of_cell? w _ hw151_2)).trans hw151_2), ((HB.out.cell (World.block_lt_of_cell? w _ hw151_3)).trans hw151_3), ((HB.out.cell (World.block_lt_of_cell? w _ hw151_4)).trans hw151_4)⟩ (fun hHeld => ?_); refine with_tabW spec_l10Copy.tab5 spec_l10Copy.bits5 (fun HT_ HW_ => ?_)
    generalize wr.drew = w14 at HO_151000 BK148 BK149 BK150 HB hx151_0 hx151_1 hx151_2 hx151_3 hx151_4 hHeld ⊢
    refine pure_ (i := 0) (N := some 13) (v := ?_) (a' := ?_) #[true, false, false, false, false, false, false, false, false, false, false] rfl rfl (any_of HT_.out (by kernel_rfl)) (fun _ _ _ h => h) (Or.inl ⟨by rfl, ?_⟩) ?_ ?_
    rotate_left
    · intro w'
      go_simp
      with_reducible rfl
    rotate_left
    · simp only [Act.put, List.setIfInBounds_toArray, List.set_cons_zero, List.set_cons_succ, i64_w, i32_w]
      rfl
    refine pure_ (i := 2) (N := some 15) (v := ?_) (a' := ?_) #[true, false, true, false, false, false, false, false, false, false, false] rfl rfl (any_of HT_.out (by kernel_rfl)) (fun _ _ _ h => h) (Or.inl ⟨by rfl, ?_⟩) ?_ ?_
    rotate_left
    · intro w'
      go_simp
      with_reducible rfl
    rotate_left
    · simp only [Act.put, List.setIfInBounds_toArray, List.set_cons_zero, List.set_cons_succ, i64_w, i32_w]
      rfl
    refine pure_ (i := 4) (N := some 17) (v := ?_) (a' := ?_) #[true, false, true, false, true, false, false, false, false, false, false] rfl rfl (any_of HT_.out (by kernel_rfl)) (fun _ _ _ h => h) (Or.inl ⟨by rfl, ?_⟩) ?_ ?_
    rotate_left
    · intro w'
      go_simp
      with_reducible rfl
    rotate_left
    · simp only [Act.put, List.setIfInBounds_toArray, List.set_cons_zero, List.set_cons_succ, i64_w, i32_w]
      rfl
    refine take_ (i := 1) (N := some 14) (v := ?_) (a' := ?_) #[true, true, true, false, true, false, false, false, false, false, false] rfl rfl (take_ofW HT_.out HW_.out (by kernel_rfl)) (fun _ _ _ h => h) (Or.inl ⟨by rfl, ?_⟩) hHeld ?_ ?_
    rotate_left
    · rintro w' ⟨s0, s1, s2, s3, s4, s5, s6⟩
      go_simp
      with_reducible rfl
    rotate_left
    · simp only [Act.put, List.setIfInBounds_toArray, List.set_cons_zero, List.set_cons_succ, i64_w, i32_w]
      rfl
    refine take_ (i := 3) (N := some 16) (v := ?_) (a' := ?_) #[true, true, true, true, true, false, false, false, false, false, false] rfl rfl (take_ofW HT_.out HW_.out (by kernel_rfl)) (fun _ _ _ h => h) (Or.inl ⟨by rfl, ?_⟩) hHeld ?_ ?_
    rotate_left
    · rintro w' ⟨s0, s1, s2, s3, s4, s5, s6⟩
      go_simp
      with_reducible rfl
    rotate_left
    · simp only [Act.put, List.setIfInBounds_toArray, List.set_cons_zero, List.set_cons_succ, i64_w, i32_w]
      rfl
    refine pure_ (i := 5) (N := some 18) (v := ?_) (a' := ?_) #[true, true, true, true, true, true, false, false, false, false, false] rfl rfl (any_of HT_.out (by kernel_rfl)) (fun _ _ _ h => h) (Or.inl ⟨by rfl, ?_⟩) ?_ ?_
    rotate_left
    · intro w'
      go_simp
      with_reducible rfl
    rotate_left
    · simp only [Act.put, List.setIfInBounds_toArray, List.set_cons_zero, List.set_cons_succ, i64_w, i32_w]
      rfl
    refine take_ (i := 6) (N := some 19) (v := ?_) (a' := ?_) #[true, true, true, true, true, true, true, false, false, false, false] rfl rfl (take_ofW HT_.out HW_.out (by kernel_rfl)) (fun _ _ _ h => h) (Or.inl ⟨by rfl, ?_⟩) hHeld ?_ ?_
    rotate_left
    · rintro w' ⟨s0, s1, s2, s3, s4, s5, s6⟩
      go_simp
      with_reducible rfl
    rotate_left
    · simp only [Act.put, List.setIfInBounds_toArray, List.set_cons_zero, List.set_cons_succ, i64_w, i32_w]
      rfl
    refine one_ (i := 7) (N := some 20) #[true, true, true, true, true, true, true, true, false, false, false] rfl rfl (one_of HT_.out (by kernel_rfl)) (by decide) (fun K hK => ?_)
    refine value_ (w1 := ?_) (v := ?_) (by rfl) rfl ?_ ?_
    rotate_left 2
    · go_simp
      constructor
      · rfl
      rfl
    refine hK.out _ _ ⟨(blk_cell (blk_alloc BK150.out _) 0).trans rfl, (blk_cell (blk_alloc BK148.out _) 0).trans rfl, (World.cell?_alloc_lt _ _ _ (World.block_lt_of_cell? _ _ (((HB.out.cell (World.block_lt_of_cell? w _ hw151_0)).trans hw151_0)))).trans (((HB.out.cell (World.block_lt_of_cell? w _ hw151_0)).trans hw151_0)), (World.cell?_alloc_lt _ _ _ (World.block_lt_of_cell? _ _ (((HB.out.cell (World.block_lt_of_cell? w _ hw151_1)).trans hw151_1)))).trans (((HB.out.cell (World.block_lt_of_cell? w _ hw151_1)).trans hw151_1)), (World.cell?_alloc_lt _ _ _ (World.block_lt_of_cell? _ _ (((HB.out.cell (World.block_lt_of_cell? w _ hw151_2)).trans hw151_2)))).trans (((HB.out.cell (World.block_lt_of_cell? w _ hw151_2)).trans hw151_2)), (World.cell?_alloc_lt _ _ _ (World.block_lt_of_cell? _ _ (((HB.out.cell (World.block_lt_of_cell? w _ hw151_3)).trans hw151_3)))).trans (((HB.out.cell (World.block_lt_of_cell? w _ hw151_3)).trans hw151_3)), (World.cell?_alloc_lt _ _ _ (World.block_lt_of_cell? _ _ (((HB.out.cell (World.block_lt_of_cell? w _ hw151_4)).trans hw151_4)))).trans (((HB.out.cell (World.block_lt_of_cell? w _ hw151_4)).trans hw151_4))⟩ (fun hHeld => ?_)
    clear hK K
    refine norm_ (a' := ?_) ?_ ?_
    rotate_left
    · show Act.put _ (some 20) _ = _
      simp only [Act.put, List.setIfInBounds_toArray, List.set_cons_zero, List.set_cons_succ, i64_w, i32_w]
      rfl
    refine one_ (i := 8) (N := some 21) #[true, true, true, true, true, true, true, true, true, false, false] rfl rfl (one_of HT_.out (by kernel_rfl)) (by decide) (fun K hK => ?_)
    refine Kd.R_append_step k53 (w0 := w) w.heap.size (by rfl) (.tmp 14) (.tmp 20) 27 53 (.agg #[(.int .u64 0), (.int .u64 0), (.int .u64 0), (.int .u64 0), (.int .i64 0)]) 40 rfl Try.underlying27 info53 rfl (by decide) (by omega) u151000 x151000_1 (⟨(rd_T53 l0_0 x4_1).f0, (rd_T53 l0_0 x4_1).f1, (rd_T53 l0_0 x4_1).f2, (rd_T53 l0_0 x4_1).f3, (rd_T53 l0_0 x4_1).f4⟩ : S53) [.int .u64 ((rd_T53 l0_0 x4_1).f0), .int .u64 ((rd_T53 l0_0 x4_1).f1), .int .u64 ((rd_T53 l0_0 x4_1).f2), .int .u64 ((rd_T53 l0_0 x4_1).f3), .int .i64 ((rd_T53 l0_0 x4_1).f4)] (fun _ => True) (fun _ => False) rfl rfl ?aP (fun _ hk => hk.elim) ?aF ?aO ?aB ?aS ?aL ?_
    (case aP => exact k53_mkM _ _ _ (⟨(rd_T53 l0_0 x4_1).f0, (rd_T53 l0_0 x4_1).f1, (rd_T53 l0_0 x4_1).f2, (rd_T53 l0_0 x4_1).f3, (rd_T53 l0_0 x4_1).f4⟩ : S53))
    (case aB => exact u5_8)
    (case aF => exact (fun _ _ => trivial))
    (case aO => exact (by (with_reducible repeat (first | apply Kd.R_alloc | apply Kd.R_drewN | apply Kd.R_drew)); exact HO_151000.out))
    (case aS => exact (below_size u5_8))
    (case aL => have := LMc10.out; omega)
    intro v153 w15 ho hb hg hat
    rw [← Ny152.out] at ho
    have n0_ := Aside0.mk (blk_grown (g := gb148) (o := .cells #[.slice (some ad151) l0_0.length c0_0] 29 (0, 0)) u5_12 hg (Kd.R_ne HO_151000.out BK148.out (by decide)))
    have n1_ := Aside0.mk (blk_grown (g := gb149) (o := .cells #[.slice none 0 0] 29 (0, 0)) u5_18 hg (Kd.R_ne HO_151000.out BK149.out (by decide)))
    have n2_ := Aside0.mk (blk_grown (g := gb150) (o := .cells #[u151000] 29 (0, 0)) (by (with_reducible repeat (first | refine blk_drewN ?_ _ | refine blk_drew ?_ | refine blk_alloc ?_ _)); exact BK150.out) hg (Kd.R_ne HO_151000.out BK150.out (by decide)))
    have n3_ := Aside0.mk (hb)
    have n4_ := Aside0.mk (ho)
    clear BK148
    clear BK149
    clear BK150
    clear HB
    clear HO_151000
    have BK148 := n0_
    have BK149 := n1_
    have BK150 := n2_
    have HB := n3_
    have HO154 := n4_
    clear n0_ n1_ n2_ n3_ n4_
    clear ho hb hg hat
    obtain ⟨Ao16, co16, eo16⟩ := Kd.R_slice HO154.out
    (first | subst eo16 | (injection eo16 with f1_ f2_ f3_; have f4_ := f1_.symm; have f5_ := f3_.symm; clear f1_ f2_ f3_; subst f4_; subst f5_))
    refine hK.out _ _ ⟨(blk_cell BK150.out 0).trans rfl, (blk_cell BK148.out 0).trans rfl, ((HB.out.cell (World.block_lt_of_cell? w _ hw151_0)).trans hw151_0), ((HB.out.cell (World.block_lt_of_cell? w _ hw151_1)).trans hw151_1), ((HB.out.cell (World.block_lt_of_cell? w _ hw151_2)).trans hw151_2), ((HB.out.cell (World.block_lt_of_cell? w _ hw151_3)).trans hw151_3), ((HB.out.cell (World.block_lt_of_cell? w _ hw151_4)).trans hw151_4)⟩ (fun hHeld => ?_)
    clear hK K
    refine norm_ (a' := ?_) ?_ ?_
    rotate_left
    · show Act.put _ (some 21) _ = _
      simp only [Act.put, List.setIfInBounds_toArray, List.set_cons_zero, List.set_cons_succ, i64_w, i32_w]
      rfl
    refine pure_ (i := 9) (N := some 22) (v := ?_) (a' := ?_) #[true, true, true, true, true, true, true, true, true, true, false] rfl rfl (any_of HT_.out (by kernel_rfl)) (fun _ _ _ h => h) (Or.inl ⟨by rfl, ?_⟩) ?_ ?_
    rotate_left
    · intro w'
      go_simp
      with_reducible rfl
    rotate_left
    · simp only [Act.put, List.setIfInBounds_toArray, List.set_cons_zero, List.set_cons_succ, i64_w, i32_w]
      rfl
    refine last_ (i := 10) (N := none) #[true, true, true, true, true, true, true, true, true, true, true] rfl rfl (one_of HT_.out (by kernel_rfl)) (by decide) (fun K hK => ?_)
    have hs17 : w15.cell? ⟨gb150, 0, none⟩ = some (u151000) := (blk_cell BK150.out 0).trans rfl
    have hfs17 := blk_frozen BK150.out 0
    have hns17_0 := NB148_150.out
    have hns17_1 := NB149_150.out
    have hms17_0 := NB150_148.out
    have hms17_1 := NB150_149.out
    refine skip_ (w1 := ?_) (by rfl) rfl ?_ ?_
    rotate_left
    · go_simp
      rfl
    refine hK.out _ _ ?_
    clear hK K
    refine done_ (done_of HT_.out (by kernel_rfl)) ?_
    try go_wp2
    go_roundg k1
    case measure => have := HK1.out; omega
    case rel => exact ⟨(wrap64 (x4_1 + 1)), (y152), (.slice Ao16 y152.length co16), u5_20, H', ⟨by have := HK1.out; omega⟩, ⟨(by (with_reducible repeat (first | apply Kd.R_alloc | apply Kd.R_drewN | apply Kd.R_drew)); exact Kd.R_mono (Kd.R_far (p := ⟨gb150, 0, none⟩) (Kd.R_types HO154.out BK150.out (by decide)) (fun _ hk => hk.2) (.slice Ao16 y152.length co16)) (fun _ hk => trivial))⟩, ⟨u5_25⟩, ⟨u5_26⟩, ⟨(by (with_reducible repeat (first | refine blk_drewN ?_ _ | refine blk_drew ?_ | refine blk_alloc ?_ _)); refine blk_put (cs := #[u151000]) ?_ 0 _ rfl; (with_reducible repeat (first | refine blk_drewN ?_ _ | refine blk_drew ?_ | refine blk_alloc ?_ _)); exact BK150.out)⟩, ⟨u5_8⟩⟩

/-! ### spec_l10With: function 55 -/
def spec_l10With.l0 : Nat → Int → Int → Int → Int → Int → Int → List (S53) → Option ((List (S53)))
  | 0, _, _, _, _, _, _, _ => none
  | k + 1, x6, x157000, x157001, x157002, x157003, x157004, x162000 => if x6 < (x162000.length : Int) then (if 0 ≤ x6 then (if ((rd_T53 x162000 x6).f0) = x157000 then (spec_l10With.l0 k (wrap64 (x6 + 1)) x157000 x157001 x157002 x157003 x157004 (x162000.set (x6 : Int).toNat (⟨x157000, x157001, x157002, x157003, x157004⟩ : S53))) else (spec_l10With.l0 k (wrap64 (x6 + 1)) x157000 x157001 x157002 x157003 x157004 x162000)) else (none)) else (some x162000)
def spec_l10With.f (k : Nat) (l0_0 : List (S53)) (a1_0 : Int) (a1_1 : Int) (a1_2 : Int) (a1_3 : Int) (a1_4 : Int) : Option ((List (S53))) := (spec_l10Copy.f k l0_0).bind fun t158 => (spec_l10With.l0 k 0 a1_0 a1_1 a1_2 a1_3 a1_4 t158)
theorem spec_l10With.mono_l : ∀ k, (∀ y0 y1 y2 y3 y4 y5 y6, LeO (spec_l10With.l0 k y0 y1 y2 y3 y4 y5 y6) (spec_l10With.l0 (k + 1) y0 y1 y2 y3 y4 y5 y6))
  | 0 => fun _ _ _ _ _ _ _ r h => by simp [spec_l10With.l0] at h
  | k + 1 => by
    have ih0 := spec_l10With.mono_l k
    · intro y0 y1 y2 y3 y4 y5 y6
      unfold spec_l10With.l0
      repeat' first
      | (with_reducible exact ih0 _ _ _ _ _ _ _)
      | (with_reducible exact spec_l10Copy.mono _ _)
      | (with_reducible exact LeO.refl _)
      | (with_reducible exact LeO.none _)
      | (with_reducible refine LeO.ite ?_ ?_)
      | (with_reducible refine LeO.bind ?_ (fun _ => ?_))
      | exact ih0 _ _ _ _ _ _ _
      | exact spec_l10Copy.mono _ _
      | exact LeO.none _
      | refine LeO.ite ?_ ?_
      | refine LeO.bind ?_ (fun _ => ?_)
theorem spec_l10With.mono : ∀ a0 a1 a2 a3 a4 a5 k, LeO (spec_l10With.f k a0 a1 a2 a3 a4 a5) (spec_l10With.f (k + 1) a0 a1 a2 a3 a4 a5) := by
  intro a0 a1 a2 a3 a4 a5 k
  have ih0 := spec_l10With.mono_l k
  unfold spec_l10With.f
  repeat' first
      | (with_reducible exact ih0 _ _ _ _ _ _ _)
      | (with_reducible exact spec_l10Copy.mono _ _)
      | (with_reducible exact LeO.refl _)
      | (with_reducible exact LeO.none _)
      | (with_reducible refine LeO.ite ?_ ?_)
      | (with_reducible refine LeO.bind ?_ (fun _ => ?_))
      | exact ih0 _ _ _ _ _ _ _
      | exact spec_l10Copy.mono _ _
      | exact LeO.none _
      | refine LeO.ite ?_ ?_
      | refine LeO.bind ?_ (fun _ => ?_)
set_option maxHeartbeats 8000000 in
set_option maxRecDepth 100000 in
theorem spec_l10With.calls (k : Nat) (A0_0 : Option Addr) (c0_0 : Nat) (l0_0 : List (S53)) (a1_0 : Int) (a1_1 : Int) (a1_2 : Int) (a1_3 : Int) (a1_4 : Int) (r : List (S53)) (w : World) (hr0_0 : Kd.C k53 w A0_0 l0_0.length l0_0) (hc0_0 : l0_0.length ≤ c0_0) (h : spec_l10With.f k l0_0 a1_0 a1_1 a1_2 a1_3 a1_4 = some r) :
    Calls Try.prog 55 #[.agg #[.slice A0_0 l0_0.length c0_0], .agg #[.int .u64 a1_0, .int .u64 a1_1, .int .u64 a1_2, .int .u64 a1_3, .int .i64 a1_4]] w fun e w' => ∃ v0_ : Value, e = .returned (.agg #[v0_]) ∧ Kd.R k53 53 w' w.heap.size (fun _ => True) v0_ r ∧ Below w.heap.size w w' := by
  have hu29 := Try.underlying29
  have hu53 := Try.underlying53
  have HR0_0 := Aside0.mk hr0_0
  have HC0_0 := Aside0.mk hc0_0
  clear hr0_0 hc0_0
  have HB := Aside0.mk (Below.refl w.heap.size w)
  have H : ((spec_l10Copy.f k l0_0).bind fun t158 => (spec_l10With.l0 k 0 a1_0 a1_1 a1_2 a1_3 a1_4 t158)) = some r := h
  clear h
  replace H := Option.bind_eq_some_iff.mp H
  obtain ⟨t158, A30, H⟩ := H
  replace H : (spec_l10With.l0 k 0 a1_0 a1_1 a1_2 a1_3 a1_4 t158) = some r := H
  have A3 := Aside0.mk A30
  clear A30
  have H' := Aside0.mk H
  clear H
  go_enter Try.func55, Try.ntmps55
  go_wp2_with (first | (first | ((with_reducible refine gate_dst (N := 2) rfl ?_); refine box_event ?hg (N := 2) ?hd (cs := #[.slice A0_0 l0_0.length c0_0]) (t := 29) ?hr ?_; (case hd => rfl); (case hg => rfl); (case hr => first | (go_simp; done) | (go_simp; rfl)); intro gb155 hg w4 hbox hb; have n0_ := Aside0.mk (below_step u5_2 hb); have n1_ := Aside0.mk (hbox); have n2_ := Aside0.mk ((by rw [hg]; exact (below_size u5_2) : w.heap.size ≤ gb155)); have n3_ := Aside0.mk ((by rw [hg]; exact (below_size u5_2) : w.heap.size ≤ gb155)); clear HB; have HB := n0_; have BK155 := n1_; have GW155 := n2_; have GE155 := n3_; clear n0_ n1_ n2_ n3_; clear hb hbox hg) | ((with_reducible refine gate_dst (N := 3) rfl ?_); refine box_event ?hg (N := 3) ?hd (cs := #[.int .u64 a1_0, .int .u64 a1_1, .int .u64 a1_2, .int .u64 a1_3, .int .i64 a1_4]) (t := 53) ?hr ?_; (case hd => rfl); (case hg => rfl); (case hr => first | (go_simp; done) | (go_simp; rfl)); intro gb156 hg w5 hbox hb; have n0_ := Aside0.mk (blk_below (g := gb155) (o := .cells #[.slice A0_0 l0_0.length c0_0] 29 (0, 0)) u5_0 hb); have n1_ := Aside0.mk (below_step u5_23 hb); have n2_ := Aside0.mk (hbox); have n3_ := Aside0.mk ((by rw [hg]; exact (below_size u5_23) : w.heap.size ≤ gb156)); have n4_ := Aside0.mk ((by rw [hg]; exact (below_size u5_23) : w.heap.size ≤ gb156)); have n5_ := Aside0.mk ((by rw [hg]; exact Nat.ne_of_lt (blk_lt (g := gb155) (o := .cells #[.slice A0_0 l0_0.length c0_0] 29 (0, 0)) u5_0) : gb155 ≠ gb156)); have n6_ := Aside0.mk ((by rw [hg]; exact Nat.ne_of_gt (blk_lt (g := gb155) (o := .cells #[.slice A0_0 l0_0.length c0_0] 29 (0, 0)) u5_0) : gb156 ≠ gb155)); clear BK155; clear HB; have BK155 := n0_; have HB := n1_; have BK156 := n2_; have GW156 := n3_; have GE156 := n4_; have NB155_156 := n5_; have NB156_155 := n6_; clear n0_ n1_ n2_ n3_ n4_ n5_ n6_; clear hb hbox hg) | ((with_reducible refine gate_dst (N := 4) rfl ?_); refine box_event ?hg (N := 4) ?hd (cs := #[.slice none 0 0]) (t := 29) ?hr ?_; (case hd => rfl); (case hg => rfl); (case hr => first | (go_simp; done) | (go_simp; rfl)); intro gb157 hg w6 hbox hb; have n0_ := Aside0.mk (blk_below (g := gb155) (o := .cells #[.slice A0_0 l0_0.length c0_0] 29 (0, 0)) u5_0 hb); have n1_ := Aside0.mk (blk_below (g := gb156) (o := .cells #[.int .u64 a1_0, .int .u64 a1_1, .int .u64 a1_2, .int .u64 a1_3, .int .i64 a1_4] 53 (0, 0)) u5_1 hb); have n2_ := Aside0.mk (below_step u5_17 hb); have n3_ := Aside0.mk (hbox); have n4_ := Aside0.mk ((by rw [hg]; exact (below_size u5_17) : w.heap.size ≤ gb157)); have n5_ := Aside0.mk ((by rw [hg]; exact (below_size u5_17) : w.heap.size ≤ gb157)); have n6_ := Aside0.mk ((by rw [hg]; exact Nat.ne_of_lt (blk_lt (g := gb155) (o := .cells #[.slice A0_0 l0_0.length c0_0] 29 (0, 0)) u5_0) : gb155 ≠ gb157)); have n7_ := Aside0.mk ((by rw [hg]; exact Nat.ne_of_gt (blk_lt (g := gb155) (o := .cells #[.slice A0_0 l0_0.length c0_0] 29 (0, 0)) u5_0) : gb157 ≠ gb155)); have n8_ := Aside0.mk ((by rw [hg]; exact Nat.ne_of_lt (blk_lt (g := gb156) (o := .cells #[.int .u64 a1_0, .int .u64 a1_1, .int .u64 a1_2, .int .u64 a1_3, .int .i64 a1_4] 53 (0, 0)) u5_1) : gb156 ≠ gb157)); have n9_ := Aside0.mk ((by rw [hg]; exact Nat.ne_of_gt (blk_lt (g := gb156) (o := .cells #[.int .u64 a1_0, .int .u64 a1_1, .int .u64 a1_2, .int .u64 a1_3, .int .i64 a1_4] 53 (0, 0)) u5_1) : gb157 ≠ gb156)); clear BK155; clear BK156; clear HB; have BK155 := n0_; have BK156 := n1_; have HB := n2_; have BK157 := n3_; have GW157 := n4_; have GE157 := n5_; have NB155_157 := n6_; have NB157_155 := n7_; have NB156_157 := n8_; have NB157_156 := n9_; clear n0_ n1_ n2_ n3_ n4_ n5_ n6_ n7_ n8_ n9_; clear hb hbox hg; have hnb7 := NB155_156.out; have hnc7 := NB156_155.out; have hnb8 := NB155_157.out; have hnc8 := NB157_155.out; have hcz9_0 : w6.cell? ⟨gb155, 0, none⟩ = some (.slice A0_0 l0_0.length c0_0) := (blk_cell BK155.out 0).trans rfl; have hfz9_0 := blk_frozen BK155.out 0) | (go_at_call 54; (with_reducible refine (spec_l10Copy.calls k _ _ l0_0 t158 _ ?side1 ?side2 A3.out).mono ?_); (case side1 => exact u5_11); (case side2 => exact HC0_0.out); rintro e w10 ⟨v159, rfl, ho0, hb⟩; have n0_ := Aside0.mk (Kd.R_lower (Kd.R_newB ho0 (g := gb156) (o := .cells #[.int .u64 a1_0, .int .u64 a1_1, .int .u64 a1_2, .int .u64 a1_3, .int .i64 a1_4] 53 (0, 0)) u5_1) (below_size u5_4)); have n1_ := Aside0.mk (blk_below (g := gb155) (o := .cells #[.slice A0_0 l0_0.length c0_0] 29 (0, 0)) u5_0 hb); have n2_ := Aside0.mk (blk_below (g := gb156) (o := .cells #[.int .u64 a1_0, .int .u64 a1_1, .int .u64 a1_2, .int .u64 a1_3, .int .i64 a1_4] 53 (0, 0)) u5_1 hb); have n3_ := Aside0.mk (blk_below (g := gb157) (o := .cells #[.slice none 0 0] 29 (0, 0)) u5_7 hb); have n4_ := Aside0.mk (below_step u5_4 hb); clear BK155; clear BK156; clear BK157; clear HB; have HO160 := n0_; have BK155 := n1_; have BK156 := n2_; have BK157 := n3_; have HB := n4_; clear n0_ n1_ n2_ n3_ n4_; (try clear hb); (try clear hb2); (try clear hk); (try clear hi); (try clear ho0)) | ((with_reducible refine gate_dst (N := 5) rfl ?_); refine box_event ?hg (N := 5) ?hd (cs := #[.slice none 0 0]) (t := 29) ?hr ?_; (case hd => rfl); (case hg => rfl); (case hr => first | (go_simp; done) | (go_simp; rfl)); intro gb161 hg w11 hbox hb; have n0_ := Aside0.mk (Kd.R_below (by (with_reducible repeat (first | apply Kd.R_alloc | apply Kd.R_drewN | apply Kd.R_drew)); exact HO160.out) hb); have n1_ := Aside0.mk (blk_below (g := gb155) (o := .cells #[.slice A0_0 l0_0.length c0_0] 29 (0, 0)) u5_0 hb); have n2_ := Aside0.mk (blk_below (g := gb156) (o := .cells #[.int .u64 a1_0, .int .u64 a1_1, .int .u64 a1_2, .int .u64 a1_3, .int .i64 a1_4] 53 (0, 0)) u5_1 hb); have n3_ := Aside0.mk (blk_below (g := gb157) (o := .cells #[.slice none 0 0] 29 (0, 0)) u5_7 hb); have n4_ := Aside0.mk (below_step u5_4 hb); have n5_ := Aside0.mk (hbox); have n6_ := Aside0.mk ((by rw [hg]; exact (below_size u5_4) : w.heap.size ≤ gb161)); have n7_ := Aside0.mk ((by rw [hg]; exact (below_size u5_4) : w.heap.size ≤ gb161)); have n8_ := Aside0.mk ((by rw [hg]; exact Nat.ne_of_lt (blk_lt (g := gb155) (o := .cells #[.slice A0_0 l0_0.length c0_0] 29 (0, 0)) u5_0) : gb155 ≠ gb161)); have n9_ := Aside0.mk ((by rw [hg]; exact Nat.ne_of_gt (blk_lt (g := gb155) (o := .cells #[.slice A0_0 l0_0.length c0_0] 29 (0, 0)) u5_0) : gb161 ≠ gb155)); have n10_ := Aside0.mk ((by rw [hg]; exact Nat.ne_of_lt (blk_lt (g := gb156) (o := .cells #[.int .u64 a1_0, .int .u64 a1_1, .int .u64 a1_2, .int .u64 a1_3, .int .i64 a1_4] 53 (0, 0)) u5_1) : gb156 ≠ gb161)); have n11_ := Aside0.mk ((by rw [hg]; exact Nat.ne_of_gt (blk_lt (g := gb156) (o := .cells #[.int .u64 a1_0, .int .u64 a1_1, .int .u64 a1_2, .int .u64 a1_3, .int .i64 a1_4] 53 (0, 0)) u5_1) : gb161 ≠ gb156)); have n12_ := Aside0.mk ((by rw [hg]; exact Nat.ne_of_lt (blk_lt (g := gb157) (o := .cells #[.slice none 0 0] 29 (0, 0)) u5_7) : gb157 ≠ gb161)); have n13_ := Aside0.mk ((by rw [hg]; exact Nat.ne_of_gt (blk_lt (g := gb157) (o := .cells #[.slice none 0 0] 29 (0, 0)) u5_7) : gb161 ≠ gb157)); clear HO160; clear BK155; clear BK156; clear BK157; clear HB; have HO160 := n0_; have BK155 := n1_; have BK156 := n2_; have BK157 := n3_; have HB := n4_; have BK161 := n5_; have GW161 := n6_; have GE161 := n7_; have NB155_161 := n8_; have NB161_155 := n9_; have NB156_161 := n10_; have NB161_156 := n11_; have NB157_161 := n12_; have NB161_157 := n13_; clear n0_ n1_ n2_ n3_ n4_ n5_ n6_ n7_ n8_ n9_ n10_ n11_ n12_ n13_; clear hb hbox hg; obtain ⟨Ao12, co12, eo12⟩ := Kd.R_slice HO160.out; subst eo12; have hnb13 := NB161_155.out; have hnc13 := NB155_161.out; have hnb14 := NB161_156.out; have hnc14 := NB156_161.out; have hnb15 := NB161_157.out; have hnc15 := NB157_161.out; have hcz16_0 : w11.cell? ⟨gb161, 0, none⟩ = some (.slice none 0 0) := (blk_cell BK161.out 0).trans rfl; have hfz16_0 := blk_frozen BK161.out 0)) | go_quiet (first | (go_at_call 54; (with_reducible refine (spec_l10Copy.calls k _ _ l0_0 t158 _ ?side1 ?side2 A3.out).mono ?_); (case side1 => exact u5_11); (case side2 => exact HC0_0.out); rintro e w10 ⟨v159, rfl, ho0, hb⟩; have n0_ := Aside0.mk (Kd.R_lower (Kd.R_newB ho0 (g := gb156) (o := .cells #[.int .u64 a1_0, .int .u64 a1_1, .int .u64 a1_2, .int .u64 a1_3, .int .i64 a1_4] 53 (0, 0)) u5_1) (below_size u5_4)); have n1_ := Aside0.mk (blk_below (g := gb155) (o := .cells #[.slice A0_0 l0_0.length c0_0] 29 (0, 0)) u5_0 hb); have n2_ := Aside0.mk (blk_below (g := gb156) (o := .cells #[.int .u64 a1_0, .int .u64 a1_1, .int .u64 a1_2, .int .u64 a1_3, .int .i64 a1_4] 53 (0, 0)) u5_1 hb); have n3_ := Aside0.mk (blk_below (g := gb157) (o := .cells #[.slice none 0 0] 29 (0, 0)) u5_7 hb); have n4_ := Aside0.mk (below_step u5_4 hb); clear BK155; clear BK156; clear BK157; clear HB; have HO160 := n0_; have BK155 := n1_; have BK156 := n2_; have BK157 := n3_; have HB := n4_; clear n0_ n1_ n2_ n3_ n4_; (try clear hb); (try clear hb2); (try clear hk); (try clear hi); (try clear ho0))))
  go_loopg [6] k (fun kq v6 w' => ∃ (x6_1 : Int) (x157000_1 : Int) (x157001_1 : Int) (x157002_1 : Int) (x157003_1 : Int) (x157004_1 : Int) (x162000_1 : List (S53)) (u162000 : Value), v6 = .int .i64 x6_1 ∧ Aside0 (spec_l10With.l0 kq x6_1 x157000_1 x157001_1 x157002_1 x157003_1 x157004_1 x162000_1 = some r) ∧ Aside0 (kq ≤ k) ∧ Aside0 (Kd.R k53 53 w' w.heap.size (fun k_ => k_ ≠ gb156) u162000 x162000_1) ∧ Aside0 (w'.heap[gb155]? = some (.cells #[(.slice A0_0 l0_0.length c0_0)] 29 (0, 0))) ∧ Aside0 (w'.heap[gb156]? = some (.cells #[.int .u64 x157000_1, .int .u64 x157001_1, .int .u64 x157002_1, .int .u64 x157003_1, .int .i64 x157004_1] 53 (0, 0))) ∧ Aside0 (w'.heap[gb157]? = some (.cells #[(.slice none 0 0)] 29 (0, 0))) ∧ Aside0 (w'.heap[gb161]? = some (.cells #[u162000] 29 (0, 0))) ∧ Aside0 (Below w.heap.size w w'))
  case atStart => exact ⟨(0), (a1_0), (a1_1), (a1_2), (a1_3), (a1_4), (t158), (.slice Ao12 t158.length co12), u5_20, H', ⟨Nat.le_refl _⟩, ⟨(by (with_reducible repeat (first | apply Kd.R_alloc | apply Kd.R_drewN | apply Kd.R_drew)); exact Kd.R_mono (Kd.R_far (p := ⟨gb161, 0, none⟩) (Kd.R_types HO160.out BK161.out (by decide)) (fun _ hk => hk.2) (.slice Ao12 t158.length co12)) (fun _ hk => hk.1.2))⟩, ⟨(by (with_reducible repeat (first | refine blk_drewN ?_ _ | refine blk_drew ?_ | refine blk_alloc ?_ _)); refine blk_far ?_ NB155_161.out _; (with_reducible repeat (first | refine blk_drewN ?_ _ | refine blk_drew ?_ | refine blk_alloc ?_ _)); exact BK155.out)⟩, ⟨(by (with_reducible repeat (first | refine blk_drewN ?_ _ | refine blk_drew ?_ | refine blk_alloc ?_ _)); refine blk_far ?_ NB156_161.out _; (with_reducible repeat (first | refine blk_drewN ?_ _ | refine blk_drew ?_ | refine blk_alloc ?_ _)); exact BK156.out)⟩, ⟨(by (with_reducible repeat (first | refine blk_drewN ?_ _ | refine blk_drew ?_ | refine blk_alloc ?_ _)); refine blk_far ?_ NB157_161.out _; (with_reducible repeat (first | refine blk_drewN ?_ _ | refine blk_drew ?_ | refine blk_alloc ?_ _)); exact BK157.out)⟩, ⟨(by (with_reducible repeat (first | refine blk_drewN ?_ _ | refine blk_drew ?_ | refine blk_alloc ?_ _)); refine blk_put (cs := #[.slice none 0 0]) ?_ 0 _ rfl; (with_reducible repeat (first | refine blk_drewN ?_ _ | refine blk_drew ?_ | refine blk_alloc ?_ _)); exact BK161.out)⟩, ⟨u5_10⟩⟩
  clear H'
  try clear c1
  try clear p2
  try clear c5
  try clear c7
  try clear c8
  try clear c13
  try clear c14
  try clear c15
  try clear hcz16_0
  try clear hcz9_0
  try clear hfz16_0
  try clear hfz9_0
  obtain ⟨x6_1, x157000_1, x157001_1, x157002_1, x157003_1, x157004_1, x162000_1, u162000, rfl, HA, HK1, HO_162000, BK155, BK156, BK157, BK161, HB⟩ := hrel
  cases gk with
  | zero => exact absurd HA.out (by simp [spec_l10With.l0])
  | succ k1 =>
    have H := HA.out
    clear HA
    simp only [spec_l10With.l0] at H
    by_cases c17 : x6_1 < (x162000_1.length : Int)
    rotate_left
    · rw [if_neg c17] at H
      have c17b0 : decide (x6_1 < (x162000_1.length : Int)) = false := decide_eq_false c17
      clear c17
      obtain rfl := Option.some.inj H
      have hnb38 := NB161_155.out
      have hnc38 := NB155_161.out
      have hnb39 := NB161_156.out
      have hnc39 := NB156_161.out
      have hnb40 := NB161_157.out
      have hnc40 := NB157_161.out
      have hcz41_0 : wr.cell? ⟨gb161, 0, none⟩ = some (u162000) := (blk_cell BK161.out 0).trans rfl
      have hfz41_0 := blk_frozen BK161.out 0
      obtain ⟨Ao42, co42, eo42⟩ := Kd.R_slice HO_162000.out
      subst eo42
      have hnb43 := NB157_155.out
      have hnc43 := NB155_157.out
      have hnb44 := NB157_156.out
      have hnc44 := NB156_157.out
      have hcz45_0 : wr.cell? ⟨gb157, 0, none⟩ = some (.slice none 0 0) := (blk_cell BK157.out 0).trans rfl
      have hfz45_0 := blk_frozen BK157.out 0
      go_wp2
      repeat (go_quiet (fail); try go_wp2)
      refine bodyPost_ret (results_cell_row rfl _ _ gb157 29 #[.slice Ao42 x162000_1.length co42] (0, 0) _ rfl (by (with_reducible repeat (first | refine blk_drewN ?_ _ | refine blk_drew ?_ | refine blk_alloc ?_ _)); refine blk_put (cs := #[.slice none 0 0]) ?_ 0 _ rfl; (with_reducible repeat (first | refine blk_drewN ?_ _ | refine blk_drew ?_ | refine blk_alloc ?_ _)); exact BK157.out) Try.underlying29 rfl (by kernel_rfl)) rfl ?_
      exact ⟨_, by first | rfl | (simp [errW_none, errW_some] <;> rfl) | (simp [*, errW_none, errW_some] <;> rfl), (by (with_reducible repeat (first | apply Kd.R_alloc | apply Kd.R_drewN | apply Kd.R_drew)); exact Kd.R_mono (Kd.R_far (p := ⟨gb157, 0, none⟩) (Kd.R_types HO_162000.out BK157.out (by decide)) (fun _ hk => hk.2) (.slice Ao42 x162000_1.length co42)) (fun _ hk => trivial)), u5_10⟩
    rw [if_pos c17] at H
    have c17b0 : decide (x6_1 < (x162000_1.length : Int)) = true := decide_eq_true c17
    clear c17
    by_cases c18 : 0 ≤ x6_1
    rotate_left
    · rw [if_neg c18] at H
      exact absurd H (by simp)
    rw [if_pos c18] at H
    have c18b0 : decide (0 ≤ x6_1) = true := decide_eq_true c18
    clear c18
    have H9 := Aside0.mk H
    clear H
    have hnb19 := NB161_155.out
    have hnc19 := NB155_161.out
    have hnb20 := NB161_156.out
    have hnc20 := NB156_161.out
    have hnb21 := NB161_157.out
    have hnc21 := NB157_161.out
    have hcz22_0 : wr.cell? ⟨gb161, 0, none⟩ = some (u162000) := (blk_cell BK161.out 0).trans rfl
    have hfz22_0 := blk_frozen BK161.out 0
    obtain ⟨Ao23, co23, eo23⟩ := Kd.R_slice HO_162000.out
    subst eo23
    have p162 : 0 ≤ (x6_1 : Int) := of_decide_eq_true u5_6
    have q162 : x6_1 < (x162000_1.length : Int) := of_decide_eq_true u5_6
    obtain ⟨ad162, e162, hx162_0, hx162_1, hx162_2, hx162_3, hx162_4⟩ := at_T53 (Kd.R_reads' HO_162000.out).2.2 x6_1 p162 q162
    cases e162
    replace p162 := eq_true p162
    replace q162 := eq_true q162
    have hnb24 := NB156_155.out
    have hnc24 := NB155_156.out
    have hnb25 := NB156_157.out
    have hnc25 := NB157_156.out
    have hcz26_0 : wr.cell? ⟨gb156, 0, none⟩ = some (.int .u64 x157000_1) := (blk_cell BK156.out 0).trans rfl
    have hcz26_1 : wr.cell? ⟨gb156, 1, none⟩ = some (.int .u64 x157001_1) := (blk_cell BK156.out 1).trans rfl
    have hcz26_2 : wr.cell? ⟨gb156, 2, none⟩ = some (.int .u64 x157002_1) := (blk_cell BK156.out 2).trans rfl
    have hcz26_3 : wr.cell? ⟨gb156, 3, none⟩ = some (.int .u64 x157003_1) := (blk_cell BK156.out 3).trans rfl
    have hcz26_4 : wr.cell? ⟨gb156, 4, none⟩ = some (.int .i64 x157004_1) := (blk_cell BK156.out 4).trans rfl
    have hfz26_0 := blk_frozen BK156.out 0
    have hfz26_1 := blk_frozen BK156.out 1
    have hfz26_2 := blk_frozen BK156.out 2
    have hfz26_3 := blk_frozen BK156.out 3
    have hfz26_4 := blk_frozen BK156.out 4
    go_upto_if 24 with (fail)
    repeat (go_quiet (fail); go_upto_if 24 with (fail))
    have H := H9.out
    clear H9
    by_cases c27 : ((rd_T53 x162000_1 x6_1).f0) = x157000_1
    rotate_left
    · rw [if_neg c27] at H
      have c27b0 : (((rd_T53 x162000_1 x6_1).f0) == x157000_1) = false := beq_eq_false_iff_ne.mpr c27
      have c27b1 : (((rd_T53 x162000_1 x6_1).f0) != x157000_1) = true := bne_iff_ne.mpr c27
      (first | rw [c27b0] | (simp only [i64_w, i32_w]; rw [c27b0]) | skip)
      have H' := Aside0.mk H
      clear H
      go_wp2
      repeat (go_quiet (fail); try go_wp2)
      go_roundg k1
      case measure => have := HK1.out; omega
      case rel => exact ⟨(wrap64 (x6_1 + 1)), (x157000_1), (x157001_1), (x157002_1), (x157003_1), (x157004_1), (x162000_1), (.slice (some ad162) x162000_1.length co23), u5_20, H', ⟨by have := HK1.out; omega⟩, ⟨u5_15⟩, ⟨u5_0⟩, ⟨u5_1⟩, ⟨u5_7⟩, ⟨u5_19⟩, ⟨u5_10⟩⟩
    rw [if_pos c27] at H
    have c27b0 : (((rd_T53 x162000_1 x6_1).f0) == x157000_1) = true := beq_iff_eq.mpr c27
    have c27b1 : (((rd_T53 x162000_1 x6_1).f0) != x157000_1) = false := bne_eq_false_iff_eq.mpr c27
    clear c27
    (first | rw [c27b0] | (simp only [i64_w, i32_w]; rw [c27b0]) | skip)
    obtain ⟨y163, hy163⟩ : ∃ y_ : List (S53), y_ = (x162000_1.set (x6_1 : Int).toNat (⟨x157000_1, x157001_1, x157002_1, x157003_1, x157004_1⟩ : S53)) := ⟨_, rfl⟩
    replace H : (spec_l10With.l0 k1 (wrap64 (x6_1 + 1)) x157000_1 x157001_1 x157002_1 x157003_1 x157004_1 y163) = some r := by first | (rw [hy163]; with_reducible exact H) | (have H2_ := (Option.bind_some _ _).symm.trans H; rw [hy163]; with_reducible exact H2_) | (have H2_ := (Option.bind_some _ _).symm.trans H; with_reducible exact H2_) | with_reducible exact H | (rw [hy163]; exact H) | exact H
    have Ny163 := Aside0.mk hy163
    clear hy163
    have H' := Aside0.mk H
    clear H
    have hnb29 := NB161_155.out
    have hnc29 := NB155_161.out
    have hnb30 := NB161_156.out
    have hnc30 := NB156_161.out
    have hnb31 := NB161_157.out
    have hnc31 := NB157_161.out
    have hcz32_0 : wr.cell? ⟨gb161, 0, none⟩ = some (.slice (some ad162) x162000_1.length co23) := (blk_cell BK161.out 0).trans rfl
    have hfz32_0 := blk_frozen BK161.out 0
    have hnb33 := NB156_155.out
    have hnc33 := NB155_156.out
    have hnb34 := NB156_157.out
    have hnc34 := NB157_156.out
    have hcz35_0 : wr.cell? ⟨gb156, 0, none⟩ = some (.int .u64 x157000_1) := (blk_cell BK156.out 0).trans rfl
    have hcz35_1 : wr.cell? ⟨gb156, 1, none⟩ = some (.int .u64 x157001_1) := (blk_cell BK156.out 1).trans rfl
    have hcz35_2 : wr.cell? ⟨gb156, 2, none⟩ = some (.int .u64 x157002_1) := (blk_cell BK156.out 2).trans rfl
    have hcz35_3 : wr.cell? ⟨gb156, 3, none⟩ = some (.int .u64 x157003_1) := (blk_cell BK156.out 3).trans rfl
    have hcz35_4 : wr.cell? ⟨gb156, 4, none⟩ = some (.int .i64 x157004_1) := (blk_cell BK156.out 4).trans rfl
    have hfz35_0 := blk_frozen BK156.out 0
    have hfz35_1 := blk_frozen BK156.out 1
    have hfz35_2 := blk_frozen BK156.out 2
    have hfz35_3 := blk_frozen BK156.out 3
    have hfz35_4 := blk_frozen BK156.out 4
    have p28 : 0 ≤ (x6_1 : Int) := of_decide_eq_true u5_6
    have q28 : (x6_1 : Int) < ((x162000_1.length : Int) : Int) := of_decide_eq_true u5_6
    obtain ⟨go28, co28, eo28, gb28, gl28, cl28, HG28⟩ := Kd.R_form HO_162000.out (by omega)
    (first | cases eo28 | (injection eo28 with ea_ en_ ec_; (first | subst ea_ | (injection ea_ with ea_; subst ea_)); subst ec_; clear en_))
    have GB28 := Aside0.mk gb28
    have GG28 := Aside0.mk HG28
    clear gb28 gl28 HG28
    (first | simp only [add_plain] at hx162_0 | skip)
    (first | simp only [add_plain] at hx162_1 | skip)
    (first | simp only [add_plain] at hx162_2 | skip)
    (first | simp only [add_plain] at hx162_3 | skip)
    (first | simp only [add_plain] at hx162_4 | skip)
    obtain ⟨ce28, hcl28, hM28, hcc28, hfr28⟩ := Kd.R_elem HO_162000.out z53 (x6_1 : Int) p28 q28
    obtain rfl := k53_openM hM28
    have hx28_0 : wr.cell? ⟨go28, (x6_1 : Int).toNat * 5, none⟩ = some (.int .u64 ((rd_T53 x162000_1 x6_1).f0)) := hcc28 0 _ rfl
    have hx28_1 : wr.cell? ⟨go28, (x6_1 : Int).toNat * 5 + 1, none⟩ = some (.int .u64 ((rd_T53 x162000_1 x6_1).f1)) := hcc28 1 _ rfl
    have hx28_2 : wr.cell? ⟨go28, (x6_1 : Int).toNat * 5 + 2, none⟩ = some (.int .u64 ((rd_T53 x162000_1 x6_1).f2)) := hcc28 2 _ rfl
    have hx28_3 : wr.cell? ⟨go28, (x6_1 : Int).toNat * 5 + 3, none⟩ = some (.int .u64 ((rd_T53 x162000_1 x6_1).f3)) := hcc28 3 _ rfl
    have hx28_4 : wr.cell? ⟨go28, (x6_1 : Int).toNat * 5 + 4, none⟩ = some (.int .i64 ((rd_T53 x162000_1 x6_1).f4)) := hcc28 4 _ rfl
    have hf28_0 : wr.frozen? ⟨go28, (x6_1 : Int).toNat * 5, none⟩ = false := hfr28 0
    have hf28_1 : wr.frozen? ⟨go28, (x6_1 : Int).toNat * 5 + 1, none⟩ = false := hfr28 1
    have hf28_2 : wr.frozen? ⟨go28, (x6_1 : Int).toNat * 5 + 2, none⟩ = false := hfr28 2
    have hf28_3 : wr.frozen? ⟨go28, (x6_1 : Int).toNat * 5 + 3, none⟩ = false := hfr28 3
    have hf28_4 : wr.frozen? ⟨go28, (x6_1 : Int).toNat * 5 + 4, none⟩ = false := hfr28 4
    clear hcl28 hcc28 hfr28 hM28
    replace p28 := eq_true p28
    replace q28 := eq_true q28
    have HX36 := Aside0.mk (show Kd.R k53 53 wr w.heap.size (fun k_ => k_ ≠ gb156) (.slice (some ⟨go28, 0, none⟩) x162000_1.length co23) x162000_1 from u5_15)
    obtain ⟨ce36, hcl36, hM36, hcc36, hfr36⟩ := Kd.R_elem HX36.out z53 (x6_1 : Int) (of_decide_eq_true u5_6) (by have h_ : (x6_1 : Int) < ((x162000_1.length : Int) : Int) := of_decide_eq_true u5_6; first | exact h_ | (have e_ := (Kd.R_reads' HO_162000.out).1; omega) | simpa using h_)
    obtain rfl := k53_openM hM36
    have HP36 := Kd.R_seg HX36.out (x6_1 : Int) (of_decide_eq_true u5_6) (by have h_ : (x6_1 : Int) < ((x162000_1.length : Int) : Int) := of_decide_eq_true u5_6; first | exact h_ | (have e_ := (Kd.R_reads' HO_162000.out).1; omega) | simpa using h_) (seg := [.int .u64 x157000_1, .int .u64 x157001_1, .int .u64 x157002_1, .int .u64 x157003_1, .int .i64 x157004_1]) (j := 0) hcl36 hcc36 (show 5 ≤ 5 from by decide) (x' := (⟨x157000_1, x157001_1, x157002_1, x157003_1, x157004_1⟩ : S53)) (k53_mkM _ _ _ (⟨x157000_1, x157001_1, x157002_1, x157003_1, x157004_1⟩ : S53) ) (fun _ hk => hk)
    have hx36_0 := hcc36 0 _ rfl
    (try simp only [show (k53).sz = 5 from rfl, Nat.mul_one, Nat.add_zero] at hx36_0)
    have hf36_0 := hfr36 0
    (try simp only [show (k53).sz = 5 from rfl, Nat.mul_one, Nat.add_zero] at hf36_0)
    have hx36_1 := hcc36 1 _ rfl
    (try simp only [show (k53).sz = 5 from rfl, Nat.mul_one, Nat.add_zero] at hx36_1)
    have hf36_1 := hfr36 1
    (try simp only [show (k53).sz = 5 from rfl, Nat.mul_one, Nat.add_zero] at hf36_1)
    have hx36_2 := hcc36 2 _ rfl
    (try simp only [show (k53).sz = 5 from rfl, Nat.mul_one, Nat.add_zero] at hx36_2)
    have hf36_2 := hfr36 2
    (try simp only [show (k53).sz = 5 from rfl, Nat.mul_one, Nat.add_zero] at hf36_2)
    have hx36_3 := hcc36 3 _ rfl
    (try simp only [show (k53).sz = 5 from rfl, Nat.mul_one, Nat.add_zero] at hx36_3)
    have hf36_3 := hfr36 3
    (try simp only [show (k53).sz = 5 from rfl, Nat.mul_one, Nat.add_zero] at hf36_3)
    have hx36_4 := hcc36 4 _ rfl
    (try simp only [show (k53).sz = 5 from rfl, Nat.mul_one, Nat.add_zero] at hx36_4)
    have hf36_4 := hfr36 4
    (try simp only [show (k53).sz = 5 from rfl, Nat.mul_one, Nat.add_zero] at hf36_4)
    clear hcl36 hcc36 hfr36 hM36
    go_wp2_with (first | (first | ((with_reducible refine gate_store (t := 53) (p := 29) rfl ?_); (try (rw [drewN_self wr]; generalize hq_ : World.drewN wr _ = wr; have n0_ := Aside0.mk (Kd.R_at hq_ HO_162000.out); have n1_ := Aside0.mk (blk_at hq_ BK155.out); have n2_ := Aside0.mk (blk_at hq_ BK156.out); have n3_ := Aside0.mk (blk_at hq_ BK157.out); have n4_ := Aside0.mk (blk_at hq_ BK161.out); have n5_ := Aside0.mk (below_at hq_ HB.out); clear hq_ HO_162000 BK155 BK156 BK157 BK161 HB; have HO_162000 := n0_; have BK155 := n1_; have BK156 := n2_; have BK157 := n3_; have BK161 := n4_; have HB := n5_; clear n0_ n1_ n2_ n3_ n4_ n5_; (try (have HX36 := Aside0.mk (show Kd.R k53 53 wr w.heap.size (fun k_ => k_ ≠ gb156) (.slice (some ⟨go28, 0, none⟩) x162000_1.length co23) x162000_1 from u5_15))); (try (obtain ⟨ce36, hcl36, hM36, hcc36, hfr36⟩ := Kd.R_elem HX36.out z53 (x6_1 : Int) (of_decide_eq_true u5_6) (by have h_ : (x6_1 : Int) < ((x162000_1.length : Int) : Int) := of_decide_eq_true u5_6; first | exact h_ | (have e_ := (Kd.R_reads' HO_162000.out).1; omega) | simpa using h_))); (try (obtain rfl := k53_openM hM36)); (try (have HP36 := Kd.R_seg HX36.out (x6_1 : Int) (of_decide_eq_true u5_6) (by have h_ : (x6_1 : Int) < ((x162000_1.length : Int) : Int) := of_decide_eq_true u5_6; first | exact h_ | (have e_ := (Kd.R_reads' HO_162000.out).1; omega) | simpa using h_) (seg := [.int .u64 x157000_1, .int .u64 x157001_1, .int .u64 x157002_1, .int .u64 x157003_1, .int .i64 x157004_1]) (j := 0) hcl36 hcc36 (show 5 ≤ 5 from by decide) (x' := (⟨x157000_1, x157001_1, x157002_1, x157003_1, x157004_1⟩ : S53)) (k53_mkM _ _ _ (⟨x157000_1, x157001_1, x157002_1, x157003_1, x157004_1⟩ : S53) ) (fun _ hk => hk))); (try (have hx36_0 := hcc36 0 _ rfl)); (try (try simp only [show (k53).sz = 5 from rfl, Nat.mul_one, Nat.add_zero] at hx36_0)); (try (have hf36_0 := hfr36 0)); (try (try simp only [show (k53).sz = 5 from rfl, Nat.mul_one, Nat.add_zero] at hf36_0)); (try (have hx36_1 := hcc36 1 _ rfl)); (try (try simp only [show (k53).sz = 5 from rfl, Nat.mul_one, Nat.add_zero] at hx36_1)); (try (have hf36_1 := hfr36 1)); (try (try simp only [show (k53).sz = 5 from rfl, Nat.mul_one, Nat.add_zero] at hf36_1)); (try (have hx36_2 := hcc36 2 _ rfl)); (try (try simp only [show (k53).sz = 5 from rfl, Nat.mul_one, Nat.add_zero] at hx36_2)); (try (have hf36_2 := hfr36 2)); (try (try simp only [show (k53).sz = 5 from rfl, Nat.mul_one, Nat.add_zero] at hf36_2)); (try (have hx36_3 := hcc36 3 _ rfl)); (try (try simp only [show (k53).sz = 5 from rfl, Nat.mul_one, Nat.add_zero] at hx36_3)); (try (have hf36_3 := hfr36 3)); (try (try simp only [show (k53).sz = 5 from rfl, Nat.mul_one, Nat.add_zero] at hf36_3)); (try (have hx36_4 := hcc36 4 _ rfl)); (try (try simp only [show (k53).sz = 5 from rfl, Nat.mul_one, Nat.add_zero] at hx36_4)); (try (have hf36_4 := hfr36 4)); (try (try simp only [show (k53).sz = 5 from rfl, Nat.mul_one, Nat.add_zero] at hf36_4)); (try (clear hcl36 hcc36 hfr36 hM36)))); refine store_event (t := 53) (p := 29) (v := ?vo_w37) (w1 := (((((wr.setCell ⟨go28, (x6_1 : Int).toNat * 5, none⟩ (.int .u64 x157000_1)).setCell ⟨go28, (x6_1 : Int).toNat * 5 + 1, none⟩ (.int .u64 x157001_1)).setCell ⟨go28, (x6_1 : Int).toNat * 5 + 2, none⟩ (.int .u64 x157002_1)).setCell ⟨go28, (x6_1 : Int).toNat * 5 + 3, none⟩ (.int .u64 x157003_1)).setCell ⟨go28, (x6_1 : Int).toNat * 5 + 4, none⟩ (.int .i64 x157004_1))) ?hg ?ho ?hn ?hr ?_; (case ho => rfl); (case hg => rfl); (case hn => rfl); (case hr => first | (go_simp; done) | (go_simp; rfl)); intro w37 hw; have hg : wr.grownBy w37 (some go28) := (by rw [hw]; exact HP36.2); have hp_ : Kd.R k53 53 w37 w.heap.size (fun k_ => k_ ≠ gb156) (.slice (some ⟨go28, 0, none⟩) x162000_1.length co23) y163 := (by rw [hw, Ny163.out]; exact HP36.1); clear HP36; have n0_ := Aside0.mk (hp_); have n1_ := Aside0.mk (blk_grown (g := gb155) (o := .cells #[.slice A0_0 l0_0.length c0_0] 29 (0, 0)) u5_0 hg (Kd.R_ne HO_162000.out BK155.out (by decide))); have n2_ := Aside0.mk (blk_grown (g := gb156) (o := .cells #[.int .u64 x157000_1, .int .u64 x157001_1, .int .u64 x157002_1, .int .u64 x157003_1, .int .i64 x157004_1] 53 (0, 0)) u5_1 hg (Kd.R_away HO_162000.out (fun _ hk => hk))); have n3_ := Aside0.mk (blk_grown (g := gb157) (o := .cells #[.slice none 0 0] 29 (0, 0)) u5_7 hg (Kd.R_ne HO_162000.out BK157.out (by decide))); have n4_ := Aside0.mk (blk_grown (g := gb161) (o := .cells #[.slice (some ⟨go28, 0, none⟩) x162000_1.length co23] 29 (0, 0)) u5_19 hg (Kd.R_ne HO_162000.out BK161.out (by decide))); have n5_ := Aside0.mk ((by rw [hw]; exact below_set (below_set (below_set (below_set (below_set (HB.out) GB28.out) GB28.out) GB28.out) GB28.out) GB28.out : Below w.heap.size w w37)); clear HO_162000; clear BK155; clear BK156; clear BK157; clear BK161; clear HB; have HO_162000 := n0_; have BK155 := n1_; have BK156 := n2_; have BK157 := n3_; have BK161 := n4_; have HB := n5_; clear n0_ n1_ n2_ n3_ n4_ n5_; clear hg hw hp_)) | go_quiet (first | ((with_reducible refine gate_store (t := 53) (p := 29) rfl ?_); (try (rw [drewN_self wr]; generalize hq_ : World.drewN wr _ = wr; have n0_ := Aside0.mk (Kd.R_at hq_ HO_162000.out); have n1_ := Aside0.mk (blk_at hq_ BK155.out); have n2_ := Aside0.mk (blk_at hq_ BK156.out); have n3_ := Aside0.mk (blk_at hq_ BK157.out); have n4_ := Aside0.mk (blk_at hq_ BK161.out); have n5_ := Aside0.mk (below_at hq_ HB.out); clear hq_ HO_162000 BK155 BK156 BK157 BK161 HB; have HO_162000 := n0_; have BK155 := n1_; have BK156 := n2_; have BK157 := n3_; have BK161 := n4_; have HB := n5_; clear n0_ n1_ n2_ n3_ n4_ n5_; (try (have HX36 := Aside0.mk (show Kd.R k53 53 wr w.heap.size (fun k_ => k_ ≠ gb156) (.slice (some ⟨go28, 0, none⟩) x162000_1.length co23) x162000_1 from u5_15))); (try (obtain ⟨ce36, hcl36, hM36, hcc36, hfr36⟩ := Kd.R_elem HX36.out z53 (x6_1 : Int) (of_decide_eq_true u5_6) (by have h_ : (x6_1 : Int) < ((x162000_1.length : Int) : Int) := of_decide_eq_true u5_6; first | exact h_ | (have e_ := (Kd.R_reads' HO_162000.out).1; omega) | simpa using h_))); (try (obtain rfl := k53_openM hM36)); (try (have HP36 := Kd.R_seg HX36.out (x6_1 : Int) (of_decide_eq_true u5_6) (by have h_ : (x6_1 : Int) < ((x162000_1.length : Int) : Int) := of_decide_eq_true u5_6; first | exact h_ | (have e_ := (Kd.R_reads' HO_162000.out).1; omega) | simpa using h_) (seg := [.int .u64 x157000_1, .int .u64 x157001_1, .int .u64 x157002_1, .int .u64 x157003_1, .int .i64 x157004_1]) (j := 0) hcl36 hcc36 (show 5 ≤ 5 from by decide) (x' := (⟨x157000_1, x157001_1, x157002_1, x157003_1, x157004_1⟩ : S53)) (k53_mkM _ _ _ (⟨x157000_1, x157001_1, x157002_1, x157003_1, x157004_1⟩ : S53) ) (fun _ hk => hk))); (try (have hx36_0 := hcc36 0 _ rfl)); (try (try simp only [show (k53).sz = 5 from rfl, Nat.mul_one, Nat.add_zero] at hx36_0)); (try (have hf36_0 := hfr36 0)); (try (try simp only [show (k53).sz = 5 from rfl, Nat.mul_one, Nat.add_zero] at hf36_0)); (try (have hx36_1 := hcc36 1 _ rfl)); (try (try simp only [show (k53).sz = 5 from rfl, Nat.mul_one, Nat.add_zero] at hx36_1)); (try (have hf36_1 := hfr36 1)); (try (try simp only [show (k53).sz = 5 from rfl, Nat.mul_one, Nat.add_zero] at hf36_1)); (try (have hx36_2 := hcc36 2 _ rfl)); (try (try simp only [show (k53).sz = 5 from rfl, Nat.mul_one, Nat.add_zero] at hx36_2)); (try (have hf36_2 := hfr36 2)); (try (try simp only [show (k53).sz = 5 from rfl, Nat.mul_one, Nat.add_zero] at hf36_2)); (try (have hx36_3 := hcc36 3 _ rfl)); (try (try simp only [show (k53).sz = 5 from rfl, Nat.mul_one, Nat.add_zero] at hx36_3)); (try (have hf36_3 := hfr36 3)); (try (try simp only [show (k53).sz = 5 from rfl, Nat.mul_one, Nat.add_zero] at hf36_3)); (try (have hx36_4 := hcc36 4 _ rfl)); (try (try simp only [show (k53).sz = 5 from rfl, Nat.mul_one, Nat.add_zero] at hx36_4)); (try (have hf36_4 := hfr36 4)); (try (try simp only [show (k53).sz = 5 from rfl, Nat.mul_one, Nat.add_zero] at hf36_4)); (try (clear hcl36 hcc36 hfr36 hM36)))); refine store_event (t := 53) (p := 29) (v := ?vo_w37) (w1 := (((((wr.setCell ⟨go28, (x6_1 : Int).toNat * 5, none⟩ (.int .u64 x157000_1)).setCell ⟨go28, (x6_1 : Int).toNat * 5 + 1, none⟩ (.int .u64 x157001_1)).setCell ⟨go28, (x6_1 : Int).toNat * 5 + 2, none⟩ (.int .u64 x157002_1)).setCell ⟨go28, (x6_1 : Int).toNat * 5 + 3, none⟩ (.int .u64 x157003_1)).setCell ⟨go28, (x6_1 : Int).toNat * 5 + 4, none⟩ (.int .i64 x157004_1))) ?hg ?ho ?hn ?hr ?_; (case ho => rfl); (case hg => rfl); (case hn => rfl); (case hr => first | (go_simp; done) | (go_simp; rfl)); intro w37 hw; have hg : wr.grownBy w37 (some go28) := (by rw [hw]; exact HP36.2); have hp_ : Kd.R k53 53 w37 w.heap.size (fun k_ => k_ ≠ gb156) (.slice (some ⟨go28, 0, none⟩) x162000_1.length co23) y163 := (by rw [hw, Ny163.out]; exact HP36.1); clear HP36; have n0_ := Aside0.mk (hp_); have n1_ := Aside0.mk (blk_grown (g := gb155) (o := .cells #[.slice A0_0 l0_0.length c0_0] 29 (0, 0)) u5_0 hg (Kd.R_ne HO_162000.out BK155.out (by decide))); have n2_ := Aside0.mk (blk_grown (g := gb156) (o := .cells #[.int .u64 x157000_1, .int .u64 x157001_1, .int .u64 x157002_1, .int .u64 x157003_1, .int .i64 x157004_1] 53 (0, 0)) u5_1 hg (Kd.R_away HO_162000.out (fun _ hk => hk))); have n3_ := Aside0.mk (blk_grown (g := gb157) (o := .cells #[.slice none 0 0] 29 (0, 0)) u5_7 hg (Kd.R_ne HO_162000.out BK157.out (by decide))); have n4_ := Aside0.mk (blk_grown (g := gb161) (o := .cells #[.slice (some ⟨go28, 0, none⟩) x162000_1.length co23] 29 (0, 0)) u5_19 hg (Kd.R_ne HO_162000.out BK161.out (by decide))); have n5_ := Aside0.mk ((by rw [hw]; exact below_set (below_set (below_set (below_set (below_set (HB.out) GB28.out) GB28.out) GB28.out) GB28.out) GB28.out : Below w.heap.size w w37)); clear HO_162000; clear BK155; clear BK156; clear BK157; clear BK161; clear HB; have HO_162000 := n0_; have BK155 := n1_; have BK156 := n2_; have BK157 := n3_; have BK161 := n4_; have HB := n5_; clear n0_ n1_ n2_ n3_ n4_ n5_; clear hg hw hp_)))
    go_roundg k1
    case measure => have := HK1.out; omega
    case rel => exact ⟨(wrap64 (x6_1 + 1)), (x157000_1), (x157001_1), (x157002_1), (x157003_1), (x157004_1), (y163), (.slice (some ⟨go28, 0, none⟩) x162000_1.length co23), u5_20, H', ⟨by have := HK1.out; omega⟩, ⟨u5_15⟩, ⟨u5_0⟩, ⟨u5_1⟩, ⟨u5_7⟩, ⟨u5_19⟩, ⟨u5_10⟩⟩

end Go.Proofs.Ytdbfjakhkclggaa.QFnOpened
