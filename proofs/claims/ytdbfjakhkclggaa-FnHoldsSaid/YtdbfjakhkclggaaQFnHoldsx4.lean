-- Printed by the session's own program wip/prx.py.
import Derived.Test.YtdbfjakhkclggaaQFnHoldsx0
import Derived.Test.YtdbfjakhkclggaaQFnHoldsx3
namespace Go.Proofs.Ytdbfjakhkclggaa.QFnHolds
open Go.RowKit Go.Proofs.YtdbfjakhkclggaaW.PrintWords Go.Proofs.YtdbfjakhkclggaaW.PrintLast Go.Proofs.YtdbfjakhkclggaaW.PrintMore
attribute [local go_sem] max2_int min2_int max_two min_two max_three min_three max_four min_four Go.Proofs.Ytdbfjakhkclggaa.Set.isSome_setCell Go.Proofs.Ytdbfjakhkclggaa.Add.add64   -- for this text's walks alone
set_option linter.unusedVariables false
set_option linter.unusedSimpArgs false

-- squeezed
theorem u4_0 {P : Prop} (h : P := by (with_reducible repeat (first | refine blk_drewN ?_ _ | refine blk_drew ?_ | refine blk_alloc ?_ _)); exact BK126.out) : P := h
theorem u4_1 {P : Prop} (h : P := by (with_reducible repeat (first | refine blk_drewN ?_ _ | refine blk_drew ?_ | refine blk_alloc ?_ _)); exact BK127.out) : P := h
theorem u4_2 {P : Prop} (h : P := by repeat (first | (with_reducible first | exact HB.out | apply below_alloc | apply pw_below_drewN | apply below_drew1) | exact HB.out)) : P := h
theorem u4_3 {P : Prop} (h : P := by repeat (first | (with_reducible first | exact HB.out | apply below_alloc | apply pw_below_drewN | apply below_drew1 | refine below_set ?_ GE114.out | refine below_set ?_ GE115.out) | exact HB.out)) : P := h
theorem u4_4 {P : Prop} (h : P := by repeat (first | (with_reducible first | exact HB.out | apply below_alloc | apply pw_below_drewN | apply below_drew1 | refine below_set ?_ GE126.out | refine below_set ?_ GE127.out | refine below_set ?_ GE128.out) | exact HB.out)) : P := h
theorem u4_5 {P : Prop} (h : P := by (with_reducible repeat (first | refine blk_drewN ?_ _ | refine blk_drew ?_ | refine blk_alloc ?_ _)); refine blk_put (cs := #[.int .u64 0, .int .u64 0, .int .u64 0, .int .u64 0, .int .i64 0]) ?_ 4 _ rfl; (with_reducible repeat (first | refine blk_drewN ?_ _ | refine blk_drew ?_ | refine blk_alloc ?_ _)); refine blk_put (cs := #[.int .u64 0, .int .u64 0, .int .u64 0, .int .u64 0, .int .i64 0]) ?_ 3 _ rfl; (with_reducible repeat (first | refine blk_drewN ?_ _ | refine blk_drew ?_ | refine blk_alloc ?_ _)); refine blk_put (cs := #[.int .u64 0, .int .u64 0, .int .u64 0, .int .u64 0, .int .i64 0]) ?_ 2 _ rfl; (with_reducible repeat (first | refine blk_drewN ?_ _ | refine blk_drew ?_ | refine blk_alloc ?_ _)); refine blk_put (cs := #[.int .u64 0, .int .u64 0, .int .u64 0, .int .u64 0, .int .i64 0]) ?_ 1 _ rfl; (with_reducible repeat (first | refine blk_drewN ?_ _ | refine blk_drew ?_ | refine blk_alloc ?_ _)); refine blk_put (cs := #[.int .u64 0, .int .u64 0, .int .u64 0, .int .u64 0, .int .i64 0]) ?_ 0 _ rfl; (with_reducible repeat (first | refine blk_drewN ?_ _ | refine blk_drew ?_ | refine blk_alloc ?_ _)); exact BK115.out) : P := h
theorem u4_6 {P : Prop} (h : P := by first | (with_reducible assumption) | assumption) : P := h
theorem u4_7 {P : Prop} (h : P := by (with_reducible repeat (first | refine blk_drewN ?_ _ | refine blk_drew ?_ | refine blk_alloc ?_ _)); exact BK128.out) : P := h
theorem u4_8 {P : Prop} (h : P := by repeat (first | (with_reducible first | exact HB.out | apply below_alloc | apply pw_below_drewN | apply below_drew1 | refine below_set ?_ GE119.out | refine below_set ?_ GE120.out | refine below_set ?_ GE121.out) | exact HB.out)) : P := h
theorem u4_9 {P : Prop} (h : P := by (with_reducible repeat (first | refine blk_drewN ?_ _ | refine blk_drew ?_ | refine blk_alloc ?_ _)); exact BK114.out) : P := h
theorem u4_10 {P : Prop} (h : P := by repeat (first | (with_reducible first | exact HB.out | apply below_alloc | apply pw_below_drewN | apply below_drew1 | refine below_set ?_ GE126.out | refine below_set ?_ GE127.out | refine below_set ?_ GE128.out | refine below_set ?_ GE132.out) | exact HB.out)) : P := h
theorem u4_11 {P : Prop} (h : P := by repeat (first | exact (Kd.C_below HR0_0.out HB.out) | (with_reducible refine Kd.C_alloc ?_ _) | (with_reducible refine Kd.C_drewN ?_ _) | (with_reducible refine Kd.C_drew ?_))) : P := h
theorem u4_12 {P : Prop} (h : P := by (with_reducible repeat (first | refine blk_drewN ?_ _ | refine blk_drew ?_ | refine blk_alloc ?_ _)); exact BK119.out) : P := h
theorem u4_13 {P : Prop} (h : P := by repeat (first | (with_reducible first | exact HB.out | apply below_alloc | apply pw_below_drewN | apply below_drew1 | refine below_set ?_ GE112.out) | exact HB.out)) : P := h
theorem u4_14 {P : Prop} (h : P := by (with_reducible repeat (first | refine blk_drewN ?_ _ | refine blk_drew ?_ | refine blk_alloc ?_ _)); exact BK115.out) : P := h
theorem u4_15 {P : Prop} (h : P := by (with_reducible repeat (first | apply Kd.R_alloc | apply Kd.R_drewN | apply Kd.R_drew)); exact HO_133000.out) : P := h
theorem u4_16 {P : Prop} (h : P := by repeat (first | (with_reducible first | exact HB.out | apply below_alloc | apply pw_below_drewN | apply below_drew1 | refine below_set ?_ GE119.out | refine below_set ?_ GE120.out) | exact HB.out)) : P := h
theorem u4_17 {P : Prop} (h : P := by repeat (first | (with_reducible first | exact HB.out | apply below_alloc | apply pw_below_drewN | apply below_drew1 | refine below_set ?_ GE126.out | refine below_set ?_ GE127.out) | exact HB.out)) : P := h
theorem u4_18 {P : Prop} (h : P := by (with_reducible repeat (first | refine blk_drewN ?_ _ | refine blk_drew ?_ | refine blk_alloc ?_ _)); exact BK120.out) : P := h
theorem u4_19 {P : Prop} (h : P := by (with_reducible repeat (first | refine blk_drewN ?_ _ | refine blk_drew ?_ | refine blk_alloc ?_ _)); exact BK132.out) : P := h
theorem u4_20 {P : Prop} (h : P := by first | rfl | (simp; done) | (simp [*]; done)) : P := h
theorem u4_21 {P : Prop} (h : P := by repeat (first | (with_reducible first | exact HB.out | apply below_alloc | apply pw_below_drewN | apply below_drew1 | refine below_set ?_ GE114.out) | exact HB.out)) : P := h
theorem u4_22 {P : Prop} (h : P := by repeat (first | (with_reducible first | exact HB.out | apply below_alloc | apply pw_below_drewN | apply below_drew1 | refine below_set ?_ GE119.out) | exact HB.out)) : P := h
theorem u4_23 {P : Prop} (h : P := by repeat (first | (with_reducible first | exact HB.out | apply below_alloc | apply pw_below_drewN | apply below_drew1 | refine below_set ?_ GE126.out) | exact HB.out)) : P := h
theorem u4_24 {P : Prop} (h : P := by (try simp only [List.map_toArray, List.map_cons, List.map_nil]); first | done | rfl | (simp only [List.length_drop, List.length_take]; rfl)) : P := h
theorem u4_25 {P : Prop} (h : P := by (with_reducible repeat (first | refine blk_drewN ?_ _ | refine blk_drew ?_ | refine blk_alloc ?_ _)); refine blk_far ?_ NB119_121.out _; (with_reducible repeat (first | refine blk_drewN ?_ _ | refine blk_drew ?_ | refine blk_alloc ?_ _)); exact BK119.out) : P := h
theorem u4_26 {P : Prop} (h : P := by (with_reducible repeat (first | refine blk_drewN ?_ _ | refine blk_drew ?_ | refine blk_alloc ?_ _)); refine blk_far ?_ NB120_121.out _; (with_reducible repeat (first | refine blk_drewN ?_ _ | refine blk_drew ?_ | refine blk_alloc ?_ _)); exact BK120.out) : P := h
theorem u4_27 {P : Prop} (h : P := by (with_reducible repeat (first | refine blk_drewN ?_ _ | refine blk_drew ?_ | refine blk_alloc ?_ _)); exact BK112.out) : P := h
/-! ### spec_l10Find: function 68 -/
def spec_l10Find.l0 : Nat → Int → Int → List (S53) → Option (Int)
  | 0, _, _, _ => none
  | k + 1, x1, x5, x113000 => if x5 < (x113000.length : Int) then (if 0 ≤ x5 then (if ((rd_T53 x113000 x5).f0) = x1 then (some x5) else (spec_l10Find.l0 k x1 (wrap64 (x5 + 1)) x113000)) else (none)) else (some (-1))
def spec_l10Find.f (k : Nat) (l0_0 : List (S53)) (a1 : Int) : Option (Int) := spec_l10Find.l0 k a1 0 l0_0
theorem spec_l10Find.mono_l : ∀ k, (∀ y0 y1 y2, LeO (spec_l10Find.l0 k y0 y1 y2) (spec_l10Find.l0 (k + 1) y0 y1 y2))
  | 0 => fun _ _ _ r h => by simp [spec_l10Find.l0] at h
  | k + 1 => by
    have ih0 := spec_l10Find.mono_l k
    · intro y0 y1 y2
      unfold spec_l10Find.l0
      repeat' first
      | (with_reducible exact ih0 _ _ _)
      | (with_reducible exact LeO.refl _)
      | (with_reducible exact LeO.none _)
      | (with_reducible refine LeO.ite ?_ ?_)
      | (with_reducible refine LeO.bind ?_ (fun _ => ?_))
      | exact ih0 _ _ _
      | exact LeO.none _
      | refine LeO.ite ?_ ?_
      | refine LeO.bind ?_ (fun _ => ?_)
theorem spec_l10Find.mono : ∀ a0 a1 k, LeO (spec_l10Find.f k a0 a1) (spec_l10Find.f (k + 1) a0 a1) := by
  intro a0 a1 k
  have ih0 := spec_l10Find.mono_l k
  unfold spec_l10Find.f
  repeat' first
      | (with_reducible exact ih0 _ _ _)
      | (with_reducible exact LeO.refl _)
      | (with_reducible exact LeO.none _)
      | (with_reducible refine LeO.ite ?_ ?_)
      | (with_reducible refine LeO.bind ?_ (fun _ => ?_))
      | exact ih0 _ _ _
      | exact LeO.none _
      | refine LeO.ite ?_ ?_
      | refine LeO.bind ?_ (fun _ => ?_)
set_option maxHeartbeats 8000000 in
set_option maxRecDepth 100000 in
theorem spec_l10Find.calls (k : Nat) (A0_0 : Option Addr) (c0_0 : Nat) (l0_0 : List (S53)) (a1 : Int) (r : Int) (w : World) (hr0_0 : Kd.C k53 w A0_0 l0_0.length l0_0) (hc0_0 : l0_0.length ≤ c0_0) (h : spec_l10Find.f k l0_0 a1 = some r) :
    Calls Try.prog 68 #[.agg #[.slice A0_0 l0_0.length c0_0], .int .u64 a1] w fun e w' => e = .returned (.int .i64 r) ∧ Below w.heap.size w w' := by
  have hu29 := Try.underlying29
  have HR0_0 := Aside0.mk hr0_0
  have HC0_0 := Aside0.mk hc0_0
  clear hr0_0 hc0_0
  have HB := Aside0.mk (Below.refl w.heap.size w)
  have H : (spec_l10Find.l0 k a1 0 l0_0) = some r := h
  clear h
  have H' := Aside0.mk H
  clear H
  go_enter Try.func68, Try.ntmps68
  go_wp2_with (first | ((with_reducible refine gate_dst (N := 2) rfl ?_); refine box_event ?hg (N := 2) ?hd (cs := #[.slice A0_0 l0_0.length c0_0]) (t := 29) ?hr ?_; (case hd => rfl); (case hg => rfl); (case hr => first | (go_simp; done) | (go_simp; rfl)); intro gb112 hg w3 hbox hb; have n0_ := Aside0.mk (below_step u4_2 hb); have n1_ := Aside0.mk (hbox); have n2_ := Aside0.mk ((by rw [hg]; exact (below_size u4_2) : w.heap.size ≤ gb112)); have n3_ := Aside0.mk ((by rw [hg]; exact (below_size u4_2) : w.heap.size ≤ gb112)); clear HB; have HB := n0_; have BK112 := n1_; have GW112 := n2_; have GE112 := n3_; clear n0_ n1_ n2_ n3_; clear hb hbox hg))
  go_loopg [5] k (fun kq v5 w' => ∃ (x5_1 : Int), v5 = .int .i64 x5_1 ∧ Aside0 (spec_l10Find.l0 kq a1 x5_1 l0_0 = some r) ∧ Aside0 (kq ≤ k) ∧ Aside0 (w'.heap[gb112]? = some (.cells #[(.slice A0_0 l0_0.length c0_0)] 29 (0, 0))) ∧ Aside0 (Below w.heap.size w w'))
  case atStart => exact ⟨(0), u4_20, H', ⟨Nat.le_refl _⟩, ⟨u4_27⟩, ⟨u4_13⟩⟩
  clear H'
  try clear p2
  obtain ⟨x5_1, rfl, HA, HK1, BK112, HB⟩ := hrel
  cases gk with
  | zero => exact absurd HA.out (by simp [spec_l10Find.l0])
  | succ k1 =>
    have H := HA.out
    clear HA
    simp only [spec_l10Find.l0] at H
    by_cases c4 : x5_1 < (l0_0.length : Int)
    rotate_left
    · rw [if_neg c4] at H
      have c4b0 : decide (x5_1 < (l0_0.length : Int)) = false := decide_eq_false c4
      clear c4
      obtain rfl := Option.some.inj H
      have hcz8_0 : wr.cell? ⟨gb112, 0, none⟩ = some (.slice A0_0 l0_0.length c0_0) := (blk_cell BK112.out 0).trans rfl
      have hfz8_0 := blk_frozen BK112.out 0
      go_wp2
      go_ret
      exact ⟨by first | rfl | (simp [errW_none, errW_some] <;> rfl) | (simp [*, errW_none, errW_some] <;> rfl), u4_13⟩
    rw [if_pos c4] at H
    have c4b0 : decide (x5_1 < (l0_0.length : Int)) = true := decide_eq_true c4
    clear c4
    by_cases c5 : 0 ≤ x5_1
    rotate_left
    · rw [if_neg c5] at H
      exact absurd H (by simp)
    rw [if_pos c5] at H
    have c5b0 : decide (0 ≤ x5_1) = true := decide_eq_true c5
    clear c5
    have H9 := Aside0.mk H
    clear H
    have hcz6_0 : wr.cell? ⟨gb112, 0, none⟩ = some (.slice A0_0 l0_0.length c0_0) := (blk_cell BK112.out 0).trans rfl
    have hfz6_0 := blk_frozen BK112.out 0
    have p113 : 0 ≤ (x5_1 : Int) := of_decide_eq_true u4_6
    have q113 : x5_1 < (l0_0.length : Int) := of_decide_eq_true u4_6
    obtain ⟨ad113, e113, hx113_0, hx113_1, hx113_2, hx113_3, hx113_4⟩ := at_T53 HR0_0.out x5_1 p113 q113
    cases e113
    replace hx113_0 := (HB.out.cell (World.block_lt_of_cell? w _ hx113_0)).trans hx113_0
    replace hx113_1 := (HB.out.cell (World.block_lt_of_cell? w _ hx113_1)).trans hx113_1
    replace hx113_2 := (HB.out.cell (World.block_lt_of_cell? w _ hx113_2)).trans hx113_2
    replace hx113_3 := (HB.out.cell (World.block_lt_of_cell? w _ hx113_3)).trans hx113_3
    replace hx113_4 := (HB.out.cell (World.block_lt_of_cell? w _ hx113_4)).trans hx113_4
    replace p113 := eq_true p113
    replace q113 := eq_true q113
    go_upto_if 20 with (fail)
    have H := H9.out
    clear H9
    by_cases c7 : ((rd_T53 l0_0 x5_1).f0) = a1
    · rw [if_pos c7] at H
      have c7b0 : (((rd_T53 l0_0 x5_1).f0) == a1) = true := beq_iff_eq.mpr c7
      have c7b1 : (((rd_T53 l0_0 x5_1).f0) != a1) = false := bne_eq_false_iff_eq.mpr c7
      clear c7
      (first | rw [c7b0] | (simp only [i64_w, i32_w]; rw [c7b0]) | skip)
      obtain rfl := Option.some.inj H
      go_wp2
      go_ret
      exact ⟨by first | rfl | (simp [errW_none, errW_some] <;> rfl) | (simp [*, errW_none, errW_some] <;> rfl), u4_13⟩
    rw [if_neg c7] at H
    have c7b0 : (((rd_T53 l0_0 x5_1).f0) == a1) = false := beq_eq_false_iff_ne.mpr c7
    have c7b1 : (((rd_T53 l0_0 x5_1).f0) != a1) = true := bne_iff_ne.mpr c7
    (first | rw [c7b0] | (simp only [i64_w, i32_w]; rw [c7b0]) | skip)
    have H' := Aside0.mk H
    clear H
    go_wp2
    go_roundg k1
    case measure => have := HK1.out; omega
    case rel => exact ⟨(wrap64 (x5_1 + 1)), u4_20, H', ⟨by have := HK1.out; omega⟩, ⟨u4_27⟩, ⟨u4_13⟩⟩

/-! ### spec_l10Of: function 53 -/
def spec_l10Of.j0 : Nat → Int → Bool → List (S53) → Option (Int × Int × Int × Int × Int × Int)
  | 0, _, _, _ => none
  | k + 1, x1, x15, x115000 => if x15 = true then (some (0, 0, 0, 0, 0, 1)) else ((spec_l10Find.f k x115000 x1).bind fun t117 => (if t117 < 0 then (some (0, 0, 0, 0, 0, 2)) else (if 0 ≤ t117 then (if t117 < (x115000.length : Int) then (some ((rd_T53 x115000 t117).f0, (rd_T53 x115000 t117).f1, (rd_T53 x115000 t117).f2, (rd_T53 x115000 t117).f3, (rd_T53 x115000 t117).f4, 0)) else (none)) else (none))))
def spec_l10Of.f (k : Nat) (l0_0 : List (S53)) (a1 : Int) (a2 : Int) : Option (Int × Int × Int × Int × Int × Int) := (spec_BookOk.f k l0_0).bind fun t116 => (if t116 = true then (spec_l10Of.j0 k a1 (decide (a2 < 1)) l0_0) else (spec_l10Of.j0 k a1 true l0_0))
theorem spec_l10Of.mono_l : ∀ k, (∀ y0 y1 y2, LeO (spec_l10Of.j0 k y0 y1 y2) (spec_l10Of.j0 (k + 1) y0 y1 y2))
  | 0 => fun _ _ _ r h => by simp [spec_l10Of.j0] at h
  | k + 1 => by
    have ih0 := spec_l10Of.mono_l k
    · intro y0 y1 y2
      unfold spec_l10Of.j0
      repeat' first
      | (with_reducible exact ih0 _ _ _)
      | (with_reducible exact spec_BookOk.mono _ _)
      | (with_reducible exact spec_l10Find.mono _ _ _)
      | (with_reducible exact LeO.refl _)
      | (with_reducible exact LeO.none _)
      | (with_reducible refine LeO.ite ?_ ?_)
      | (with_reducible refine LeO.bind ?_ (fun _ => ?_))
      | exact ih0 _ _ _
      | exact spec_BookOk.mono _ _
      | exact spec_l10Find.mono _ _ _
      | exact LeO.none _
      | refine LeO.ite ?_ ?_
      | refine LeO.bind ?_ (fun _ => ?_)
theorem spec_l10Of.mono : ∀ a0 a1 a2 k, LeO (spec_l10Of.f k a0 a1 a2) (spec_l10Of.f (k + 1) a0 a1 a2) := by
  intro a0 a1 a2 k
  have ih0 := spec_l10Of.mono_l k
  unfold spec_l10Of.f
  repeat' first
      | (with_reducible exact ih0 _ _ _)
      | (with_reducible exact spec_BookOk.mono _ _)
      | (with_reducible exact spec_l10Find.mono _ _ _)
      | (with_reducible exact LeO.refl _)
      | (with_reducible exact LeO.none _)
      | (with_reducible refine LeO.ite ?_ ?_)
      | (with_reducible refine LeO.bind ?_ (fun _ => ?_))
      | exact ih0 _ _ _
      | exact spec_BookOk.mono _ _
      | exact spec_l10Find.mono _ _ _
      | exact LeO.none _
      | refine LeO.ite ?_ ?_
      | refine LeO.bind ?_ (fun _ => ?_)
set_option maxHeartbeats 8000000 in
set_option maxRecDepth 100000 in
theorem spec_l10Of.calls (k : Nat) (A0_0 : Option Addr) (c0_0 : Nat) (l0_0 : List (S53)) (a1 : Int) (a2 : Int) (r1 : Int) (r2 : Int) (r3 : Int) (r4 : Int) (r5 : Int) (r6 : Int) (w : World) (hr0_0 : Kd.C k53 w A0_0 l0_0.length l0_0) (hc0_0 : l0_0.length ≤ c0_0) (h : spec_l10Of.f k l0_0 a1 a2 = some (r1, r2, r3, r4, r5, r6)) :
    Calls Try.prog 53 #[.agg #[.slice A0_0 l0_0.length c0_0], .int .u64 a1, .int .i64 a2] w fun e w' => e = .returned (.tuple #[.agg #[.int .u64 r1, .int .u64 r2, .int .u64 r3, .int .u64 r4, .int .i64 r5], .int .i64 r6]) ∧ Below w.heap.size w w' := by
  have hu29 := Try.underlying29
  have hu53 := Try.underlying53
  have HR0_0 := Aside0.mk hr0_0
  have HC0_0 := Aside0.mk hc0_0
  clear hr0_0 hc0_0
  have HB := Aside0.mk (Below.refl w.heap.size w)
  have H : ((spec_BookOk.f k l0_0).bind fun t116 => (if t116 = true then (spec_l10Of.j0 k a1 (decide (a2 < 1)) l0_0) else (spec_l10Of.j0 k a1 true l0_0))) = some (r1, r2, r3, r4, r5, r6) := h
  clear h
  have HC4 := Aside0.mk H
  clear H
  go_enter Try.func53, Try.ntmps53
  go_upto_region 1 with (first | ((with_reducible refine gate_dst (N := 3) rfl ?_); refine box_event ?hg (N := 3) ?hd (cs := #[.slice A0_0 l0_0.length c0_0]) (t := 29) ?hr ?_; (case hd => rfl); (case hg => rfl); (case hr => first | (go_simp; done) | (go_simp; rfl)); intro gb114 hg w5 hbox hb; have n0_ := Aside0.mk (below_step u4_2 hb); have n1_ := Aside0.mk (hbox); have n2_ := Aside0.mk ((by rw [hg]; exact (below_size u4_2) : w.heap.size ≤ gb114)); have n3_ := Aside0.mk ((by rw [hg]; exact (below_size u4_2) : w.heap.size ≤ gb114)); clear HB; have HB := n0_; have BK114 := n1_; have GW114 := n2_; have GE114 := n3_; clear n0_ n1_ n2_ n3_; clear hb hbox hg) | ((with_reducible refine gate_dst (N := 6) rfl ?_); refine box_event ?hg (N := 6) ?hd (cs := #[.int .u64 0, .int .u64 0, .int .u64 0, .int .u64 0, .int .i64 0]) (t := 53) ?hr ?_; (case hd => rfl); (case hg => rfl); (case hr => first | (go_simp; done) | (go_simp; rfl)); intro gb115 hg w6 hbox hb; have n0_ := Aside0.mk (blk_below (g := gb114) (o := .cells #[.slice A0_0 l0_0.length c0_0] 29 (0, 0)) u4_9 hb); have n1_ := Aside0.mk (below_step u4_21 hb); have n2_ := Aside0.mk (hbox); have n3_ := Aside0.mk ((by rw [hg]; exact (below_size u4_21) : w.heap.size ≤ gb115)); have n4_ := Aside0.mk ((by rw [hg]; exact (below_size u4_21) : w.heap.size ≤ gb115)); have n5_ := Aside0.mk ((by rw [hg]; exact Nat.ne_of_lt (blk_lt (g := gb114) (o := .cells #[.slice A0_0 l0_0.length c0_0] 29 (0, 0)) u4_9) : gb114 ≠ gb115)); have n6_ := Aside0.mk ((by rw [hg]; exact Nat.ne_of_gt (blk_lt (g := gb114) (o := .cells #[.slice A0_0 l0_0.length c0_0] 29 (0, 0)) u4_9) : gb115 ≠ gb114)); clear BK114; clear HB; have BK114 := n0_; have HB := n1_; have BK115 := n2_; have GW115 := n3_; have GE115 := n4_; have NB114_115 := n5_; have NB115_114 := n6_; clear n0_ n1_ n2_ n3_ n4_ n5_ n6_; clear hb hbox hg))
  (try simp only [Act.put, List.setIfInBounds_toArray, List.set_cons_zero, List.set_cons_succ])
  go_cut [15] (fun v15 wc => ∃ (kq : Nat) (x15_3 : Bool), v15 = .bool x15_3 ∧ Aside0 (spec_l10Of.j0 kq a1 x15_3 l0_0 = some (r1, r2, r3, r4, r5, r6)) ∧ Aside0 (kq ≤ k) ∧ Aside0 (wc.heap[gb114]? = some (.cells #[(.slice A0_0 l0_0.length c0_0)] 29 (0, 0))) ∧ Aside0 (wc.heap[gb115]? = some (.cells #[.int .u64 0, .int .u64 0, .int .u64 0, .int .u64 0, .int .i64 0] 53 (0, 0))) ∧ Aside0 (Below w.heap.size w wc))
  case first =>
    have H := HC4.out
    clear HC4
    replace H := Option.bind_eq_some_iff.mp H
    obtain ⟨t116, A70, H⟩ := H
    have A7 := Aside0.mk A70
    clear A70
    by_cases c8 : t116 = true
    · subst c8
      rw [if_pos rfl] at H
      have H' := Aside0.mk H
      clear H
      have hnb9 := NB114_115.out
      have hnc9 := NB115_114.out
      have hcz10_0 : w6.cell? ⟨gb114, 0, none⟩ = some (.slice A0_0 l0_0.length c0_0) := (blk_cell BK114.out 0).trans rfl
      have hfz10_0 := blk_frozen BK114.out 0
      go_wp2_with (first | ((with_reducible refine gate_callee (f := 18) rfl ?_); refine goesL_ (some 10) rfl rfl Try.func18 (by kernel_rfl) rfl #[.agg #[.slice A0_0 l0_0.length c0_0]] rfl u4_24 ?_; (with_reducible refine (spec_BookOk.calls k _ _ l0_0 true _ ?side1 ?side2 A7.out).mono ?_); (case side1 => exact u4_11); (case side2 => exact HC0_0.out); rintro e w11 ⟨rfl, hb⟩; refine ⟨_, rfl, ?_⟩; have n0_ := Aside0.mk (blk_below (g := gb114) (o := .cells #[.slice A0_0 l0_0.length c0_0] 29 (0, 0)) u4_9 hb); have n1_ := Aside0.mk (blk_below (g := gb115) (o := .cells #[.int .u64 0, .int .u64 0, .int .u64 0, .int .u64 0, .int .i64 0] 53 (0, 0)) u4_14 hb); have n2_ := Aside0.mk (below_step u4_3 hb); clear BK114; clear BK115; clear HB; have BK114 := n0_; have BK115 := n1_; have HB := n2_; clear n0_ n1_ n2_; (try clear hb); (try clear hb2); (try clear hk); (try clear hi)))
      go_meet
      case rel => exact ⟨_, (decide (a2 < 1)), u4_20, H', ⟨by first | omega | exact Nat.le_refl _⟩, ⟨u4_9⟩, ⟨u4_14⟩, ⟨u4_3⟩⟩
    replace c8 := Bool.eq_false_iff.mpr c8
    subst c8
    rw [if_neg (show ¬ (false = true) by decide)] at H
    have H' := Aside0.mk H
    clear H
    have hnb12 := NB114_115.out
    have hnc12 := NB115_114.out
    have hcz13_0 : w6.cell? ⟨gb114, 0, none⟩ = some (.slice A0_0 l0_0.length c0_0) := (blk_cell BK114.out 0).trans rfl
    have hfz13_0 := blk_frozen BK114.out 0
    go_wp2_with (first | ((with_reducible refine gate_callee (f := 18) rfl ?_); refine goesL_ (some 10) rfl rfl Try.func18 (by kernel_rfl) rfl #[.agg #[.slice A0_0 l0_0.length c0_0]] rfl u4_24 ?_; (with_reducible refine (spec_BookOk.calls k _ _ l0_0 false _ ?side1 ?side2 A7.out).mono ?_); (case side1 => exact u4_11); (case side2 => exact HC0_0.out); rintro e w14 ⟨rfl, hb⟩; refine ⟨_, rfl, ?_⟩; have n0_ := Aside0.mk (blk_below (g := gb114) (o := .cells #[.slice A0_0 l0_0.length c0_0] 29 (0, 0)) u4_9 hb); have n1_ := Aside0.mk (blk_below (g := gb115) (o := .cells #[.int .u64 0, .int .u64 0, .int .u64 0, .int .u64 0, .int .i64 0] 53 (0, 0)) u4_14 hb); have n2_ := Aside0.mk (below_step u4_3 hb); clear BK114; clear BK115; clear HB; have BK114 := n0_; have BK115 := n1_; have HB := n2_; clear n0_ n1_ n2_; (try clear hb); (try clear hb2); (try clear hk); (try clear hi)))
    go_meet
    case rel => exact ⟨_, (true), u4_20, H', ⟨by first | omega | exact Nat.le_refl _⟩, ⟨u4_9⟩, ⟨u4_14⟩, ⟨u4_3⟩⟩
  clear HC4
  try clear c1
  try clear p2
  try clear c5
  try clear c8
  try clear c9
  try clear c12
  try clear hcz10_0
  try clear hcz13_0
  try clear hfz10_0
  try clear hfz13_0
  obtain ⟨kq, x15_3, rfl, HA, HJ3, BK114, BK115, HB⟩ := hcut
  cases kq with
  | zero => exact absurd HA.out (by simp [spec_l10Of.j0])
  | succ kj3 =>
    have H := HA.out
    clear HA
    simp only [spec_l10Of.j0] at H
    by_cases c15 : x15_3 = true
    · subst c15
      rw [if_pos rfl] at H
      simp only [Option.some.injEq, Prod.mk.injEq] at H
      obtain ⟨rfl, rfl, rfl, rfl, rfl, rfl⟩ := H
      have hnb16 := NB115_114.out
      have hnc16 := NB114_115.out
      have hcz17_0 : wc.cell? ⟨gb115, 0, none⟩ = some (.int .u64 0) := (blk_cell BK115.out 0).trans rfl
      have hcz17_1 : wc.cell? ⟨gb115, 1, none⟩ = some (.int .u64 0) := (blk_cell BK115.out 1).trans rfl
      have hcz17_2 : wc.cell? ⟨gb115, 2, none⟩ = some (.int .u64 0) := (blk_cell BK115.out 2).trans rfl
      have hcz17_3 : wc.cell? ⟨gb115, 3, none⟩ = some (.int .u64 0) := (blk_cell BK115.out 3).trans rfl
      have hcz17_4 : wc.cell? ⟨gb115, 4, none⟩ = some (.int .i64 0) := (blk_cell BK115.out 4).trans rfl
      have hfz17_0 := blk_frozen BK115.out 0
      have hfz17_1 := blk_frozen BK115.out 1
      have hfz17_2 := blk_frozen BK115.out 2
      have hfz17_3 := blk_frozen BK115.out 3
      have hfz17_4 := blk_frozen BK115.out 4
      go_wp2
      refine bodyPost_ret (results_ct rfl _ _ gb115 53 #[.int .u64 0, .int .u64 0, .int .u64 0, .int .u64 0, .int .i64 0] (0, 0) _ rfl u4_5 Try.underlying53 rfl (by kernel_rfl)) rfl ?_
      exact ⟨by first | rfl | (simp [errW_none, errW_some] <;> rfl) | (simp [*, errW_none, errW_some] <;> rfl), u4_3⟩
    replace c15 := Bool.eq_false_iff.mpr c15
    subst c15
    rw [if_neg (show ¬ (false = true) by decide)] at H
    replace H := Option.bind_eq_some_iff.mp H
    obtain ⟨t117, A180, H⟩ := H
    have A18 := Aside0.mk A180
    clear A180
    have H9 := Aside0.mk H
    clear H
    have hnb19 := NB114_115.out
    have hnc19 := NB115_114.out
    have hcz20_0 : wc.cell? ⟨gb114, 0, none⟩ = some (.slice A0_0 l0_0.length c0_0) := (blk_cell BK114.out 0).trans rfl
    have hfz20_0 := blk_frozen BK114.out 0
    go_upto_if 21 with (first | ((with_reducible refine gate_callee (f := 68) rfl ?_); refine goesL_ (some 19) rfl rfl Try.func68 (by kernel_rfl) rfl #[.agg #[.slice A0_0 l0_0.length c0_0], .int .u64 a1] rfl u4_24 ?_; (with_reducible refine (spec_l10Find.calls kj3 _ _ l0_0 a1 t117 _ ?side1 ?side2 A18.out).mono ?_); (case side1 => exact u4_11); (case side2 => exact HC0_0.out); rintro e w21 ⟨rfl, hb⟩; refine ⟨_, rfl, ?_⟩; have n0_ := Aside0.mk (blk_below (g := gb114) (o := .cells #[.slice A0_0 l0_0.length c0_0] 29 (0, 0)) u4_9 hb); have n1_ := Aside0.mk (blk_below (g := gb115) (o := .cells #[.int .u64 0, .int .u64 0, .int .u64 0, .int .u64 0, .int .i64 0] 53 (0, 0)) u4_14 hb); have n2_ := Aside0.mk (below_step u4_3 hb); clear BK114; clear BK115; clear HB; have BK114 := n0_; have BK115 := n1_; have HB := n2_; clear n0_ n1_ n2_; (try clear hb); (try clear hb2); (try clear hk); (try clear hi)))
    have H := H9.out
    clear H9
    by_cases c22 : t117 < 0
    · rw [if_pos c22] at H
      have c22b0 : decide (t117 < 0) = true := decide_eq_true c22
      clear c22
      (first | rw [c22b0] | (simp only [i64_w, i32_w]; rw [c22b0]) | skip)
      simp only [Option.some.injEq, Prod.mk.injEq] at H
      obtain ⟨rfl, rfl, rfl, rfl, rfl, rfl⟩ := H
      have hnb23 := NB115_114.out
      have hnc23 := NB114_115.out
      have hcz24_0 : w21.cell? ⟨gb115, 0, none⟩ = some (.int .u64 0) := (blk_cell BK115.out 0).trans rfl
      have hcz24_1 : w21.cell? ⟨gb115, 1, none⟩ = some (.int .u64 0) := (blk_cell BK115.out 1).trans rfl
      have hcz24_2 : w21.cell? ⟨gb115, 2, none⟩ = some (.int .u64 0) := (blk_cell BK115.out 2).trans rfl
      have hcz24_3 : w21.cell? ⟨gb115, 3, none⟩ = some (.int .u64 0) := (blk_cell BK115.out 3).trans rfl
      have hcz24_4 : w21.cell? ⟨gb115, 4, none⟩ = some (.int .i64 0) := (blk_cell BK115.out 4).trans rfl
      have hfz24_0 := blk_frozen BK115.out 0
      have hfz24_1 := blk_frozen BK115.out 1
      have hfz24_2 := blk_frozen BK115.out 2
      have hfz24_3 := blk_frozen BK115.out 3
      have hfz24_4 := blk_frozen BK115.out 4
      go_wp2
      refine bodyPost_ret (results_ct rfl _ _ gb115 53 #[.int .u64 0, .int .u64 0, .int .u64 0, .int .u64 0, .int .i64 0] (0, 0) _ rfl u4_5 Try.underlying53 rfl (by kernel_rfl)) rfl ?_
      exact ⟨by first | rfl | (simp [errW_none, errW_some] <;> rfl) | (simp [*, errW_none, errW_some] <;> rfl), u4_3⟩
    rw [if_neg c22] at H
    have c22b0 : decide (t117 < 0) = false := decide_eq_false c22
    clear c22
    (first | rw [c22b0] | (simp only [i64_w, i32_w]; rw [c22b0]) | skip)
    by_cases c25 : 0 ≤ t117
    rotate_left
    · rw [if_neg c25] at H
      exact absurd H (by simp)
    rw [if_pos c25] at H
    have c25b0 : decide (0 ≤ t117) = true := decide_eq_true c25
    clear c25
    by_cases c26 : t117 < (l0_0.length : Int)
    rotate_left
    · rw [if_neg c26] at H
      exact absurd H (by simp)
    rw [if_pos c26] at H
    have c26b0 : decide (t117 < (l0_0.length : Int)) = true := decide_eq_true c26
    clear c26
    simp only [Option.some.injEq, Prod.mk.injEq] at H
    obtain ⟨rfl, rfl, rfl, rfl, rfl, rfl⟩ := H
    have hnb27 := NB114_115.out
    have hnc27 := NB115_114.out
    have hcz28_0 : w21.cell? ⟨gb114, 0, none⟩ = some (.slice A0_0 l0_0.length c0_0) := (blk_cell BK114.out 0).trans rfl
    have hfz28_0 := blk_frozen BK114.out 0
    have p118 : 0 ≤ (t117 : Int) := of_decide_eq_true u4_6
    have q118 : t117 < (l0_0.length : Int) := of_decide_eq_true u4_6
    obtain ⟨ad118, e118, hx118_0, hx118_1, hx118_2, hx118_3, hx118_4⟩ := at_T53 HR0_0.out t117 p118 q118
    cases e118
    replace hx118_0 := (HB.out.cell (World.block_lt_of_cell? w _ hx118_0)).trans hx118_0
    replace hx118_1 := (HB.out.cell (World.block_lt_of_cell? w _ hx118_1)).trans hx118_1
    replace hx118_2 := (HB.out.cell (World.block_lt_of_cell? w _ hx118_2)).trans hx118_2
    replace hx118_3 := (HB.out.cell (World.block_lt_of_cell? w _ hx118_3)).trans hx118_3
    replace hx118_4 := (HB.out.cell (World.block_lt_of_cell? w _ hx118_4)).trans hx118_4
    replace p118 := eq_true p118
    replace q118 := eq_true q118
    have hcz29_0 : w21.cell? ⟨gb115, 0, none⟩ = some (.int .u64 0) := (blk_cell BK115.out 0).trans rfl
    have hcz29_1 : w21.cell? ⟨gb115, 1, none⟩ = some (.int .u64 0) := (blk_cell BK115.out 1).trans rfl
    have hcz29_2 : w21.cell? ⟨gb115, 2, none⟩ = some (.int .u64 0) := (blk_cell BK115.out 2).trans rfl
    have hcz29_3 : w21.cell? ⟨gb115, 3, none⟩ = some (.int .u64 0) := (blk_cell BK115.out 3).trans rfl
    have hcz29_4 : w21.cell? ⟨gb115, 4, none⟩ = some (.int .i64 0) := (blk_cell BK115.out 4).trans rfl
    have hfz29_0 := blk_frozen BK115.out 0
    have hfz29_1 := blk_frozen BK115.out 1
    have hfz29_2 := blk_frozen BK115.out 2
    have hfz29_3 := blk_frozen BK115.out 3
    have hfz29_4 := blk_frozen BK115.out 4
    go_wp2
    refine bodyPost_ret (results_ct rfl _ _ gb115 53 #[.int .u64 ((rd_T53 l0_0 t117).f0), .int .u64 ((rd_T53 l0_0 t117).f1), .int .u64 ((rd_T53 l0_0 t117).f2), .int .u64 ((rd_T53 l0_0 t117).f3), .int .i64 ((rd_T53 l0_0 t117).f4)] (0, 0) _ rfl (by (with_reducible repeat (first | refine blk_drewN ?_ _ | refine blk_drew ?_ | refine blk_alloc ?_ _)); refine blk_put (cs := #[.int .u64 ((rd_T53 l0_0 t117).f0), .int .u64 ((rd_T53 l0_0 t117).f1), .int .u64 ((rd_T53 l0_0 t117).f2), .int .u64 ((rd_T53 l0_0 t117).f3), .int .i64 0]) ?_ 4 _ rfl; (with_reducible repeat (first | refine blk_drewN ?_ _ | refine blk_drew ?_ | refine blk_alloc ?_ _)); refine blk_put (cs := #[.int .u64 ((rd_T53 l0_0 t117).f0), .int .u64 ((rd_T53 l0_0 t117).f1), .int .u64 ((rd_T53 l0_0 t117).f2), .int .u64 0, .int .i64 0]) ?_ 3 _ rfl; (with_reducible repeat (first | refine blk_drewN ?_ _ | refine blk_drew ?_ | refine blk_alloc ?_ _)); refine blk_put (cs := #[.int .u64 ((rd_T53 l0_0 t117).f0), .int .u64 ((rd_T53 l0_0 t117).f1), .int .u64 0, .int .u64 0, .int .i64 0]) ?_ 2 _ rfl; (with_reducible repeat (first | refine blk_drewN ?_ _ | refine blk_drew ?_ | refine blk_alloc ?_ _)); refine blk_put (cs := #[.int .u64 ((rd_T53 l0_0 t117).f0), .int .u64 0, .int .u64 0, .int .u64 0, .int .i64 0]) ?_ 1 _ rfl; (with_reducible repeat (first | refine blk_drewN ?_ _ | refine blk_drew ?_ | refine blk_alloc ?_ _)); refine blk_put (cs := #[.int .u64 0, .int .u64 0, .int .u64 0, .int .u64 0, .int .i64 0]) ?_ 0 _ rfl; (with_reducible repeat (first | refine blk_drewN ?_ _ | refine blk_drew ?_ | refine blk_alloc ?_ _)); exact BK115.out) Try.underlying53 rfl (by kernel_rfl)) rfl ?_
    exact ⟨by first | rfl | (simp [errW_none, errW_some] <;> rfl) | (simp [*, errW_none, errW_some] <;> rfl), u4_3⟩

/-! ### spec_l10Copy: function 54 -/
def spec_l10Copy.l0 : Nat → Int → List (S53) → List (S53) → Option ((List (S53)))
  | 0, _, _, _ => none
  | k + 1, x4, x120000, x122000 => if x4 < (x120000.length : Int) then (if 0 ≤ x4 then (if x122000.length < 3518437208883 then (spec_l10Copy.l0 k (wrap64 (x4 + 1)) x120000 (x122000 ++ [(⟨(rd_T53 x120000 x4).f0, (rd_T53 x120000 x4).f1, (rd_T53 x120000 x4).f2, (rd_T53 x120000 x4).f3, (rd_T53 x120000 x4).f4⟩ : S53)])) else (none)) else (none)) else (some x122000)
def spec_l10Copy.f (k : Nat) (l0_0 : List (S53)) : Option ((List (S53))) := spec_l10Copy.l0 k 0 l0_0 ([] : List (S53))
theorem spec_l10Copy.mono_l : ∀ k, (∀ y0 y1 y2, LeO (spec_l10Copy.l0 k y0 y1 y2) (spec_l10Copy.l0 (k + 1) y0 y1 y2))
  | 0 => fun _ _ _ r h => by simp [spec_l10Copy.l0] at h
  | k + 1 => by
    have ih0 := spec_l10Copy.mono_l k
    · intro y0 y1 y2
      unfold spec_l10Copy.l0
      repeat' first
      | (with_reducible exact ih0 _ _ _)
      | (with_reducible exact LeO.refl _)
      | (with_reducible exact LeO.none _)
      | (with_reducible refine LeO.ite ?_ ?_)
      | (with_reducible refine LeO.bind ?_ (fun _ => ?_))
      | exact ih0 _ _ _
      | exact LeO.none _
      | refine LeO.ite ?_ ?_
      | refine LeO.bind ?_ (fun _ => ?_)
theorem spec_l10Copy.mono : ∀ a0 k, LeO (spec_l10Copy.f k a0) (spec_l10Copy.f (k + 1) a0) := by
  intro a0 k
  have ih0 := spec_l10Copy.mono_l k
  unfold spec_l10Copy.f
  repeat' first
      | (with_reducible exact ih0 _ _ _)
      | (with_reducible exact LeO.refl _)
      | (with_reducible exact LeO.none _)
      | (with_reducible refine LeO.ite ?_ ?_)
      | (with_reducible refine LeO.bind ?_ (fun _ => ?_))
      | exact ih0 _ _ _
      | exact LeO.none _
      | refine LeO.ite ?_ ?_
      | refine LeO.bind ?_ (fun _ => ?_)
def spec_l10Copy.T5 : Bool × List (List Nat × List Nat) := (true, [([], []), ([0], [0]), ([], []), ([2], [2]), ([], []), ([3, 4], [3, 4]), ([5], [5]), ([6], [6]), ([1, 7], [1, 7]), ([0, 1, 2, 3, 4, 5, 6, 7, 8], []), ([9, 8, 8, 0, 1, 2, 3, 4, 5, 6, 7, 8], [8, 9])])
def spec_l10Copy.B5 : List Nat := [0, 1, 0, 4, 0, 28, 60, 124, 255, 511, 1023]
theorem spec_l10Copy.tab5 : rtab .any (opsOf Try.f54 5) = spec_l10Copy.T5 := by kernel_rfl
theorem spec_l10Copy.bits5 : waitsOk spec_l10Copy.T5.2 spec_l10Copy.B5 = true := by kernel_rfl
set_option maxHeartbeats 8000000 in
set_option maxRecDepth 100000 in
theorem spec_l10Copy.calls (k : Nat) (A0_0 : Option Addr) (c0_0 : Nat) (l0_0 : List (S53)) (r : List (S53)) (w : World) (hr0_0 : Kd.C k53 w A0_0 l0_0.length l0_0) (hc0_0 : l0_0.length ≤ c0_0) (h : spec_l10Copy.f k l0_0 = some r) :
    Calls Try.prog 54 #[.agg #[.slice A0_0 l0_0.length c0_0]] w fun e w' => ∃ v0_ : Value, e = .returned (.agg #[v0_]) ∧ Kd.R k53 53 w' w.heap.size (fun _ => True) v0_ r ∧ Below w.heap.size w w' := by
  have hu29 := Try.underlying29
  have hu53 := Try.underlying53
  have HR0_0 := Aside0.mk hr0_0
  have HC0_0 := Aside0.mk hc0_0
  clear hr0_0 hc0_0
  have HB := Aside0.mk (Below.refl w.heap.size w)
  have H : (spec_l10Copy.l0 k 0 l0_0 ([] : List (S53))) = some r := h
  clear h
  have H' := Aside0.mk H
  clear H
  go_enter Try.func54, Try.ntmps54
  go_wp2_with (first | ((with_reducible refine gate_dst (N := 1) rfl ?_); refine box_event ?hg (N := 1) ?hd (cs := #[.slice A0_0 l0_0.length c0_0]) (t := 29) ?hr ?_; (case hd => rfl); (case hg => rfl); (case hr => first | (go_simp; done) | (go_simp; rfl)); intro gb119 hg w2 hbox hb; have n0_ := Aside0.mk (below_step u4_2 hb); have n1_ := Aside0.mk (hbox); have n2_ := Aside0.mk ((by rw [hg]; exact (below_size u4_2) : w.heap.size ≤ gb119)); have n3_ := Aside0.mk ((by rw [hg]; exact (below_size u4_2) : w.heap.size ≤ gb119)); clear HB; have HB := n0_; have BK119 := n1_; have GW119 := n2_; have GE119 := n3_; clear n0_ n1_ n2_ n3_; clear hb hbox hg) | ((with_reducible refine gate_dst (N := 2) rfl ?_); refine box_event ?hg (N := 2) ?hd (cs := #[.slice none 0 0]) (t := 29) ?hr ?_; (case hd => rfl); (case hg => rfl); (case hr => first | (go_simp; done) | (go_simp; rfl)); intro gb120 hg w3 hbox hb; have n0_ := Aside0.mk (blk_below (g := gb119) (o := .cells #[.slice A0_0 l0_0.length c0_0] 29 (0, 0)) u4_12 hb); have n1_ := Aside0.mk (below_step u4_22 hb); have n2_ := Aside0.mk (hbox); have n3_ := Aside0.mk ((by rw [hg]; exact (below_size u4_22) : w.heap.size ≤ gb120)); have n4_ := Aside0.mk ((by rw [hg]; exact (below_size u4_22) : w.heap.size ≤ gb120)); have n5_ := Aside0.mk ((by rw [hg]; exact Nat.ne_of_lt (blk_lt (g := gb119) (o := .cells #[.slice A0_0 l0_0.length c0_0] 29 (0, 0)) u4_12) : gb119 ≠ gb120)); have n6_ := Aside0.mk ((by rw [hg]; exact Nat.ne_of_gt (blk_lt (g := gb119) (o := .cells #[.slice A0_0 l0_0.length c0_0] 29 (0, 0)) u4_12) : gb120 ≠ gb119)); clear BK119; clear HB; have BK119 := n0_; have HB := n1_; have BK120 := n2_; have GW120 := n3_; have GE120 := n4_; have NB119_120 := n5_; have NB120_119 := n6_; clear n0_ n1_ n2_ n3_ n4_ n5_ n6_; clear hb hbox hg) | ((with_reducible refine gate_dst (N := 3) rfl ?_); refine box_event ?hg (N := 3) ?hd (cs := #[.slice none 0 0]) (t := 29) ?hr ?_; (case hd => rfl); (case hg => rfl); (case hr => first | (go_simp; done) | (go_simp; rfl)); intro gb121 hg w4 hbox hb; have n0_ := Aside0.mk (blk_below (g := gb119) (o := .cells #[.slice A0_0 l0_0.length c0_0] 29 (0, 0)) u4_12 hb); have n1_ := Aside0.mk (blk_below (g := gb120) (o := .cells #[.slice none 0 0] 29 (0, 0)) u4_18 hb); have n2_ := Aside0.mk (below_step u4_16 hb); have n3_ := Aside0.mk (hbox); have n4_ := Aside0.mk ((by rw [hg]; exact (below_size u4_16) : w.heap.size ≤ gb121)); have n5_ := Aside0.mk ((by rw [hg]; exact (below_size u4_16) : w.heap.size ≤ gb121)); have n6_ := Aside0.mk ((by rw [hg]; exact Nat.ne_of_lt (blk_lt (g := gb119) (o := .cells #[.slice A0_0 l0_0.length c0_0] 29 (0, 0)) u4_12) : gb119 ≠ gb121)); have n7_ := Aside0.mk ((by rw [hg]; exact Nat.ne_of_gt (blk_lt (g := gb119) (o := .cells #[.slice A0_0 l0_0.length c0_0] 29 (0, 0)) u4_12) : gb121 ≠ gb119)); have n8_ := Aside0.mk ((by rw [hg]; exact Nat.ne_of_lt (blk_lt (g := gb120) (o := .cells #[.slice none 0 0] 29 (0, 0)) u4_18) : gb120 ≠ gb121)); have n9_ := Aside0.mk ((by rw [hg]; exact Nat.ne_of_gt (blk_lt (g := gb120) (o := .cells #[.slice none 0 0] 29 (0, 0)) u4_18) : gb121 ≠ gb120)); clear BK119; clear BK120; clear HB; have BK119 := n0_; have BK120 := n1_; have HB := n2_; have BK121 := n3_; have GW121 := n4_; have GE121 := n5_; have NB119_121 := n6_; have NB121_119 := n7_; have NB120_121 := n8_; have NB121_120 := n9_; clear n0_ n1_ n2_ n3_ n4_ n5_ n6_ n7_ n8_ n9_; clear hb hbox hg; have hnb5 := NB121_119.out; have hnc5 := NB119_121.out; have hnb6 := NB121_120.out; have hnc6 := NB120_121.out; have hcz7_0 : w4.cell? ⟨gb121, 0, none⟩ = some (.slice none 0 0) := (blk_cell BK121.out 0).trans rfl; have hfz7_0 := blk_frozen BK121.out 0))
  go_loopg [4] k (fun kq v4 w' => ∃ (x4_1 : Int) (x122000_1 : List (S53)) (u122000 : Value), v4 = .int .i64 x4_1 ∧ Aside0 (spec_l10Copy.l0 kq x4_1 l0_0 x122000_1 = some r) ∧ Aside0 (kq ≤ k) ∧ Aside0 (Kd.R k53 53 w' w.heap.size (fun _ => True) u122000 x122000_1) ∧ Aside0 (w'.heap[gb119]? = some (.cells #[(.slice A0_0 l0_0.length c0_0)] 29 (0, 0))) ∧ Aside0 (w'.heap[gb120]? = some (.cells #[(.slice none 0 0)] 29 (0, 0))) ∧ Aside0 (w'.heap[gb121]? = some (.cells #[u122000] 29 (0, 0))) ∧ Aside0 (Below w.heap.size w w'))
  case atStart => exact ⟨(0), (([] : List (S53))), (.slice none 0 0), u4_20, H', ⟨Nat.le_refl _⟩, ⟨(by first | exact Kd.R_nil _ _ _ _ _ | exact Kd.N_nil _ _ _ _ _ | exact Kd.V_nil _ _ _ _ _ | exact Kd.Q_nil _ _ _ _ _ | exact Kd.S_nil _ _ _ _ _)⟩, ⟨u4_25⟩, ⟨u4_26⟩, ⟨(by (with_reducible repeat (first | refine blk_drewN ?_ _ | refine blk_drew ?_ | refine blk_alloc ?_ _)); refine blk_put (cs := #[.slice none 0 0]) ?_ 0 _ rfl; (with_reducible repeat (first | refine blk_drewN ?_ _ | refine blk_drew ?_ | refine blk_alloc ?_ _)); exact BK121.out)⟩, ⟨u4_8⟩⟩
  clear H'
  try clear p2
  try clear c5
  try clear c6
  try clear hcz7_0
  try clear hfz7_0
  obtain ⟨x4_1, x122000_1, u122000, rfl, HA, HK1, HO_122000, BK119, BK120, BK121, HB⟩ := hrel
  cases gk with
  | zero => exact absurd HA.out (by simp [spec_l10Copy.l0])
  | succ k1 =>
    have H := HA.out
    clear HA
    simp only [spec_l10Copy.l0] at H
    by_cases c8 : x4_1 < (l0_0.length : Int)
    rotate_left
    · rw [if_neg c8] at H
      have c8b0 : decide (x4_1 < (l0_0.length : Int)) = false := decide_eq_false c8
      clear c8
      obtain rfl := Option.some.inj H
      have hnb18 := NB119_120.out
      have hnc18 := NB120_119.out
      have hnb19 := NB119_121.out
      have hnc19 := NB121_119.out
      have hcz20_0 : wr.cell? ⟨gb119, 0, none⟩ = some (.slice A0_0 l0_0.length c0_0) := (blk_cell BK119.out 0).trans rfl
      have hfz20_0 := blk_frozen BK119.out 0
      have hnb21 := NB121_120.out
      have hnc21 := NB120_121.out
      have hcz22_0 : wr.cell? ⟨gb121, 0, none⟩ = some (u122000) := (blk_cell BK121.out 0).trans rfl
      have hfz22_0 := blk_frozen BK121.out 0
      obtain ⟨Ao23, co23, eo23⟩ := Kd.R_slice HO_122000.out
      subst eo23
      have hcz24_0 : wr.cell? ⟨gb120, 0, none⟩ = some (.slice none 0 0) := (blk_cell BK120.out 0).trans rfl
      have hfz24_0 := blk_frozen BK120.out 0
      go_wp2
      refine bodyPost_ret (results_cell_row rfl _ _ gb120 29 #[.slice Ao23 x122000_1.length co23] (0, 0) _ rfl (by (with_reducible repeat (first | refine blk_drewN ?_ _ | refine blk_drew ?_ | refine blk_alloc ?_ _)); refine blk_put (cs := #[.slice none 0 0]) ?_ 0 _ rfl; (with_reducible repeat (first | refine blk_drewN ?_ _ | refine blk_drew ?_ | refine blk_alloc ?_ _)); exact BK120.out) Try.underlying29 rfl (by kernel_rfl)) rfl ?_
      exact ⟨_, by first | rfl | (simp [errW_none, errW_some] <;> rfl) | (simp [*, errW_none, errW_some] <;> rfl), (by (with_reducible repeat (first | apply Kd.R_alloc | apply Kd.R_drewN | apply Kd.R_drew)); exact Kd.R_mono (Kd.R_far (p := ⟨gb120, 0, none⟩) (Kd.R_types HO_122000.out BK120.out (by decide)) (fun _ hk => hk.2) (.slice Ao23 x122000_1.length co23)) (fun _ hk => trivial)), u4_8⟩
    rw [if_pos c8] at H
    have c8b0 : decide (x4_1 < (l0_0.length : Int)) = true := decide_eq_true c8
    clear c8
    by_cases c9 : 0 ≤ x4_1
    rotate_left
    · rw [if_neg c9] at H
      exact absurd H (by simp)
    rw [if_pos c9] at H
    have c9b0 : decide (0 ≤ x4_1) = true := decide_eq_true c9
    clear c9
    by_cases c10 : x122000_1.length < 3518437208883
    rotate_left
    · rw [if_neg c10] at H
      exact absurd H (by simp)
    rw [if_pos c10] at H
    have LMc10 := Aside0.mk c10
    clear c10
    obtain ⟨y123, hy123⟩ : ∃ y_ : List (S53), y_ = (x122000_1 ++ [(⟨(rd_T53 l0_0 x4_1).f0, (rd_T53 l0_0 x4_1).f1, (rd_T53 l0_0 x4_1).f2, (rd_T53 l0_0 x4_1).f3, (rd_T53 l0_0 x4_1).f4⟩ : S53)]) := ⟨_, rfl⟩
    replace H : (spec_l10Copy.l0 k1 (wrap64 (x4_1 + 1)) l0_0 y123) = some r := by first | (rw [hy123]; with_reducible exact H) | (have H2_ := (Option.bind_some _ _).symm.trans H; rw [hy123]; with_reducible exact H2_) | (have H2_ := (Option.bind_some _ _).symm.trans H; with_reducible exact H2_) | with_reducible exact H | (rw [hy123]; exact H) | exact H
    have Ny123 := Aside0.mk hy123
    clear hy123
    have H' := Aside0.mk H
    clear H
    have hnb11 := NB119_120.out
    have hnc11 := NB120_119.out
    have hnb12 := NB119_121.out
    have hnc12 := NB121_119.out
    have hcz13_0 : wr.cell? ⟨gb119, 0, none⟩ = some (.slice A0_0 l0_0.length c0_0) := (blk_cell BK119.out 0).trans rfl
    have hfz13_0 := blk_frozen BK119.out 0
    try go_wp2
    have n0_ := Aside0.mk (Kd.R_drew HO_122000.out)
    have n1_ := Aside0.mk (blk_drew BK119.out)
    have n2_ := Aside0.mk (blk_drew BK120.out)
    have n3_ := Aside0.mk (blk_drew BK121.out)
    have n4_ := Aside0.mk (below_drew1 HB.out)
    clear HO_122000
    clear BK119
    clear BK120
    clear BK121
    clear HB
    have HO_122000 := n0_
    have BK119 := n1_
    have BK120 := n2_
    have BK121 := n3_
    have HB := n4_
    clear n0_ n1_ n2_ n3_ n4_
    have p122 : 0 ≤ (x4_1 : Int) := of_decide_eq_true u4_6
    have q122 : x4_1 < (l0_0.length : Int) := of_decide_eq_true u4_6
    obtain ⟨ad122, e122, hx122_0, hx122_1, hx122_2, hx122_3, hx122_4⟩ := at_T53 HR0_0.out x4_1 p122 q122
    have hw122_4 := hx122_4
    have hw122_3 := hx122_3
    have hw122_2 := hx122_2
    have hw122_1 := hx122_1
    have hw122_0 := hx122_0
    cases e122
    replace hx122_0 := (HB.out.cell (World.block_lt_of_cell? w _ hx122_0)).trans hx122_0
    replace hx122_1 := (HB.out.cell (World.block_lt_of_cell? w _ hx122_1)).trans hx122_1
    replace hx122_2 := (HB.out.cell (World.block_lt_of_cell? w _ hx122_2)).trans hx122_2
    replace hx122_3 := (HB.out.cell (World.block_lt_of_cell? w _ hx122_3)).trans hx122_3
    replace hx122_4 := (HB.out.cell (World.block_lt_of_cell? w _ hx122_4)).trans hx122_4
    replace p122 := eq_true p122
    replace q122 := eq_true q122
    refine start_ (n := 11) (S := fun w' => w'.cell? ⟨gb121, 0, none⟩ = some (u122000) ∧ w'.cell? ⟨gb119, 0, none⟩ = some (.slice (some ad122) l0_0.length c0_0) ∧ w'.cell? (ad122.add ((x4_1).toNat * 5)) = some (.int .u64 ((rd_T53 l0_0 x4_1).f0)) ∧ w'.cell? ⟨(ad122.add ((x4_1).toNat * 5)).block, (ad122.add ((x4_1).toNat * 5)).off + 1, none⟩ = some (.int .u64 ((rd_T53 l0_0 x4_1).f1)) ∧ w'.cell? ⟨(ad122.add ((x4_1).toNat * 5)).block, (ad122.add ((x4_1).toNat * 5)).off + 2, none⟩ = some (.int .u64 ((rd_T53 l0_0 x4_1).f2)) ∧ w'.cell? ⟨(ad122.add ((x4_1).toNat * 5)).block, (ad122.add ((x4_1).toNat * 5)).off + 3, none⟩ = some (.int .u64 ((rd_T53 l0_0 x4_1).f3)) ∧ w'.cell? ⟨(ad122.add ((x4_1).toNat * 5)).block, (ad122.add ((x4_1).toNat * 5)).off + 4, none⟩ = some (.int .i64 ((rd_T53 l0_0 x4_1).f4))) (ds := [10]) #[false, false, false, false, false, false, false, false, false, false, false] (by kernel_rfl) rfl rfl ⟨(blk_cell BK121.out 0).trans rfl, (blk_cell BK119.out 0).trans rfl, ((HB.out.cell (World.block_lt_of_cell? w _ hw122_0)).trans hw122_0), ((HB.out.cell (World.block_lt_of_cell? w _ hw122_1)).trans hw122_1), ((HB.out.cell (World.block_lt_of_cell? w _ hw122_2)).trans hw122_2), ((HB.out.cell (World.block_lt_of_cell? w _ hw122_3)).trans hw122_3), ((HB.out.cell (World.block_lt_of_cell? w _ hw122_4)).trans hw122_4)⟩ (fun hHeld => ?_); refine with_tabW spec_l10Copy.tab5 spec_l10Copy.bits5 (fun HT_ HW_ => ?_)
    generalize wr.drew = w14 at HO_122000 BK119 BK120 BK121 HB hx122_0 hx122_1 hx122_2 hx122_3 hx122_4 hHeld ⊢
    refine pure_ (i := 0) (N := some 13) (v := ?_) (a' := ?_) #[true, false, false, false, false, false, false, false, false, false, false] rfl rfl (any_of HT_.out (by kernel_rfl)) (fun _ _ _ h => h) (Or.inl ⟨by rfl, ?_⟩) ?_ ?_
    rotate_left
    · intro w'
      go_simp
      with_reducible rfl
    rotate_left
    · simp only [Act.put, List.setIfInBounds_toArray, List.set_cons_zero, List.set_cons_succ, i64_w, i32_w]
      rfl
    refine pure_ (i := 2) (N := some 15) (v := ?_) (a' := ?_) #[true, false, true, false, false, false, false, false, false, false, false] rfl rfl (any_of HT_.out (by kernel_rfl)) (fun _ _ _ h => h) (Or.inl ⟨by rfl, ?_⟩) ?_ ?_
    rotate_left
    · intro w'
      go_simp
      with_reducible rfl
    rotate_left
    · simp only [Act.put, List.setIfInBounds_toArray, List.set_cons_zero, List.set_cons_succ, i64_w, i32_w]
      rfl
    refine pure_ (i := 4) (N := some 17) (v := ?_) (a' := ?_) #[true, false, true, false, true, false, false, false, false, false, false] rfl rfl (any_of HT_.out (by kernel_rfl)) (fun _ _ _ h => h) (Or.inl ⟨by rfl, ?_⟩) ?_ ?_
    rotate_left
    · intro w'
      go_simp
      with_reducible rfl
    rotate_left
    · simp only [Act.put, List.setIfInBounds_toArray, List.set_cons_zero, List.set_cons_succ, i64_w, i32_w]
      rfl
    refine take_ (i := 1) (N := some 14) (v := ?_) (a' := ?_) #[true, true, true, false, true, false, false, false, false, false, false] rfl rfl (take_ofW HT_.out HW_.out (by kernel_rfl)) (fun _ _ _ h => h) (Or.inl ⟨by rfl, ?_⟩) hHeld ?_ ?_
    rotate_left
    · rintro w' ⟨s0, s1, s2, s3, s4, s5, s6⟩
      go_simp
      with_reducible rfl
    rotate_left
    · simp only [Act.put, List.setIfInBounds_toArray, List.set_cons_zero, List.set_cons_succ, i64_w, i32_w]
      rfl
    refine take_ (i := 3) (N := some 16) (v := ?_) (a' := ?_) #[true, true, true, true, true, false, false, false, false, false, false] rfl rfl (take_ofW HT_.out HW_.out (by kernel_rfl)) (fun _ _ _ h => h) (Or.inl ⟨by rfl, ?_⟩) hHeld ?_ ?_
    rotate_left
    · rintro w' ⟨s0, s1, s2, s3, s4, s5, s6⟩
      go_simp
      with_reducible rfl
    rotate_left
    · simp only [Act.put, List.setIfInBounds_toArray, List.set_cons_zero, List.set_cons_succ, i64_w, i32_w]
      rfl
    refine pure_ (i := 5) (N := some 18) (v := ?_) (a' := ?_) #[true, true, true, true, true, true, false, false, false, false, false] rfl rfl (any_of HT_.out (by kernel_rfl)) (fun _ _ _ h => h) (Or.inl ⟨by rfl, ?_⟩) ?_ ?_
    rotate_left
    · intro w'
      go_simp
      with_reducible rfl
    rotate_left
    · simp only [Act.put, List.setIfInBounds_toArray, List.set_cons_zero, List.set_cons_succ, i64_w, i32_w]
      rfl
    refine take_ (i := 6) (N := some 19) (v := ?_) (a' := ?_) #[true, true, true, true, true, true, true, false, false, false, false] rfl rfl (take_ofW HT_.out HW_.out (by kernel_rfl)) (fun _ _ _ h => h) (Or.inl ⟨by rfl, ?_⟩) hHeld ?_ ?_
    rotate_left
    · rintro w' ⟨s0, s1, s2, s3, s4, s5, s6⟩
      go_simp
      with_reducible rfl
    rotate_left
    · simp only [Act.put, List.setIfInBounds_toArray, List.set_cons_zero, List.set_cons_succ, i64_w, i32_w]
      rfl
    refine one_ (i := 7) (N := some 20) #[true, true, true, true, true, true, true, true, false, false, false] rfl rfl (one_of HT_.out (by kernel_rfl)) (by decide) (fun K hK => ?_)
    refine value_ (w1 := ?_) (v := ?_) (by rfl) rfl ?_ ?_
    rotate_left 2
    · go_simp
      constructor
      · rfl
      rfl
    refine hK.out _ _ ⟨(blk_cell (blk_alloc BK121.out _) 0).trans rfl, (blk_cell (blk_alloc BK119.out _) 0).trans rfl, (World.cell?_alloc_lt _ _ _ (World.block_lt_of_cell? _ _ (((HB.out.cell (World.block_lt_of_cell? w _ hw122_0)).trans hw122_0)))).trans (((HB.out.cell (World.block_lt_of_cell? w _ hw122_0)).trans hw122_0)), (World.cell?_alloc_lt _ _ _ (World.block_lt_of_cell? _ _ (((HB.out.cell (World.block_lt_of_cell? w _ hw122_1)).trans hw122_1)))).trans (((HB.out.cell (World.block_lt_of_cell? w _ hw122_1)).trans hw122_1)), (World.cell?_alloc_lt _ _ _ (World.block_lt_of_cell? _ _ (((HB.out.cell (World.block_lt_of_cell? w _ hw122_2)).trans hw122_2)))).trans (((HB.out.cell (World.block_lt_of_cell? w _ hw122_2)).trans hw122_2)), (World.cell?_alloc_lt _ _ _ (World.block_lt_of_cell? _ _ (((HB.out.cell (World.block_lt_of_cell? w _ hw122_3)).trans hw122_3)))).trans (((HB.out.cell (World.block_lt_of_cell? w _ hw122_3)).trans hw122_3)), (World.cell?_alloc_lt _ _ _ (World.block_lt_of_cell? _ _ (((HB.out.cell (World.block_lt_of_cell? w _ hw122_4)).trans hw122_4)))).trans (((HB.out.cell (World.block_lt_of_cell? w _ hw122_4)).trans hw122_4))⟩ (fun hHeld => ?_)
    clear hK K
    refine norm_ (a' := ?_) ?_ ?_
    rotate_left
    · show Act.put _ (some 20) _ = _
      simp only [Act.put, List.setIfInBounds_toArray, List.set_cons_zero, List.set_cons_succ, i64_w, i32_w]
      rfl
    refine one_ (i := 8) (N := some 21) #[true, true, true, true, true, true, true, true, true, false, false] rfl rfl (one_of HT_.out (by kernel_rfl)) (by decide) (fun K hK => ?_)
    refine Kd.R_append_step k53 (w0 := w) w.heap.size (by rfl) (.tmp 14) (.tmp 20) 27 53 (.agg #[(.int .u64 0), (.int .u64 0), (.int .u64 0), (.int .u64 0), (.int .i64 0)]) 40 rfl Try.underlying27 info53 rfl (by decide) (by omega) u122000 x122000_1 (⟨(rd_T53 l0_0 x4_1).f0, (rd_T53 l0_0 x4_1).f1, (rd_T53 l0_0 x4_1).f2, (rd_T53 l0_0 x4_1).f3, (rd_T53 l0_0 x4_1).f4⟩ : S53) [.int .u64 ((rd_T53 l0_0 x4_1).f0), .int .u64 ((rd_T53 l0_0 x4_1).f1), .int .u64 ((rd_T53 l0_0 x4_1).f2), .int .u64 ((rd_T53 l0_0 x4_1).f3), .int .i64 ((rd_T53 l0_0 x4_1).f4)] (fun _ => True) (fun _ => False) rfl rfl ?aP (fun _ hk => hk.elim) ?aF ?aO ?aB ?aS ?aL ?_
    (case aP => exact k53_mkM _ _ _ (⟨(rd_T53 l0_0 x4_1).f0, (rd_T53 l0_0 x4_1).f1, (rd_T53 l0_0 x4_1).f2, (rd_T53 l0_0 x4_1).f3, (rd_T53 l0_0 x4_1).f4⟩ : S53))
    (case aB => exact u4_8)
    (case aF => exact (fun _ _ => trivial))
    (case aO => exact (by (with_reducible repeat (first | apply Kd.R_alloc | apply Kd.R_drewN | apply Kd.R_drew)); exact HO_122000.out))
    (case aS => exact (below_size u4_8))
    (case aL => have := LMc10.out; omega)
    intro v124 w15 ho hb hg hat
    rw [← Ny123.out] at ho
    have n0_ := Aside0.mk (blk_grown (g := gb119) (o := .cells #[.slice (some ad122) l0_0.length c0_0] 29 (0, 0)) u4_12 hg (Kd.R_ne HO_122000.out BK119.out (by decide)))
    have n1_ := Aside0.mk (blk_grown (g := gb120) (o := .cells #[.slice none 0 0] 29 (0, 0)) u4_18 hg (Kd.R_ne HO_122000.out BK120.out (by decide)))
    have n2_ := Aside0.mk (blk_grown (g := gb121) (o := .cells #[u122000] 29 (0, 0)) (by (with_reducible repeat (first | refine blk_drewN ?_ _ | refine blk_drew ?_ | refine blk_alloc ?_ _)); exact BK121.out) hg (Kd.R_ne HO_122000.out BK121.out (by decide)))
    have n3_ := Aside0.mk (hb)
    have n4_ := Aside0.mk (ho)
    clear BK119
    clear BK120
    clear BK121
    clear HB
    clear HO_122000
    have BK119 := n0_
    have BK120 := n1_
    have BK121 := n2_
    have HB := n3_
    have HO125 := n4_
    clear n0_ n1_ n2_ n3_ n4_
    clear ho hb hg hat
    obtain ⟨Ao16, co16, eo16⟩ := Kd.R_slice HO125.out
    (first | subst eo16 | (injection eo16 with f1_ f2_ f3_; have f4_ := f1_.symm; have f5_ := f3_.symm; clear f1_ f2_ f3_; subst f4_; subst f5_))
    refine hK.out _ _ ⟨(blk_cell BK121.out 0).trans rfl, (blk_cell BK119.out 0).trans rfl, ((HB.out.cell (World.block_lt_of_cell? w _ hw122_0)).trans hw122_0), ((HB.out.cell (World.block_lt_of_cell? w _ hw122_1)).trans hw122_1), ((HB.out.cell (World.block_lt_of_cell? w _ hw122_2)).trans hw122_2), ((HB.out.cell (World.block_lt_of_cell? w _ hw122_3)).trans hw122_3), ((HB.out.cell (World.block_lt_of_cell? w _ hw122_4)).trans hw122_4)⟩ (fun hHeld => ?_)
    clear hK K
    refine norm_ (a' := ?_) ?_ ?_
    rotate_left
    · show Act.put _ (some 21) _ = _
      simp only [Act.put, List.setIfInBounds_toArray, List.set_cons_zero, List.set_cons_succ, i64_w, i32_w]
      rfl
    refine pure_ (i := 9) (N := some 22) (v := ?_) (a' := ?_) #[true, true, true, true, true, true, true, true, true, true, false] rfl rfl (any_of HT_.out (by kernel_rfl)) (fun _ _ _ h => h) (Or.inl ⟨by rfl, ?_⟩) ?_ ?_
    rotate_left
    · intro w'
      go_simp
      with_reducible rfl
    rotate_left
    · simp only [Act.put, List.setIfInBounds_toArray, List.set_cons_zero, List.set_cons_succ, i64_w, i32_w]
      rfl
    refine last_ (i := 10) (N := none) #[true, true, true, true, true, true, true, true, true, true, true] rfl rfl (one_of HT_.out (by kernel_rfl)) (by decide) (fun K hK => ?_)
    have hs17 : w15.cell? ⟨gb121, 0, none⟩ = some (u122000) := (blk_cell BK121.out 0).trans rfl
    have hfs17 := blk_frozen BK121.out 0
    have hns17_0 := NB119_121.out
    have hns17_1 := NB120_121.out
    have hms17_0 := NB121_119.out
    have hms17_1 := NB121_120.out
    refine skip_ (w1 := ?_) (by rfl) rfl ?_ ?_
    rotate_left
    · go_simp
      rfl
    refine hK.out _ _ ?_
    clear hK K
    refine done_ (done_of HT_.out (by kernel_rfl)) ?_
    try go_wp2
    go_roundg k1
    case measure => have := HK1.out; omega
    case rel => exact ⟨(wrap64 (x4_1 + 1)), (y123), (.slice Ao16 y123.length co16), u4_20, H', ⟨by have := HK1.out; omega⟩, ⟨(by (with_reducible repeat (first | apply Kd.R_alloc | apply Kd.R_drewN | apply Kd.R_drew)); exact Kd.R_mono (Kd.R_far (p := ⟨gb121, 0, none⟩) (Kd.R_types HO125.out BK121.out (by decide)) (fun _ hk => hk.2) (.slice Ao16 y123.length co16)) (fun _ hk => trivial))⟩, ⟨u4_25⟩, ⟨u4_26⟩, ⟨(by (with_reducible repeat (first | refine blk_drewN ?_ _ | refine blk_drew ?_ | refine blk_alloc ?_ _)); refine blk_put (cs := #[u122000]) ?_ 0 _ rfl; (with_reducible repeat (first | refine blk_drewN ?_ _ | refine blk_drew ?_ | refine blk_alloc ?_ _)); exact BK121.out)⟩, ⟨u4_8⟩⟩

/-! ### spec_l10With: function 55 -/
def spec_l10With.l0 : Nat → Int → Int → Int → Int → Int → Int → List (S53) → Option ((List (S53)))
  | 0, _, _, _, _, _, _, _ => none
  | k + 1, x6, x128000, x128001, x128002, x128003, x128004, x133000 => if x6 < (x133000.length : Int) then (if 0 ≤ x6 then (if ((rd_T53 x133000 x6).f0) = x128000 then (spec_l10With.l0 k (wrap64 (x6 + 1)) x128000 x128001 x128002 x128003 x128004 (x133000.set (x6 : Int).toNat (⟨x128000, x128001, x128002, x128003, x128004⟩ : S53))) else (spec_l10With.l0 k (wrap64 (x6 + 1)) x128000 x128001 x128002 x128003 x128004 x133000)) else (none)) else (some x133000)
def spec_l10With.f (k : Nat) (l0_0 : List (S53)) (a1_0 : Int) (a1_1 : Int) (a1_2 : Int) (a1_3 : Int) (a1_4 : Int) : Option ((List (S53))) := (spec_l10Copy.f k l0_0).bind fun t129 => (spec_l10With.l0 k 0 a1_0 a1_1 a1_2 a1_3 a1_4 t129)
theorem spec_l10With.mono_l : ∀ k, (∀ y0 y1 y2 y3 y4 y5 y6, LeO (spec_l10With.l0 k y0 y1 y2 y3 y4 y5 y6) (spec_l10With.l0 (k + 1) y0 y1 y2 y3 y4 y5 y6))
  | 0 => fun _ _ _ _ _ _ _ r h => by simp [spec_l10With.l0] at h
  | k + 1 => by
    have ih0 := spec_l10With.mono_l k
    · intro y0 y1 y2 y3 y4 y5 y6
      unfold spec_l10With.l0
      repeat' first
      | (with_reducible exact ih0 _ _ _ _ _ _ _)
      | (with_reducible exact spec_l10Copy.mono _ _)
      | (with_reducible exact LeO.refl _)
      | (with_reducible exact LeO.none _)
      | (with_reducible refine LeO.ite ?_ ?_)
      | (with_reducible refine LeO.bind ?_ (fun _ => ?_))
      | exact ih0 _ _ _ _ _ _ _
      | exact spec_l10Copy.mono _ _
      | exact LeO.none _
      | refine LeO.ite ?_ ?_
      | refine LeO.bind ?_ (fun _ => ?_)
theorem spec_l10With.mono : ∀ a0 a1 a2 a3 a4 a5 k, LeO (spec_l10With.f k a0 a1 a2 a3 a4 a5) (spec_l10With.f (k + 1) a0 a1 a2 a3 a4 a5) := by
  intro a0 a1 a2 a3 a4 a5 k
  have ih0 := spec_l10With.mono_l k
  unfold spec_l10With.f
  repeat' first
      | (with_reducible exact ih0 _ _ _ _ _ _ _)
      | (with_reducible exact spec_l10Copy.mono _ _)
      | (with_reducible exact LeO.refl _)
      | (with_reducible exact LeO.none _)
      | (with_reducible refine LeO.ite ?_ ?_)
      | (with_reducible refine LeO.bind ?_ (fun _ => ?_))
      | exact ih0 _ _ _ _ _ _ _
      | exact spec_l10Copy.mono _ _
      | exact LeO.none _
      | refine LeO.ite ?_ ?_
      | refine LeO.bind ?_ (fun _ => ?_)
set_option maxHeartbeats 8000000 in
set_option maxRecDepth 100000 in
theorem spec_l10With.calls (k : Nat) (A0_0 : Option Addr) (c0_0 : Nat) (l0_0 : List (S53)) (a1_0 : Int) (a1_1 : Int) (a1_2 : Int) (a1_3 : Int) (a1_4 : Int) (r : List (S53)) (w : World) (hr0_0 : Kd.C k53 w A0_0 l0_0.length l0_0) (hc0_0 : l0_0.length ≤ c0_0) (h : spec_l10With.f k l0_0 a1_0 a1_1 a1_2 a1_3 a1_4 = some r) :
    Calls Try.prog 55 #[.agg #[.slice A0_0 l0_0.length c0_0], .agg #[.int .u64 a1_0, .int .u64 a1_1, .int .u64 a1_2, .int .u64 a1_3, .int .i64 a1_4]] w fun e w' => ∃ v0_ : Value, e = .returned (.agg #[v0_]) ∧ Kd.R k53 53 w' w.heap.size (fun _ => True) v0_ r ∧ Below w.heap.size w w' := by
  have hu29 := Try.underlying29
  have hu53 := Try.underlying53
  have HR0_0 := Aside0.mk hr0_0
  have HC0_0 := Aside0.mk hc0_0
  clear hr0_0 hc0_0
  have HB := Aside0.mk (Below.refl w.heap.size w)
  have H : ((spec_l10Copy.f k l0_0).bind fun t129 => (spec_l10With.l0 k 0 a1_0 a1_1 a1_2 a1_3 a1_4 t129)) = some r := h
  clear h
  replace H := Option.bind_eq_some_iff.mp H
  obtain ⟨t129, A30, H⟩ := H
  replace H : (spec_l10With.l0 k 0 a1_0 a1_1 a1_2 a1_3 a1_4 t129) = some r := H
  have A3 := Aside0.mk A30
  clear A30
  have H' := Aside0.mk H
  clear H
  go_enter Try.func55, Try.ntmps55
  go_wp2_with (first | (first | ((with_reducible refine gate_dst (N := 2) rfl ?_); refine box_event ?hg (N := 2) ?hd (cs := #[.slice A0_0 l0_0.length c0_0]) (t := 29) ?hr ?_; (case hd => rfl); (case hg => rfl); (case hr => first | (go_simp; done) | (go_simp; rfl)); intro gb126 hg w4 hbox hb; have n0_ := Aside0.mk (below_step u4_2 hb); have n1_ := Aside0.mk (hbox); have n2_ := Aside0.mk ((by rw [hg]; exact (below_size u4_2) : w.heap.size ≤ gb126)); have n3_ := Aside0.mk ((by rw [hg]; exact (below_size u4_2) : w.heap.size ≤ gb126)); clear HB; have HB := n0_; have BK126 := n1_; have GW126 := n2_; have GE126 := n3_; clear n0_ n1_ n2_ n3_; clear hb hbox hg) | ((with_reducible refine gate_dst (N := 3) rfl ?_); refine box_event ?hg (N := 3) ?hd (cs := #[.int .u64 a1_0, .int .u64 a1_1, .int .u64 a1_2, .int .u64 a1_3, .int .i64 a1_4]) (t := 53) ?hr ?_; (case hd => rfl); (case hg => rfl); (case hr => first | (go_simp; done) | (go_simp; rfl)); intro gb127 hg w5 hbox hb; have n0_ := Aside0.mk (blk_below (g := gb126) (o := .cells #[.slice A0_0 l0_0.length c0_0] 29 (0, 0)) u4_0 hb); have n1_ := Aside0.mk (below_step u4_23 hb); have n2_ := Aside0.mk (hbox); have n3_ := Aside0.mk ((by rw [hg]; exact (below_size u4_23) : w.heap.size ≤ gb127)); have n4_ := Aside0.mk ((by rw [hg]; exact (below_size u4_23) : w.heap.size ≤ gb127)); have n5_ := Aside0.mk ((by rw [hg]; exact Nat.ne_of_lt (blk_lt (g := gb126) (o := .cells #[.slice A0_0 l0_0.length c0_0] 29 (0, 0)) u4_0) : gb126 ≠ gb127)); have n6_ := Aside0.mk ((by rw [hg]; exact Nat.ne_of_gt (blk_lt (g := gb126) (o := .cells #[.slice A0_0 l0_0.length c0_0] 29 (0, 0)) u4_0) : gb127 ≠ gb126)); clear BK126; clear HB; have BK126 := n0_; have HB := n1_; have BK127 := n2_; have GW127 := n3_; have GE127 := n4_; have NB126_127 := n5_; have NB127_126 := n6_; clear n0_ n1_ n2_ n3_ n4_ n5_ n6_; clear hb hbox hg) | ((with_reducible refine gate_dst (N := 4) rfl ?_); refine box_event ?hg (N := 4) ?hd (cs := #[.slice none 0 0]) (t := 29) ?hr ?_; (case hd => rfl); (case hg => rfl); (case hr => first | (go_simp; done) | (go_simp; rfl)); intro gb128 hg w6 hbox hb; have n0_ := Aside0.mk (blk_below (g := gb126) (o := .cells #[.slice A0_0 l0_0.length c0_0] 29 (0, 0)) u4_0 hb); have n1_ := Aside0.mk (blk_below (g := gb127) (o := .cells #[.int .u64 a1_0, .int .u64 a1_1, .int .u64 a1_2, .int .u64 a1_3, .int .i64 a1_4] 53 (0, 0)) u4_1 hb); have n2_ := Aside0.mk (below_step u4_17 hb); have n3_ := Aside0.mk (hbox); have n4_ := Aside0.mk ((by rw [hg]; exact (below_size u4_17) : w.heap.size ≤ gb128)); have n5_ := Aside0.mk ((by rw [hg]; exact (below_size u4_17) : w.heap.size ≤ gb128)); have n6_ := Aside0.mk ((by rw [hg]; exact Nat.ne_of_lt (blk_lt (g := gb126) (o := .cells #[.slice A0_0 l0_0.length c0_0] 29 (0, 0)) u4_0) : gb126 ≠ gb128)); have n7_ := Aside0.mk ((by rw [hg]; exact Nat.ne_of_gt (blk_lt (g := gb126) (o := .cells #[.slice A0_0 l0_0.length c0_0] 29 (0, 0)) u4_0) : gb128 ≠ gb126)); have n8_ := Aside0.mk ((by rw [hg]; exact Nat.ne_of_lt (blk_lt (g := gb127) (o := .cells #[.int .u64 a1_0, .int .u64 a1_1, .int .u64 a1_2, .int .u64 a1_3, .int .i64 a1_4] 53 (0, 0)) u4_1) : gb127 ≠ gb128)); have n9_ := Aside0.mk ((by rw [hg]; exact Nat.ne_of_gt (blk_lt (g := gb127) (o := .cells #[.int .u64 a1_0, .int .u64 a1_1, .int .u64 a1_2, .int .u64 a1_3, .int .i64 a1_4] 53 (0, 0)) u4_1) : gb128 ≠ gb127)); clear BK126; clear BK127; clear HB; have BK126 := n0_; have BK127 := n1_; have HB := n2_; have BK128 := n3_; have GW128 := n4_; have GE128 := n5_; have NB126_128 := n6_; have NB128_126 := n7_; have NB127_128 := n8_; have NB128_127 := n9_; clear n0_ n1_ n2_ n3_ n4_ n5_ n6_ n7_ n8_ n9_; clear hb hbox hg; have hnb7 := NB126_127.out; have hnc7 := NB127_126.out; have hnb8 := NB126_128.out; have hnc8 := NB128_126.out; have hcz9_0 : w6.cell? ⟨gb126, 0, none⟩ = some (.slice A0_0 l0_0.length c0_0) := (blk_cell BK126.out 0).trans rfl; have hfz9_0 := blk_frozen BK126.out 0) | (go_at_call 54; (with_reducible refine (spec_l10Copy.calls k _ _ l0_0 t129 _ ?side1 ?side2 A3.out).mono ?_); (case side1 => exact u4_11); (case side2 => exact HC0_0.out); rintro e w10 ⟨v130, rfl, ho0, hb⟩; have n0_ := Aside0.mk (Kd.R_lower (Kd.R_newB ho0 (g := gb127) (o := .cells #[.int .u64 a1_0, .int .u64 a1_1, .int .u64 a1_2, .int .u64 a1_3, .int .i64 a1_4] 53 (0, 0)) u4_1) (below_size u4_4)); have n1_ := Aside0.mk (blk_below (g := gb126) (o := .cells #[.slice A0_0 l0_0.length c0_0] 29 (0, 0)) u4_0 hb); have n2_ := Aside0.mk (blk_below (g := gb127) (o := .cells #[.int .u64 a1_0, .int .u64 a1_1, .int .u64 a1_2, .int .u64 a1_3, .int .i64 a1_4] 53 (0, 0)) u4_1 hb); have n3_ := Aside0.mk (blk_below (g := gb128) (o := .cells #[.slice none 0 0] 29 (0, 0)) u4_7 hb); have n4_ := Aside0.mk (below_step u4_4 hb); clear BK126; clear BK127; clear BK128; clear HB; have HO131 := n0_; have BK126 := n1_; have BK127 := n2_; have BK128 := n3_; have HB := n4_; clear n0_ n1_ n2_ n3_ n4_; (try clear hb); (try clear hb2); (try clear hk); (try clear hi); (try clear ho0)) | ((with_reducible refine gate_dst (N := 5) rfl ?_); refine box_event ?hg (N := 5) ?hd (cs := #[.slice none 0 0]) (t := 29) ?hr ?_; (case hd => rfl); (case hg => rfl); (case hr => first | (go_simp; done) | (go_simp; rfl)); intro gb132 hg w11 hbox hb; have n0_ := Aside0.mk (Kd.R_below (by (with_reducible repeat (first | apply Kd.R_alloc | apply Kd.R_drewN | apply Kd.R_drew)); exact HO131.out) hb); have n1_ := Aside0.mk (blk_below (g := gb126) (o := .cells #[.slice A0_0 l0_0.length c0_0] 29 (0, 0)) u4_0 hb); have n2_ := Aside0.mk (blk_below (g := gb127) (o := .cells #[.int .u64 a1_0, .int .u64 a1_1, .int .u64 a1_2, .int .u64 a1_3, .int .i64 a1_4] 53 (0, 0)) u4_1 hb); have n3_ := Aside0.mk (blk_below (g := gb128) (o := .cells #[.slice none 0 0] 29 (0, 0)) u4_7 hb); have n4_ := Aside0.mk (below_step u4_4 hb); have n5_ := Aside0.mk (hbox); have n6_ := Aside0.mk ((by rw [hg]; exact (below_size u4_4) : w.heap.size ≤ gb132)); have n7_ := Aside0.mk ((by rw [hg]; exact (below_size u4_4) : w.heap.size ≤ gb132)); have n8_ := Aside0.mk ((by rw [hg]; exact Nat.ne_of_lt (blk_lt (g := gb126) (o := .cells #[.slice A0_0 l0_0.length c0_0] 29 (0, 0)) u4_0) : gb126 ≠ gb132)); have n9_ := Aside0.mk ((by rw [hg]; exact Nat.ne_of_gt (blk_lt (g := gb126) (o := .cells #[.slice A0_0 l0_0.length c0_0] 29 (0, 0)) u4_0) : gb132 ≠ gb126)); have n10_ := Aside0.mk ((by rw [hg]; exact Nat.ne_of_lt (blk_lt (g := gb127) (o := .cells #[.int .u64 a1_0, .int .u64 a1_1, .int .u64 a1_2, .int .u64 a1_3, .int .i64 a1_4] 53 (0, 0)) u4_1) : gb127 ≠ gb132)); have n11_ := Aside0.mk ((by rw [hg]; exact Nat.ne_of_gt (blk_lt (g := gb127) (o := .cells #[.int .u64 a1_0, .int .u64 a1_1, .int .u64 a1_2, .int .u64 a1_3, .int .i64 a1_4] 53 (0, 0)) u4_1) : gb132 ≠ gb127)); have n12_ := Aside0.mk ((by rw [hg]; exact Nat.ne_of_lt (blk_lt (g := gb128) (o := .cells #[.slice none 0 0] 29 (0, 0)) u4_7) : gb128 ≠ gb132)); have n13_ := Aside0.mk ((by rw [hg]; exact Nat.ne_of_gt (blk_lt (g := gb128) (o := .cells #[.slice none 0 0] 29 (0, 0)) u4_7) : gb132 ≠ gb128)); clear HO131; clear BK126; clear BK127; clear BK128; clear HB; have HO131 := n0_; have BK126 := n1_; have BK127 := n2_; have BK128 := n3_; have HB := n4_; have BK132 := n5_; have GW132 := n6_; have GE132 := n7_; have NB126_132 := n8_; have NB132_126 := n9_; have NB127_132 := n10_; have NB132_127 := n11_; have NB128_132 := n12_; have NB132_128 := n13_; clear n0_ n1_ n2_ n3_ n4_ n5_ n6_ n7_ n8_ n9_ n10_ n11_ n12_ n13_; clear hb hbox hg; obtain ⟨Ao12, co12, eo12⟩ := Kd.R_slice HO131.out; subst eo12; have hnb13 := NB132_126.out; have hnc13 := NB126_132.out; have hnb14 := NB132_127.out; have hnc14 := NB127_132.out; have hnb15 := NB132_128.out; have hnc15 := NB128_132.out; have hcz16_0 : w11.cell? ⟨gb132, 0, none⟩ = some (.slice none 0 0) := (blk_cell BK132.out 0).trans rfl; have hfz16_0 := blk_frozen BK132.out 0)) | go_quiet (first | (go_at_call 54; (with_reducible refine (spec_l10Copy.calls k _ _ l0_0 t129 _ ?side1 ?side2 A3.out).mono ?_); (case side1 => exact u4_11); (case side2 => exact HC0_0.out); rintro e w10 ⟨v130, rfl, ho0, hb⟩; have n0_ := Aside0.mk (Kd.R_lower (Kd.R_newB ho0 (g := gb127) (o := .cells #[.int .u64 a1_0, .int .u64 a1_1, .int .u64 a1_2, .int .u64 a1_3, .int .i64 a1_4] 53 (0, 0)) u4_1) (below_size u4_4)); have n1_ := Aside0.mk (blk_below (g := gb126) (o := .cells #[.slice A0_0 l0_0.length c0_0] 29 (0, 0)) u4_0 hb); have n2_ := Aside0.mk (blk_below (g := gb127) (o := .cells #[.int .u64 a1_0, .int .u64 a1_1, .int .u64 a1_2, .int .u64 a1_3, .int .i64 a1_4] 53 (0, 0)) u4_1 hb); have n3_ := Aside0.mk (blk_below (g := gb128) (o := .cells #[.slice none 0 0] 29 (0, 0)) u4_7 hb); have n4_ := Aside0.mk (below_step u4_4 hb); clear BK126; clear BK127; clear BK128; clear HB; have HO131 := n0_; have BK126 := n1_; have BK127 := n2_; have BK128 := n3_; have HB := n4_; clear n0_ n1_ n2_ n3_ n4_; (try clear hb); (try clear hb2); (try clear hk); (try clear hi); (try clear ho0))))
  go_loopg [6] k (fun kq v6 w' => ∃ (x6_1 : Int) (x128000_1 : Int) (x128001_1 : Int) (x128002_1 : Int) (x128003_1 : Int) (x128004_1 : Int) (x133000_1 : List (S53)) (u133000 : Value), v6 = .int .i64 x6_1 ∧ Aside0 (spec_l10With.l0 kq x6_1 x128000_1 x128001_1 x128002_1 x128003_1 x128004_1 x133000_1 = some r) ∧ Aside0 (kq ≤ k) ∧ Aside0 (Kd.R k53 53 w' w.heap.size (fun k_ => k_ ≠ gb127) u133000 x133000_1) ∧ Aside0 (w'.heap[gb126]? = some (.cells #[(.slice A0_0 l0_0.length c0_0)] 29 (0, 0))) ∧ Aside0 (w'.heap[gb127]? = some (.cells #[.int .u64 x128000_1, .int .u64 x128001_1, .int .u64 x128002_1, .int .u64 x128003_1, .int .i64 x128004_1] 53 (0, 0))) ∧ Aside0 (w'.heap[gb128]? = some (.cells #[(.slice none 0 0)] 29 (0, 0))) ∧ Aside0 (w'.heap[gb132]? = some (.cells #[u133000] 29 (0, 0))) ∧ Aside0 (Below w.heap.size w w'))
  case atStart => exact ⟨(0), (a1_0), (a1_1), (a1_2), (a1_3), (a1_4), (t129), (.slice Ao12 t129.length co12), u4_20, H', ⟨Nat.le_refl _⟩, ⟨(by (with_reducible repeat (first | apply Kd.R_alloc | apply Kd.R_drewN | apply Kd.R_drew)); exact Kd.R_mono (Kd.R_far (p := ⟨gb132, 0, none⟩) (Kd.R_types HO131.out BK132.out (by decide)) (fun _ hk => hk.2) (.slice Ao12 t129.length co12)) (fun _ hk => hk.1.2))⟩, ⟨(by (with_reducible repeat (first | refine blk_drewN ?_ _ | refine blk_drew ?_ | refine blk_alloc ?_ _)); refine blk_far ?_ NB126_132.out _; (with_reducible repeat (first | refine blk_drewN ?_ _ | refine blk_drew ?_ | refine blk_alloc ?_ _)); exact BK126.out)⟩, ⟨(by (with_reducible repeat (first | refine blk_drewN ?_ _ | refine blk_drew ?_ | refine blk_alloc ?_ _)); refine blk_far ?_ NB127_132.out _; (with_reducible repeat (first | refine blk_drewN ?_ _ | refine blk_drew ?_ | refine blk_alloc ?_ _)); exact BK127.out)⟩, ⟨(by (with_reducible repeat (first | refine blk_drewN ?_ _ | refine blk_drew ?_ | refine blk_alloc ?_ _)); refine blk_far ?_ NB128_132.out _; (with_reducible repeat (first | refine blk_drewN ?_ _ | refine blk_drew ?_ | refine blk_alloc ?_ _)); exact BK128.out)⟩, ⟨(by (with_reducible repeat (first | refine blk_drewN ?_ _ | refine blk_drew ?_ | refine blk_alloc ?_ _)); refine blk_put (cs := #[.slice none 0 0]) ?_ 0 _ rfl; (with_reducible repeat (first | refine blk_drewN ?_ _ | refine blk_drew ?_ | refine blk_alloc ?_ _)); exact BK132.out)⟩, ⟨u4_10⟩⟩
  clear H'
  try clear c1
  try clear p2
  try clear c5
  try clear c7
  try clear c8
  try clear c13
  try clear c14
  try clear c15
  try clear hcz16_0
  try clear hcz9_0
  try clear hfz16_0
  try clear hfz9_0
  obtain ⟨x6_1, x128000_1, x128001_1, x128002_1, x128003_1, x128004_1, x133000_1, u133000, rfl, HA, HK1, HO_133000, BK126, BK127, BK128, BK132, HB⟩ := hrel
  cases gk with
  | zero => exact absurd HA.out (by simp [spec_l10With.l0])
  | succ k1 =>
    have H := HA.out
    clear HA
    simp only [spec_l10With.l0] at H
    by_cases c17 : x6_1 < (x133000_1.length : Int)
    rotate_left
    · rw [if_neg c17] at H
      have c17b0 : decide (x6_1 < (x133000_1.length : Int)) = false := decide_eq_false c17
      clear c17
      obtain rfl := Option.some.inj H
      have hnb38 := NB132_126.out
      have hnc38 := NB126_132.out
      have hnb39 := NB132_127.out
      have hnc39 := NB127_132.out
      have hnb40 := NB132_128.out
      have hnc40 := NB128_132.out
      have hcz41_0 : wr.cell? ⟨gb132, 0, none⟩ = some (u133000) := (blk_cell BK132.out 0).trans rfl
      have hfz41_0 := blk_frozen BK132.out 0
      obtain ⟨Ao42, co42, eo42⟩ := Kd.R_slice HO_133000.out
      subst eo42
      have hnb43 := NB128_126.out
      have hnc43 := NB126_128.out
      have hnb44 := NB128_127.out
      have hnc44 := NB127_128.out
      have hcz45_0 : wr.cell? ⟨gb128, 0, none⟩ = some (.slice none 0 0) := (blk_cell BK128.out 0).trans rfl
      have hfz45_0 := blk_frozen BK128.out 0
      go_wp2
      repeat (go_quiet (fail); try go_wp2)
      refine bodyPost_ret (results_cell_row rfl _ _ gb128 29 #[.slice Ao42 x133000_1.length co42] (0, 0) _ rfl (by (with_reducible repeat (first | refine blk_drewN ?_ _ | refine blk_drew ?_ | refine blk_alloc ?_ _)); refine blk_put (cs := #[.slice none 0 0]) ?_ 0 _ rfl; (with_reducible repeat (first | refine blk_drewN ?_ _ | refine blk_drew ?_ | refine blk_alloc ?_ _)); exact BK128.out) Try.underlying29 rfl (by kernel_rfl)) rfl ?_
      exact ⟨_, by first | rfl | (simp [errW_none, errW_some] <;> rfl) | (simp [*, errW_none, errW_some] <;> rfl), (by (with_reducible repeat (first | apply Kd.R_alloc | apply Kd.R_drewN | apply Kd.R_drew)); exact Kd.R_mono (Kd.R_far (p := ⟨gb128, 0, none⟩) (Kd.R_types HO_133000.out BK128.out (by decide)) (fun _ hk => hk.2) (.slice Ao42 x133000_1.length co42)) (fun _ hk => trivial)), u4_10⟩
    rw [if_pos c17] at H
    have c17b0 : decide (x6_1 < (x133000_1.length : Int)) = true := decide_eq_true c17
    clear c17
    by_cases c18 : 0 ≤ x6_1
    rotate_left
    · rw [if_neg c18] at H
      exact absurd H (by simp)
    rw [if_pos c18] at H
    have c18b0 : decide (0 ≤ x6_1) = true := decide_eq_true c18
    clear c18
    have H9 := Aside0.mk H
    clear H
    have hnb19 := NB132_126.out
    have hnc19 := NB126_132.out
    have hnb20 := NB132_127.out
    have hnc20 := NB127_132.out
    have hnb21 := NB132_128.out
    have hnc21 := NB128_132.out
    have hcz22_0 : wr.cell? ⟨gb132, 0, none⟩ = some (u133000) := (blk_cell BK132.out 0).trans rfl
    have hfz22_0 := blk_frozen BK132.out 0
    obtain ⟨Ao23, co23, eo23⟩ := Kd.R_slice HO_133000.out
    subst eo23
    have p133 : 0 ≤ (x6_1 : Int) := of_decide_eq_true u4_6
    have q133 : x6_1 < (x133000_1.length : Int) := of_decide_eq_true u4_6
    obtain ⟨ad133, e133, hx133_0, hx133_1, hx133_2, hx133_3, hx133_4⟩ := at_T53 (Kd.R_reads' HO_133000.out).2.2 x6_1 p133 q133
    cases e133
    replace p133 := eq_true p133
    replace q133 := eq_true q133
    have hnb24 := NB127_126.out
    have hnc24 := NB126_127.out
    have hnb25 := NB127_128.out
    have hnc25 := NB128_127.out
    have hcz26_0 : wr.cell? ⟨gb127, 0, none⟩ = some (.int .u64 x128000_1) := (blk_cell BK127.out 0).trans rfl
    have hcz26_1 : wr.cell? ⟨gb127, 1, none⟩ = some (.int .u64 x128001_1) := (blk_cell BK127.out 1).trans rfl
    have hcz26_2 : wr.cell? ⟨gb127, 2, none⟩ = some (.int .u64 x128002_1) := (blk_cell BK127.out 2).trans rfl
    have hcz26_3 : wr.cell? ⟨gb127, 3, none⟩ = some (.int .u64 x128003_1) := (blk_cell BK127.out 3).trans rfl
    have hcz26_4 : wr.cell? ⟨gb127, 4, none⟩ = some (.int .i64 x128004_1) := (blk_cell BK127.out 4).trans rfl
    have hfz26_0 := blk_frozen BK127.out 0
    have hfz26_1 := blk_frozen BK127.out 1
    have hfz26_2 := blk_frozen BK127.out 2
    have hfz26_3 := blk_frozen BK127.out 3
    have hfz26_4 := blk_frozen BK127.out 4
    go_upto_if 24 with (fail)
    repeat (go_quiet (fail); go_upto_if 24 with (fail))
    have H := H9.out
    clear H9
    by_cases c27 : ((rd_T53 x133000_1 x6_1).f0) = x128000_1
    rotate_left
    · rw [if_neg c27] at H
      have c27b0 : (((rd_T53 x133000_1 x6_1).f0) == x128000_1) = false := beq_eq_false_iff_ne.mpr c27
      have c27b1 : (((rd_T53 x133000_1 x6_1).f0) != x128000_1) = true := bne_iff_ne.mpr c27
      (first | rw [c27b0] | (simp only [i64_w, i32_w]; rw [c27b0]) | skip)
      have H' := Aside0.mk H
      clear H
      go_wp2
      repeat (go_quiet (fail); try go_wp2)
      go_roundg k1
      case measure => have := HK1.out; omega
      case rel => exact ⟨(wrap64 (x6_1 + 1)), (x128000_1), (x128001_1), (x128002_1), (x128003_1), (x128004_1), (x133000_1), (.slice (some ad133) x133000_1.length co23), u4_20, H', ⟨by have := HK1.out; omega⟩, ⟨u4_15⟩, ⟨u4_0⟩, ⟨u4_1⟩, ⟨u4_7⟩, ⟨u4_19⟩, ⟨u4_10⟩⟩
    rw [if_pos c27] at H
    have c27b0 : (((rd_T53 x133000_1 x6_1).f0) == x128000_1) = true := beq_iff_eq.mpr c27
    have c27b1 : (((rd_T53 x133000_1 x6_1).f0) != x128000_1) = false := bne_eq_false_iff_eq.mpr c27
    clear c27
    (first | rw [c27b0] | (simp only [i64_w, i32_w]; rw [c27b0]) | skip)
    obtain ⟨y134, hy134⟩ : ∃ y_ : List (S53), y_ = (x133000_1.set (x6_1 : Int).toNat (⟨x128000_1, x128001_1, x128002_1, x128003_1, x128004_1⟩ : S53)) := ⟨_, rfl⟩
    replace H : (spec_l10With.l0 k1 (wrap64 (x6_1 + 1)) x128000_1 x128001_1 x128002_1 x128003_1 x128004_1 y134) = some r := by first | (rw [hy134]; with_reducible exact H) | (have H2_ := (Option.bind_some _ _).symm.trans H; rw [hy134]; with_reducible exact H2_) | (have H2_ := (Option.bind_some _ _).symm.trans H; with_reducible exact H2_) | with_reducible exact H | (rw [hy134]; exact H) | exact H
    have Ny134 := Aside0.mk hy134
    clear hy134
    have H' := Aside0.mk H
    clear H
    have hnb29 := NB132_126.out
    have hnc29 := NB126_132.out
    have hnb30 := NB132_127.out
    have hnc30 := NB127_132.out
    have hnb31 := NB132_128.out
    have hnc31 := NB128_132.out
    have hcz32_0 : wr.cell? ⟨gb132, 0, none⟩ = some (.slice (some ad133) x133000_1.length co23) := (blk_cell BK132.out 0).trans rfl
    have hfz32_0 := blk_frozen BK132.out 0
    have hnb33 := NB127_126.out
    have hnc33 := NB126_127.out
    have hnb34 := NB127_128.out
    have hnc34 := NB128_127.out
    have hcz35_0 : wr.cell? ⟨gb127, 0, none⟩ = some (.int .u64 x128000_1) := (blk_cell BK127.out 0).trans rfl
    have hcz35_1 : wr.cell? ⟨gb127, 1, none⟩ = some (.int .u64 x128001_1) := (blk_cell BK127.out 1).trans rfl
    have hcz35_2 : wr.cell? ⟨gb127, 2, none⟩ = some (.int .u64 x128002_1) := (blk_cell BK127.out 2).trans rfl
    have hcz35_3 : wr.cell? ⟨gb127, 3, none⟩ = some (.int .u64 x128003_1) := (blk_cell BK127.out 3).trans rfl
    have hcz35_4 : wr.cell? ⟨gb127, 4, none⟩ = some (.int .i64 x128004_1) := (blk_cell BK127.out 4).trans rfl
    have hfz35_0 := blk_frozen BK127.out 0
    have hfz35_1 := blk_frozen BK127.out 1
    have hfz35_2 := blk_frozen BK127.out 2
    have hfz35_3 := blk_frozen BK127.out 3
    have hfz35_4 := blk_frozen BK127.out 4
    have p28 : 0 ≤ (x6_1 : Int) := of_decide_eq_true u4_6
    have q28 : (x6_1 : Int) < ((x133000_1.length : Int) : Int) := of_decide_eq_true u4_6
    obtain ⟨go28, co28, eo28, gb28, gl28, cl28, HG28⟩ := Kd.R_form HO_133000.out (by omega)
    (first | cases eo28 | (injection eo28 with ea_ en_ ec_; (first | subst ea_ | (injection ea_ with ea_; subst ea_)); subst ec_; clear en_))
    have GB28 := Aside0.mk gb28
    have GG28 := Aside0.mk HG28
    clear gb28 gl28 HG28
    (first | simp only [add_plain] at hx133_0 | skip)
    (first | simp only [add_plain] at hx133_1 | skip)
    (first | simp only [add_plain] at hx133_2 | skip)
    (first | simp only [add_plain] at hx133_3 | skip)
    (first | simp only [add_plain] at hx133_4 | skip)
    obtain ⟨ce28, hcl28, hM28, hcc28, hfr28⟩ := Kd.R_elem HO_133000.out z53 (x6_1 : Int) p28 q28
    obtain rfl := k53_openM hM28
    have hx28_0 : wr.cell? ⟨go28, (x6_1 : Int).toNat * 5, none⟩ = some (.int .u64 ((rd_T53 x133000_1 x6_1).f0)) := hcc28 0 _ rfl
    have hx28_1 : wr.cell? ⟨go28, (x6_1 : Int).toNat * 5 + 1, none⟩ = some (.int .u64 ((rd_T53 x133000_1 x6_1).f1)) := hcc28 1 _ rfl
    have hx28_2 : wr.cell? ⟨go28, (x6_1 : Int).toNat * 5 + 2, none⟩ = some (.int .u64 ((rd_T53 x133000_1 x6_1).f2)) := hcc28 2 _ rfl
    have hx28_3 : wr.cell? ⟨go28, (x6_1 : Int).toNat * 5 + 3, none⟩ = some (.int .u64 ((rd_T53 x133000_1 x6_1).f3)) := hcc28 3 _ rfl
    have hx28_4 : wr.cell? ⟨go28, (x6_1 : Int).toNat * 5 + 4, none⟩ = some (.int .i64 ((rd_T53 x133000_1 x6_1).f4)) := hcc28 4 _ rfl
    have hf28_0 : wr.frozen? ⟨go28, (x6_1 : Int).toNat * 5, none⟩ = false := hfr28 0
    have hf28_1 : wr.frozen? ⟨go28, (x6_1 : Int).toNat * 5 + 1, none⟩ = false := hfr28 1
    have hf28_2 : wr.frozen? ⟨go28, (x6_1 : Int).toNat * 5 + 2, none⟩ = false := hfr28 2
    have hf28_3 : wr.frozen? ⟨go28, (x6_1 : Int).toNat * 5 + 3, none⟩ = false := hfr28 3
    have hf28_4 : wr.frozen? ⟨go28, (x6_1 : Int).toNat * 5 + 4, none⟩ = false := hfr28 4
    clear hcl28 hcc28 hfr28 hM28
    replace p28 := eq_true p28
    replace q28 := eq_true q28
    have HX36 := Aside0.mk (show Kd.R k53 53 wr w.heap.size (fun k_ => k_ ≠ gb127) (.slice (some ⟨go28, 0, none⟩) x133000_1.length co23) x133000_1 from u4_15)
    obtain ⟨ce36, hcl36, hM36, hcc36, hfr36⟩ := Kd.R_elem HX36.out z53 (x6_1 : Int) (of_decide_eq_true u4_6) (by have h_ : (x6_1 : Int) < ((x133000_1.length : Int) : Int) := of_decide_eq_true u4_6; first | exact h_ | (have e_ := (Kd.R_reads' HO_133000.out).1; omega) | simpa using h_)
    obtain rfl := k53_openM hM36
    have HP36 := Kd.R_seg HX36.out (x6_1 : Int) (of_decide_eq_true u4_6) (by have h_ : (x6_1 : Int) < ((x133000_1.length : Int) : Int) := of_decide_eq_true u4_6; first | exact h_ | (have e_ := (Kd.R_reads' HO_133000.out).1; omega) | simpa using h_) (seg := [.int .u64 x128000_1, .int .u64 x128001_1, .int .u64 x128002_1, .int .u64 x128003_1, .int .i64 x128004_1]) (j := 0) hcl36 hcc36 (show 5 ≤ 5 from by decide) (x' := (⟨x128000_1, x128001_1, x128002_1, x128003_1, x128004_1⟩ : S53)) (k53_mkM _ _ _ (⟨x128000_1, x128001_1, x128002_1, x128003_1, x128004_1⟩ : S53) ) (fun _ hk => hk)
    have hx36_0 := hcc36 0 _ rfl
    (try simp only [show (k53).sz = 5 from rfl, Nat.mul_one, Nat.add_zero] at hx36_0)
    have hf36_0 := hfr36 0
    (try simp only [show (k53).sz = 5 from rfl, Nat.mul_one, Nat.add_zero] at hf36_0)
    have hx36_1 := hcc36 1 _ rfl
    (try simp only [show (k53).sz = 5 from rfl, Nat.mul_one, Nat.add_zero] at hx36_1)
    have hf36_1 := hfr36 1
    (try simp only [show (k53).sz = 5 from rfl, Nat.mul_one, Nat.add_zero] at hf36_1)
    have hx36_2 := hcc36 2 _ rfl
    (try simp only [show (k53).sz = 5 from rfl, Nat.mul_one, Nat.add_zero] at hx36_2)
    have hf36_2 := hfr36 2
    (try simp only [show (k53).sz = 5 from rfl, Nat.mul_one, Nat.add_zero] at hf36_2)
    have hx36_3 := hcc36 3 _ rfl
    (try simp only [show (k53).sz = 5 from rfl, Nat.mul_one, Nat.add_zero] at hx36_3)
    have hf36_3 := hfr36 3
    (try simp only [show (k53).sz = 5 from rfl, Nat.mul_one, Nat.add_zero] at hf36_3)
    have hx36_4 := hcc36 4 _ rfl
    (try simp only [show (k53).sz = 5 from rfl, Nat.mul_one, Nat.add_zero] at hx36_4)
    have hf36_4 := hfr36 4
    (try simp only [show (k53).sz = 5 from rfl, Nat.mul_one, Nat.add_zero] at hf36_4)
    clear hcl36 hcc36 hfr36 hM36
    go_wp2_with (first | (first | ((with_reducible refine gate_store (t := 53) (p := 29) rfl ?_); (try (rw [drewN_self wr]; generalize hq_ : World.drewN wr _ = wr; have n0_ := Aside0.mk (Kd.R_at hq_ HO_133000.out); have n1_ := Aside0.mk (blk_at hq_ BK126.out); have n2_ := Aside0.mk (blk_at hq_ BK127.out); have n3_ := Aside0.mk (blk_at hq_ BK128.out); have n4_ := Aside0.mk (blk_at hq_ BK132.out); have n5_ := Aside0.mk (below_at hq_ HB.out); clear hq_ HO_133000 BK126 BK127 BK128 BK132 HB; have HO_133000 := n0_; have BK126 := n1_; have BK127 := n2_; have BK128 := n3_; have BK132 := n4_; have HB := n5_; clear n0_ n1_ n2_ n3_ n4_ n5_; (try (have HX36 := Aside0.mk (show Kd.R k53 53 wr w.heap.size (fun k_ => k_ ≠ gb127) (.slice (some ⟨go28, 0, none⟩) x133000_1.length co23) x133000_1 from u4_15))); (try (obtain ⟨ce36, hcl36, hM36, hcc36, hfr36⟩ := Kd.R_elem HX36.out z53 (x6_1 : Int) (of_decide_eq_true u4_6) (by have h_ : (x6_1 : Int) < ((x133000_1.length : Int) : Int) := of_decide_eq_true u4_6; first | exact h_ | (have e_ := (Kd.R_reads' HO_133000.out).1; omega) | simpa using h_))); (try (obtain rfl := k53_openM hM36)); (try (have HP36 := Kd.R_seg HX36.out (x6_1 : Int) (of_decide_eq_true u4_6) (by have h_ : (x6_1 : Int) < ((x133000_1.length : Int) : Int) := of_decide_eq_true u4_6; first | exact h_ | (have e_ := (Kd.R_reads' HO_133000.out).1; omega) | simpa using h_) (seg := [.int .u64 x128000_1, .int .u64 x128001_1, .int .u64 x128002_1, .int .u64 x128003_1, .int .i64 x128004_1]) (j := 0) hcl36 hcc36 (show 5 ≤ 5 from by decide) (x' := (⟨x128000_1, x128001_1, x128002_1, x128003_1, x128004_1⟩ : S53)) (k53_mkM _ _ _ (⟨x128000_1, x128001_1, x128002_1, x128003_1, x128004_1⟩ : S53) ) (fun _ hk => hk))); (try (have hx36_0 := hcc36 0 _ rfl)); (try (try simp only [show (k53).sz = 5 from rfl, Nat.mul_one, Nat.add_zero] at hx36_0)); (try (have hf36_0 := hfr36 0)); (try (try simp only [show (k53).sz = 5 from rfl, Nat.mul_one, Nat.add_zero] at hf36_0)); (try (have hx36_1 := hcc36 1 _ rfl)); (try (try simp only [show (k53).sz = 5 from rfl, Nat.mul_one, Nat.add_zero] at hx36_1)); (try (have hf36_1 := hfr36 1)); (try (try simp only [show (k53).sz = 5 from rfl, Nat.mul_one, Nat.add_zero] at hf36_1)); (try (have hx36_2 := hcc36 2 _ rfl)); (try (try simp only [show (k53).sz = 5 from rfl, Nat.mul_one, Nat.add_zero] at hx36_2)); (try (have hf36_2 := hfr36 2)); (try (try simp only [show (k53).sz = 5 from rfl, Nat.mul_one, Nat.add_zero] at hf36_2)); (try (have hx36_3 := hcc36 3 _ rfl)); (try (try simp only [show (k53).sz = 5 from rfl, Nat.mul_one, Nat.add_zero] at hx36_3)); (try (have hf36_3 := hfr36 3)); (try (try simp only [show (k53).sz = 5 from rfl, Nat.mul_one, Nat.add_zero] at hf36_3)); (try (have hx36_4 := hcc36 4 _ rfl)); (try (try simp only [show (k53).sz = 5 from rfl, Nat.mul_one, Nat.add_zero] at hx36_4)); (try (have hf36_4 := hfr36 4)); (try (try simp only [show (k53).sz = 5 from rfl, Nat.mul_one, Nat.add_zero] at hf36_4)); (try (clear hcl36 hcc36 hfr36 hM36)))); refine store_event (t := 53) (p := 29) (v := ?vo_w37) (w1 := (((((wr.setCell ⟨go28, (x6_1 : Int).toNat * 5, none⟩ (.int .u64 x128000_1)).setCell ⟨go28, (x6_1 : Int).toNat * 5 + 1, none⟩ (.int .u64 x128001_1)).setCell ⟨go28, (x6_1 : Int).toNat * 5 + 2, none⟩ (.int .u64 x128002_1)).setCell ⟨go28, (x6_1 : Int).toNat * 5 + 3, none⟩ (.int .u64 x128003_1)).setCell ⟨go28, (x6_1 : Int).toNat * 5 + 4, none⟩ (.int .i64 x128004_1))) ?hg ?ho ?hn ?hr ?_; (case ho => rfl); (case hg => rfl); (case hn => rfl); (case hr => first | (go_simp; done) | (go_simp; rfl)); intro w37 hw; have hg : wr.grownBy w37 (some go28) := (by rw [hw]; exact HP36.2); have hp_ : Kd.R k53 53 w37 w.heap.size (fun k_ => k_ ≠ gb127) (.slice (some ⟨go28, 0, none⟩) x133000_1.length co23) y134 := (by rw [hw, Ny134.out]; exact HP36.1); clear HP36; have n0_ := Aside0.mk (hp_); have n1_ := Aside0.mk (blk_grown (g := gb126) (o := .cells #[.slice A0_0 l0_0.length c0_0] 29 (0, 0)) u4_0 hg (Kd.R_ne HO_133000.out BK126.out (by decide))); have n2_ := Aside0.mk (blk_grown (g := gb127) (o := .cells #[.int .u64 x128000_1, .int .u64 x128001_1, .int .u64 x128002_1, .int .u64 x128003_1, .int .i64 x128004_1] 53 (0, 0)) u4_1 hg (Kd.R_away HO_133000.out (fun _ hk => hk))); have n3_ := Aside0.mk (blk_grown (g := gb128) (o := .cells #[.slice none 0 0] 29 (0, 0)) u4_7 hg (Kd.R_ne HO_133000.out BK128.out (by decide))); have n4_ := Aside0.mk (blk_grown (g := gb132) (o := .cells #[.slice (some ⟨go28, 0, none⟩) x133000_1.length co23] 29 (0, 0)) u4_19 hg (Kd.R_ne HO_133000.out BK132.out (by decide))); have n5_ := Aside0.mk ((by rw [hw]; exact below_set (below_set (below_set (below_set (below_set (HB.out) GB28.out) GB28.out) GB28.out) GB28.out) GB28.out : Below w.heap.size w w37)); clear HO_133000; clear BK126; clear BK127; clear BK128; clear BK132; clear HB; have HO_133000 := n0_; have BK126 := n1_; have BK127 := n2_; have BK128 := n3_; have BK132 := n4_; have HB := n5_; clear n0_ n1_ n2_ n3_ n4_ n5_; clear hg hw hp_)) | go_quiet (first | ((with_reducible refine gate_store (t := 53) (p := 29) rfl ?_); (try (rw [drewN_self wr]; generalize hq_ : World.drewN wr _ = wr; have n0_ := Aside0.mk (Kd.R_at hq_ HO_133000.out); have n1_ := Aside0.mk (blk_at hq_ BK126.out); have n2_ := Aside0.mk (blk_at hq_ BK127.out); have n3_ := Aside0.mk (blk_at hq_ BK128.out); have n4_ := Aside0.mk (blk_at hq_ BK132.out); have n5_ := Aside0.mk (below_at hq_ HB.out); clear hq_ HO_133000 BK126 BK127 BK128 BK132 HB; have HO_133000 := n0_; have BK126 := n1_; have BK127 := n2_; have BK128 := n3_; have BK132 := n4_; have HB := n5_; clear n0_ n1_ n2_ n3_ n4_ n5_; (try (have HX36 := Aside0.mk (show Kd.R k53 53 wr w.heap.size (fun k_ => k_ ≠ gb127) (.slice (some ⟨go28, 0, none⟩) x133000_1.length co23) x133000_1 from u4_15))); (try (obtain ⟨ce36, hcl36, hM36, hcc36, hfr36⟩ := Kd.R_elem HX36.out z53 (x6_1 : Int) (of_decide_eq_true u4_6) (by have h_ : (x6_1 : Int) < ((x133000_1.length : Int) : Int) := of_decide_eq_true u4_6; first | exact h_ | (have e_ := (Kd.R_reads' HO_133000.out).1; omega) | simpa using h_))); (try (obtain rfl := k53_openM hM36)); (try (have HP36 := Kd.R_seg HX36.out (x6_1 : Int) (of_decide_eq_true u4_6) (by have h_ : (x6_1 : Int) < ((x133000_1.length : Int) : Int) := of_decide_eq_true u4_6; first | exact h_ | (have e_ := (Kd.R_reads' HO_133000.out).1; omega) | simpa using h_) (seg := [.int .u64 x128000_1, .int .u64 x128001_1, .int .u64 x128002_1, .int .u64 x128003_1, .int .i64 x128004_1]) (j := 0) hcl36 hcc36 (show 5 ≤ 5 from by decide) (x' := (⟨x128000_1, x128001_1, x128002_1, x128003_1, x128004_1⟩ : S53)) (k53_mkM _ _ _ (⟨x128000_1, x128001_1, x128002_1, x128003_1, x128004_1⟩ : S53) ) (fun _ hk => hk))); (try (have hx36_0 := hcc36 0 _ rfl)); (try (try simp only [show (k53).sz = 5 from rfl, Nat.mul_one, Nat.add_zero] at hx36_0)); (try (have hf36_0 := hfr36 0)); (try (try simp only [show (k53).sz = 5 from rfl, Nat.mul_one, Nat.add_zero] at hf36_0)); (try (have hx36_1 := hcc36 1 _ rfl)); (try (try simp only [show (k53).sz = 5 from rfl, Nat.mul_one, Nat.add_zero] at hx36_1)); (try (have hf36_1 := hfr36 1)); (try (try simp only [show (k53).sz = 5 from rfl, Nat.mul_one, Nat.add_zero] at hf36_1)); (try (have hx36_2 := hcc36 2 _ rfl)); (try (try simp only [show (k53).sz = 5 from rfl, Nat.mul_one, Nat.add_zero] at hx36_2)); (try (have hf36_2 := hfr36 2)); (try (try simp only [show (k53).sz = 5 from rfl, Nat.mul_one, Nat.add_zero] at hf36_2)); (try (have hx36_3 := hcc36 3 _ rfl)); (try (try simp only [show (k53).sz = 5 from rfl, Nat.mul_one, Nat.add_zero] at hx36_3)); (try (have hf36_3 := hfr36 3)); (try (try simp only [show (k53).sz = 5 from rfl, Nat.mul_one, Nat.add_zero] at hf36_3)); (try (have hx36_4 := hcc36 4 _ rfl)); (try (try simp only [show (k53).sz = 5 from rfl, Nat.mul_one, Nat.add_zero] at hx36_4)); (try (have hf36_4 := hfr36 4)); (try (try simp only [show (k53).sz = 5 from rfl, Nat.mul_one, Nat.add_zero] at hf36_4)); (try (clear hcl36 hcc36 hfr36 hM36)))); refine store_event (t := 53) (p := 29) (v := ?vo_w37) (w1 := (((((wr.setCell ⟨go28, (x6_1 : Int).toNat * 5, none⟩ (.int .u64 x128000_1)).setCell ⟨go28, (x6_1 : Int).toNat * 5 + 1, none⟩ (.int .u64 x128001_1)).setCell ⟨go28, (x6_1 : Int).toNat * 5 + 2, none⟩ (.int .u64 x128002_1)).setCell ⟨go28, (x6_1 : Int).toNat * 5 + 3, none⟩ (.int .u64 x128003_1)).setCell ⟨go28, (x6_1 : Int).toNat * 5 + 4, none⟩ (.int .i64 x128004_1))) ?hg ?ho ?hn ?hr ?_; (case ho => rfl); (case hg => rfl); (case hn => rfl); (case hr => first | (go_simp; done) | (go_simp; rfl)); intro w37 hw; have hg : wr.grownBy w37 (some go28) := (by rw [hw]; exact HP36.2); have hp_ : Kd.R k53 53 w37 w.heap.size (fun k_ => k_ ≠ gb127) (.slice (some ⟨go28, 0, none⟩) x133000_1.length co23) y134 := (by rw [hw, Ny134.out]; exact HP36.1); clear HP36; have n0_ := Aside0.mk (hp_); have n1_ := Aside0.mk (blk_grown (g := gb126) (o := .cells #[.slice A0_0 l0_0.length c0_0] 29 (0, 0)) u4_0 hg (Kd.R_ne HO_133000.out BK126.out (by decide))); have n2_ := Aside0.mk (blk_grown (g := gb127) (o := .cells #[.int .u64 x128000_1, .int .u64 x128001_1, .int .u64 x128002_1, .int .u64 x128003_1, .int .i64 x128004_1] 53 (0, 0)) u4_1 hg (Kd.R_away HO_133000.out (fun _ hk => hk))); have n3_ := Aside0.mk (blk_grown (g := gb128) (o := .cells #[.slice none 0 0] 29 (0, 0)) u4_7 hg (Kd.R_ne HO_133000.out BK128.out (by decide))); have n4_ := Aside0.mk (blk_grown (g := gb132) (o := .cells #[.slice (some ⟨go28, 0, none⟩) x133000_1.length co23] 29 (0, 0)) u4_19 hg (Kd.R_ne HO_133000.out BK132.out (by decide))); have n5_ := Aside0.mk ((by rw [hw]; exact below_set (below_set (below_set (below_set (below_set (HB.out) GB28.out) GB28.out) GB28.out) GB28.out) GB28.out : Below w.heap.size w w37)); clear HO_133000; clear BK126; clear BK127; clear BK128; clear BK132; clear HB; have HO_133000 := n0_; have BK126 := n1_; have BK127 := n2_; have BK128 := n3_; have BK132 := n4_; have HB := n5_; clear n0_ n1_ n2_ n3_ n4_ n5_; clear hg hw hp_)))
    go_roundg k1
    case measure => have := HK1.out; omega
    case rel => exact ⟨(wrap64 (x6_1 + 1)), (x128000_1), (x128001_1), (x128002_1), (x128003_1), (x128004_1), (y134), (.slice (some ⟨go28, 0, none⟩) x133000_1.length co23), u4_20, H', ⟨by have := HK1.out; omega⟩, ⟨u4_15⟩, ⟨u4_0⟩, ⟨u4_1⟩, ⟨u4_7⟩, ⟨u4_19⟩, ⟨u4_10⟩⟩

end Go.Proofs.Ytdbfjakhkclggaa.QFnHolds
