-- Printed by the session's own program wip/prx.py.
import Derived.Test.YtdbfjakhkclggaaQFnBookx0
import Derived.Test.YtdbfjakhkclggaaQFnBookx3
namespace Go.Proofs.Ytdbfjakhkclggaa.QFnBook
open Go.RowKit Go.Proofs.YtdbfjakhkclggaaW.PrintWords Go.Proofs.YtdbfjakhkclggaaW.PrintLast Go.Proofs.YtdbfjakhkclggaaW.PrintMore
attribute [local go_sem] max2_int min2_int max_two min_two max_three min_three max_four min_four Go.Proofs.Ytdbfjakhkclggaa.Set.isSome_setCell Go.Proofs.Ytdbfjakhkclggaa.Add.add64   -- for this text's walks alone
set_option linter.unusedVariables false
set_option linter.unusedSimpArgs false

-- squeezed
theorem u4_0 {P : Prop} (h : P := by (with_reducible repeat (first | refine blk_drewN ?_ _ | refine blk_drew ?_ | refine blk_alloc ?_ _)); exact BK133.out) : P := h
theorem u4_1 {P : Prop} (h : P := by (with_reducible repeat (first | refine blk_drewN ?_ _ | refine blk_drew ?_ | refine blk_alloc ?_ _)); exact BK134.out) : P := h
theorem u4_2 {P : Prop} (h : P := by repeat (first | (with_reducible first | exact HB.out | apply below_alloc | apply pw_below_drewN | apply below_drew1) | exact HB.out)) : P := h
theorem u4_3 {P : Prop} (h : P := by repeat (first | (with_reducible first | exact HB.out | apply below_alloc | apply pw_below_drewN | apply below_drew1 | refine below_set ?_ GE121.out | refine below_set ?_ GE122.out) | exact HB.out)) : P := h
theorem u4_4 {P : Prop} (h : P := by repeat (first | (with_reducible first | exact HB.out | apply below_alloc | apply pw_below_drewN | apply below_drew1 | refine below_set ?_ GE133.out | refine below_set ?_ GE134.out | refine below_set ?_ GE135.out) | exact HB.out)) : P := h
theorem u4_5 {P : Prop} (h : P := by (with_reducible repeat (first | refine blk_drewN ?_ _ | refine blk_drew ?_ | refine blk_alloc ?_ _)); refine blk_put (cs := #[.int .u64 0, .int .u64 0, .int .u64 0, .int .u64 0, .int .i64 0]) ?_ 4 _ rfl; (with_reducible repeat (first | refine blk_drewN ?_ _ | refine blk_drew ?_ | refine blk_alloc ?_ _)); refine blk_put (cs := #[.int .u64 0, .int .u64 0, .int .u64 0, .int .u64 0, .int .i64 0]) ?_ 3 _ rfl; (with_reducible repeat (first | refine blk_drewN ?_ _ | refine blk_drew ?_ | refine blk_alloc ?_ _)); refine blk_put (cs := #[.int .u64 0, .int .u64 0, .int .u64 0, .int .u64 0, .int .i64 0]) ?_ 2 _ rfl; (with_reducible repeat (first | refine blk_drewN ?_ _ | refine blk_drew ?_ | refine blk_alloc ?_ _)); refine blk_put (cs := #[.int .u64 0, .int .u64 0, .int .u64 0, .int .u64 0, .int .i64 0]) ?_ 1 _ rfl; (with_reducible repeat (first | refine blk_drewN ?_ _ | refine blk_drew ?_ | refine blk_alloc ?_ _)); refine blk_put (cs := #[.int .u64 0, .int .u64 0, .int .u64 0, .int .u64 0, .int .i64 0]) ?_ 0 _ rfl; (with_reducible repeat (first | refine blk_drewN ?_ _ | refine blk_drew ?_ | refine blk_alloc ?_ _)); exact BK122.out) : P := h
theorem u4_6 {P : Prop} (h : P := by first | (with_reducible assumption) | assumption) : P := h
theorem u4_7 {P : Prop} (h : P := by (with_reducible repeat (first | refine blk_drewN ?_ _ | refine blk_drew ?_ | refine blk_alloc ?_ _)); exact BK135.out) : P := h
theorem u4_8 {P : Prop} (h : P := by repeat (first | (with_reducible first | exact HB.out | apply below_alloc | apply pw_below_drewN | apply below_drew1 | refine below_set ?_ GE126.out | refine below_set ?_ GE127.out | refine below_set ?_ GE128.out) | exact HB.out)) : P := h
theorem u4_9 {P : Prop} (h : P := by (with_reducible repeat (first | refine blk_drewN ?_ _ | refine blk_drew ?_ | refine blk_alloc ?_ _)); exact BK121.out) : P := h
theorem u4_10 {P : Prop} (h : P := by repeat (first | (with_reducible first | exact HB.out | apply below_alloc | apply pw_below_drewN | apply below_drew1 | refine below_set ?_ GE133.out | refine below_set ?_ GE134.out | refine below_set ?_ GE135.out | refine below_set ?_ GE139.out) | exact HB.out)) : P := h
theorem u4_11 {P : Prop} (h : P := by repeat (first | exact (Kd.C_below HR0_0.out HB.out) | (with_reducible refine Kd.C_alloc ?_ _) | (with_reducible refine Kd.C_drewN ?_ _) | (with_reducible refine Kd.C_drew ?_))) : P := h
theorem u4_12 {P : Prop} (h : P := by (with_reducible repeat (first | refine blk_drewN ?_ _ | refine blk_drew ?_ | refine blk_alloc ?_ _)); exact BK126.out) : P := h
theorem u4_13 {P : Prop} (h : P := by repeat (first | (with_reducible first | exact HB.out | apply below_alloc | apply pw_below_drewN | apply below_drew1 | refine below_set ?_ GE119.out) | exact HB.out)) : P := h
theorem u4_14 {P : Prop} (h : P := by (with_reducible repeat (first | refine blk_drewN ?_ _ | refine blk_drew ?_ | refine blk_alloc ?_ _)); exact BK122.out) : P := h
theorem u4_15 {P : Prop} (h : P := by (with_reducible repeat (first | apply Kd.R_alloc | apply Kd.R_drewN | apply Kd.R_drew)); exact HO_140000.out) : P := h
theorem u4_16 {P : Prop} (h : P := by repeat (first | (with_reducible first | exact HB.out | apply below_alloc | apply pw_below_drewN | apply below_drew1 | refine below_set ?_ GE126.out | refine below_set ?_ GE127.out) | exact HB.out)) : P := h
theorem u4_17 {P : Prop} (h : P := by repeat (first | (with_reducible first | exact HB.out | apply below_alloc | apply pw_below_drewN | apply below_drew1 | refine below_set ?_ GE133.out | refine below_set ?_ GE134.out) | exact HB.out)) : P := h
theorem u4_18 {P : Prop} (h : P := by (with_reducible repeat (first | refine blk_drewN ?_ _ | refine blk_drew ?_ | refine blk_alloc ?_ _)); exact BK127.out) : P := h
theorem u4_19 {P : Prop} (h : P := by (with_reducible repeat (first | refine blk_drewN ?_ _ | refine blk_drew ?_ | refine blk_alloc ?_ _)); exact BK139.out) : P := h
theorem u4_20 {P : Prop} (h : P := by first | rfl | (simp; done) | (simp [*]; done)) : P := h
theorem u4_21 {P : Prop} (h : P := by repeat (first | (with_reducible first | exact HB.out | apply below_alloc | apply pw_below_drewN | apply below_drew1 | refine below_set ?_ GE121.out) | exact HB.out)) : P := h
theorem u4_22 {P : Prop} (h : P := by repeat (first | (with_reducible first | exact HB.out | apply below_alloc | apply pw_below_drewN | apply below_drew1 | refine below_set ?_ GE126.out) | exact HB.out)) : P := h
theorem u4_23 {P : Prop} (h : P := by repeat (first | (with_reducible first | exact HB.out | apply below_alloc | apply pw_below_drewN | apply below_drew1 | refine below_set ?_ GE133.out) | exact HB.out)) : P := h
theorem u4_24 {P : Prop} (h : P := by (try simp only [List.map_toArray, List.map_cons, List.map_nil]); first | done | rfl | (simp only [List.length_drop, List.length_take]; rfl)) : P := h
theorem u4_25 {P : Prop} (h : P := by (with_reducible repeat (first | refine blk_drewN ?_ _ | refine blk_drew ?_ | refine blk_alloc ?_ _)); refine blk_far ?_ NB126_128.out _; (with_reducible repeat (first | refine blk_drewN ?_ _ | refine blk_drew ?_ | refine blk_alloc ?_ _)); exact BK126.out) : P := h
theorem u4_26 {P : Prop} (h : P := by (with_reducible repeat (first | refine blk_drewN ?_ _ | refine blk_drew ?_ | refine blk_alloc ?_ _)); refine blk_far ?_ NB127_128.out _; (with_reducible repeat (first | refine blk_drewN ?_ _ | refine blk_drew ?_ | refine blk_alloc ?_ _)); exact BK127.out) : P := h
theorem u4_27 {P : Prop} (h : P := by (with_reducible repeat (first | refine blk_drewN ?_ _ | refine blk_drew ?_ | refine blk_alloc ?_ _)); exact BK119.out) : P := h
/-! ### spec_l10Find: function 68 -/
def spec_l10Find.l0 : Nat → Int → Int → List (S53) → Option (Int)
  | 0, _, _, _ => none
  | k + 1, x1, x5, x120000 => if x5 < (x120000.length : Int) then (if 0 ≤ x5 then (if ((rd_T53 x120000 x5).f0) = x1 then (some x5) else (spec_l10Find.l0 k x1 (wrap64 (x5 + 1)) x120000)) else (none)) else (some (-1))
def spec_l10Find.f (k : Nat) (l0_0 : List (S53)) (a1 : Int) : Option (Int) := spec_l10Find.l0 k a1 0 l0_0
theorem spec_l10Find.mono_l : ∀ k, (∀ y0 y1 y2, LeO (spec_l10Find.l0 k y0 y1 y2) (spec_l10Find.l0 (k + 1) y0 y1 y2))
  | 0 => fun _ _ _ r h => by simp [spec_l10Find.l0] at h
  | k + 1 => by
    have ih0 := spec_l10Find.mono_l k
    · intro y0 y1 y2
      unfold spec_l10Find.l0
      repeat' first
      | (with_reducible exact ih0 _ _ _)
      | (with_reducible exact LeO.refl _)
      | (with_reducible exact LeO.none _)
      | (with_reducible refine LeO.ite ?_ ?_)
      | (with_reducible refine LeO.bind ?_ (fun _ => ?_))
      | exact ih0 _ _ _
      | exact LeO.none _
      | refine LeO.ite ?_ ?_
      | refine LeO.bind ?_ (fun _ => ?_)
theorem spec_l10Find.mono : ∀ a0 a1 k, LeO (spec_l10Find.f k a0 a1) (spec_l10Find.f (k + 1) a0 a1) := by
  intro a0 a1 k
  have ih0 := spec_l10Find.mono_l k
  unfold spec_l10Find.f
  repeat' first
      | (with_reducible exact ih0 _ _ _)
      | (with_reducible exact LeO.refl _)
      | (with_reducible exact LeO.none _)
      | (with_reducible refine LeO.ite ?_ ?_)
      | (with_reducible refine LeO.bind ?_ (fun _ => ?_))
      | exact ih0 _ _ _
      | exact LeO.none _
      | refine LeO.ite ?_ ?_
      | refine LeO.bind ?_ (fun _ => ?_)
set_option maxHeartbeats 8000000 in
set_option maxRecDepth 100000 in
theorem spec_l10Find.calls (k : Nat) (A0_0 : Option Addr) (c0_0 : Nat) (l0_0 : List (S53)) (a1 : Int) (r : Int) (w : World) (hr0_0 : Kd.C k53 w A0_0 l0_0.length l0_0) (hc0_0 : l0_0.length ≤ c0_0) (h : spec_l10Find.f k l0_0 a1 = some r) :
    Calls Try.prog 68 #[.agg #[.slice A0_0 l0_0.length c0_0], .int .u64 a1] w fun e w' => e = .returned (.int .i64 r) ∧ Below w.heap.size w w' := by
  have hu29 := Try.underlying29
  have HR0_0 := Aside0.mk hr0_0
  have HC0_0 := Aside0.mk hc0_0
  clear hr0_0 hc0_0
  have HB := Aside0.mk (Below.refl w.heap.size w)
  have H : (spec_l10Find.l0 k a1 0 l0_0) = some r := h
  clear h
  have H' := Aside0.mk H
  clear H
  go_enter Try.func68, Try.ntmps68
  go_wp2_with (first | ((with_reducible refine gate_dst (N := 2) rfl ?_); refine box_event ?hg (N := 2) ?hd (cs := #[.slice A0_0 l0_0.length c0_0]) (t := 29) ?hr ?_; (case hd => rfl); (case hg => rfl); (case hr => first | (go_simp; done) | (go_simp; rfl)); intro gb119 hg w3 hbox hb; have n0_ := Aside0.mk (below_step u4_2 hb); have n1_ := Aside0.mk (hbox); have n2_ := Aside0.mk ((by rw [hg]; exact (below_size u4_2) : w.heap.size ≤ gb119)); have n3_ := Aside0.mk ((by rw [hg]; exact (below_size u4_2) : w.heap.size ≤ gb119)); clear HB; have HB := n0_; have BK119 := n1_; have GW119 := n2_; have GE119 := n3_; clear n0_ n1_ n2_ n3_; clear hb hbox hg))
  go_loopg [5] k (fun kq v5 w' => ∃ (x5_1 : Int), v5 = .int .i64 x5_1 ∧ Aside0 (spec_l10Find.l0 kq a1 x5_1 l0_0 = some r) ∧ Aside0 (kq ≤ k) ∧ Aside0 (w'.heap[gb119]? = some (.cells #[(.slice A0_0 l0_0.length c0_0)] 29 (0, 0))) ∧ Aside0 (Below w.heap.size w w'))
  case atStart => exact ⟨(0), u4_20, H', ⟨Nat.le_refl _⟩, ⟨u4_27⟩, ⟨u4_13⟩⟩
  clear H'
  try clear p2
  obtain ⟨x5_1, rfl, HA, HK1, BK119, HB⟩ := hrel
  cases gk with
  | zero => exact absurd HA.out (by simp [spec_l10Find.l0])
  | succ k1 =>
    have H := HA.out
    clear HA
    simp only [spec_l10Find.l0] at H
    by_cases c4 : x5_1 < (l0_0.length : Int)
    rotate_left
    · rw [if_neg c4] at H
      have c4b0 : decide (x5_1 < (l0_0.length : Int)) = false := decide_eq_false c4
      clear c4
      obtain rfl := Option.some.inj H
      have hcz8_0 : wr.cell? ⟨gb119, 0, none⟩ = some (.slice A0_0 l0_0.length c0_0) := (blk_cell BK119.out 0).trans rfl
      have hfz8_0 := blk_frozen BK119.out 0
      go_wp2
      go_ret
      exact ⟨by first | rfl | (simp [errW_none, errW_some] <;> rfl) | (simp [*, errW_none, errW_some] <;> rfl), u4_13⟩
    rw [if_pos c4] at H
    have c4b0 : decide (x5_1 < (l0_0.length : Int)) = true := decide_eq_true c4
    clear c4
    by_cases c5 : 0 ≤ x5_1
    rotate_left
    · rw [if_neg c5] at H
      exact absurd H (by simp)
    rw [if_pos c5] at H
    have c5b0 : decide (0 ≤ x5_1) = true := decide_eq_true c5
    clear c5
    have H9 := Aside0.mk H
    clear H
    have hcz6_0 : wr.cell? ⟨gb119, 0, none⟩ = some (.slice A0_0 l0_0.length c0_0) := (blk_cell BK119.out 0).trans rfl
    have hfz6_0 := blk_frozen BK119.out 0
    have p120 : 0 ≤ (x5_1 : Int) := of_decide_eq_true u4_6
    have q120 : x5_1 < (l0_0.length : Int) := of_decide_eq_true u4_6
    obtain ⟨ad120, e120, hx120_0, hx120_1, hx120_2, hx120_3, hx120_4⟩ := at_T53 HR0_0.out x5_1 p120 q120
    cases e120
    replace hx120_0 := (HB.out.cell (World.block_lt_of_cell? w _ hx120_0)).trans hx120_0
    replace hx120_1 := (HB.out.cell (World.block_lt_of_cell? w _ hx120_1)).trans hx120_1
    replace hx120_2 := (HB.out.cell (World.block_lt_of_cell? w _ hx120_2)).trans hx120_2
    replace hx120_3 := (HB.out.cell (World.block_lt_of_cell? w _ hx120_3)).trans hx120_3
    replace hx120_4 := (HB.out.cell (World.block_lt_of_cell? w _ hx120_4)).trans hx120_4
    replace p120 := eq_true p120
    replace q120 := eq_true q120
    go_upto_if 20 with (fail)
    have H := H9.out
    clear H9
    by_cases c7 : ((rd_T53 l0_0 x5_1).f0) = a1
    · rw [if_pos c7] at H
      have c7b0 : (((rd_T53 l0_0 x5_1).f0) == a1) = true := beq_iff_eq.mpr c7
      have c7b1 : (((rd_T53 l0_0 x5_1).f0) != a1) = false := bne_eq_false_iff_eq.mpr c7
      clear c7
      (first | rw [c7b0] | (simp only [i64_w, i32_w]; rw [c7b0]) | skip)
      obtain rfl := Option.some.inj H
      go_wp2
      go_ret
      exact ⟨by first | rfl | (simp [errW_none, errW_some] <;> rfl) | (simp [*, errW_none, errW_some] <;> rfl), u4_13⟩
    rw [if_neg c7] at H
    have c7b0 : (((rd_T53 l0_0 x5_1).f0) == a1) = false := beq_eq_false_iff_ne.mpr c7
    have c7b1 : (((rd_T53 l0_0 x5_1).f0) != a1) = true := bne_iff_ne.mpr c7
    (first | rw [c7b0] | (simp only [i64_w, i32_w]; rw [c7b0]) | skip)
    have H' := Aside0.mk H
    clear H
    go_wp2
    go_roundg k1
    case measure => have := HK1.out; omega
    case rel => exact ⟨(wrap64 (x5_1 + 1)), u4_20, H', ⟨by have := HK1.out; omega⟩, ⟨u4_27⟩, ⟨u4_13⟩⟩

/-! ### spec_l10Of: function 53 -/
def spec_l10Of.j0 : Nat → Int → Bool → List (S53) → Option (Int × Int × Int × Int × Int × Int)
  | 0, _, _, _ => none
  | k + 1, x1, x15, x122000 => if x15 = true then (some (0, 0, 0, 0, 0, 1)) else ((spec_l10Find.f k x122000 x1).bind fun t124 => (if t124 < 0 then (some (0, 0, 0, 0, 0, 2)) else (if 0 ≤ t124 then (if t124 < (x122000.length : Int) then (some ((rd_T53 x122000 t124).f0, (rd_T53 x122000 t124).f1, (rd_T53 x122000 t124).f2, (rd_T53 x122000 t124).f3, (rd_T53 x122000 t124).f4, 0)) else (none)) else (none))))
def spec_l10Of.f (k : Nat) (l0_0 : List (S53)) (a1 : Int) (a2 : Int) : Option (Int × Int × Int × Int × Int × Int) := (spec_BookOk.f k l0_0).bind fun t123 => (if t123 = true then (spec_l10Of.j0 k a1 (decide (a2 < 1)) l0_0) else (spec_l10Of.j0 k a1 true l0_0))
theorem spec_l10Of.mono_l : ∀ k, (∀ y0 y1 y2, LeO (spec_l10Of.j0 k y0 y1 y2) (spec_l10Of.j0 (k + 1) y0 y1 y2))
  | 0 => fun _ _ _ r h => by simp [spec_l10Of.j0] at h
  | k + 1 => by
    have ih0 := spec_l10Of.mono_l k
    · intro y0 y1 y2
      unfold spec_l10Of.j0
      repeat' first
      | (with_reducible exact ih0 _ _ _)
      | (with_reducible exact spec_BookOk.mono _ _)
      | (with_reducible exact spec_l10Find.mono _ _ _)
      | (with_reducible exact LeO.refl _)
      | (with_reducible exact LeO.none _)
      | (with_reducible refine LeO.ite ?_ ?_)
      | (with_reducible refine LeO.bind ?_ (fun _ => ?_))
      | exact ih0 _ _ _
      | exact spec_BookOk.mono _ _
      | exact spec_l10Find.mono _ _ _
      | exact LeO.none _
      | refine LeO.ite ?_ ?_
      | refine LeO.bind ?_ (fun _ => ?_)
theorem spec_l10Of.mono : ∀ a0 a1 a2 k, LeO (spec_l10Of.f k a0 a1 a2) (spec_l10Of.f (k + 1) a0 a1 a2) := by
  intro a0 a1 a2 k
  have ih0 := spec_l10Of.mono_l k
  unfold spec_l10Of.f
  repeat' first
      | (with_reducible exact ih0 _ _ _)
      | (with_reducible exact spec_BookOk.mono _ _)
      | (with_reducible exact spec_l10Find.mono _ _ _)
      | (with_reducible exact LeO.refl _)
      | (with_reducible exact LeO.none _)
      | (with_reducible refine LeO.ite ?_ ?_)
      | (with_reducible refine LeO.bind ?_ (fun _ => ?_))
      | exact ih0 _ _ _
      | exact spec_BookOk.mono _ _
      | exact spec_l10Find.mono _ _ _
      | exact LeO.none _
      | refine LeO.ite ?_ ?_
      | refine LeO.bind ?_ (fun _ => ?_)
set_option maxHeartbeats 8000000 in
set_option maxRecDepth 100000 in
theorem spec_l10Of.calls (k : Nat) (A0_0 : Option Addr) (c0_0 : Nat) (l0_0 : List (S53)) (a1 : Int) (a2 : Int) (r1 : Int) (r2 : Int) (r3 : Int) (r4 : Int) (r5 : Int) (r6 : Int) (w : World) (hr0_0 : Kd.C k53 w A0_0 l0_0.length l0_0) (hc0_0 : l0_0.length ≤ c0_0) (h : spec_l10Of.f k l0_0 a1 a2 = some (r1, r2, r3, r4, r5, r6)) :
    Calls Try.prog 53 #[.agg #[.slice A0_0 l0_0.length c0_0], .int .u64 a1, .int .i64 a2] w fun e w' => e = .returned (.tuple #[.agg #[.int .u64 r1, .int .u64 r2, .int .u64 r3, .int .u64 r4, .int .i64 r5], .int .i64 r6]) ∧ Below w.heap.size w w' := by
  have hu29 := Try.underlying29
  have hu53 := Try.underlying53
  have HR0_0 := Aside0.mk hr0_0
  have HC0_0 := Aside0.mk hc0_0
  clear hr0_0 hc0_0
  have HB := Aside0.mk (Below.refl w.heap.size w)
  have H : ((spec_BookOk.f k l0_0).bind fun t123 => (if t123 = true then (spec_l10Of.j0 k a1 (decide (a2 < 1)) l0_0) else (spec_l10Of.j0 k a1 true l0_0))) = some (r1, r2, r3, r4, r5, r6) := h
  clear h
  have HC4 := Aside0.mk H
  clear H
  go_enter Try.func53, Try.ntmps53
  go_upto_region 1 with (first | ((with_reducible refine gate_dst (N := 3) rfl ?_); refine box_event ?hg (N := 3) ?hd (cs := #[.slice A0_0 l0_0.length c0_0]) (t := 29) ?hr ?_; (case hd => rfl); (case hg => rfl); (case hr => first | (go_simp; done) | (go_simp; rfl)); intro gb121 hg w5 hbox hb; have n0_ := Aside0.mk (below_step u4_2 hb); have n1_ := Aside0.mk (hbox); have n2_ := Aside0.mk ((by rw [hg]; exact (below_size u4_2) : w.heap.size ≤ gb121)); have n3_ := Aside0.mk ((by rw [hg]; exact (below_size u4_2) : w.heap.size ≤ gb121)); clear HB; have HB := n0_; have BK121 := n1_; have GW121 := n2_; have GE121 := n3_; clear n0_ n1_ n2_ n3_; clear hb hbox hg) | ((with_reducible refine gate_dst (N := 6) rfl ?_); refine box_event ?hg (N := 6) ?hd (cs := #[.int .u64 0, .int .u64 0, .int .u64 0, .int .u64 0, .int .i64 0]) (t := 53) ?hr ?_; (case hd => rfl); (case hg => rfl); (case hr => first | (go_simp; done) | (go_simp; rfl)); intro gb122 hg w6 hbox hb; have n0_ := Aside0.mk (blk_below (g := gb121) (o := .cells #[.slice A0_0 l0_0.length c0_0] 29 (0, 0)) u4_9 hb); have n1_ := Aside0.mk (below_step u4_21 hb); have n2_ := Aside0.mk (hbox); have n3_ := Aside0.mk ((by rw [hg]; exact (below_size u4_21) : w.heap.size ≤ gb122)); have n4_ := Aside0.mk ((by rw [hg]; exact (below_size u4_21) : w.heap.size ≤ gb122)); have n5_ := Aside0.mk ((by rw [hg]; exact Nat.ne_of_lt (blk_lt (g := gb121) (o := .cells #[.slice A0_0 l0_0.length c0_0] 29 (0, 0)) u4_9) : gb121 ≠ gb122)); have n6_ := Aside0.mk ((by rw [hg]; exact Nat.ne_of_gt (blk_lt (g := gb121) (o := .cells #[.slice A0_0 l0_0.length c0_0] 29 (0, 0)) u4_9) : gb122 ≠ gb121)); clear BK121; clear HB; have BK121 := n0_; have HB := n1_; have BK122 := n2_; have GW122 := n3_; have GE122 := n4_; have NB121_122 := n5_; have NB122_121 := n6_; clear n0_ n1_ n2_ n3_ n4_ n5_ n6_; clear hb hbox hg))
  (try simp only [Act.put, List.setIfInBounds_toArray, List.set_cons_zero, List.set_cons_succ])
  go_cut [15] (fun v15 wc => ∃ (kq : Nat) (x15_3 : Bool), v15 = .bool x15_3 ∧ Aside0 (spec_l10Of.j0 kq a1 x15_3 l0_0 = some (r1, r2, r3, r4, r5, r6)) ∧ Aside0 (kq ≤ k) ∧ Aside0 (wc.heap[gb121]? = some (.cells #[(.slice A0_0 l0_0.length c0_0)] 29 (0, 0))) ∧ Aside0 (wc.heap[gb122]? = some (.cells #[.int .u64 0, .int .u64 0, .int .u64 0, .int .u64 0, .int .i64 0] 53 (0, 0))) ∧ Aside0 (Below w.heap.size w wc))
  case first =>
    have H := HC4.out
    clear HC4
    replace H := Option.bind_eq_some_iff.mp H
    obtain ⟨t123, A70, H⟩ := H
    have A7 := Aside0.mk A70
    clear A70
    by_cases c8 : t123 = true
    · subst c8
      rw [if_pos rfl] at H
      have H' := Aside0.mk H
      clear H
      have hnb9 := NB121_122.out
      have hnc9 := NB122_121.out
      have hcz10_0 : w6.cell? ⟨gb121, 0, none⟩ = some (.slice A0_0 l0_0.length c0_0) := (blk_cell BK121.out 0).trans rfl
      have hfz10_0 := blk_frozen BK121.out 0
      go_wp2_with (first | ((with_reducible refine gate_callee (f := 18) rfl ?_); refine goesL_ (some 10) rfl rfl Try.func18 (by kernel_rfl) rfl #[.agg #[.slice A0_0 l0_0.length c0_0]] rfl u4_24 ?_; (with_reducible refine (spec_BookOk.calls k _ _ l0_0 true _ ?side1 ?side2 A7.out).mono ?_); (case side1 => exact u4_11); (case side2 => exact HC0_0.out); rintro e w11 ⟨rfl, hb⟩; refine ⟨_, rfl, ?_⟩; have n0_ := Aside0.mk (blk_below (g := gb121) (o := .cells #[.slice A0_0 l0_0.length c0_0] 29 (0, 0)) u4_9 hb); have n1_ := Aside0.mk (blk_below (g := gb122) (o := .cells #[.int .u64 0, .int .u64 0, .int .u64 0, .int .u64 0, .int .i64 0] 53 (0, 0)) u4_14 hb); have n2_ := Aside0.mk (below_step u4_3 hb); clear BK121; clear BK122; clear HB; have BK121 := n0_; have BK122 := n1_; have HB := n2_; clear n0_ n1_ n2_; (try clear hb); (try clear hb2); (try clear hk); (try clear hi)))
      go_meet
      case rel => exact ⟨_, (decide (a2 < 1)), u4_20, H', ⟨by first | omega | exact Nat.le_refl _⟩, ⟨u4_9⟩, ⟨u4_14⟩, ⟨u4_3⟩⟩
    replace c8 := Bool.eq_false_iff.mpr c8
    subst c8
    rw [if_neg (show ¬ (false = true) by decide)] at H
    have H' := Aside0.mk H
    clear H
    have hnb12 := NB121_122.out
    have hnc12 := NB122_121.out
    have hcz13_0 : w6.cell? ⟨gb121, 0, none⟩ = some (.slice A0_0 l0_0.length c0_0) := (blk_cell BK121.out 0).trans rfl
    have hfz13_0 := blk_frozen BK121.out 0
    go_wp2_with (first | ((with_reducible refine gate_callee (f := 18) rfl ?_); refine goesL_ (some 10) rfl rfl Try.func18 (by kernel_rfl) rfl #[.agg #[.slice A0_0 l0_0.length c0_0]] rfl u4_24 ?_; (with_reducible refine (spec_BookOk.calls k _ _ l0_0 false _ ?side1 ?side2 A7.out).mono ?_); (case side1 => exact u4_11); (case side2 => exact HC0_0.out); rintro e w14 ⟨rfl, hb⟩; refine ⟨_, rfl, ?_⟩; have n0_ := Aside0.mk (blk_below (g := gb121) (o := .cells #[.slice A0_0 l0_0.length c0_0] 29 (0, 0)) u4_9 hb); have n1_ := Aside0.mk (blk_below (g := gb122) (o := .cells #[.int .u64 0, .int .u64 0, .int .u64 0, .int .u64 0, .int .i64 0] 53 (0, 0)) u4_14 hb); have n2_ := Aside0.mk (below_step u4_3 hb); clear BK121; clear BK122; clear HB; have BK121 := n0_; have BK122 := n1_; have HB := n2_; clear n0_ n1_ n2_; (try clear hb); (try clear hb2); (try clear hk); (try clear hi)))
    go_meet
    case rel => exact ⟨_, (true), u4_20, H', ⟨by first | omega | exact Nat.le_refl _⟩, ⟨u4_9⟩, ⟨u4_14⟩, ⟨u4_3⟩⟩
  clear HC4
  try clear c1
  try clear p2
  try clear c5
  try clear c8
  try clear c9
  try clear c12
  try clear hcz10_0
  try clear hcz13_0
  try clear hfz10_0
  try clear hfz13_0
  obtain ⟨kq, x15_3, rfl, HA, HJ3, BK121, BK122, HB⟩ := hcut
  cases kq with
  | zero => exact absurd HA.out (by simp [spec_l10Of.j0])
  | succ kj3 =>
    have H := HA.out
    clear HA
    simp only [spec_l10Of.j0] at H
    by_cases c15 : x15_3 = true
    · subst c15
      rw [if_pos rfl] at H
      simp only [Option.some.injEq, Prod.mk.injEq] at H
      obtain ⟨rfl, rfl, rfl, rfl, rfl, rfl⟩ := H
      have hnb16 := NB122_121.out
      have hnc16 := NB121_122.out
      have hcz17_0 : wc.cell? ⟨gb122, 0, none⟩ = some (.int .u64 0) := (blk_cell BK122.out 0).trans rfl
      have hcz17_1 : wc.cell? ⟨gb122, 1, none⟩ = some (.int .u64 0) := (blk_cell BK122.out 1).trans rfl
      have hcz17_2 : wc.cell? ⟨gb122, 2, none⟩ = some (.int .u64 0) := (blk_cell BK122.out 2).trans rfl
      have hcz17_3 : wc.cell? ⟨gb122, 3, none⟩ = some (.int .u64 0) := (blk_cell BK122.out 3).trans rfl
      have hcz17_4 : wc.cell? ⟨gb122, 4, none⟩ = some (.int .i64 0) := (blk_cell BK122.out 4).trans rfl
      have hfz17_0 := blk_frozen BK122.out 0
      have hfz17_1 := blk_frozen BK122.out 1
      have hfz17_2 := blk_frozen BK122.out 2
      have hfz17_3 := blk_frozen BK122.out 3
      have hfz17_4 := blk_frozen BK122.out 4
      go_wp2
      refine bodyPost_ret (results_ct rfl _ _ gb122 53 #[.int .u64 0, .int .u64 0, .int .u64 0, .int .u64 0, .int .i64 0] (0, 0) _ rfl u4_5 Try.underlying53 rfl (by kernel_rfl)) rfl ?_
      exact ⟨by first | rfl | (simp [errW_none, errW_some] <;> rfl) | (simp [*, errW_none, errW_some] <;> rfl), u4_3⟩
    replace c15 := Bool.eq_false_iff.mpr c15
    subst c15
    rw [if_neg (show ¬ (false = true) by decide)] at H
    replace H := Option.bind_eq_some_iff.mp H
    obtain ⟨t124, A180, H⟩ := H
    have A18 := Aside0.mk A180
    clear A180
    have H9 := Aside0.mk H
    clear H
    have hnb19 := NB121_122.out
    have hnc19 := NB122_121.out
    have hcz20_0 : wc.cell? ⟨gb121, 0, none⟩ = some (.slice A0_0 l0_0.length c0_0) := (blk_cell BK121.out 0).trans rfl
    have hfz20_0 := blk_frozen BK121.out 0
    go_upto_if 21 with (first | ((with_reducible refine gate_callee (f := 68) rfl ?_); refine goesL_ (some 19) rfl rfl Try.func68 (by kernel_rfl) rfl #[.agg #[.slice A0_0 l0_0.length c0_0], .int .u64 a1] rfl u4_24 ?_; (with_reducible refine (spec_l10Find.calls kj3 _ _ l0_0 a1 t124 _ ?side1 ?side2 A18.out).mono ?_); (case side1 => exact u4_11); (case side2 => exact HC0_0.out); rintro e w21 ⟨rfl, hb⟩; refine ⟨_, rfl, ?_⟩; have n0_ := Aside0.mk (blk_below (g := gb121) (o := .cells #[.slice A0_0 l0_0.length c0_0] 29 (0, 0)) u4_9 hb); have n1_ := Aside0.mk (blk_below (g := gb122) (o := .cells #[.int .u64 0, .int .u64 0, .int .u64 0, .int .u64 0, .int .i64 0] 53 (0, 0)) u4_14 hb); have n2_ := Aside0.mk (below_step u4_3 hb); clear BK121; clear BK122; clear HB; have BK121 := n0_; have BK122 := n1_; have HB := n2_; clear n0_ n1_ n2_; (try clear hb); (try clear hb2); (try clear hk); (try clear hi)))
    have H := H9.out
    clear H9
    by_cases c22 : t124 < 0
    · rw [if_pos c22] at H
      have c22b0 : decide (t124 < 0) = true := decide_eq_true c22
      clear c22
      (first | rw [c22b0] | (simp only [i64_w, i32_w]; rw [c22b0]) | skip)
      simp only [Option.some.injEq, Prod.mk.injEq] at H
      obtain ⟨rfl, rfl, rfl, rfl, rfl, rfl⟩ := H
      have hnb23 := NB122_121.out
      have hnc23 := NB121_122.out
      have hcz24_0 : w21.cell? ⟨gb122, 0, none⟩ = some (.int .u64 0) := (blk_cell BK122.out 0).trans rfl
      have hcz24_1 : w21.cell? ⟨gb122, 1, none⟩ = some (.int .u64 0) := (blk_cell BK122.out 1).trans rfl
      have hcz24_2 : w21.cell? ⟨gb122, 2, none⟩ = some (.int .u64 0) := (blk_cell BK122.out 2).trans rfl
      have hcz24_3 : w21.cell? ⟨gb122, 3, none⟩ = some (.int .u64 0) := (blk_cell BK122.out 3).trans rfl
      have hcz24_4 : w21.cell? ⟨gb122, 4, none⟩ = some (.int .i64 0) := (blk_cell BK122.out 4).trans rfl
      have hfz24_0 := blk_frozen BK122.out 0
      have hfz24_1 := blk_frozen BK122.out 1
      have hfz24_2 := blk_frozen BK122.out 2
      have hfz24_3 := blk_frozen BK122.out 3
      have hfz24_4 := blk_frozen BK122.out 4
      go_wp2
      refine bodyPost_ret (results_ct rfl _ _ gb122 53 #[.int .u64 0, .int .u64 0, .int .u64 0, .int .u64 0, .int .i64 0] (0, 0) _ rfl u4_5 Try.underlying53 rfl (by kernel_rfl)) rfl ?_
      exact ⟨by first | rfl | (simp [errW_none, errW_some] <;> rfl) | (simp [*, errW_none, errW_some] <;> rfl), u4_3⟩
    rw [if_neg c22] at H
    have c22b0 : decide (t124 < 0) = false := decide_eq_false c22
    clear c22
    (first | rw [c22b0] | (simp only [i64_w, i32_w]; rw [c22b0]) | skip)
    by_cases c25 : 0 ≤ t124
    rotate_left
    · rw [if_neg c25] at H
      exact absurd H (by simp)
    rw [if_pos c25] at H
    have c25b0 : decide (0 ≤ t124) = true := decide_eq_true c25
    clear c25
    by_cases c26 : t124 < (l0_0.length : Int)
    rotate_left
    · rw [if_neg c26] at H
      exact absurd H (by simp)
    rw [if_pos c26] at H
    have c26b0 : decide (t124 < (l0_0.length : Int)) = true := decide_eq_true c26
    clear c26
    simp only [Option.some.injEq, Prod.mk.injEq] at H
    obtain ⟨rfl, rfl, rfl, rfl, rfl, rfl⟩ := H
    have hnb27 := NB121_122.out
    have hnc27 := NB122_121.out
    have hcz28_0 : w21.cell? ⟨gb121, 0, none⟩ = some (.slice A0_0 l0_0.length c0_0) := (blk_cell BK121.out 0).trans rfl
    have hfz28_0 := blk_frozen BK121.out 0
    have p125 : 0 ≤ (t124 : Int) := of_decide_eq_true u4_6
    have q125 : t124 < (l0_0.length : Int) := of_decide_eq_true u4_6
    obtain ⟨ad125, e125, hx125_0, hx125_1, hx125_2, hx125_3, hx125_4⟩ := at_T53 HR0_0.out t124 p125 q125
    cases e125
    replace hx125_0 := (HB.out.cell (World.block_lt_of_cell? w _ hx125_0)).trans hx125_0
    replace hx125_1 := (HB.out.cell (World.block_lt_of_cell? w _ hx125_1)).trans hx125_1
    replace hx125_2 := (HB.out.cell (World.block_lt_of_cell? w _ hx125_2)).trans hx125_2
    replace hx125_3 := (HB.out.cell (World.block_lt_of_cell? w _ hx125_3)).trans hx125_3
    replace hx125_4 := (HB.out.cell (World.block_lt_of_cell? w _ hx125_4)).trans hx125_4
    replace p125 := eq_true p125
    replace q125 := eq_true q125
    have hcz29_0 : w21.cell? ⟨gb122, 0, none⟩ = some (.int .u64 0) := (blk_cell BK122.out 0).trans rfl
    have hcz29_1 : w21.cell? ⟨gb122, 1, none⟩ = some (.int .u64 0) := (blk_cell BK122.out 1).trans rfl
    have hcz29_2 : w21.cell? ⟨gb122, 2, none⟩ = some (.int .u64 0) := (blk_cell BK122.out 2).trans rfl
    have hcz29_3 : w21.cell? ⟨gb122, 3, none⟩ = some (.int .u64 0) := (blk_cell BK122.out 3).trans rfl
    have hcz29_4 : w21.cell? ⟨gb122, 4, none⟩ = some (.int .i64 0) := (blk_cell BK122.out 4).trans rfl
    have hfz29_0 := blk_frozen BK122.out 0
    have hfz29_1 := blk_frozen BK122.out 1
    have hfz29_2 := blk_frozen BK122.out 2
    have hfz29_3 := blk_frozen BK122.out 3
    have hfz29_4 := blk_frozen BK122.out 4
    go_wp2
    refine bodyPost_ret (results_ct rfl _ _ gb122 53 #[.int .u64 ((rd_T53 l0_0 t124).f0), .int .u64 ((rd_T53 l0_0 t124).f1), .int .u64 ((rd_T53 l0_0 t124).f2), .int .u64 ((rd_T53 l0_0 t124).f3), .int .i64 ((rd_T53 l0_0 t124).f4)] (0, 0) _ rfl (by (with_reducible repeat (first | refine blk_drewN ?_ _ | refine blk_drew ?_ | refine blk_alloc ?_ _)); refine blk_put (cs := #[.int .u64 ((rd_T53 l0_0 t124).f0), .int .u64 ((rd_T53 l0_0 t124).f1), .int .u64 ((rd_T53 l0_0 t124).f2), .int .u64 ((rd_T53 l0_0 t124).f3), .int .i64 0]) ?_ 4 _ rfl; (with_reducible repeat (first | refine blk_drewN ?_ _ | refine blk_drew ?_ | refine blk_alloc ?_ _)); refine blk_put (cs := #[.int .u64 ((rd_T53 l0_0 t124).f0), .int .u64 ((rd_T53 l0_0 t124).f1), .int .u64 ((rd_T53 l0_0 t124).f2), .int .u64 0, .int .i64 0]) ?_ 3 _ rfl; (with_reducible repeat (first | refine blk_drewN ?_ _ | refine blk_drew ?_ | refine blk_alloc ?_ _)); refine blk_put (cs := #[.int .u64 ((rd_T53 l0_0 t124).f0), .int .u64 ((rd_T53 l0_0 t124).f1), .int .u64 0, .int .u64 0, .int .i64 0]) ?_ 2 _ rfl; (with_reducible repeat (first | refine blk_drewN ?_ _ | refine blk_drew ?_ | refine blk_alloc ?_ _)); refine blk_put (cs := #[.int .u64 ((rd_T53 l0_0 t124).f0), .int .u64 0, .int .u64 0, .int .u64 0, .int .i64 0]) ?_ 1 _ rfl; (with_reducible repeat (first | refine blk_drewN ?_ _ | refine blk_drew ?_ | refine blk_alloc ?_ _)); refine blk_put (cs := #[.int .u64 0, .int .u64 0, .int .u64 0, .int .u64 0, .int .i64 0]) ?_ 0 _ rfl; (with_reducible repeat (first | refine blk_drewN ?_ _ | refine blk_drew ?_ | refine blk_alloc ?_ _)); exact BK122.out) Try.underlying53 rfl (by kernel_rfl)) rfl ?_
    exact ⟨by first | rfl | (simp [errW_none, errW_some] <;> rfl) | (simp [*, errW_none, errW_some] <;> rfl), u4_3⟩

/-! ### spec_l10Copy: function 54 -/
def spec_l10Copy.l0 : Nat → Int → List (S53) → List (S53) → Option ((List (S53)))
  | 0, _, _, _ => none
  | k + 1, x4, x127000, x129000 => if x4 < (x127000.length : Int) then (if 0 ≤ x4 then (if x129000.length < 3518437208883 then (spec_l10Copy.l0 k (wrap64 (x4 + 1)) x127000 (x129000 ++ [(⟨(rd_T53 x127000 x4).f0, (rd_T53 x127000 x4).f1, (rd_T53 x127000 x4).f2, (rd_T53 x127000 x4).f3, (rd_T53 x127000 x4).f4⟩ : S53)])) else (none)) else (none)) else (some x129000)
def spec_l10Copy.f (k : Nat) (l0_0 : List (S53)) : Option ((List (S53))) := spec_l10Copy.l0 k 0 l0_0 ([] : List (S53))
theorem spec_l10Copy.mono_l : ∀ k, (∀ y0 y1 y2, LeO (spec_l10Copy.l0 k y0 y1 y2) (spec_l10Copy.l0 (k + 1) y0 y1 y2))
  | 0 => fun _ _ _ r h => by simp [spec_l10Copy.l0] at h
  | k + 1 => by
    have ih0 := spec_l10Copy.mono_l k
    · intro y0 y1 y2
      unfold spec_l10Copy.l0
      repeat' first
      | (with_reducible exact ih0 _ _ _)
      | (with_reducible exact LeO.refl _)
      | (with_reducible exact LeO.none _)
      | (with_reducible refine LeO.ite ?_ ?_)
      | (with_reducible refine LeO.bind ?_ (fun _ => ?_))
      | exact ih0 _ _ _
      | exact LeO.none _
      | refine LeO.ite ?_ ?_
      | refine LeO.bind ?_ (fun _ => ?_)
theorem spec_l10Copy.mono : ∀ a0 k, LeO (spec_l10Copy.f k a0) (spec_l10Copy.f (k + 1) a0) := by
  intro a0 k
  have ih0 := spec_l10Copy.mono_l k
  unfold spec_l10Copy.f
  repeat' first
      | (with_reducible exact ih0 _ _ _)
      | (with_reducible exact LeO.refl _)
      | (with_reducible exact LeO.none _)
      | (with_reducible refine LeO.ite ?_ ?_)
      | (with_reducible refine LeO.bind ?_ (fun _ => ?_))
      | exact ih0 _ _ _
      | exact LeO.none _
      | refine LeO.ite ?_ ?_
      | refine LeO.bind ?_ (fun _ => ?_)
def spec_l10Copy.T5 : Bool × List (List Nat × List Nat) := (true, [([], []), ([0], [0]), ([], []), ([2], [2]), ([], []), ([3, 4], [3, 4]), ([5], [5]), ([6], [6]), ([1, 7], [1, 7]), ([0, 1, 2, 3, 4, 5, 6, 7, 8], []), ([9, 8, 8, 0, 1, 2, 3, 4, 5, 6, 7, 8], [8, 9])])
def spec_l10Copy.B5 : List Nat := [0, 1, 0, 4, 0, 28, 60, 124, 255, 511, 1023]
theorem spec_l10Copy.tab5 : rtab .any (opsOf Try.f54 5) = spec_l10Copy.T5 := by kernel_rfl
theorem spec_l10Copy.bits5 : waitsOk spec_l10Copy.T5.2 spec_l10Copy.B5 = true := by kernel_rfl
set_option maxHeartbeats 8000000 in
set_option maxRecDepth 100000 in
theorem spec_l10Copy.calls (k : Nat) (A0_0 : Option Addr) (c0_0 : Nat) (l0_0 : List (S53)) (r : List (S53)) (w : World) (hr0_0 : Kd.C k53 w A0_0 l0_0.length l0_0) (hc0_0 : l0_0.length ≤ c0_0) (h : spec_l10Copy.f k l0_0 = some r) :
    Calls Try.prog 54 #[.agg #[.slice A0_0 l0_0.length c0_0]] w fun e w' => ∃ v0_ : Value, e = .returned (.agg #[v0_]) ∧ Kd.R k53 53 w' w.heap.size (fun _ => True) v0_ r ∧ Below w.heap.size w w' := by
  have hu29 := Try.underlying29
  have hu53 := Try.underlying53
  have HR0_0 := Aside0.mk hr0_0
  have HC0_0 := Aside0.mk hc0_0
  clear hr0_0 hc0_0
  have HB := Aside0.mk (Below.refl w.heap.size w)
  have H : (spec_l10Copy.l0 k 0 l0_0 ([] : List (S53))) = some r := h
  clear h
  have H' := Aside0.mk H
  clear H
  go_enter Try.func54, Try.ntmps54
  go_wp2_with (first | ((with_reducible refine gate_dst (N := 1) rfl ?_); refine box_event ?hg (N := 1) ?hd (cs := #[.slice A0_0 l0_0.length c0_0]) (t := 29) ?hr ?_; (case hd => rfl); (case hg => rfl); (case hr => first | (go_simp; done) | (go_simp; rfl)); intro gb126 hg w2 hbox hb; have n0_ := Aside0.mk (below_step u4_2 hb); have n1_ := Aside0.mk (hbox); have n2_ := Aside0.mk ((by rw [hg]; exact (below_size u4_2) : w.heap.size ≤ gb126)); have n3_ := Aside0.mk ((by rw [hg]; exact (below_size u4_2) : w.heap.size ≤ gb126)); clear HB; have HB := n0_; have BK126 := n1_; have GW126 := n2_; have GE126 := n3_; clear n0_ n1_ n2_ n3_; clear hb hbox hg) | ((with_reducible refine gate_dst (N := 2) rfl ?_); refine box_event ?hg (N := 2) ?hd (cs := #[.slice none 0 0]) (t := 29) ?hr ?_; (case hd => rfl); (case hg => rfl); (case hr => first | (go_simp; done) | (go_simp; rfl)); intro gb127 hg w3 hbox hb; have n0_ := Aside0.mk (blk_below (g := gb126) (o := .cells #[.slice A0_0 l0_0.length c0_0] 29 (0, 0)) u4_12 hb); have n1_ := Aside0.mk (below_step u4_22 hb); have n2_ := Aside0.mk (hbox); have n3_ := Aside0.mk ((by rw [hg]; exact (below_size u4_22) : w.heap.size ≤ gb127)); have n4_ := Aside0.mk ((by rw [hg]; exact (below_size u4_22) : w.heap.size ≤ gb127)); have n5_ := Aside0.mk ((by rw [hg]; exact Nat.ne_of_lt (blk_lt (g := gb126) (o := .cells #[.slice A0_0 l0_0.length c0_0] 29 (0, 0)) u4_12) : gb126 ≠ gb127)); have n6_ := Aside0.mk ((by rw [hg]; exact Nat.ne_of_gt (blk_lt (g := gb126) (o := .cells #[.slice A0_0 l0_0.length c0_0] 29 (0, 0)) u4_12) : gb127 ≠ gb126)); clear BK126; clear HB; have BK126 := n0_; have HB := n1_; have BK127 := n2_; have GW127 := n3_; have GE127 := n4_; have NB126_127 := n5_; have NB127_126 := n6_; clear n0_ n1_ n2_ n3_ n4_ n5_ n6_; clear hb hbox hg) | ((with_reducible refine gate_dst (N := 3) rfl ?_); refine box_event ?hg (N := 3) ?hd (cs := #[.slice none 0 0]) (t := 29) ?hr ?_; (case hd => rfl); (case hg => rfl); (case hr => first | (go_simp; done) | (go_simp; rfl)); intro gb128 hg w4 hbox hb; have n0_ := Aside0.mk (blk_below (g := gb126) (o := .cells #[.slice A0_0 l0_0.length c0_0] 29 (0, 0)) u4_12 hb); have n1_ := Aside0.mk (blk_below (g := gb127) (o := .cells #[.slice none 0 0] 29 (0, 0)) u4_18 hb); have n2_ := Aside0.mk (below_step u4_16 hb); have n3_ := Aside0.mk (hbox); have n4_ := Aside0.mk ((by rw [hg]; exact (below_size u4_16) : w.heap.size ≤ gb128)); have n5_ := Aside0.mk ((by rw [hg]; exact (below_size u4_16) : w.heap.size ≤ gb128)); have n6_ := Aside0.mk ((by rw [hg]; exact Nat.ne_of_lt (blk_lt (g := gb126) (o := .cells #[.slice A0_0 l0_0.length c0_0] 29 (0, 0)) u4_12) : gb126 ≠ gb128)); have n7_ := Aside0.mk ((by rw [hg]; exact Nat.ne_of_gt (blk_lt (g := gb126) (o := .cells #[.slice A0_0 l0_0.length c0_0] 29 (0, 0)) u4_12) : gb128 ≠ gb126)); have n8_ := Aside0.mk ((by rw [hg]; exact Nat.ne_of_lt (blk_lt (g := gb127) (o := .cells #[.slice none 0 0] 29 (0, 0)) u4_18) : gb127 ≠ gb128)); have n9_ := Aside0.mk ((by rw [hg]; exact Nat.ne_of_gt (blk_lt (g := gb127) (o := .cells #[.slice none 0 0] 29 (0, 0)) u4_18) : gb128 ≠ gb127)); clear BK126; clear BK127; clear HB; have BK126 := n0_; have BK127 := n1_; have HB := n2_; have BK128 := n3_; have GW128 := n4_; have GE128 := n5_; have NB126_128 := n6_; have NB128_126 := n7_; have NB127_128 := n8_; have NB128_127 := n9_; clear n0_ n1_ n2_ n3_ n4_ n5_ n6_ n7_ n8_ n9_; clear hb hbox hg; have hnb5 := NB128_126.out; have hnc5 := NB126_128.out; have hnb6 := NB128_127.out; have hnc6 := NB127_128.out; have hcz7_0 : w4.cell? ⟨gb128, 0, none⟩ = some (.slice none 0 0) := (blk_cell BK128.out 0).trans rfl; have hfz7_0 := blk_frozen BK128.out 0))
  go_loopg [4] k (fun kq v4 w' => ∃ (x4_1 : Int) (x129000_1 : List (S53)) (u129000 : Value), v4 = .int .i64 x4_1 ∧ Aside0 (spec_l10Copy.l0 kq x4_1 l0_0 x129000_1 = some r) ∧ Aside0 (kq ≤ k) ∧ Aside0 (Kd.R k53 53 w' w.heap.size (fun _ => True) u129000 x129000_1) ∧ Aside0 (w'.heap[gb126]? = some (.cells #[(.slice A0_0 l0_0.length c0_0)] 29 (0, 0))) ∧ Aside0 (w'.heap[gb127]? = some (.cells #[(.slice none 0 0)] 29 (0, 0))) ∧ Aside0 (w'.heap[gb128]? = some (.cells #[u129000] 29 (0, 0))) ∧ Aside0 (Below w.heap.size w w'))
  case atStart => exact ⟨(0), (([] : List (S53))), (.slice none 0 0), u4_20, H', ⟨Nat.le_refl _⟩, ⟨(by first | exact Kd.R_nil _ _ _ _ _ | exact Kd.N_nil _ _ _ _ _ | exact Kd.V_nil _ _ _ _ _ | exact Kd.Q_nil _ _ _ _ _ | exact Kd.S_nil _ _ _ _ _)⟩, ⟨u4_25⟩, ⟨u4_26⟩, ⟨(by (with_reducible repeat (first | refine blk_drewN ?_ _ | refine blk_drew ?_ | refine blk_alloc ?_ _)); refine blk_put (cs := #[.slice none 0 0]) ?_ 0 _ rfl; (with_reducible repeat (first | refine blk_drewN ?_ _ | refine blk_drew ?_ | refine blk_alloc ?_ _)); exact BK128.out)⟩, ⟨u4_8⟩⟩
  clear H'
  try clear p2
  try clear c5
  try clear c6
  try clear hcz7_0
  try clear hfz7_0
  obtain ⟨x4_1, x129000_1, u129000, rfl, HA, HK1, HO_129000, BK126, BK127, BK128, HB⟩ := hrel
  cases gk with
  | zero => exact absurd HA.out (by simp [spec_l10Copy.l0])
  | succ k1 =>
    have H := HA.out
    clear HA
    simp only [spec_l10Copy.l0] at H
    by_cases c8 : x4_1 < (l0_0.length : Int)
    rotate_left
    · rw [if_neg c8] at H
      have c8b0 : decide (x4_1 < (l0_0.length : Int)) = false := decide_eq_false c8
      clear c8
      obtain rfl := Option.some.inj H
      have hnb18 := NB126_127.out
      have hnc18 := NB127_126.out
      have hnb19 := NB126_128.out
      have hnc19 := NB128_126.out
      have hcz20_0 : wr.cell? ⟨gb126, 0, none⟩ = some (.slice A0_0 l0_0.length c0_0) := (blk_cell BK126.out 0).trans rfl
      have hfz20_0 := blk_frozen BK126.out 0
      have hnb21 := NB128_127.out
      have hnc21 := NB127_128.out
      have hcz22_0 : wr.cell? ⟨gb128, 0, none⟩ = some (u129000) := (blk_cell BK128.out 0).trans rfl
      have hfz22_0 := blk_frozen BK128.out 0
      obtain ⟨Ao23, co23, eo23⟩ := Kd.R_slice HO_129000.out
      subst eo23
      have hcz24_0 : wr.cell? ⟨gb127, 0, none⟩ = some (.slice none 0 0) := (blk_cell BK127.out 0).trans rfl
      have hfz24_0 := blk_frozen BK127.out 0
      go_wp2
      refine bodyPost_ret (results_cell_row rfl _ _ gb127 29 #[.slice Ao23 x129000_1.length co23] (0, 0) _ rfl (by (with_reducible repeat (first | refine blk_drewN ?_ _ | refine blk_drew ?_ | refine blk_alloc ?_ _)); refine blk_put (cs := #[.slice none 0 0]) ?_ 0 _ rfl; (with_reducible repeat (first | refine blk_drewN ?_ _ | refine blk_drew ?_ | refine blk_alloc ?_ _)); exact BK127.out) Try.underlying29 rfl (by kernel_rfl)) rfl ?_
      exact ⟨_, by first | rfl | (simp [errW_none, errW_some] <;> rfl) | (simp [*, errW_none, errW_some] <;> rfl), (by (with_reducible repeat (first | apply Kd.R_alloc | apply Kd.R_drewN | apply Kd.R_drew)); exact Kd.R_mono (Kd.R_far (p := ⟨gb127, 0, none⟩) (Kd.R_types HO_129000.out BK127.out (by decide)) (fun _ hk => hk.2) (.slice Ao23 x129000_1.length co23)) (fun _ hk => trivial)), u4_8⟩
    rw [if_pos c8] at H
    have c8b0 : decide (x4_1 < (l0_0.length : Int)) = true := decide_eq_true c8
    clear c8
    by_cases c9 : 0 ≤ x4_1
    rotate_left
    · rw [if_neg c9] at H
      exact absurd H (by simp)
    rw [if_pos c9] at H
    have c9b0 : decide (0 ≤ x4_1) = true := decide_eq_true c9
    clear c9
    by_cases c10 : x129000_1.length < 3518437208883
    rotate_left
    · rw [if_neg c10] at H
      exact absurd H (by simp)
    rw [if_pos c10] at H
    have LMc10 := Aside0.mk c10
    clear c10
    obtain ⟨y130, hy130⟩ : ∃ y_ : List (S53), y_ = (x129000_1 ++ [(⟨(rd_T53 l0_0 x4_1).f0, (rd_T53 l0_0 x4_1).f1, (rd_T53 l0_0 x4_1).f2, (rd_T53 l0_0 x4_1).f3, (rd_T53 l0_0 x4_1).f4⟩ : S53)]) := ⟨_, rfl⟩
    replace H : (spec_l10Copy.l0 k1 (wrap64 (x4_1 + 1)) l0_0 y130) = some r := by first | (rw [hy130]; with_reducible exact H) | (have H2_ := (Option.bind_some _ _).symm.trans H; rw [hy130]; with_reducible exact H2_) | (have H2_ := (Option.bind_some _ _).symm.trans H; with_reducible exact H2_) | with_reducible exact H | (rw [hy130]; exact H) | exact H
    have Ny130 := Aside0.mk hy130
    clear hy130
    have H' := Aside0.mk H
    clear H
    have hnb11 := NB126_127.out
    have hnc11 := NB127_126.out
    have hnb12 := NB126_128.out
    have hnc12 := NB128_126.out
    have hcz13_0 : wr.cell? ⟨gb126, 0, none⟩ = some (.slice A0_0 l0_0.length c0_0) := (blk_cell BK126.out 0).trans rfl
    have hfz13_0 := blk_frozen BK126.out 0
    try go_wp2
    have n0_ := Aside0.mk (Kd.R_drew HO_129000.out)
    have n1_ := Aside0.mk (blk_drew BK126.out)
    have n2_ := Aside0.mk (blk_drew BK127.out)
    have n3_ := Aside0.mk (blk_drew BK128.out)
    have n4_ := Aside0.mk (below_drew1 HB.out)
    clear HO_129000
    clear BK126
    clear BK127
    clear BK128
    clear HB
    have HO_129000 := n0_
    have BK126 := n1_
    have BK127 := n2_
    have BK128 := n3_
    have HB := n4_
    clear n0_ n1_ n2_ n3_ n4_
    have p129 : 0 ≤ (x4_1 : Int) := of_decide_eq_true u4_6
    have q129 : x4_1 < (l0_0.length : Int) := of_decide_eq_true u4_6
    obtain ⟨ad129, e129, hx129_0, hx129_1, hx129_2, hx129_3, hx129_4⟩ := at_T53 HR0_0.out x4_1 p129 q129
    have hw129_4 := hx129_4
    have hw129_3 := hx129_3
    have hw129_2 := hx129_2
    have hw129_1 := hx129_1
    have hw129_0 := hx129_0
    cases e129
    replace hx129_0 := (HB.out.cell (World.block_lt_of_cell? w _ hx129_0)).trans hx129_0
    replace hx129_1 := (HB.out.cell (World.block_lt_of_cell? w _ hx129_1)).trans hx129_1
    replace hx129_2 := (HB.out.cell (World.block_lt_of_cell? w _ hx129_2)).trans hx129_2
    replace hx129_3 := (HB.out.cell (World.block_lt_of_cell? w _ hx129_3)).trans hx129_3
    replace hx129_4 := (HB.out.cell (World.block_lt_of_cell? w _ hx129_4)).trans hx129_4
    replace p129 := eq_true p129
    replace q129 := eq_true q129
    refine start_ (n := 11) (S := fun w' => w'.cell? ⟨gb128, 0, none⟩ = some (u129000) ∧ w'.cell? ⟨gb126, 0, none⟩ = some (.slice (some ad129) l0_0.length c0_0) ∧ w'.cell? (ad129.add ((x4_1).toNat * 5)) = some (.int .u64 ((rd_T53 l0_0 x4_1).f0)) ∧ w'.cell? ⟨(ad129.add ((x4_1).toNat * 5)).block, (ad129.add ((x4_1).toNat * 5)).off + 1, none⟩ = some (.int .u64 ((rd_T53 l0_0 x4_1).f1)) ∧ w'.cell? ⟨(ad129.add ((x4_1).toNat * 5)).block, (ad129.add ((x4_1).toNat * 5)).off + 2, none⟩ = some (.int .u64 ((rd_T53 l0_0 x4_1).f2)) ∧ w'.cell? ⟨(ad129.add ((x4_1).toNat * 5)).block, (ad129.add ((x4_1).toNat * 5)).off + 3, none⟩ = some (.int .u64 ((rd_T53 l0_0 x4_1).f3)) ∧ w'.cell? ⟨(ad129.add ((x4_1).toNat * 5)).block, (ad129.add ((x4_1).toNat * 5)).off + 4, none⟩ = some (.int .i64 ((rd_T53 l0_0 x4_1).f4))) (ds := [10]) #[false, false, false, false, false, false, false, false, false, false, false] (by kernel_rfl) rfl rfl ⟨(blk_cell BK128.out 0).trans rfl, (blk_cell BK126.out 0).trans rfl, ((HB.out.cell (World.block_lt_of_cell? w _ hw129_0)).trans hw129_0), ((HB.out.cell (World.block_lt_of_cell? w _ hw129_1)).trans hw129_1), ((HB.out.cell (World.block_lt_of_cell? w _ hw129_2)).trans hw129_2), ((HB.out.cell (World.block_lt_of_cell? w _ hw129_3)).trans hw129_3), ((HB.out.cell (World.block_lt_of_cell? w _ hw129_4)).trans hw129_4)⟩ (fun hHeld => ?_); refine with_tabW spec_l10Copy.tab5 spec_l10Copy.bits5 (fun HT_ HW_ => ?_)
    generalize wr.drew = w14 at HO_129000 BK126 BK127 BK128 HB hx129_0 hx129_1 hx129_2 hx129_3 hx129_4 hHeld ⊢
    refine pure_ (i := 0) (N := some 13) (v := ?_) (a' := ?_) #[true, false, false, false, false, false, false, false, false, false, false] rfl rfl (any_of HT_.out (by kernel_rfl)) (fun _ _ _ h => h) (Or.inl ⟨by rfl, ?_⟩) ?_ ?_
    rotate_left
    · intro w'
      go_simp
      with_reducible rfl
    rotate_left
    · simp only [Act.put, List.setIfInBounds_toArray, List.set_cons_zero, List.set_cons_succ, i64_w, i32_w]
      rfl
    refine pure_ (i := 2) (N := some 15) (v := ?_) (a' := ?_) #[true, false, true, false, false, false, false, false, false, false, false] rfl rfl (any_of HT_.out (by kernel_rfl)) (fun _ _ _ h => h) (Or.inl ⟨by rfl, ?_⟩) ?_ ?_
    rotate_left
    · intro w'
      go_simp
      with_reducible rfl
    rotate_left
    · simp only [Act.put, List.setIfInBounds_toArray, List.set_cons_zero, List.set_cons_succ, i64_w, i32_w]
      rfl
    refine pure_ (i := 4) (N := some 17) (v := ?_) (a' := ?_) #[true, false, true, false, true, false, false, false, false, false, false] rfl rfl (any_of HT_.out (by kernel_rfl)) (fun _ _ _ h => h) (Or.inl ⟨by rfl, ?_⟩) ?_ ?_
    rotate_left
    · intro w'
      go_simp
      with_reducible rfl
    rotate_left
    · simp only [Act.put, List.setIfInBounds_toArray, List.set_cons_zero, List.set_cons_succ, i64_w, i32_w]
      rfl
    refine take_ (i := 1) (N := some 14) (v := ?_) (a' := ?_) #[true, true, true, false, true, false, false, false, false, false, false] rfl rfl (take_ofW HT_.out HW_.out (by kernel_rfl)) (fun _ _ _ h => h) (Or.inl ⟨by rfl, ?_⟩) hHeld ?_ ?_
    rotate_left
    · rintro w' ⟨s0, s1, s2, s3, s4, s5, s6⟩
      go_simp
      with_reducible rfl
    rotate_left
    · simp only [Act.put, List.setIfInBounds_toArray, List.set_cons_zero, List.set_cons_succ, i64_w, i32_w]
      rfl
    refine take_ (i := 3) (N := some 16) (v := ?_) (a' := ?_) #[true, true, true, true, true, false, false, false, false, false, false] rfl rfl (take_ofW HT_.out HW_.out (by kernel_rfl)) (fun _ _ _ h => h) (Or.inl ⟨by rfl, ?_⟩) hHeld ?_ ?_
    rotate_left
    · rintro w' ⟨s0, s1, s2, s3, s4, s5, s6⟩
      go_simp
      with_reducible rfl
    rotate_left
    · simp only [Act.put, List.setIfInBounds_toArray, List.set_cons_zero, List.set_cons_succ, i64_w, i32_w]
      rfl
    refine pure_ (i := 5) (N := some 18) (v := ?_) (a' := ?_) #[true, true, true, true, true, true, false, false, false, false, false] rfl rfl (any_of HT_.out (by kernel_rfl)) (fun _ _ _ h => h) (Or.inl ⟨by rfl, ?_⟩) ?_ ?_
    rotate_left
    · intro w'
      go_simp
      with_reducible rfl
    rotate_left
    · simp only [Act.put, List.setIfInBounds_toArray, List.set_cons_zero, List.set_cons_succ, i64_w, i32_w]
      rfl
    refine take_ (i := 6) (N := some 19) (v := ?_) (a' := ?_) #[true, true, true, true, true, true, true, false, false, false, false] rfl rfl (take_ofW HT_.out HW_.out (by kernel_rfl)) (fun _ _ _ h => h) (Or.inl ⟨by rfl, ?_⟩) hHeld ?_ ?_
    rotate_left
    · rintro w' ⟨s0, s1, s2, s3, s4, s5, s6⟩
      go_simp
      with_reducible rfl
    rotate_left
    · simp only [Act.put, List.setIfInBounds_toArray, List.set_cons_zero, List.set_cons_succ, i64_w, i32_w]
      rfl
    refine one_ (i := 7) (N := some 20) #[true, true, true, true, true, true, true, true, false, false, false] rfl rfl (one_of HT_.out (by kernel_rfl)) (by decide) (fun K hK => ?_)
    refine value_ (w1 := ?_) (v := ?_) (by rfl) rfl ?_ ?_
    rotate_left 2
    · go_simp
      constructor
      · rfl
      rfl
    refine hK.out _ _ ⟨(blk_cell (blk_alloc BK128.out _) 0).trans rfl, (blk_cell (blk_alloc BK126.out _) 0).trans rfl, (World.cell?_alloc_lt _ _ _ (World.block_lt_of_cell? _ _ (((HB.out.cell (World.block_lt_of_cell? w _ hw129_0)).trans hw129_0)))).trans (((HB.out.cell (World.block_lt_of_cell? w _ hw129_0)).trans hw129_0)), (World.cell?_alloc_lt _ _ _ (World.block_lt_of_cell? _ _ (((HB.out.cell (World.block_lt_of_cell? w _ hw129_1)).trans hw129_1)))).trans (((HB.out.cell (World.block_lt_of_cell? w _ hw129_1)).trans hw129_1)), (World.cell?_alloc_lt _ _ _ (World.block_lt_of_cell? _ _ (((HB.out.cell (World.block_lt_of_cell? w _ hw129_2)).trans hw129_2)))).trans (((HB.out.cell (World.block_lt_of_cell? w _ hw129_2)).trans hw129_2)), (World.cell?_alloc_lt _ _ _ (World.block_lt_of_cell? _ _ (((HB.out.cell (World.block_lt_of_cell? w _ hw129_3)).trans hw129_3)))).trans (((HB.out.cell (World.block_lt_of_cell? w _ hw129_3)).trans hw129_3)), (World.cell?_alloc_lt _ _ _ (World.block_lt_of_cell? _ _ (((HB.out.cell (World.block_lt_of_cell? w _ hw129_4)).trans hw129_4)))).trans (((HB.out.cell (World.block_lt_of_cell? w _ hw129_4)).trans hw129_4))⟩ (fun hHeld => ?_)
    clear hK K
    refine norm_ (a' := ?_) ?_ ?_
    rotate_left
    · show Act.put _ (some 20) _ = _
      simp only [Act.put, List.setIfInBounds_toArray, List.set_cons_zero, List.set_cons_succ, i64_w, i32_w]
      rfl
    refine one_ (i := 8) (N := some 21) #[true, true, true, true, true, true, true, true, true, false, false] rfl rfl (one_of HT_.out (by kernel_rfl)) (by decide) (fun K hK => ?_)
    refine Kd.R_append_step k53 (w0 := w) w.heap.size (by rfl) (.tmp 14) (.tmp 20) 27 53 (.agg #[(.int .u64 0), (.int .u64 0), (.int .u64 0), (.int .u64 0), (.int .i64 0)]) 40 rfl Try.underlying27 info53 rfl (by decide) (by omega) u129000 x129000_1 (⟨(rd_T53 l0_0 x4_1).f0, (rd_T53 l0_0 x4_1).f1, (rd_T53 l0_0 x4_1).f2, (rd_T53 l0_0 x4_1).f3, (rd_T53 l0_0 x4_1).f4⟩ : S53) [.int .u64 ((rd_T53 l0_0 x4_1).f0), .int .u64 ((rd_T53 l0_0 x4_1).f1), .int .u64 ((rd_T53 l0_0 x4_1).f2), .int .u64 ((rd_T53 l0_0 x4_1).f3), .int .i64 ((rd_T53 l0_0 x4_1).f4)] (fun _ => True) (fun _ => False) rfl rfl ?aP (fun _ hk => hk.elim) ?aF ?aO ?aB ?aS ?aL ?_
    (case aP => exact k53_mkM _ _ _ (⟨(rd_T53 l0_0 x4_1).f0, (rd_T53 l0_0 x4_1).f1, (rd_T53 l0_0 x4_1).f2, (rd_T53 l0_0 x4_1).f3, (rd_T53 l0_0 x4_1).f4⟩ : S53))
    (case aB => exact u4_8)
    (case aF => exact (fun _ _ => trivial))
    (case aO => exact (by (with_reducible repeat (first | apply Kd.R_alloc | apply Kd.R_drewN | apply Kd.R_drew)); exact HO_129000.out))
    (case aS => exact (below_size u4_8))
    (case aL => have := LMc10.out; omega)
    intro v131 w15 ho hb hg hat
    rw [← Ny130.out] at ho
    have n0_ := Aside0.mk (blk_grown (g := gb126) (o := .cells #[.slice (some ad129) l0_0.length c0_0] 29 (0, 0)) u4_12 hg (Kd.R_ne HO_129000.out BK126.out (by decide)))
    have n1_ := Aside0.mk (blk_grown (g := gb127) (o := .cells #[.slice none 0 0] 29 (0, 0)) u4_18 hg (Kd.R_ne HO_129000.out BK127.out (by decide)))
    have n2_ := Aside0.mk (blk_grown (g := gb128) (o := .cells #[u129000] 29 (0, 0)) (by (with_reducible repeat (first | refine blk_drewN ?_ _ | refine blk_drew ?_ | refine blk_alloc ?_ _)); exact BK128.out) hg (Kd.R_ne HO_129000.out BK128.out (by decide)))
    have n3_ := Aside0.mk (hb)
    have n4_ := Aside0.mk (ho)
    clear BK126
    clear BK127
    clear BK128
    clear HB
    clear HO_129000
    have BK126 := n0_
    have BK127 := n1_
    have BK128 := n2_
    have HB := n3_
    have HO132 := n4_
    clear n0_ n1_ n2_ n3_ n4_
    clear ho hb hg hat
    obtain ⟨Ao16, co16, eo16⟩ := Kd.R_slice HO132.out
    (first | subst eo16 | (injection eo16 with f1_ f2_ f3_; have f4_ := f1_.symm; have f5_ := f3_.symm; clear f1_ f2_ f3_; subst f4_; subst f5_))
    refine hK.out _ _ ⟨(blk_cell BK128.out 0).trans rfl, (blk_cell BK126.out 0).trans rfl, ((HB.out.cell (World.block_lt_of_cell? w _ hw129_0)).trans hw129_0), ((HB.out.cell (World.block_lt_of_cell? w _ hw129_1)).trans hw129_1), ((HB.out.cell (World.block_lt_of_cell? w _ hw129_2)).trans hw129_2), ((HB.out.cell (World.block_lt_of_cell? w _ hw129_3)).trans hw129_3), ((HB.out.cell (World.block_lt_of_cell? w _ hw129_4)).trans hw129_4)⟩ (fun hHeld => ?_)
    clear hK K
    refine norm_ (a' := ?_) ?_ ?_
    rotate_left
    · show Act.put _ (some 21) _ = _
      simp only [Act.put, List.setIfInBounds_toArray, List.set_cons_zero, List.set_cons_succ, i64_w, i32_w]
      rfl
    refine pure_ (i := 9) (N := some 22) (v := ?_) (a' := ?_) #[true, true, true, true, true, true, true, true, true, true, false] rfl rfl (any_of HT_.out (by kernel_rfl)) (fun _ _ _ h => h) (Or.inl ⟨by rfl, ?_⟩) ?_ ?_
    rotate_left
    · intro w'
      go_simp
      with_reducible rfl
    rotate_left
    · simp only [Act.put, List.setIfInBounds_toArray, List.set_cons_zero, List.set_cons_succ, i64_w, i32_w]
      rfl
    refine last_ (i := 10) (N := none) #[true, true, true, true, true, true, true, true, true, true, true] rfl rfl (one_of HT_.out (by kernel_rfl)) (by decide) (fun K hK => ?_)
    have hs17 : w15.cell? ⟨gb128, 0, none⟩ = some (u129000) := (blk_cell BK128.out 0).trans rfl
    have hfs17 := blk_frozen BK128.out 0
    have hns17_0 := NB126_128.out
    have hns17_1 := NB127_128.out
    have hms17_0 := NB128_126.out
    have hms17_1 := NB128_127.out
    refine skip_ (w1 := ?_) (by rfl) rfl ?_ ?_
    rotate_left
    · go_simp
      rfl
    refine hK.out _ _ ?_
    clear hK K
    refine done_ (done_of HT_.out (by kernel_rfl)) ?_
    try go_wp2
    go_roundg k1
    case measure => have := HK1.out; omega
    case rel => exact ⟨(wrap64 (x4_1 + 1)), (y130), (.slice Ao16 y130.length co16), u4_20, H', ⟨by have := HK1.out; omega⟩, ⟨(by (with_reducible repeat (first | apply Kd.R_alloc | apply Kd.R_drewN | apply Kd.R_drew)); exact Kd.R_mono (Kd.R_far (p := ⟨gb128, 0, none⟩) (Kd.R_types HO132.out BK128.out (by decide)) (fun _ hk => hk.2) (.slice Ao16 y130.length co16)) (fun _ hk => trivial))⟩, ⟨u4_25⟩, ⟨u4_26⟩, ⟨(by (with_reducible repeat (first | refine blk_drewN ?_ _ | refine blk_drew ?_ | refine blk_alloc ?_ _)); refine blk_put (cs := #[u129000]) ?_ 0 _ rfl; (with_reducible repeat (first | refine blk_drewN ?_ _ | refine blk_drew ?_ | refine blk_alloc ?_ _)); exact BK128.out)⟩, ⟨u4_8⟩⟩

/-! ### spec_l10With: function 55 -/
def spec_l10With.l0 : Nat → Int → Int → Int → Int → Int → Int → List (S53) → Option ((List (S53)))
  | 0, _, _, _, _, _, _, _ => none
  | k + 1, x6, x135000, x135001, x135002, x135003, x135004, x140000 => if x6 < (x140000.length : Int) then (if 0 ≤ x6 then (if ((rd_T53 x140000 x6).f0) = x135000 then (spec_l10With.l0 k (wrap64 (x6 + 1)) x135000 x135001 x135002 x135003 x135004 (x140000.set (x6 : Int).toNat (⟨x135000, x135001, x135002, x135003, x135004⟩ : S53))) else (spec_l10With.l0 k (wrap64 (x6 + 1)) x135000 x135001 x135002 x135003 x135004 x140000)) else (none)) else (some x140000)
def spec_l10With.f (k : Nat) (l0_0 : List (S53)) (a1_0 : Int) (a1_1 : Int) (a1_2 : Int) (a1_3 : Int) (a1_4 : Int) : Option ((List (S53))) := (spec_l10Copy.f k l0_0).bind fun t136 => (spec_l10With.l0 k 0 a1_0 a1_1 a1_2 a1_3 a1_4 t136)
theorem spec_l10With.mono_l : ∀ k, (∀ y0 y1 y2 y3 y4 y5 y6, LeO (spec_l10With.l0 k y0 y1 y2 y3 y4 y5 y6) (spec_l10With.l0 (k + 1) y0 y1 y2 y3 y4 y5 y6))
  | 0 => fun _ _ _ _ _ _ _ r h => by simp [spec_l10With.l0] at h
  | k + 1 => by
    have ih0 := spec_l10With.mono_l k
    · intro y0 y1 y2 y3 y4 y5 y6
      unfold spec_l10With.l0
      repeat' first
      | (with_reducible exact ih0 _ _ _ _ _ _ _)
      | (with_reducible exact spec_l10Copy.mono _ _)
      | (with_reducible exact LeO.refl _)
      | (with_reducible exact LeO.none _)
      | (with_reducible refine LeO.ite ?_ ?_)
      | (with_reducible refine LeO.bind ?_ (fun _ => ?_))
      | exact ih0 _ _ _ _ _ _ _
      | exact spec_l10Copy.mono _ _
      | exact LeO.none _
      | refine LeO.ite ?_ ?_
      | refine LeO.bind ?_ (fun _ => ?_)
theorem spec_l10With.mono : ∀ a0 a1 a2 a3 a4 a5 k, LeO (spec_l10With.f k a0 a1 a2 a3 a4 a5) (spec_l10With.f (k + 1) a0 a1 a2 a3 a4 a5) := by
  intro a0 a1 a2 a3 a4 a5 k
  have ih0 := spec_l10With.mono_l k
  unfold spec_l10With.f
  repeat' first
      | (with_reducible exact ih0 _ _ _ _ _ _ _)
      | (with_reducible exact spec_l10Copy.mono _ _)
      | (with_reducible exact LeO.refl _)
      | (with_reducible exact LeO.none _)
      | (with_reducible refine LeO.ite ?_ ?_)
      | (with_reducible refine LeO.bind ?_ (fun _ => ?_))
      | exact ih0 _ _ _ _ _ _ _
      | exact spec_l10Copy.mono _ _
      | exact LeO.none _
      | refine LeO.ite ?_ ?_
      | refine LeO.bind ?_ (fun _ => ?_)
set_option maxHeartbeats 8000000 in
set_option maxRecDepth 100000 in
theorem spec_l10With.calls (k : Nat) (A0_0 : Option Addr) (c0_0 : Nat) (l0_0 : List (S53)) (a1_0 : Int) (a1_1 : Int) (a1_2 : Int) (a1_3 : Int) (a1_4 : Int) (r : List (S53)) (w : World) (hr0_0 : Kd.C k53 w A0_0 l0_0.length l0_0) (hc0_0 : l0_0.length ≤ c0_0) (h : spec_l10With.f k l0_0 a1_0 a1_1 a1_2 a1_3 a1_4 = some r) :
    Calls Try.prog 55 #[.agg #[.slice A0_0 l0_0.length c0_0], .agg #[.int .u64 a1_0, .int .u64 a1_1, .int .u64 a1_2, .int .u64 a1_3, .int .i64 a1_4]] w fun e w' => ∃ v0_ : Value, e = .returned (.agg #[v0_]) ∧ Kd.R k53 53 w' w.heap.size (fun _ => True) v0_ r ∧ Below w.heap.size w w' := by
  have hu29 := Try.underlying29
  have hu53 := Try.underlying53
  have HR0_0 := Aside0.mk hr0_0
  have HC0_0 := Aside0.mk hc0_0
  clear hr0_0 hc0_0
  have HB := Aside0.mk (Below.refl w.heap.size w)
  have H : ((spec_l10Copy.f k l0_0).bind fun t136 => (spec_l10With.l0 k 0 a1_0 a1_1 a1_2 a1_3 a1_4 t136)) = some r := h
  clear h
  replace H := Option.bind_eq_some_iff.mp H
  obtain ⟨t136, A30, H⟩ := H
  replace H : (spec_l10With.l0 k 0 a1_0 a1_1 a1_2 a1_3 a1_4 t136) = some r := H
  have A3 := Aside0.mk A30
  clear A30
  have H' := Aside0.mk H
  clear H
  go_enter Try.func55, Try.ntmps55
  go_wp2_with (first | (first | ((with_reducible refine gate_dst (N := 2) rfl ?_); refine box_event ?hg (N := 2) ?hd (cs := #[.slice A0_0 l0_0.length c0_0]) (t := 29) ?hr ?_; (case hd => rfl); (case hg => rfl); (case hr => first | (go_simp; done) | (go_simp; rfl)); intro gb133 hg w4 hbox hb; have n0_ := Aside0.mk (below_step u4_2 hb); have n1_ := Aside0.mk (hbox); have n2_ := Aside0.mk ((by rw [hg]; exact (below_size u4_2) : w.heap.size ≤ gb133)); have n3_ := Aside0.mk ((by rw [hg]; exact (below_size u4_2) : w.heap.size ≤ gb133)); clear HB; have HB := n0_; have BK133 := n1_; have GW133 := n2_; have GE133 := n3_; clear n0_ n1_ n2_ n3_; clear hb hbox hg) | ((with_reducible refine gate_dst (N := 3) rfl ?_); refine box_event ?hg (N := 3) ?hd (cs := #[.int .u64 a1_0, .int .u64 a1_1, .int .u64 a1_2, .int .u64 a1_3, .int .i64 a1_4]) (t := 53) ?hr ?_; (case hd => rfl); (case hg => rfl); (case hr => first | (go_simp; done) | (go_simp; rfl)); intro gb134 hg w5 hbox hb; have n0_ := Aside0.mk (blk_below (g := gb133) (o := .cells #[.slice A0_0 l0_0.length c0_0] 29 (0, 0)) u4_0 hb); have n1_ := Aside0.mk (below_step u4_23 hb); have n2_ := Aside0.mk (hbox); have n3_ := Aside0.mk ((by rw [hg]; exact (below_size u4_23) : w.heap.size ≤ gb134)); have n4_ := Aside0.mk ((by rw [hg]; exact (below_size u4_23) : w.heap.size ≤ gb134)); have n5_ := Aside0.mk ((by rw [hg]; exact Nat.ne_of_lt (blk_lt (g := gb133) (o := .cells #[.slice A0_0 l0_0.length c0_0] 29 (0, 0)) u4_0) : gb133 ≠ gb134)); have n6_ := Aside0.mk ((by rw [hg]; exact Nat.ne_of_gt (blk_lt (g := gb133) (o := .cells #[.slice A0_0 l0_0.length c0_0] 29 (0, 0)) u4_0) : gb134 ≠ gb133)); clear BK133; clear HB; have BK133 := n0_; have HB := n1_; have BK134 := n2_; have GW134 := n3_; have GE134 := n4_; have NB133_134 := n5_; have NB134_133 := n6_; clear n0_ n1_ n2_ n3_ n4_ n5_ n6_; clear hb hbox hg) | ((with_reducible refine gate_dst (N := 4) rfl ?_); refine box_event ?hg (N := 4) ?hd (cs := #[.slice none 0 0]) (t := 29) ?hr ?_; (case hd => rfl); (case hg => rfl); (case hr => first | (go_simp; done) | (go_simp; rfl)); intro gb135 hg w6 hbox hb; have n0_ := Aside0.mk (blk_below (g := gb133) (o := .cells #[.slice A0_0 l0_0.length c0_0] 29 (0, 0)) u4_0 hb); have n1_ := Aside0.mk (blk_below (g := gb134) (o := .cells #[.int .u64 a1_0, .int .u64 a1_1, .int .u64 a1_2, .int .u64 a1_3, .int .i64 a1_4] 53 (0, 0)) u4_1 hb); have n2_ := Aside0.mk (below_step u4_17 hb); have n3_ := Aside0.mk (hbox); have n4_ := Aside0.mk ((by rw [hg]; exact (below_size u4_17) : w.heap.size ≤ gb135)); have n5_ := Aside0.mk ((by rw [hg]; exact (below_size u4_17) : w.heap.size ≤ gb135)); have n6_ := Aside0.mk ((by rw [hg]; exact Nat.ne_of_lt (blk_lt (g := gb133) (o := .cells #[.slice A0_0 l0_0.length c0_0] 29 (0, 0)) u4_0) : gb133 ≠ gb135)); have n7_ := Aside0.mk ((by rw [hg]; exact Nat.ne_of_gt (blk_lt (g := gb133) (o := .cells #[.slice A0_0 l0_0.length c0_0] 29 (0, 0)) u4_0) : gb135 ≠ gb133)); have n8_ := Aside0.mk ((by rw [hg]; exact Nat.ne_of_lt (blk_lt (g := gb134) (o := .cells #[.int .u64 a1_0, .int .u64 a1_1, .int .u64 a1_2, .int .u64 a1_3, .int .i64 a1_4] 53 (0, 0)) u4_1) : gb134 ≠ gb135)); have n9_ := Aside0.mk ((by rw [hg]; exact Nat.ne_of_gt (blk_lt (g := gb134) (o := .cells #[.int .u64 a1_0, .int .u64 a1_1, .int .u64 a1_2, .int .u64 a1_3, .int .i64 a1_4] 53 (0, 0)) u4_1) : gb135 ≠ gb134)); clear BK133; clear BK134; clear HB; have BK133 := n0_; have BK134 := n1_; have HB := n2_; have BK135 := n3_; have GW135 := n4_; have GE135 := n5_; have NB133_135 := n6_; have NB135_133 := n7_; have NB134_135 := n8_; have NB135_134 := n9_; clear n0_ n1_ n2_ n3_ n4_ n5_ n6_ n7_ n8_ n9_; clear hb hbox hg; have hnb7 := NB133_134.out; have hnc7 := NB134_133.out; have hnb8 := NB133_135.out; have hnc8 := NB135_133.out; have hcz9_0 : w6.cell? ⟨gb133, 0, none⟩ = some (.slice A0_0 l0_0.length c0_0) := (blk_cell BK133.out 0).trans rfl; have hfz9_0 := blk_frozen BK133.out 0) | (go_at_call 54; (with_reducible refine (spec_l10Copy.calls k _ _ l0_0 t136 _ ?side1 ?side2 A3.out).mono ?_); (case side1 => exact u4_11); (case side2 => exact HC0_0.out); rintro e w10 ⟨v137, rfl, ho0, hb⟩; have n0_ := Aside0.mk (Kd.R_lower (Kd.R_newB ho0 (g := gb134) (o := .cells #[.int .u64 a1_0, .int .u64 a1_1, .int .u64 a1_2, .int .u64 a1_3, .int .i64 a1_4] 53 (0, 0)) u4_1) (below_size u4_4)); have n1_ := Aside0.mk (blk_below (g := gb133) (o := .cells #[.slice A0_0 l0_0.length c0_0] 29 (0, 0)) u4_0 hb); have n2_ := Aside0.mk (blk_below (g := gb134) (o := .cells #[.int .u64 a1_0, .int .u64 a1_1, .int .u64 a1_2, .int .u64 a1_3, .int .i64 a1_4] 53 (0, 0)) u4_1 hb); have n3_ := Aside0.mk (blk_below (g := gb135) (o := .cells #[.slice none 0 0] 29 (0, 0)) u4_7 hb); have n4_ := Aside0.mk (below_step u4_4 hb); clear BK133; clear BK134; clear BK135; clear HB; have HO138 := n0_; have BK133 := n1_; have BK134 := n2_; have BK135 := n3_; have HB := n4_; clear n0_ n1_ n2_ n3_ n4_; (try clear hb); (try clear hb2); (try clear hk); (try clear hi); (try clear ho0)) | ((with_reducible refine gate_dst (N := 5) rfl ?_); refine box_event ?hg (N := 5) ?hd (cs := #[.slice none 0 0]) (t := 29) ?hr ?_; (case hd => rfl); (case hg => rfl); (case hr => first | (go_simp; done) | (go_simp; rfl)); intro gb139 hg w11 hbox hb; have n0_ := Aside0.mk (Kd.R_below (by (with_reducible repeat (first | apply Kd.R_alloc | apply Kd.R_drewN | apply Kd.R_drew)); exact HO138.out) hb); have n1_ := Aside0.mk (blk_below (g := gb133) (o := .cells #[.slice A0_0 l0_0.length c0_0] 29 (0, 0)) u4_0 hb); have n2_ := Aside0.mk (blk_below (g := gb134) (o := .cells #[.int .u64 a1_0, .int .u64 a1_1, .int .u64 a1_2, .int .u64 a1_3, .int .i64 a1_4] 53 (0, 0)) u4_1 hb); have n3_ := Aside0.mk (blk_below (g := gb135) (o := .cells #[.slice none 0 0] 29 (0, 0)) u4_7 hb); have n4_ := Aside0.mk (below_step u4_4 hb); have n5_ := Aside0.mk (hbox); have n6_ := Aside0.mk ((by rw [hg]; exact (below_size u4_4) : w.heap.size ≤ gb139)); have n7_ := Aside0.mk ((by rw [hg]; exact (below_size u4_4) : w.heap.size ≤ gb139)); have n8_ := Aside0.mk ((by rw [hg]; exact Nat.ne_of_lt (blk_lt (g := gb133) (o := .cells #[.slice A0_0 l0_0.length c0_0] 29 (0, 0)) u4_0) : gb133 ≠ gb139)); have n9_ := Aside0.mk ((by rw [hg]; exact Nat.ne_of_gt (blk_lt (g := gb133) (o := .cells #[.slice A0_0 l0_0.length c0_0] 29 (0, 0)) u4_0) : gb139 ≠ gb133)); have n10_ := Aside0.mk ((by rw [hg]; exact Nat.ne_of_lt (blk_lt (g := gb134) (o := .cells #[.int .u64 a1_0, .int .u64 a1_1, .int .u64 a1_2, .int .u64 a1_3, .int .i64 a1_4] 53 (0, 0)) u4_1) : gb134 ≠ gb139)); have n11_ := Aside0.mk ((by rw [hg]; exact Nat.ne_of_gt (blk_lt (g := gb134) (o := .cells #[.int .u64 a1_0, .int .u64 a1_1, .int .u64 a1_2, .int .u64 a1_3, .int .i64 a1_4] 53 (0, 0)) u4_1) : gb139 ≠ gb134)); have n12_ := Aside0.mk ((by rw [hg]; exact Nat.ne_of_lt (blk_lt (g := gb135) (o := .cells #[.slice none 0 0] 29 (0, 0)) u4_7) : gb135 ≠ gb139)); have n13_ := Aside0.mk ((by rw [hg]; exact Nat.ne_of_gt (blk_lt (g := gb135) (o := .cells #[.slice none 0 0] 29 (0, 0)) u4_7) : gb139 ≠ gb135)); clear HO138; clear BK133; clear BK134; clear BK135; clear HB; have HO138 := n0_; have BK133 := n1_; have BK134 := n2_; have BK135 := n3_; have HB := n4_; have BK139 := n5_; have GW139 := n6_; have GE139 := n7_; have NB133_139 := n8_; have NB139_133 := n9_; have NB134_139 := n10_; have NB139_134 := n11_; have NB135_139 := n12_; have NB139_135 := n13_; clear n0_ n1_ n2_ n3_ n4_ n5_ n6_ n7_ n8_ n9_ n10_ n11_ n12_ n13_; clear hb hbox hg; obtain ⟨Ao12, co12, eo12⟩ := Kd.R_slice HO138.out; subst eo12; have hnb13 := NB139_133.out; have hnc13 := NB133_139.out; have hnb14 := NB139_134.out; have hnc14 := NB134_139.out; have hnb15 := NB139_135.out; have hnc15 := NB135_139.out; have hcz16_0 : w11.cell? ⟨gb139, 0, none⟩ = some (.slice none 0 0) := (blk_cell BK139.out 0).trans rfl; have hfz16_0 := blk_frozen BK139.out 0)) | go_quiet (first | (go_at_call 54; (with_reducible refine (spec_l10Copy.calls k _ _ l0_0 t136 _ ?side1 ?side2 A3.out).mono ?_); (case side1 => exact u4_11); (case side2 => exact HC0_0.out); rintro e w10 ⟨v137, rfl, ho0, hb⟩; have n0_ := Aside0.mk (Kd.R_lower (Kd.R_newB ho0 (g := gb134) (o := .cells #[.int .u64 a1_0, .int .u64 a1_1, .int .u64 a1_2, .int .u64 a1_3, .int .i64 a1_4] 53 (0, 0)) u4_1) (below_size u4_4)); have n1_ := Aside0.mk (blk_below (g := gb133) (o := .cells #[.slice A0_0 l0_0.length c0_0] 29 (0, 0)) u4_0 hb); have n2_ := Aside0.mk (blk_below (g := gb134) (o := .cells #[.int .u64 a1_0, .int .u64 a1_1, .int .u64 a1_2, .int .u64 a1_3, .int .i64 a1_4] 53 (0, 0)) u4_1 hb); have n3_ := Aside0.mk (blk_below (g := gb135) (o := .cells #[.slice none 0 0] 29 (0, 0)) u4_7 hb); have n4_ := Aside0.mk (below_step u4_4 hb); clear BK133; clear BK134; clear BK135; clear HB; have HO138 := n0_; have BK133 := n1_; have BK134 := n2_; have BK135 := n3_; have HB := n4_; clear n0_ n1_ n2_ n3_ n4_; (try clear hb); (try clear hb2); (try clear hk); (try clear hi); (try clear ho0))))
  go_loopg [6] k (fun kq v6 w' => ∃ (x6_1 : Int) (x135000_1 : Int) (x135001_1 : Int) (x135002_1 : Int) (x135003_1 : Int) (x135004_1 : Int) (x140000_1 : List (S53)) (u140000 : Value), v6 = .int .i64 x6_1 ∧ Aside0 (spec_l10With.l0 kq x6_1 x135000_1 x135001_1 x135002_1 x135003_1 x135004_1 x140000_1 = some r) ∧ Aside0 (kq ≤ k) ∧ Aside0 (Kd.R k53 53 w' w.heap.size (fun k_ => k_ ≠ gb134) u140000 x140000_1) ∧ Aside0 (w'.heap[gb133]? = some (.cells #[(.slice A0_0 l0_0.length c0_0)] 29 (0, 0))) ∧ Aside0 (w'.heap[gb134]? = some (.cells #[.int .u64 x135000_1, .int .u64 x135001_1, .int .u64 x135002_1, .int .u64 x135003_1, .int .i64 x135004_1] 53 (0, 0))) ∧ Aside0 (w'.heap[gb135]? = some (.cells #[(.slice none 0 0)] 29 (0, 0))) ∧ Aside0 (w'.heap[gb139]? = some (.cells #[u140000] 29 (0, 0))) ∧ Aside0 (Below w.heap.size w w'))
  case atStart => exact ⟨(0), (a1_0), (a1_1), (a1_2), (a1_3), (a1_4), (t136), (.slice Ao12 t136.length co12), u4_20, H', ⟨Nat.le_refl _⟩, ⟨(by (with_reducible repeat (first | apply Kd.R_alloc | apply Kd.R_drewN | apply Kd.R_drew)); exact Kd.R_mono (Kd.R_far (p := ⟨gb139, 0, none⟩) (Kd.R_types HO138.out BK139.out (by decide)) (fun _ hk => hk.2) (.slice Ao12 t136.length co12)) (fun _ hk => hk.1.2))⟩, ⟨(by (with_reducible repeat (first | refine blk_drewN ?_ _ | refine blk_drew ?_ | refine blk_alloc ?_ _)); refine blk_far ?_ NB133_139.out _; (with_reducible repeat (first | refine blk_drewN ?_ _ | refine blk_drew ?_ | refine blk_alloc ?_ _)); exact BK133.out)⟩, ⟨(by (with_reducible repeat (first | refine blk_drewN ?_ _ | refine blk_drew ?_ | refine blk_alloc ?_ _)); refine blk_far ?_ NB134_139.out _; (with_reducible repeat (first | refine blk_drewN ?_ _ | refine blk_drew ?_ | refine blk_alloc ?_ _)); exact BK134.out)⟩, ⟨(by (with_reducible repeat (first | refine blk_drewN ?_ _ | refine blk_drew ?_ | refine blk_alloc ?_ _)); refine blk_far ?_ NB135_139.out _; (with_reducible repeat (first | refine blk_drewN ?_ _ | refine blk_drew ?_ | refine blk_alloc ?_ _)); exact BK135.out)⟩, ⟨(by (with_reducible repeat (first | refine blk_drewN ?_ _ | refine blk_drew ?_ | refine blk_alloc ?_ _)); refine blk_put (cs := #[.slice none 0 0]) ?_ 0 _ rfl; (with_reducible repeat (first | refine blk_drewN ?_ _ | refine blk_drew ?_ | refine blk_alloc ?_ _)); exact BK139.out)⟩, ⟨u4_10⟩⟩
  clear H'
  try clear c1
  try clear p2
  try clear c5
  try clear c7
  try clear c8
  try clear c13
  try clear c14
  try clear c15
  try clear hcz16_0
  try clear hcz9_0
  try clear hfz16_0
  try clear hfz9_0
  obtain ⟨x6_1, x135000_1, x135001_1, x135002_1, x135003_1, x135004_1, x140000_1, u140000, rfl, HA, HK1, HO_140000, BK133, BK134, BK135, BK139, HB⟩ := hrel
  cases gk with
  | zero => exact absurd HA.out (by simp [spec_l10With.l0])
  | succ k1 =>
    have H := HA.out
    clear HA
    simp only [spec_l10With.l0] at H
    by_cases c17 : x6_1 < (x140000_1.length : Int)
    rotate_left
    · rw [if_neg c17] at H
      have c17b0 : decide (x6_1 < (x140000_1.length : Int)) = false := decide_eq_false c17
      clear c17
      obtain rfl := Option.some.inj H
      have hnb38 := NB139_133.out
      have hnc38 := NB133_139.out
      have hnb39 := NB139_134.out
      have hnc39 := NB134_139.out
      have hnb40 := NB139_135.out
      have hnc40 := NB135_139.out
      have hcz41_0 : wr.cell? ⟨gb139, 0, none⟩ = some (u140000) := (blk_cell BK139.out 0).trans rfl
      have hfz41_0 := blk_frozen BK139.out 0
      obtain ⟨Ao42, co42, eo42⟩ := Kd.R_slice HO_140000.out
      subst eo42
      have hnb43 := NB135_133.out
      have hnc43 := NB133_135.out
      have hnb44 := NB135_134.out
      have hnc44 := NB134_135.out
      have hcz45_0 : wr.cell? ⟨gb135, 0, none⟩ = some (.slice none 0 0) := (blk_cell BK135.out 0).trans rfl
      have hfz45_0 := blk_frozen BK135.out 0
      go_wp2
      repeat (go_quiet (fail); try go_wp2)
      refine bodyPost_ret (results_cell_row rfl _ _ gb135 29 #[.slice Ao42 x140000_1.length co42] (0, 0) _ rfl (by (with_reducible repeat (first | refine blk_drewN ?_ _ | refine blk_drew ?_ | refine blk_alloc ?_ _)); refine blk_put (cs := #[.slice none 0 0]) ?_ 0 _ rfl; (with_reducible repeat (first | refine blk_drewN ?_ _ | refine blk_drew ?_ | refine blk_alloc ?_ _)); exact BK135.out) Try.underlying29 rfl (by kernel_rfl)) rfl ?_
      exact ⟨_, by first | rfl | (simp [errW_none, errW_some] <;> rfl) | (simp [*, errW_none, errW_some] <;> rfl), (by (with_reducible repeat (first | apply Kd.R_alloc | apply Kd.R_drewN | apply Kd.R_drew)); exact Kd.R_mono (Kd.R_far (p := ⟨gb135, 0, none⟩) (Kd.R_types HO_140000.out BK135.out (by decide)) (fun _ hk => hk.2) (.slice Ao42 x140000_1.length co42)) (fun _ hk => trivial)), u4_10⟩
    rw [if_pos c17] at H
    have c17b0 : decide (x6_1 < (x140000_1.length : Int)) = true := decide_eq_true c17
    clear c17
    by_cases c18 : 0 ≤ x6_1
    rotate_left
    · rw [if_neg c18] at H
      exact absurd H (by simp)
    rw [if_pos c18] at H
    have c18b0 : decide (0 ≤ x6_1) = true := decide_eq_true c18
    clear c18
    have H9 := Aside0.mk H
    clear H
    have hnb19 := NB139_133.out
    have hnc19 := NB133_139.out
    have hnb20 := NB139_134.out
    have hnc20 := NB134_139.out
    have hnb21 := NB139_135.out
    have hnc21 := NB135_139.out
    have hcz22_0 : wr.cell? ⟨gb139, 0, none⟩ = some (u140000) := (blk_cell BK139.out 0).trans rfl
    have hfz22_0 := blk_frozen BK139.out 0
    obtain ⟨Ao23, co23, eo23⟩ := Kd.R_slice HO_140000.out
    subst eo23
    have p140 : 0 ≤ (x6_1 : Int) := of_decide_eq_true u4_6
    have q140 : x6_1 < (x140000_1.length : Int) := of_decide_eq_true u4_6
    obtain ⟨ad140, e140, hx140_0, hx140_1, hx140_2, hx140_3, hx140_4⟩ := at_T53 (Kd.R_reads' HO_140000.out).2.2 x6_1 p140 q140
    cases e140
    replace p140 := eq_true p140
    replace q140 := eq_true q140
    have hnb24 := NB134_133.out
    have hnc24 := NB133_134.out
    have hnb25 := NB134_135.out
    have hnc25 := NB135_134.out
    have hcz26_0 : wr.cell? ⟨gb134, 0, none⟩ = some (.int .u64 x135000_1) := (blk_cell BK134.out 0).trans rfl
    have hcz26_1 : wr.cell? ⟨gb134, 1, none⟩ = some (.int .u64 x135001_1) := (blk_cell BK134.out 1).trans rfl
    have hcz26_2 : wr.cell? ⟨gb134, 2, none⟩ = some (.int .u64 x135002_1) := (blk_cell BK134.out 2).trans rfl
    have hcz26_3 : wr.cell? ⟨gb134, 3, none⟩ = some (.int .u64 x135003_1) := (blk_cell BK134.out 3).trans rfl
    have hcz26_4 : wr.cell? ⟨gb134, 4, none⟩ = some (.int .i64 x135004_1) := (blk_cell BK134.out 4).trans rfl
    have hfz26_0 := blk_frozen BK134.out 0
    have hfz26_1 := blk_frozen BK134.out 1
    have hfz26_2 := blk_frozen BK134.out 2
    have hfz26_3 := blk_frozen BK134.out 3
    have hfz26_4 := blk_frozen BK134.out 4
    go_upto_if 24 with (fail)
    repeat (go_quiet (fail); go_upto_if 24 with (fail))
    have H := H9.out
    clear H9
    by_cases c27 : ((rd_T53 x140000_1 x6_1).f0) = x135000_1
    rotate_left
    · rw [if_neg c27] at H
      have c27b0 : (((rd_T53 x140000_1 x6_1).f0) == x135000_1) = false := beq_eq_false_iff_ne.mpr c27
      have c27b1 : (((rd_T53 x140000_1 x6_1).f0) != x135000_1) = true := bne_iff_ne.mpr c27
      (first | rw [c27b0] | (simp only [i64_w, i32_w]; rw [c27b0]) | skip)
      have H' := Aside0.mk H
      clear H
      go_wp2
      repeat (go_quiet (fail); try go_wp2)
      go_roundg k1
      case measure => have := HK1.out; omega
      case rel => exact ⟨(wrap64 (x6_1 + 1)), (x135000_1), (x135001_1), (x135002_1), (x135003_1), (x135004_1), (x140000_1), (.slice (some ad140) x140000_1.length co23), u4_20, H', ⟨by have := HK1.out; omega⟩, ⟨u4_15⟩, ⟨u4_0⟩, ⟨u4_1⟩, ⟨u4_7⟩, ⟨u4_19⟩, ⟨u4_10⟩⟩
    rw [if_pos c27] at H
    have c27b0 : (((rd_T53 x140000_1 x6_1).f0) == x135000_1) = true := beq_iff_eq.mpr c27
    have c27b1 : (((rd_T53 x140000_1 x6_1).f0) != x135000_1) = false := bne_eq_false_iff_eq.mpr c27
    clear c27
    (first | rw [c27b0] | (simp only [i64_w, i32_w]; rw [c27b0]) | skip)
    obtain ⟨y141, hy141⟩ : ∃ y_ : List (S53), y_ = (x140000_1.set (x6_1 : Int).toNat (⟨x135000_1, x135001_1, x135002_1, x135003_1, x135004_1⟩ : S53)) := ⟨_, rfl⟩
    replace H : (spec_l10With.l0 k1 (wrap64 (x6_1 + 1)) x135000_1 x135001_1 x135002_1 x135003_1 x135004_1 y141) = some r := by first | (rw [hy141]; with_reducible exact H) | (have H2_ := (Option.bind_some _ _).symm.trans H; rw [hy141]; with_reducible exact H2_) | (have H2_ := (Option.bind_some _ _).symm.trans H; with_reducible exact H2_) | with_reducible exact H | (rw [hy141]; exact H) | exact H
    have Ny141 := Aside0.mk hy141
    clear hy141
    have H' := Aside0.mk H
    clear H
    have hnb29 := NB139_133.out
    have hnc29 := NB133_139.out
    have hnb30 := NB139_134.out
    have hnc30 := NB134_139.out
    have hnb31 := NB139_135.out
    have hnc31 := NB135_139.out
    have hcz32_0 : wr.cell? ⟨gb139, 0, none⟩ = some (.slice (some ad140) x140000_1.length co23) := (blk_cell BK139.out 0).trans rfl
    have hfz32_0 := blk_frozen BK139.out 0
    have hnb33 := NB134_133.out
    have hnc33 := NB133_134.out
    have hnb34 := NB134_135.out
    have hnc34 := NB135_134.out
    have hcz35_0 : wr.cell? ⟨gb134, 0, none⟩ = some (.int .u64 x135000_1) := (blk_cell BK134.out 0).trans rfl
    have hcz35_1 : wr.cell? ⟨gb134, 1, none⟩ = some (.int .u64 x135001_1) := (blk_cell BK134.out 1).trans rfl
    have hcz35_2 : wr.cell? ⟨gb134, 2, none⟩ = some (.int .u64 x135002_1) := (blk_cell BK134.out 2).trans rfl
    have hcz35_3 : wr.cell? ⟨gb134, 3, none⟩ = some (.int .u64 x135003_1) := (blk_cell BK134.out 3).trans rfl
    have hcz35_4 : wr.cell? ⟨gb134, 4, none⟩ = some (.int .i64 x135004_1) := (blk_cell BK134.out 4).trans rfl
    have hfz35_0 := blk_frozen BK134.out 0
    have hfz35_1 := blk_frozen BK134.out 1
    have hfz35_2 := blk_frozen BK134.out 2
    have hfz35_3 := blk_frozen BK134.out 3
    have hfz35_4 := blk_frozen BK134.out 4
    have p28 : 0 ≤ (x6_1 : Int) := of_decide_eq_true u4_6
    have q28 : (x6_1 : Int) < ((x140000_1.length : Int) : Int) := of_decide_eq_true u4_6
    obtain ⟨go28, co28, eo28, gb28, gl28, cl28, HG28⟩ := Kd.R_form HO_140000.out (by omega)
    (first | cases eo28 | (injection eo28 with ea_ en_ ec_; (first | subst ea_ | (injection ea_ with ea_; subst ea_)); subst ec_; clear en_))
    have GB28 := Aside0.mk gb28
    have GG28 := Aside0.mk HG28
    clear gb28 gl28 HG28
    (first | simp only [add_plain] at hx140_0 | skip)
    (first | simp only [add_plain] at hx140_1 | skip)
    (first | simp only [add_plain] at hx140_2 | skip)
    (first | simp only [add_plain] at hx140_3 | skip)
    (first | simp only [add_plain] at hx140_4 | skip)
    obtain ⟨ce28, hcl28, hM28, hcc28, hfr28⟩ := Kd.R_elem HO_140000.out z53 (x6_1 : Int) p28 q28
    obtain rfl := k53_openM hM28
    have hx28_0 : wr.cell? ⟨go28, (x6_1 : Int).toNat * 5, none⟩ = some (.int .u64 ((rd_T53 x140000_1 x6_1).f0)) := hcc28 0 _ rfl
    have hx28_1 : wr.cell? ⟨go28, (x6_1 : Int).toNat * 5 + 1, none⟩ = some (.int .u64 ((rd_T53 x140000_1 x6_1).f1)) := hcc28 1 _ rfl
    have hx28_2 : wr.cell? ⟨go28, (x6_1 : Int).toNat * 5 + 2, none⟩ = some (.int .u64 ((rd_T53 x140000_1 x6_1).f2)) := hcc28 2 _ rfl
    have hx28_3 : wr.cell? ⟨go28, (x6_1 : Int).toNat * 5 + 3, none⟩ = some (.int .u64 ((rd_T53 x140000_1 x6_1).f3)) := hcc28 3 _ rfl
    have hx28_4 : wr.cell? ⟨go28, (x6_1 : Int).toNat * 5 + 4, none⟩ = some (.int .i64 ((rd_T53 x140000_1 x6_1).f4)) := hcc28 4 _ rfl
    have hf28_0 : wr.frozen? ⟨go28, (x6_1 : Int).toNat * 5, none⟩ = false := hfr28 0
    have hf28_1 : wr.frozen? ⟨go28, (x6_1 : Int).toNat * 5 + 1, none⟩ = false := hfr28 1
    have hf28_2 : wr.frozen? ⟨go28, (x6_1 : Int).toNat * 5 + 2, none⟩ = false := hfr28 2
    have hf28_3 : wr.frozen? ⟨go28, (x6_1 : Int).toNat * 5 + 3, none⟩ = false := hfr28 3
    have hf28_4 : wr.frozen? ⟨go28, (x6_1 : Int).toNat * 5 + 4, none⟩ = false := hfr28 4
    clear hcl28 hcc28 hfr28 hM28
    replace p28 := eq_true p28
    replace q28 := eq_true q28
    have HX36 := Aside0.mk (show Kd.R k53 53 wr w.heap.size (fun k_ => k_ ≠ gb134) (.slice (some ⟨go28, 0, none⟩) x140000_1.length co23) x140000_1 from u4_15)
    obtain ⟨ce36, hcl36, hM36, hcc36, hfr36⟩ := Kd.R_elem HX36.out z53 (x6_1 : Int) (of_decide_eq_true u4_6) (by have h_ : (x6_1 : Int) < ((x140000_1.length : Int) : Int) := of_decide_eq_true u4_6; first | exact h_ | (have e_ := (Kd.R_reads' HO_140000.out).1; omega) | simpa using h_)
    obtain rfl := k53_openM hM36
    have HP36 := Kd.R_seg HX36.out (x6_1 : Int) (of_decide_eq_true u4_6) (by have h_ : (x6_1 : Int) < ((x140000_1.length : Int) : Int) := of_decide_eq_true u4_6; first | exact h_ | (have e_ := (Kd.R_reads' HO_140000.out).1; omega) | simpa using h_) (seg := [.int .u64 x135000_1, .int .u64 x135001_1, .int .u64 x135002_1, .int .u64 x135003_1, .int .i64 x135004_1]) (j := 0) hcl36 hcc36 (show 5 ≤ 5 from by decide) (x' := (⟨x135000_1, x135001_1, x135002_1, x135003_1, x135004_1⟩ : S53)) (k53_mkM _ _ _ (⟨x135000_1, x135001_1, x135002_1, x135003_1, x135004_1⟩ : S53) ) (fun _ hk => hk)
    have hx36_0 := hcc36 0 _ rfl
    (try simp only [show (k53).sz = 5 from rfl, Nat.mul_one, Nat.add_zero] at hx36_0)
    have hf36_0 := hfr36 0
    (try simp only [show (k53).sz = 5 from rfl, Nat.mul_one, Nat.add_zero] at hf36_0)
    have hx36_1 := hcc36 1 _ rfl
    (try simp only [show (k53).sz = 5 from rfl, Nat.mul_one, Nat.add_zero] at hx36_1)
    have hf36_1 := hfr36 1
    (try simp only [show (k53).sz = 5 from rfl, Nat.mul_one, Nat.add_zero] at hf36_1)
    have hx36_2 := hcc36 2 _ rfl
    (try simp only [show (k53).sz = 5 from rfl, Nat.mul_one, Nat.add_zero] at hx36_2)
    have hf36_2 := hfr36 2
    (try simp only [show (k53).sz = 5 from rfl, Nat.mul_one, Nat.add_zero] at hf36_2)
    have hx36_3 := hcc36 3 _ rfl
    (try simp only [show (k53).sz = 5 from rfl, Nat.mul_one, Nat.add_zero] at hx36_3)
    have hf36_3 := hfr36 3
    (try simp only [show (k53).sz = 5 from rfl, Nat.mul_one, Nat.add_zero] at hf36_3)
    have hx36_4 := hcc36 4 _ rfl
    (try simp only [show (k53).sz = 5 from rfl, Nat.mul_one, Nat.add_zero] at hx36_4)
    have hf36_4 := hfr36 4
    (try simp only [show (k53).sz = 5 from rfl, Nat.mul_one, Nat.add_zero] at hf36_4)
    clear hcl36 hcc36 hfr36 hM36
    go_wp2_with (first | (first | ((with_reducible refine gate_store (t := 53) (p := 29) rfl ?_); (try (rw [drewN_self wr]; generalize hq_ : World.drewN wr _ = wr; have n0_ := Aside0.mk (Kd.R_at hq_ HO_140000.out); have n1_ := Aside0.mk (blk_at hq_ BK133.out); have n2_ := Aside0.mk (blk_at hq_ BK134.out); have n3_ := Aside0.mk (blk_at hq_ BK135.out); have n4_ := Aside0.mk (blk_at hq_ BK139.out); have n5_ := Aside0.mk (below_at hq_ HB.out); clear hq_ HO_140000 BK133 BK134 BK135 BK139 HB; have HO_140000 := n0_; have BK133 := n1_; have BK134 := n2_; have BK135 := n3_; have BK139 := n4_; have HB := n5_; clear n0_ n1_ n2_ n3_ n4_ n5_; (try (have HX36 := Aside0.mk (show Kd.R k53 53 wr w.heap.size (fun k_ => k_ ≠ gb134) (.slice (some ⟨go28, 0, none⟩) x140000_1.length co23) x140000_1 from u4_15))); (try (obtain ⟨ce36, hcl36, hM36, hcc36, hfr36⟩ := Kd.R_elem HX36.out z53 (x6_1 : Int) (of_decide_eq_true u4_6) (by have h_ : (x6_1 : Int) < ((x140000_1.length : Int) : Int) := of_decide_eq_true u4_6; first | exact h_ | (have e_ := (Kd.R_reads' HO_140000.out).1; omega) | simpa using h_))); (try (obtain rfl := k53_openM hM36)); (try (have HP36 := Kd.R_seg HX36.out (x6_1 : Int) (of_decide_eq_true u4_6) (by have h_ : (x6_1 : Int) < ((x140000_1.length : Int) : Int) := of_decide_eq_true u4_6; first | exact h_ | (have e_ := (Kd.R_reads' HO_140000.out).1; omega) | simpa using h_) (seg := [.int .u64 x135000_1, .int .u64 x135001_1, .int .u64 x135002_1, .int .u64 x135003_1, .int .i64 x135004_1]) (j := 0) hcl36 hcc36 (show 5 ≤ 5 from by decide) (x' := (⟨x135000_1, x135001_1, x135002_1, x135003_1, x135004_1⟩ : S53)) (k53_mkM _ _ _ (⟨x135000_1, x135001_1, x135002_1, x135003_1, x135004_1⟩ : S53) ) (fun _ hk => hk))); (try (have hx36_0 := hcc36 0 _ rfl)); (try (try simp only [show (k53).sz = 5 from rfl, Nat.mul_one, Nat.add_zero] at hx36_0)); (try (have hf36_0 := hfr36 0)); (try (try simp only [show (k53).sz = 5 from rfl, Nat.mul_one, Nat.add_zero] at hf36_0)); (try (have hx36_1 := hcc36 1 _ rfl)); (try (try simp only [show (k53).sz = 5 from rfl, Nat.mul_one, Nat.add_zero] at hx36_1)); (try (have hf36_1 := hfr36 1)); (try (try simp only [show (k53).sz = 5 from rfl, Nat.mul_one, Nat.add_zero] at hf36_1)); (try (have hx36_2 := hcc36 2 _ rfl)); (try (try simp only [show (k53).sz = 5 from rfl, Nat.mul_one, Nat.add_zero] at hx36_2)); (try (have hf36_2 := hfr36 2)); (try (try simp only [show (k53).sz = 5 from rfl, Nat.mul_one, Nat.add_zero] at hf36_2)); (try (have hx36_3 := hcc36 3 _ rfl)); (try (try simp only [show (k53).sz = 5 from rfl, Nat.mul_one, Nat.add_zero] at hx36_3)); (try (have hf36_3 := hfr36 3)); (try (try simp only [show (k53).sz = 5 from rfl, Nat.mul_one, Nat.add_zero] at hf36_3)); (try (have hx36_4 := hcc36 4 _ rfl)); (try (try simp only [show (k53).sz = 5 from rfl, Nat.mul_one, Nat.add_zero] at hx36_4)); (try (have hf36_4 := hfr36 4)); (try (try simp only [show (k53).sz = 5 from rfl, Nat.mul_one, Nat.add_zero] at hf36_4)); (try (clear hcl36 hcc36 hfr36 hM36)))); refine store_event (t := 53) (p := 29) (v := ?vo_w37) (w1 := (((((wr.setCell ⟨go28, (x6_1 : Int).toNat * 5, none⟩ (.int .u64 x135000_1)).setCell ⟨go28, (x6_1 : Int).toNat * 5 + 1, none⟩ (.int .u64 x135001_1)).setCell ⟨go28, (x6_1 : Int).toNat * 5 + 2, none⟩ (.int .u64 x135002_1)).setCell ⟨go28, (x6_1 : Int).toNat * 5 + 3, none⟩ (.int .u64 x135003_1)).setCell ⟨go28, (x6_1 : Int).toNat * 5 + 4, none⟩ (.int .i64 x135004_1))) ?hg ?ho ?hn ?hr ?_; (case ho => rfl); (case hg => rfl); (case hn => rfl); (case hr => first | (go_simp; done) | (go_simp; rfl)); intro w37 hw; have hg : wr.grownBy w37 (some go28) := (by rw [hw]; exact HP36.2); have hp_ : Kd.R k53 53 w37 w.heap.size (fun k_ => k_ ≠ gb134) (.slice (some ⟨go28, 0, none⟩) x140000_1.length co23) y141 := (by rw [hw, Ny141.out]; exact HP36.1); clear HP36; have n0_ := Aside0.mk (hp_); have n1_ := Aside0.mk (blk_grown (g := gb133) (o := .cells #[.slice A0_0 l0_0.length c0_0] 29 (0, 0)) u4_0 hg (Kd.R_ne HO_140000.out BK133.out (by decide))); have n2_ := Aside0.mk (blk_grown (g := gb134) (o := .cells #[.int .u64 x135000_1, .int .u64 x135001_1, .int .u64 x135002_1, .int .u64 x135003_1, .int .i64 x135004_1] 53 (0, 0)) u4_1 hg (Kd.R_away HO_140000.out (fun _ hk => hk))); have n3_ := Aside0.mk (blk_grown (g := gb135) (o := .cells #[.slice none 0 0] 29 (0, 0)) u4_7 hg (Kd.R_ne HO_140000.out BK135.out (by decide))); have n4_ := Aside0.mk (blk_grown (g := gb139) (o := .cells #[.slice (some ⟨go28, 0, none⟩) x140000_1.length co23] 29 (0, 0)) u4_19 hg (Kd.R_ne HO_140000.out BK139.out (by decide))); have n5_ := Aside0.mk ((by rw [hw]; exact below_set (below_set (below_set (below_set (below_set (HB.out) GB28.out) GB28.out) GB28.out) GB28.out) GB28.out : Below w.heap.size w w37)); clear HO_140000; clear BK133; clear BK134; clear BK135; clear BK139; clear HB; have HO_140000 := n0_; have BK133 := n1_; have BK134 := n2_; have BK135 := n3_; have BK139 := n4_; have HB := n5_; clear n0_ n1_ n2_ n3_ n4_ n5_; clear hg hw hp_)) | go_quiet (first | ((with_reducible refine gate_store (t := 53) (p := 29) rfl ?_); (try (rw [drewN_self wr]; generalize hq_ : World.drewN wr _ = wr; have n0_ := Aside0.mk (Kd.R_at hq_ HO_140000.out); have n1_ := Aside0.mk (blk_at hq_ BK133.out); have n2_ := Aside0.mk (blk_at hq_ BK134.out); have n3_ := Aside0.mk (blk_at hq_ BK135.out); have n4_ := Aside0.mk (blk_at hq_ BK139.out); have n5_ := Aside0.mk (below_at hq_ HB.out); clear hq_ HO_140000 BK133 BK134 BK135 BK139 HB; have HO_140000 := n0_; have BK133 := n1_; have BK134 := n2_; have BK135 := n3_; have BK139 := n4_; have HB := n5_; clear n0_ n1_ n2_ n3_ n4_ n5_; (try (have HX36 := Aside0.mk (show Kd.R k53 53 wr w.heap.size (fun k_ => k_ ≠ gb134) (.slice (some ⟨go28, 0, none⟩) x140000_1.length co23) x140000_1 from u4_15))); (try (obtain ⟨ce36, hcl36, hM36, hcc36, hfr36⟩ := Kd.R_elem HX36.out z53 (x6_1 : Int) (of_decide_eq_true u4_6) (by have h_ : (x6_1 : Int) < ((x140000_1.length : Int) : Int) := of_decide_eq_true u4_6; first | exact h_ | (have e_ := (Kd.R_reads' HO_140000.out).1; omega) | simpa using h_))); (try (obtain rfl := k53_openM hM36)); (try (have HP36 := Kd.R_seg HX36.out (x6_1 : Int) (of_decide_eq_true u4_6) (by have h_ : (x6_1 : Int) < ((x140000_1.length : Int) : Int) := of_decide_eq_true u4_6; first | exact h_ | (have e_ := (Kd.R_reads' HO_140000.out).1; omega) | simpa using h_) (seg := [.int .u64 x135000_1, .int .u64 x135001_1, .int .u64 x135002_1, .int .u64 x135003_1, .int .i64 x135004_1]) (j := 0) hcl36 hcc36 (show 5 ≤ 5 from by decide) (x' := (⟨x135000_1, x135001_1, x135002_1, x135003_1, x135004_1⟩ : S53)) (k53_mkM _ _ _ (⟨x135000_1, x135001_1, x135002_1, x135003_1, x135004_1⟩ : S53) ) (fun _ hk => hk))); (try (have hx36_0 := hcc36 0 _ rfl)); (try (try simp only [show (k53).sz = 5 from rfl, Nat.mul_one, Nat.add_zero] at hx36_0)); (try (have hf36_0 := hfr36 0)); (try (try simp only [show (k53).sz = 5 from rfl, Nat.mul_one, Nat.add_zero] at hf36_0)); (try (have hx36_1 := hcc36 1 _ rfl)); (try (try simp only [show (k53).sz = 5 from rfl, Nat.mul_one, Nat.add_zero] at hx36_1)); (try (have hf36_1 := hfr36 1)); (try (try simp only [show (k53).sz = 5 from rfl, Nat.mul_one, Nat.add_zero] at hf36_1)); (try (have hx36_2 := hcc36 2 _ rfl)); (try (try simp only [show (k53).sz = 5 from rfl, Nat.mul_one, Nat.add_zero] at hx36_2)); (try (have hf36_2 := hfr36 2)); (try (try simp only [show (k53).sz = 5 from rfl, Nat.mul_one, Nat.add_zero] at hf36_2)); (try (have hx36_3 := hcc36 3 _ rfl)); (try (try simp only [show (k53).sz = 5 from rfl, Nat.mul_one, Nat.add_zero] at hx36_3)); (try (have hf36_3 := hfr36 3)); (try (try simp only [show (k53).sz = 5 from rfl, Nat.mul_one, Nat.add_zero] at hf36_3)); (try (have hx36_4 := hcc36 4 _ rfl)); (try (try simp only [show (k53).sz = 5 from rfl, Nat.mul_one, Nat.add_zero] at hx36_4)); (try (have hf36_4 := hfr36 4)); (try (try simp only [show (k53).sz = 5 from rfl, Nat.mul_one, Nat.add_zero] at hf36_4)); (try (clear hcl36 hcc36 hfr36 hM36)))); refine store_event (t := 53) (p := 29) (v := ?vo_w37) (w1 := (((((wr.setCell ⟨go28, (x6_1 : Int).toNat * 5, none⟩ (.int .u64 x135000_1)).setCell ⟨go28, (x6_1 : Int).toNat * 5 + 1, none⟩ (.int .u64 x135001_1)).setCell ⟨go28, (x6_1 : Int).toNat * 5 + 2, none⟩ (.int .u64 x135002_1)).setCell ⟨go28, (x6_1 : Int).toNat * 5 + 3, none⟩ (.int .u64 x135003_1)).setCell ⟨go28, (x6_1 : Int).toNat * 5 + 4, none⟩ (.int .i64 x135004_1))) ?hg ?ho ?hn ?hr ?_; (case ho => rfl); (case hg => rfl); (case hn => rfl); (case hr => first | (go_simp; done) | (go_simp; rfl)); intro w37 hw; have hg : wr.grownBy w37 (some go28) := (by rw [hw]; exact HP36.2); have hp_ : Kd.R k53 53 w37 w.heap.size (fun k_ => k_ ≠ gb134) (.slice (some ⟨go28, 0, none⟩) x140000_1.length co23) y141 := (by rw [hw, Ny141.out]; exact HP36.1); clear HP36; have n0_ := Aside0.mk (hp_); have n1_ := Aside0.mk (blk_grown (g := gb133) (o := .cells #[.slice A0_0 l0_0.length c0_0] 29 (0, 0)) u4_0 hg (Kd.R_ne HO_140000.out BK133.out (by decide))); have n2_ := Aside0.mk (blk_grown (g := gb134) (o := .cells #[.int .u64 x135000_1, .int .u64 x135001_1, .int .u64 x135002_1, .int .u64 x135003_1, .int .i64 x135004_1] 53 (0, 0)) u4_1 hg (Kd.R_away HO_140000.out (fun _ hk => hk))); have n3_ := Aside0.mk (blk_grown (g := gb135) (o := .cells #[.slice none 0 0] 29 (0, 0)) u4_7 hg (Kd.R_ne HO_140000.out BK135.out (by decide))); have n4_ := Aside0.mk (blk_grown (g := gb139) (o := .cells #[.slice (some ⟨go28, 0, none⟩) x140000_1.length co23] 29 (0, 0)) u4_19 hg (Kd.R_ne HO_140000.out BK139.out (by decide))); have n5_ := Aside0.mk ((by rw [hw]; exact below_set (below_set (below_set (below_set (below_set (HB.out) GB28.out) GB28.out) GB28.out) GB28.out) GB28.out : Below w.heap.size w w37)); clear HO_140000; clear BK133; clear BK134; clear BK135; clear BK139; clear HB; have HO_140000 := n0_; have BK133 := n1_; have BK134 := n2_; have BK135 := n3_; have BK139 := n4_; have HB := n5_; clear n0_ n1_ n2_ n3_ n4_ n5_; clear hg hw hp_)))
    go_roundg k1
    case measure => have := HK1.out; omega
    case rel => exact ⟨(wrap64 (x6_1 + 1)), (x135000_1), (x135001_1), (x135002_1), (x135003_1), (x135004_1), (y141), (.slice (some ⟨go28, 0, none⟩) x140000_1.length co23), u4_20, H', ⟨by have := HK1.out; omega⟩, ⟨u4_15⟩, ⟨u4_0⟩, ⟨u4_1⟩, ⟨u4_7⟩, ⟨u4_19⟩, ⟨u4_10⟩⟩

end Go.Proofs.Ytdbfjakhkclggaa.QFnBook
