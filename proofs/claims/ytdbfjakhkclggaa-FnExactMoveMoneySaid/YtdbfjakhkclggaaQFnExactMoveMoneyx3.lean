-- Printed by the session's own program wip/prx.py.
import Derived.Test.YtdbfjakhkclggaaQFnExactMoveMoneyx0
import Derived.Test.YtdbfjakhkclggaaQFnExactMoveMoneyx2
namespace Go.Proofs.Ytdbfjakhkclggaa.QFnExactMoveMoney
open Go.RowKit Go.Proofs.YtdbfjakhkclggaaW.PrintWords Go.Proofs.YtdbfjakhkclggaaW.PrintLast Go.Proofs.YtdbfjakhkclggaaW.PrintMore
attribute [local go_sem] max2_int min2_int max_two min_two max_three min_three max_four min_four Go.Proofs.Ytdbfjakhkclggaa.Set.isSome_setCell Go.Proofs.Ytdbfjakhkclggaa.Add.add64   -- for this text's walks alone
set_option linter.unusedVariables false
set_option linter.unusedSimpArgs false

-- squeezed
theorem u3_0 {P : Prop} (h : P := by repeat (first | (with_reducible first | exact HB.out | apply below_alloc | apply pw_below_drewN | apply below_drew1) | exact HB.out)) : P := h
theorem u3_1 {P : Prop} (h : P := by (with_reducible repeat (first | refine blk_drewN ?_ _ | refine blk_drew ?_ | refine blk_alloc ?_ _)); exact BK148.out) : P := h
theorem u3_2 {P : Prop} (h : P := by repeat (first | (with_reducible first | exact HB.out | apply below_alloc | apply pw_below_drewN | apply below_drew1 | refine below_set ?_ GE148.out | refine below_set ?_ GE149.out | refine below_set ?_ GE150.out) | exact HB.out)) : P := h
theorem u3_3 {P : Prop} (h : P := by (with_reducible repeat (first | refine blk_drewN ?_ _ | refine blk_drew ?_ | refine blk_alloc ?_ _)); exact BK149.out) : P := h
theorem u3_4 {P : Prop} (h : P := by (with_reducible repeat (first | refine blk_drewN ?_ _ | refine blk_drew ?_ | refine blk_alloc ?_ _)); refine blk_put (cs := #[.int .u64 0, .int .u64 0, .int .u64 0, .int .u64 0, .int .i64 0]) ?_ 4 _ rfl; (with_reducible repeat (first | refine blk_drewN ?_ _ | refine blk_drew ?_ | refine blk_alloc ?_ _)); refine blk_put (cs := #[.int .u64 0, .int .u64 0, .int .u64 0, .int .u64 0, .int .i64 0]) ?_ 3 _ rfl; (with_reducible repeat (first | refine blk_drewN ?_ _ | refine blk_drew ?_ | refine blk_alloc ?_ _)); refine blk_put (cs := #[.int .u64 0, .int .u64 0, .int .u64 0, .int .u64 0, .int .i64 0]) ?_ 2 _ rfl; (with_reducible repeat (first | refine blk_drewN ?_ _ | refine blk_drew ?_ | refine blk_alloc ?_ _)); refine blk_put (cs := #[.int .u64 0, .int .u64 0, .int .u64 0, .int .u64 0, .int .i64 0]) ?_ 1 _ rfl; (with_reducible repeat (first | refine blk_drewN ?_ _ | refine blk_drew ?_ | refine blk_alloc ?_ _)); refine blk_put (cs := #[.int .u64 0, .int .u64 0, .int .u64 0, .int .u64 0, .int .i64 0]) ?_ 0 _ rfl; (with_reducible repeat (first | refine blk_drewN ?_ _ | refine blk_drew ?_ | refine blk_alloc ?_ _)); exact BK137.out) : P := h
theorem u3_5 {P : Prop} (h : P := by first | (with_reducible assumption) | assumption) : P := h
theorem u3_6 {P : Prop} (h : P := by (with_reducible repeat (first | refine blk_drewN ?_ _ | refine blk_drew ?_ | refine blk_alloc ?_ _)); exact BK136.out) : P := h
theorem u3_7 {P : Prop} (h : P := by (with_reducible repeat (first | refine blk_drewN ?_ _ | refine blk_drew ?_ | refine blk_alloc ?_ _)); exact BK141.out) : P := h
theorem u3_8 {P : Prop} (h : P := by (with_reducible repeat (first | refine blk_drewN ?_ _ | refine blk_drew ?_ | refine blk_alloc ?_ _)); exact BK150.out) : P := h
theorem u3_9 {P : Prop} (h : P := by repeat (first | (with_reducible first | exact HB.out | apply below_alloc | apply pw_below_drewN | apply below_drew1 | refine below_set ?_ GE136.out | refine below_set ?_ GE137.out) | exact HB.out)) : P := h
theorem u3_10 {P : Prop} (h : P := by (try simp only [List.map_toArray, List.map_cons, List.map_nil]); first | done | rfl | (simp only [List.length_drop, List.length_take]; rfl)) : P := h
theorem u3_11 {P : Prop} (h : P := by repeat (first | (with_reducible first | exact HB.out | apply below_alloc | apply pw_below_drewN | apply below_drew1 | refine below_set ?_ GE141.out | refine below_set ?_ GE142.out) | exact HB.out)) : P := h
theorem u3_12 {P : Prop} (h : P := by repeat (first | (with_reducible first | exact HB.out | apply below_alloc | apply pw_below_drewN | apply below_drew1 | refine below_set ?_ GE148.out | refine below_set ?_ GE149.out) | exact HB.out)) : P := h
theorem u3_13 {P : Prop} (h : P := by (with_reducible repeat (first | refine blk_drewN ?_ _ | refine blk_drew ?_ | refine blk_alloc ?_ _)); exact BK137.out) : P := h
theorem u3_14 {P : Prop} (h : P := by (with_reducible repeat (first | refine blk_drewN ?_ _ | refine blk_drew ?_ | refine blk_alloc ?_ _)); exact BK142.out) : P := h
theorem u3_15 {P : Prop} (h : P := by first | rfl | (simp; done) | (simp [*]; done)) : P := h
theorem u3_16 {P : Prop} (h : P := by repeat (first | (with_reducible first | exact HB.out | apply below_alloc | apply pw_below_drewN | apply below_drew1 | refine below_set ?_ GE136.out) | exact HB.out)) : P := h
theorem u3_17 {P : Prop} (h : P := by repeat (first | (with_reducible first | exact HB.out | apply below_alloc | apply pw_below_drewN | apply below_drew1 | refine below_set ?_ GE141.out) | exact HB.out)) : P := h
theorem u3_18 {P : Prop} (h : P := by repeat (first | (with_reducible first | exact HB.out | apply below_alloc | apply pw_below_drewN | apply below_drew1 | refine below_set ?_ GE148.out) | exact HB.out)) : P := h
theorem u3_19 {P : Prop} (h : P := by repeat (first | (with_reducible first | exact HB.out | apply below_alloc | apply pw_below_drewN | apply below_drew1 | refine below_set ?_ GE141.out | refine below_set ?_ GE142.out | refine below_set ?_ GE143.out) | exact HB.out)) : P := h
theorem u3_20 {P : Prop} (h : P := by (with_reducible repeat (first | apply Kd.R_alloc | apply Kd.R_drewN | apply Kd.R_drew)); exact HO_155000.out) : P := h
theorem u3_21 {P : Prop} (h : P := by (with_reducible repeat (first | refine blk_drewN ?_ _ | refine blk_drew ?_ | refine blk_alloc ?_ _)); exact BK154.out) : P := h
/-! ### spec_l10Find: function 68 -/
def spec_l10Find.l0 : Nat → Int → Int → List (S53) → Option (Int)
  | 0, _, _, _ => none
  | k + 1, x1, x5, x135000 => if x5 < (x135000.length : Int) then (if 0 ≤ x5 then (if ((rd_T53 x135000 x5).f0) = x1 then (some x5) else (spec_l10Find.l0 k x1 (wrap64 (x5 + 1)) x135000)) else (none)) else (some (-1))
def spec_l10Find.f (k : Nat) (l0_0 : List (S53)) (a1 : Int) : Option (Int) := spec_l10Find.l0 k a1 0 l0_0
theorem spec_l10Find.mono_l : ∀ k, (∀ y0 y1 y2, LeO (spec_l10Find.l0 k y0 y1 y2) (spec_l10Find.l0 (k + 1) y0 y1 y2))
  | 0 => fun _ _ _ r h => by simp [spec_l10Find.l0] at h
  | k + 1 => by
    have ih0 := spec_l10Find.mono_l k
    · intro y0 y1 y2
      unfold spec_l10Find.l0
      repeat' first
      | (with_reducible exact ih0 _ _ _)
      | (with_reducible exact LeO.refl _)
      | (with_reducible exact LeO.none _)
      | (with_reducible refine LeO.ite ?_ ?_)
      | (with_reducible refine LeO.bind ?_ (fun _ => ?_))
      | exact ih0 _ _ _
      | exact LeO.none _
      | refine LeO.ite ?_ ?_
      | refine LeO.bind ?_ (fun _ => ?_)
theorem spec_l10Find.mono : ∀ a0 a1 k, LeO (spec_l10Find.f k a0 a1) (spec_l10Find.f (k + 1) a0 a1) := by
  intro a0 a1 k
  have ih0 := spec_l10Find.mono_l k
  unfold spec_l10Find.f
  repeat' first
      | (with_reducible exact ih0 _ _ _)
      | (with_reducible exact LeO.refl _)
      | (with_reducible exact LeO.none _)
      | (with_reducible refine LeO.ite ?_ ?_)
      | (with_reducible refine LeO.bind ?_ (fun _ => ?_))
      | exact ih0 _ _ _
      | exact LeO.none _
      | refine LeO.ite ?_ ?_
      | refine LeO.bind ?_ (fun _ => ?_)
set_option maxHeartbeats 8000000 in
set_option maxRecDepth 100000 in
theorem spec_l10Find.calls (k : Nat) (A0_0 : Option Addr) (c0_0 : Nat) (l0_0 : List (S53)) (a1 : Int) (r : Int) (w : World) (hr0_0 : Kd.C k53 w A0_0 l0_0.length l0_0) (hc0_0 : l0_0.length ≤ c0_0) (h : spec_l10Find.f k l0_0 a1 = some r) :
    Calls Try.prog 68 #[.agg #[.slice A0_0 l0_0.length c0_0], .int .u64 a1] w fun e w' => e = .returned (.int .i64 r) ∧ Below w.heap.size w w' := by
  have hu29 := Try.underlying29
  have HR0_0 := Aside0.mk hr0_0
  have HC0_0 := Aside0.mk hc0_0
  clear hr0_0 hc0_0
  have HB := Aside0.mk (Below.refl w.heap.size w)
  have H : (spec_l10Find.l0 k a1 0 l0_0) = some r := h
  clear h
  have H' := Aside0.mk H
  clear H
  go_enter Try.func68, Try.ntmps68
  go_wp2_with (first | ((with_reducible refine gate_dst (N := 2) rfl ?_); refine box_event ?hg (N := 2) ?hd (cs := #[.slice A0_0 l0_0.length c0_0]) (t := 29) ?hr ?_; (case hd => rfl); (case hg => rfl); (case hr => first | (go_simp; done) | (go_simp; rfl)); intro gb134 hg w3 hbox hb; have n0_ := Aside0.mk (below_step u3_0 hb); have n1_ := Aside0.mk (hbox); have n2_ := Aside0.mk ((by rw [hg]; exact (below_size u3_0) : w.heap.size ≤ gb134)); have n3_ := Aside0.mk ((by rw [hg]; exact (below_size u3_0) : w.heap.size ≤ gb134)); clear HB; have HB := n0_; have BK134 := n1_; have GW134 := n2_; have GE134 := n3_; clear n0_ n1_ n2_ n3_; clear hb hbox hg))
  go_loopg [5] k (fun kq v5 w' => ∃ (x5_1 : Int), v5 = .int .i64 x5_1 ∧ Aside0 (spec_l10Find.l0 kq a1 x5_1 l0_0 = some r) ∧ Aside0 (kq ≤ k) ∧ Aside0 (w'.heap[gb134]? = some (.cells #[(.slice A0_0 l0_0.length c0_0)] 29 (0, 0))) ∧ Aside0 (Below w.heap.size w w'))
  case atStart => exact ⟨(0), u3_15, H', ⟨Nat.le_refl _⟩, ⟨by (with_reducible repeat (first | refine blk_drewN ?_ _ | refine blk_drew ?_ | refine blk_alloc ?_ _)); exact BK134.out⟩, ⟨by repeat (first | (with_reducible first | exact HB.out | apply below_alloc | apply pw_below_drewN | apply below_drew1 | refine below_set ?_ GE134.out) | exact HB.out)⟩⟩
  case round =>
    clear H'
    try clear p2
    obtain ⟨x5_1, rfl, HA, HK1, BK134, HB⟩ := hrel
    cases gk with
    | zero => exact absurd HA.out (by simp [spec_l10Find.l0])
    | succ k1 =>
      have H := HA.out
      clear HA
      simp only [spec_l10Find.l0] at H
      by_cases c4 : x5_1 < (l0_0.length : Int)
      · rw [if_pos c4] at H
        have c4b0 : decide (x5_1 < (l0_0.length : Int)) = true := decide_eq_true c4
        clear c4
        by_cases c5 : 0 ≤ x5_1
        · rw [if_pos c5] at H
          have c5b0 : decide (0 ≤ x5_1) = true := decide_eq_true c5
          clear c5
          by_cases c6 : ((rd_T53 l0_0 x5_1).f0) = a1
          · rw [if_pos c6] at H
            have c6b0 : (((rd_T53 l0_0 x5_1).f0) == a1) = true := beq_iff_eq.mpr c6
            have c6b1 : (((rd_T53 l0_0 x5_1).f0) != a1) = false := bne_eq_false_iff_eq.mpr c6
            clear c6
            obtain rfl := Option.some.inj H
            have hcz7_0 : wr.cell? ⟨gb134, 0, none⟩ = some (.slice A0_0 l0_0.length c0_0) := (blk_cell BK134.out 0).trans rfl
            have hfz7_0 := blk_frozen BK134.out 0
            have p135 : 0 ≤ (x5_1 : Int) := of_decide_eq_true u3_5
            have q135 : x5_1 < (l0_0.length : Int) := of_decide_eq_true u3_5
            obtain ⟨ad135, e135, hx135_0, hx135_1, hx135_2, hx135_3, hx135_4⟩ := at_T53 HR0_0.out x5_1 p135 q135
            cases e135
            replace hx135_0 := (HB.out.cell (World.block_lt_of_cell? w _ hx135_0)).trans hx135_0
            replace hx135_1 := (HB.out.cell (World.block_lt_of_cell? w _ hx135_1)).trans hx135_1
            replace hx135_2 := (HB.out.cell (World.block_lt_of_cell? w _ hx135_2)).trans hx135_2
            replace hx135_3 := (HB.out.cell (World.block_lt_of_cell? w _ hx135_3)).trans hx135_3
            replace hx135_4 := (HB.out.cell (World.block_lt_of_cell? w _ hx135_4)).trans hx135_4
            replace p135 := eq_true p135
            replace q135 := eq_true q135
            go_wp2
            go_ret
            exact ⟨by first | rfl | (simp [errW_none, errW_some] <;> rfl) | (simp [*, errW_none, errW_some] <;> rfl), by repeat (first | (with_reducible first | exact HB.out | apply below_alloc | apply pw_below_drewN | apply below_drew1 | refine below_set ?_ GE134.out) | exact HB.out)⟩
          · rw [if_neg c6] at H
            have c6b0 : (((rd_T53 l0_0 x5_1).f0) == a1) = false := beq_eq_false_iff_ne.mpr c6
            have c6b1 : (((rd_T53 l0_0 x5_1).f0) != a1) = true := bne_iff_ne.mpr c6
            have H' := Aside0.mk H
            clear H
            have hcz8_0 : wr.cell? ⟨gb134, 0, none⟩ = some (.slice A0_0 l0_0.length c0_0) := (blk_cell BK134.out 0).trans rfl
            have hfz8_0 := blk_frozen BK134.out 0
            have p135 : 0 ≤ (x5_1 : Int) := of_decide_eq_true u3_5
            have q135 : x5_1 < (l0_0.length : Int) := of_decide_eq_true u3_5
            obtain ⟨ad135, e135, hx135_0, hx135_1, hx135_2, hx135_3, hx135_4⟩ := at_T53 HR0_0.out x5_1 p135 q135
            cases e135
            replace hx135_0 := (HB.out.cell (World.block_lt_of_cell? w _ hx135_0)).trans hx135_0
            replace hx135_1 := (HB.out.cell (World.block_lt_of_cell? w _ hx135_1)).trans hx135_1
            replace hx135_2 := (HB.out.cell (World.block_lt_of_cell? w _ hx135_2)).trans hx135_2
            replace hx135_3 := (HB.out.cell (World.block_lt_of_cell? w _ hx135_3)).trans hx135_3
            replace hx135_4 := (HB.out.cell (World.block_lt_of_cell? w _ hx135_4)).trans hx135_4
            replace p135 := eq_true p135
            replace q135 := eq_true q135
            go_wp2
            go_roundg k1
            case measure => have := HK1.out; omega
            case rel => exact ⟨(wrap64 (x5_1 + 1)), u3_15, H', ⟨by have := HK1.out; omega⟩, ⟨by (with_reducible repeat (first | refine blk_drewN ?_ _ | refine blk_drew ?_ | refine blk_alloc ?_ _)); exact BK134.out⟩, ⟨by repeat (first | (with_reducible first | exact HB.out | apply below_alloc | apply pw_below_drewN | apply below_drew1 | refine below_set ?_ GE134.out) | exact HB.out)⟩⟩
        · rw [if_neg c5] at H
          exact absurd H (by simp)
      · rw [if_neg c4] at H
        have c4b0 : decide (x5_1 < (l0_0.length : Int)) = false := decide_eq_false c4
        clear c4
        obtain rfl := Option.some.inj H
        have hcz9_0 : wr.cell? ⟨gb134, 0, none⟩ = some (.slice A0_0 l0_0.length c0_0) := (blk_cell BK134.out 0).trans rfl
        have hfz9_0 := blk_frozen BK134.out 0
        go_wp2
        go_ret
        exact ⟨by first | rfl | (simp [errW_none, errW_some] <;> rfl) | (simp [*, errW_none, errW_some] <;> rfl), by repeat (first | (with_reducible first | exact HB.out | apply below_alloc | apply pw_below_drewN | apply below_drew1 | refine below_set ?_ GE134.out) | exact HB.out)⟩

/-! ### spec_l10Of: function 53 -/
def spec_l10Of.j0 : Nat → Int → Bool → List (S53) → Option (Int × Int × Int × Int × Int × Int)
  | 0, _, _, _ => none
  | k + 1, x1, x15, x137000 => if x15 = true then (some (0, 0, 0, 0, 0, 1)) else ((spec_l10Find.f k x137000 x1).bind fun t139 => (if t139 < 0 then (some (0, 0, 0, 0, 0, 2)) else (if 0 ≤ t139 then (if t139 < (x137000.length : Int) then (some ((rd_T53 x137000 t139).f0, (rd_T53 x137000 t139).f1, (rd_T53 x137000 t139).f2, (rd_T53 x137000 t139).f3, (rd_T53 x137000 t139).f4, 0)) else (none)) else (none))))
def spec_l10Of.f (k : Nat) (l0_0 : List (S53)) (a1 : Int) (a2 : Int) : Option (Int × Int × Int × Int × Int × Int) := (spec_BookOk.f k l0_0).bind fun t138 => (if t138 = true then (spec_l10Of.j0 k a1 (decide (a2 < 1)) l0_0) else (spec_l10Of.j0 k a1 true l0_0))
theorem spec_l10Of.mono_l : ∀ k, (∀ y0 y1 y2, LeO (spec_l10Of.j0 k y0 y1 y2) (spec_l10Of.j0 (k + 1) y0 y1 y2))
  | 0 => fun _ _ _ r h => by simp [spec_l10Of.j0] at h
  | k + 1 => by
    have ih0 := spec_l10Of.mono_l k
    · intro y0 y1 y2
      unfold spec_l10Of.j0
      repeat' first
      | (with_reducible exact ih0 _ _ _)
      | (with_reducible exact spec_BookOk.mono _ _)
      | (with_reducible exact spec_l10Find.mono _ _ _)
      | (with_reducible exact LeO.refl _)
      | (with_reducible exact LeO.none _)
      | (with_reducible refine LeO.ite ?_ ?_)
      | (with_reducible refine LeO.bind ?_ (fun _ => ?_))
      | exact ih0 _ _ _
      | exact spec_BookOk.mono _ _
      | exact spec_l10Find.mono _ _ _
      | exact LeO.none _
      | refine LeO.ite ?_ ?_
      | refine LeO.bind ?_ (fun _ => ?_)
theorem spec_l10Of.mono : ∀ a0 a1 a2 k, LeO (spec_l10Of.f k a0 a1 a2) (spec_l10Of.f (k + 1) a0 a1 a2) := by
  intro a0 a1 a2 k
  have ih0 := spec_l10Of.mono_l k
  unfold spec_l10Of.f
  repeat' first
      | (with_reducible exact ih0 _ _ _)
      | (with_reducible exact spec_BookOk.mono _ _)
      | (with_reducible exact spec_l10Find.mono _ _ _)
      | (with_reducible exact LeO.refl _)
      | (with_reducible exact LeO.none _)
      | (with_reducible refine LeO.ite ?_ ?_)
      | (with_reducible refine LeO.bind ?_ (fun _ => ?_))
      | exact ih0 _ _ _
      | exact spec_BookOk.mono _ _
      | exact spec_l10Find.mono _ _ _
      | exact LeO.none _
      | refine LeO.ite ?_ ?_
      | refine LeO.bind ?_ (fun _ => ?_)
set_option maxHeartbeats 8000000 in
set_option maxRecDepth 100000 in
theorem spec_l10Of.calls (k : Nat) (A0_0 : Option Addr) (c0_0 : Nat) (l0_0 : List (S53)) (a1 : Int) (a2 : Int) (r1 : Int) (r2 : Int) (r3 : Int) (r4 : Int) (r5 : Int) (r6 : Int) (w : World) (hr0_0 : Kd.C k53 w A0_0 l0_0.length l0_0) (hc0_0 : l0_0.length ≤ c0_0) (h : spec_l10Of.f k l0_0 a1 a2 = some (r1, r2, r3, r4, r5, r6)) :
    Calls Try.prog 53 #[.agg #[.slice A0_0 l0_0.length c0_0], .int .u64 a1, .int .i64 a2] w fun e w' => e = .returned (.tuple #[.agg #[.int .u64 r1, .int .u64 r2, .int .u64 r3, .int .u64 r4, .int .i64 r5], .int .i64 r6]) ∧ Below w.heap.size w w' := by
  have hu29 := Try.underlying29
  have hu53 := Try.underlying53
  have HR0_0 := Aside0.mk hr0_0
  have HC0_0 := Aside0.mk hc0_0
  clear hr0_0 hc0_0
  have HB := Aside0.mk (Below.refl w.heap.size w)
  have H : ((spec_BookOk.f k l0_0).bind fun t138 => (if t138 = true then (spec_l10Of.j0 k a1 (decide (a2 < 1)) l0_0) else (spec_l10Of.j0 k a1 true l0_0))) = some (r1, r2, r3, r4, r5, r6) := h
  clear h
  have HC4 := Aside0.mk H
  clear H
  go_enter Try.func53, Try.ntmps53
  go_upto_region 1 with (first | ((with_reducible refine gate_dst (N := 3) rfl ?_); refine box_event ?hg (N := 3) ?hd (cs := #[.slice A0_0 l0_0.length c0_0]) (t := 29) ?hr ?_; (case hd => rfl); (case hg => rfl); (case hr => first | (go_simp; done) | (go_simp; rfl)); intro gb136 hg w5 hbox hb; have n0_ := Aside0.mk (below_step u3_0 hb); have n1_ := Aside0.mk (hbox); have n2_ := Aside0.mk ((by rw [hg]; exact (below_size u3_0) : w.heap.size ≤ gb136)); have n3_ := Aside0.mk ((by rw [hg]; exact (below_size u3_0) : w.heap.size ≤ gb136)); clear HB; have HB := n0_; have BK136 := n1_; have GW136 := n2_; have GE136 := n3_; clear n0_ n1_ n2_ n3_; clear hb hbox hg) | ((with_reducible refine gate_dst (N := 6) rfl ?_); refine box_event ?hg (N := 6) ?hd (cs := #[.int .u64 0, .int .u64 0, .int .u64 0, .int .u64 0, .int .i64 0]) (t := 53) ?hr ?_; (case hd => rfl); (case hg => rfl); (case hr => first | (go_simp; done) | (go_simp; rfl)); intro gb137 hg w6 hbox hb; have n0_ := Aside0.mk (blk_below (g := gb136) (o := .cells #[.slice A0_0 l0_0.length c0_0] 29 (0, 0)) u3_6 hb); have n1_ := Aside0.mk (below_step u3_16 hb); have n2_ := Aside0.mk (hbox); have n3_ := Aside0.mk ((by rw [hg]; exact (below_size u3_16) : w.heap.size ≤ gb137)); have n4_ := Aside0.mk ((by rw [hg]; exact (below_size u3_16) : w.heap.size ≤ gb137)); have n5_ := Aside0.mk ((by rw [hg]; exact Nat.ne_of_lt (blk_lt (g := gb136) (o := .cells #[.slice A0_0 l0_0.length c0_0] 29 (0, 0)) u3_6) : gb136 ≠ gb137)); have n6_ := Aside0.mk ((by rw [hg]; exact Nat.ne_of_gt (blk_lt (g := gb136) (o := .cells #[.slice A0_0 l0_0.length c0_0] 29 (0, 0)) u3_6) : gb137 ≠ gb136)); clear BK136; clear HB; have BK136 := n0_; have HB := n1_; have BK137 := n2_; have GW137 := n3_; have GE137 := n4_; have NB136_137 := n5_; have NB137_136 := n6_; clear n0_ n1_ n2_ n3_ n4_ n5_ n6_; clear hb hbox hg))
  (try simp only [Act.put, List.setIfInBounds_toArray, List.set_cons_zero, List.set_cons_succ])
  go_cut [15] (fun v15 wc => ∃ (kq : Nat) (x15_3 : Bool), v15 = .bool x15_3 ∧ Aside0 (spec_l10Of.j0 kq a1 x15_3 l0_0 = some (r1, r2, r3, r4, r5, r6)) ∧ Aside0 (kq ≤ k) ∧ Aside0 (wc.heap[gb136]? = some (.cells #[(.slice A0_0 l0_0.length c0_0)] 29 (0, 0))) ∧ Aside0 (wc.heap[gb137]? = some (.cells #[.int .u64 0, .int .u64 0, .int .u64 0, .int .u64 0, .int .i64 0] 53 (0, 0))) ∧ Aside0 (Below w.heap.size w wc))
  case first =>
    have H := HC4.out
    clear HC4
    replace H := Option.bind_eq_some_iff.mp H
    obtain ⟨t138, A70, H⟩ := H
    replace H : (if t138 = true then (spec_l10Of.j0 k a1 (decide (a2 < 1)) l0_0) else (spec_l10Of.j0 k a1 true l0_0)) = some (r1, r2, r3, r4, r5, r6) := H
    have A7 := Aside0.mk A70
    clear A70
    by_cases c8 : t138 = true
    · subst c8
      have H1 : (spec_l10Of.j0 k a1 (decide (a2 < 1)) l0_0) = some (r1, r2, r3, r4, r5, r6) := by rw [if_pos rfl] at H; exact H
      clear H
      have H := H1
      clear H1
      have H' := Aside0.mk H
      clear H
      have hnb9 := NB136_137.out
      have hnc9 := NB137_136.out
      have hcz10_0 : w6.cell? ⟨gb136, 0, none⟩ = some (.slice A0_0 l0_0.length c0_0) := (blk_cell BK136.out 0).trans rfl
      have hfz10_0 := blk_frozen BK136.out 0
      go_wp2_with (first | ((with_reducible refine gate_callee (f := 18) rfl ?_); refine goesL_ (some 10) rfl rfl Try.func18 (by kernel_rfl) rfl #[.agg #[.slice A0_0 l0_0.length c0_0]] rfl u3_10 ?_; (with_reducible refine (spec_BookOk.calls k _ _ l0_0 true _ ?side1 ?side2 A7.out).mono ?_); (case side1 => repeat (first | exact (Kd.C_below HR0_0.out HB.out) | (with_reducible refine Kd.C_alloc ?_ _) | (with_reducible refine Kd.C_drewN ?_ _) | (with_reducible refine Kd.C_drew ?_))); (case side2 => exact HC0_0.out); rintro e w11 ⟨rfl, hb⟩; refine ⟨_, rfl, ?_⟩; have n0_ := Aside0.mk (blk_below (g := gb136) (o := .cells #[.slice A0_0 l0_0.length c0_0] 29 (0, 0)) u3_6 hb); have n1_ := Aside0.mk (blk_below (g := gb137) (o := .cells #[.int .u64 0, .int .u64 0, .int .u64 0, .int .u64 0, .int .i64 0] 53 (0, 0)) u3_13 hb); have n2_ := Aside0.mk (below_step u3_9 hb); clear BK136; clear BK137; clear HB; have BK136 := n0_; have BK137 := n1_; have HB := n2_; clear n0_ n1_ n2_; (try clear hb); (try clear hb2); (try clear hk); (try clear hi)))
      go_meet
      case rel => exact ⟨_, (decide (a2 < 1)), u3_15, H', ⟨by first | omega | exact Nat.le_refl _⟩, ⟨by (with_reducible repeat (first | refine blk_drewN ?_ _ | refine blk_drew ?_ | refine blk_alloc ?_ _)); exact BK136.out⟩, ⟨by (with_reducible repeat (first | refine blk_drewN ?_ _ | refine blk_drew ?_ | refine blk_alloc ?_ _)); exact BK137.out⟩, ⟨by repeat (first | (with_reducible first | exact HB.out | apply below_alloc | apply pw_below_drewN | apply below_drew1 | refine below_set ?_ GE136.out | refine below_set ?_ GE137.out) | exact HB.out)⟩⟩
    · replace c8 := Bool.eq_false_iff.mpr c8
      subst c8
      have H1 : (spec_l10Of.j0 k a1 true l0_0) = some (r1, r2, r3, r4, r5, r6) := by rw [if_neg (show ¬ (false = true) by decide)] at H; exact H
      clear H
      have H := H1
      clear H1
      have H' := Aside0.mk H
      clear H
      have hnb12 := NB136_137.out
      have hnc12 := NB137_136.out
      have hcz13_0 : w6.cell? ⟨gb136, 0, none⟩ = some (.slice A0_0 l0_0.length c0_0) := (blk_cell BK136.out 0).trans rfl
      have hfz13_0 := blk_frozen BK136.out 0
      go_wp2_with (first | ((with_reducible refine gate_callee (f := 18) rfl ?_); refine goesL_ (some 10) rfl rfl Try.func18 (by kernel_rfl) rfl #[.agg #[.slice A0_0 l0_0.length c0_0]] rfl u3_10 ?_; (with_reducible refine (spec_BookOk.calls k _ _ l0_0 false _ ?side1 ?side2 A7.out).mono ?_); (case side1 => repeat (first | exact (Kd.C_below HR0_0.out HB.out) | (with_reducible refine Kd.C_alloc ?_ _) | (with_reducible refine Kd.C_drewN ?_ _) | (with_reducible refine Kd.C_drew ?_))); (case side2 => exact HC0_0.out); rintro e w14 ⟨rfl, hb⟩; refine ⟨_, rfl, ?_⟩; have n0_ := Aside0.mk (blk_below (g := gb136) (o := .cells #[.slice A0_0 l0_0.length c0_0] 29 (0, 0)) u3_6 hb); have n1_ := Aside0.mk (blk_below (g := gb137) (o := .cells #[.int .u64 0, .int .u64 0, .int .u64 0, .int .u64 0, .int .i64 0] 53 (0, 0)) u3_13 hb); have n2_ := Aside0.mk (below_step u3_9 hb); clear BK136; clear BK137; clear HB; have BK136 := n0_; have BK137 := n1_; have HB := n2_; clear n0_ n1_ n2_; (try clear hb); (try clear hb2); (try clear hk); (try clear hi)))
      go_meet
      case rel => exact ⟨_, (true), u3_15, H', ⟨by first | omega | exact Nat.le_refl _⟩, ⟨by (with_reducible repeat (first | refine blk_drewN ?_ _ | refine blk_drew ?_ | refine blk_alloc ?_ _)); exact BK136.out⟩, ⟨by (with_reducible repeat (first | refine blk_drewN ?_ _ | refine blk_drew ?_ | refine blk_alloc ?_ _)); exact BK137.out⟩, ⟨by repeat (first | (with_reducible first | exact HB.out | apply below_alloc | apply pw_below_drewN | apply below_drew1 | refine below_set ?_ GE136.out | refine below_set ?_ GE137.out) | exact HB.out)⟩⟩
  case rest =>
    clear HC4
    try clear c1
    try clear p2
    try clear c5
    try clear c8
    try clear c9
    try clear c12
    try clear hcz10_0
    try clear hcz13_0
    try clear hfz10_0
    try clear hfz13_0
    obtain ⟨kq, x15_3, rfl, HA, HJ3, BK136, BK137, HB⟩ := hcut
    cases kq with
    | zero => exact absurd HA.out (by simp [spec_l10Of.j0])
    | succ kj3 =>
      have H := HA.out
      clear HA
      simp only [spec_l10Of.j0] at H
      by_cases c15 : x15_3 = true
      · subst c15
        have H1 : (some (0, 0, 0, 0, 0, 1)) = some (r1, r2, r3, r4, r5, r6) := by rw [if_pos rfl] at H; exact H
        clear H
        have H := H1
        clear H1
        simp only [Option.some.injEq, Prod.mk.injEq] at H
        obtain ⟨rfl, rfl, rfl, rfl, rfl, rfl⟩ := H
        have hnb16 := NB137_136.out
        have hnc16 := NB136_137.out
        have hcz17_0 : wc.cell? ⟨gb137, 0, none⟩ = some (.int .u64 0) := (blk_cell BK137.out 0).trans rfl
        have hcz17_1 : wc.cell? ⟨gb137, 1, none⟩ = some (.int .u64 0) := (blk_cell BK137.out 1).trans rfl
        have hcz17_2 : wc.cell? ⟨gb137, 2, none⟩ = some (.int .u64 0) := (blk_cell BK137.out 2).trans rfl
        have hcz17_3 : wc.cell? ⟨gb137, 3, none⟩ = some (.int .u64 0) := (blk_cell BK137.out 3).trans rfl
        have hcz17_4 : wc.cell? ⟨gb137, 4, none⟩ = some (.int .i64 0) := (blk_cell BK137.out 4).trans rfl
        have hfz17_0 := blk_frozen BK137.out 0
        have hfz17_1 := blk_frozen BK137.out 1
        have hfz17_2 := blk_frozen BK137.out 2
        have hfz17_3 := blk_frozen BK137.out 3
        have hfz17_4 := blk_frozen BK137.out 4
        go_wp2
        refine bodyPost_ret (results_ct rfl _ _ gb137 53 #[.int .u64 0, .int .u64 0, .int .u64 0, .int .u64 0, .int .i64 0] (0, 0) _ rfl u3_4 Try.underlying53 rfl (by kernel_rfl)) rfl ?_
        exact ⟨by first | rfl | (simp [errW_none, errW_some] <;> rfl) | (simp [*, errW_none, errW_some] <;> rfl), by repeat (first | (with_reducible first | exact HB.out | apply below_alloc | apply pw_below_drewN | apply below_drew1 | refine below_set ?_ GE136.out | refine below_set ?_ GE137.out) | exact HB.out)⟩
      · replace c15 := Bool.eq_false_iff.mpr c15
        subst c15
        have H1 : ((spec_l10Find.f kj3 l0_0 a1).bind fun t139 => (if t139 < 0 then (some (0, 0, 0, 0, 0, 2)) else (if 0 ≤ t139 then (if t139 < (l0_0.length : Int) then (some ((rd_T53 l0_0 t139).f0, (rd_T53 l0_0 t139).f1, (rd_T53 l0_0 t139).f2, (rd_T53 l0_0 t139).f3, (rd_T53 l0_0 t139).f4, 0)) else (none)) else (none)))) = some (r1, r2, r3, r4, r5, r6) := by rw [if_neg (show ¬ (false = true) by decide)] at H; exact H
        clear H
        have H := H1
        clear H1
        replace H := Option.bind_eq_some_iff.mp H
        obtain ⟨t139, A180, H⟩ := H
        replace H : (if t139 < 0 then (some (0, 0, 0, 0, 0, 2)) else (if 0 ≤ t139 then (if t139 < (l0_0.length : Int) then (some ((rd_T53 l0_0 t139).f0, (rd_T53 l0_0 t139).f1, (rd_T53 l0_0 t139).f2, (rd_T53 l0_0 t139).f3, (rd_T53 l0_0 t139).f4, 0)) else (none)) else (none))) = some (r1, r2, r3, r4, r5, r6) := H
        have A18 := Aside0.mk A180
        clear A180
        by_cases c19 : t139 < 0
        · rw [if_pos c19] at H
          have c19b0 : decide (t139 < 0) = true := decide_eq_true c19
          clear c19
          simp only [Option.some.injEq, Prod.mk.injEq] at H
          obtain ⟨rfl, rfl, rfl, rfl, rfl, rfl⟩ := H
          have hnb20 := NB136_137.out
          have hnc20 := NB137_136.out
          have hcz21_0 : wc.cell? ⟨gb136, 0, none⟩ = some (.slice A0_0 l0_0.length c0_0) := (blk_cell BK136.out 0).trans rfl
          have hfz21_0 := blk_frozen BK136.out 0
          go_wp2_with (first | ((with_reducible refine gate_callee (f := 68) rfl ?_); refine goesL_ (some 19) rfl rfl Try.func68 (by kernel_rfl) rfl #[.agg #[.slice A0_0 l0_0.length c0_0], .int .u64 a1] rfl u3_10 ?_; (with_reducible refine (spec_l10Find.calls kj3 _ _ l0_0 a1 t139 _ ?side1 ?side2 A18.out).mono ?_); (case side1 => repeat (first | exact (Kd.C_below HR0_0.out HB.out) | (with_reducible refine Kd.C_alloc ?_ _) | (with_reducible refine Kd.C_drewN ?_ _) | (with_reducible refine Kd.C_drew ?_))); (case side2 => exact HC0_0.out); rintro e w22 ⟨rfl, hb⟩; refine ⟨_, rfl, ?_⟩; have n0_ := Aside0.mk (blk_below (g := gb136) (o := .cells #[.slice A0_0 l0_0.length c0_0] 29 (0, 0)) u3_6 hb); have n1_ := Aside0.mk (blk_below (g := gb137) (o := .cells #[.int .u64 0, .int .u64 0, .int .u64 0, .int .u64 0, .int .i64 0] 53 (0, 0)) u3_13 hb); have n2_ := Aside0.mk (below_step u3_9 hb); clear BK136; clear BK137; clear HB; have BK136 := n0_; have BK137 := n1_; have HB := n2_; clear n0_ n1_ n2_; (try clear hb); (try clear hb2); (try clear hk); (try clear hi); have hcz23_0 : w22.cell? ⟨gb137, 0, none⟩ = some (.int .u64 0) := (blk_cell BK137.out 0).trans rfl; have hcz23_1 : w22.cell? ⟨gb137, 1, none⟩ = some (.int .u64 0) := (blk_cell BK137.out 1).trans rfl; have hcz23_2 : w22.cell? ⟨gb137, 2, none⟩ = some (.int .u64 0) := (blk_cell BK137.out 2).trans rfl; have hcz23_3 : w22.cell? ⟨gb137, 3, none⟩ = some (.int .u64 0) := (blk_cell BK137.out 3).trans rfl; have hcz23_4 : w22.cell? ⟨gb137, 4, none⟩ = some (.int .i64 0) := (blk_cell BK137.out 4).trans rfl; have hfz23_0 := blk_frozen BK137.out 0; have hfz23_1 := blk_frozen BK137.out 1; have hfz23_2 := blk_frozen BK137.out 2; have hfz23_3 := blk_frozen BK137.out 3; have hfz23_4 := blk_frozen BK137.out 4))
          refine bodyPost_ret (results_ct rfl _ _ gb137 53 #[.int .u64 0, .int .u64 0, .int .u64 0, .int .u64 0, .int .i64 0] (0, 0) _ rfl u3_4 Try.underlying53 rfl (by kernel_rfl)) rfl ?_
          exact ⟨by first | rfl | (simp [errW_none, errW_some] <;> rfl) | (simp [*, errW_none, errW_some] <;> rfl), by repeat (first | (with_reducible first | exact HB.out | apply below_alloc | apply pw_below_drewN | apply below_drew1 | refine below_set ?_ GE136.out | refine below_set ?_ GE137.out) | exact HB.out)⟩
        · rw [if_neg c19] at H
          have c19b0 : decide (t139 < 0) = false := decide_eq_false c19
          clear c19
          by_cases c24 : 0 ≤ t139
          · rw [if_pos c24] at H
            have c24b0 : decide (0 ≤ t139) = true := decide_eq_true c24
            clear c24
            by_cases c25 : t139 < (l0_0.length : Int)
            · rw [if_pos c25] at H
              have c25b0 : decide (t139 < (l0_0.length : Int)) = true := decide_eq_true c25
              clear c25
              simp only [Option.some.injEq, Prod.mk.injEq] at H
              obtain ⟨rfl, rfl, rfl, rfl, rfl, rfl⟩ := H
              have hnb26 := NB136_137.out
              have hnc26 := NB137_136.out
              have hcz27_0 : wc.cell? ⟨gb136, 0, none⟩ = some (.slice A0_0 l0_0.length c0_0) := (blk_cell BK136.out 0).trans rfl
              have hfz27_0 := blk_frozen BK136.out 0
              go_wp2_with (first | ((with_reducible refine gate_callee (f := 68) rfl ?_); refine goesL_ (some 19) rfl rfl Try.func68 (by kernel_rfl) rfl #[.agg #[.slice A0_0 l0_0.length c0_0], .int .u64 a1] rfl u3_10 ?_; (with_reducible refine (spec_l10Find.calls kj3 _ _ l0_0 a1 t139 _ ?side1 ?side2 A18.out).mono ?_); (case side1 => repeat (first | exact (Kd.C_below HR0_0.out HB.out) | (with_reducible refine Kd.C_alloc ?_ _) | (with_reducible refine Kd.C_drewN ?_ _) | (with_reducible refine Kd.C_drew ?_))); (case side2 => exact HC0_0.out); rintro e w28 ⟨rfl, hb⟩; refine ⟨_, rfl, ?_⟩; have n0_ := Aside0.mk (blk_below (g := gb136) (o := .cells #[.slice A0_0 l0_0.length c0_0] 29 (0, 0)) u3_6 hb); have n1_ := Aside0.mk (blk_below (g := gb137) (o := .cells #[.int .u64 0, .int .u64 0, .int .u64 0, .int .u64 0, .int .i64 0] 53 (0, 0)) u3_13 hb); have n2_ := Aside0.mk (below_step u3_9 hb); clear BK136; clear BK137; clear HB; have BK136 := n0_; have BK137 := n1_; have HB := n2_; clear n0_ n1_ n2_; (try clear hb); (try clear hb2); (try clear hk); (try clear hi); have hcz29_0 : w28.cell? ⟨gb136, 0, none⟩ = some (.slice A0_0 l0_0.length c0_0) := (blk_cell BK136.out 0).trans rfl; have hfz29_0 := blk_frozen BK136.out 0; have p140 : 0 ≤ (t139 : Int) := of_decide_eq_true u3_5; have q140 : t139 < (l0_0.length : Int) := of_decide_eq_true u3_5; obtain ⟨ad140, e140, hx140_0, hx140_1, hx140_2, hx140_3, hx140_4⟩ := at_T53 HR0_0.out t139 p140 q140; cases e140; replace hx140_0 := (HB.out.cell (World.block_lt_of_cell? w _ hx140_0)).trans hx140_0; replace hx140_1 := (HB.out.cell (World.block_lt_of_cell? w _ hx140_1)).trans hx140_1; replace hx140_2 := (HB.out.cell (World.block_lt_of_cell? w _ hx140_2)).trans hx140_2; replace hx140_3 := (HB.out.cell (World.block_lt_of_cell? w _ hx140_3)).trans hx140_3; replace hx140_4 := (HB.out.cell (World.block_lt_of_cell? w _ hx140_4)).trans hx140_4; replace p140 := eq_true p140; replace q140 := eq_true q140; have hcz30_0 : w28.cell? ⟨gb137, 0, none⟩ = some (.int .u64 0) := (blk_cell BK137.out 0).trans rfl; have hcz30_1 : w28.cell? ⟨gb137, 1, none⟩ = some (.int .u64 0) := (blk_cell BK137.out 1).trans rfl; have hcz30_2 : w28.cell? ⟨gb137, 2, none⟩ = some (.int .u64 0) := (blk_cell BK137.out 2).trans rfl; have hcz30_3 : w28.cell? ⟨gb137, 3, none⟩ = some (.int .u64 0) := (blk_cell BK137.out 3).trans rfl; have hcz30_4 : w28.cell? ⟨gb137, 4, none⟩ = some (.int .i64 0) := (blk_cell BK137.out 4).trans rfl; have hfz30_0 := blk_frozen BK137.out 0; have hfz30_1 := blk_frozen BK137.out 1; have hfz30_2 := blk_frozen BK137.out 2; have hfz30_3 := blk_frozen BK137.out 3; have hfz30_4 := blk_frozen BK137.out 4))
              refine bodyPost_ret (results_ct rfl _ _ gb137 53 #[.int .u64 ((rd_T53 l0_0 t139).f0), .int .u64 ((rd_T53 l0_0 t139).f1), .int .u64 ((rd_T53 l0_0 t139).f2), .int .u64 ((rd_T53 l0_0 t139).f3), .int .i64 ((rd_T53 l0_0 t139).f4)] (0, 0) _ rfl (by (with_reducible repeat (first | refine blk_drewN ?_ _ | refine blk_drew ?_ | refine blk_alloc ?_ _)); refine blk_put (cs := #[.int .u64 ((rd_T53 l0_0 t139).f0), .int .u64 ((rd_T53 l0_0 t139).f1), .int .u64 ((rd_T53 l0_0 t139).f2), .int .u64 ((rd_T53 l0_0 t139).f3), .int .i64 0]) ?_ 4 _ rfl; (with_reducible repeat (first | refine blk_drewN ?_ _ | refine blk_drew ?_ | refine blk_alloc ?_ _)); refine blk_put (cs := #[.int .u64 ((rd_T53 l0_0 t139).f0), .int .u64 ((rd_T53 l0_0 t139).f1), .int .u64 ((rd_T53 l0_0 t139).f2), .int .u64 0, .int .i64 0]) ?_ 3 _ rfl; (with_reducible repeat (first | refine blk_drewN ?_ _ | refine blk_drew ?_ | refine blk_alloc ?_ _)); refine blk_put (cs := #[.int .u64 ((rd_T53 l0_0 t139).f0), .int .u64 ((rd_T53 l0_0 t139).f1), .int .u64 0, .int .u64 0, .int .i64 0]) ?_ 2 _ rfl; (with_reducible repeat (first | refine blk_drewN ?_ _ | refine blk_drew ?_ | refine blk_alloc ?_ _)); refine blk_put (cs := #[.int .u64 ((rd_T53 l0_0 t139).f0), .int .u64 0, .int .u64 0, .int .u64 0, .int .i64 0]) ?_ 1 _ rfl; (with_reducible repeat (first | refine blk_drewN ?_ _ | refine blk_drew ?_ | refine blk_alloc ?_ _)); refine blk_put (cs := #[.int .u64 0, .int .u64 0, .int .u64 0, .int .u64 0, .int .i64 0]) ?_ 0 _ rfl; (with_reducible repeat (first | refine blk_drewN ?_ _ | refine blk_drew ?_ | refine blk_alloc ?_ _)); exact BK137.out) Try.underlying53 rfl (by kernel_rfl)) rfl ?_
              exact ⟨by first | rfl | (simp [errW_none, errW_some] <;> rfl) | (simp [*, errW_none, errW_some] <;> rfl), by repeat (first | (with_reducible first | exact HB.out | apply below_alloc | apply pw_below_drewN | apply below_drew1 | refine below_set ?_ GE136.out | refine below_set ?_ GE137.out) | exact HB.out)⟩
            · rw [if_neg c25] at H
              exact absurd H (by simp)
          · rw [if_neg c24] at H
            exact absurd H (by simp)

/-! ### spec_l10Copy: function 54 -/
def spec_l10Copy.l0 : Nat → Int → List (S53) → List (S53) → Option ((List (S53)))
  | 0, _, _, _ => none
  | k + 1, x4, x142000, x144000 => if x4 < (x142000.length : Int) then (if 0 ≤ x4 then (if x144000.length < 3518437208883 then (spec_l10Copy.l0 k (wrap64 (x4 + 1)) x142000 (x144000 ++ [(⟨(rd_T53 x142000 x4).f0, (rd_T53 x142000 x4).f1, (rd_T53 x142000 x4).f2, (rd_T53 x142000 x4).f3, (rd_T53 x142000 x4).f4⟩ : S53)])) else (none)) else (none)) else (some x144000)
def spec_l10Copy.f (k : Nat) (l0_0 : List (S53)) : Option ((List (S53))) := spec_l10Copy.l0 k 0 l0_0 ([] : List (S53))
theorem spec_l10Copy.mono_l : ∀ k, (∀ y0 y1 y2, LeO (spec_l10Copy.l0 k y0 y1 y2) (spec_l10Copy.l0 (k + 1) y0 y1 y2))
  | 0 => fun _ _ _ r h => by simp [spec_l10Copy.l0] at h
  | k + 1 => by
    have ih0 := spec_l10Copy.mono_l k
    · intro y0 y1 y2
      unfold spec_l10Copy.l0
      repeat' first
      | (with_reducible exact ih0 _ _ _)
      | (with_reducible exact LeO.refl _)
      | (with_reducible exact LeO.none _)
      | (with_reducible refine LeO.ite ?_ ?_)
      | (with_reducible refine LeO.bind ?_ (fun _ => ?_))
      | exact ih0 _ _ _
      | exact LeO.none _
      | refine LeO.ite ?_ ?_
      | refine LeO.bind ?_ (fun _ => ?_)
theorem spec_l10Copy.mono : ∀ a0 k, LeO (spec_l10Copy.f k a0) (spec_l10Copy.f (k + 1) a0) := by
  intro a0 k
  have ih0 := spec_l10Copy.mono_l k
  unfold spec_l10Copy.f
  repeat' first
      | (with_reducible exact ih0 _ _ _)
      | (with_reducible exact LeO.refl _)
      | (with_reducible exact LeO.none _)
      | (with_reducible refine LeO.ite ?_ ?_)
      | (with_reducible refine LeO.bind ?_ (fun _ => ?_))
      | exact ih0 _ _ _
      | exact LeO.none _
      | refine LeO.ite ?_ ?_
      | refine LeO.bind ?_ (fun _ => ?_)
def spec_l10Copy.T5 : Bool × List (List Nat × List Nat) := (true, [([], []), ([0], [0]), ([], []), ([2], [2]), ([], []), ([3, 4], [3, 4]), ([5], [5]), ([6], [6]), ([1, 7], [1, 7]), ([0, 1, 2, 3, 4, 5, 6, 7, 8], []), ([9, 8, 8, 0, 1, 2, 3, 4, 5, 6, 7, 8], [8, 9])])
def spec_l10Copy.B5 : List Nat := [0, 1, 0, 4, 0, 28, 60, 124, 255, 511, 1023]
theorem spec_l10Copy.tab5 : rtab .any (opsOf Try.f54 5) = spec_l10Copy.T5 := by kernel_rfl
theorem spec_l10Copy.bits5 : waitsOk spec_l10Copy.T5.2 spec_l10Copy.B5 = true := by kernel_rfl
set_option maxHeartbeats 8000000 in
set_option maxRecDepth 100000 in
theorem spec_l10Copy.calls (k : Nat) (A0_0 : Option Addr) (c0_0 : Nat) (l0_0 : List (S53)) (r : List (S53)) (w : World) (hr0_0 : Kd.C k53 w A0_0 l0_0.length l0_0) (hc0_0 : l0_0.length ≤ c0_0) (h : spec_l10Copy.f k l0_0 = some r) :
    Calls Try.prog 54 #[.agg #[.slice A0_0 l0_0.length c0_0]] w fun e w' => ∃ v0_ : Value, e = .returned (.agg #[v0_]) ∧ Kd.R k53 53 w' w.heap.size (fun _ => True) v0_ r ∧ Below w.heap.size w w' := by
  have hu29 := Try.underlying29
  have hu53 := Try.underlying53
  have HR0_0 := Aside0.mk hr0_0
  have HC0_0 := Aside0.mk hc0_0
  clear hr0_0 hc0_0
  have HB := Aside0.mk (Below.refl w.heap.size w)
  have H : (spec_l10Copy.l0 k 0 l0_0 ([] : List (S53))) = some r := h
  clear h
  have H' := Aside0.mk H
  clear H
  go_enter Try.func54, Try.ntmps54
  go_wp2_with (first | ((with_reducible refine gate_dst (N := 1) rfl ?_); refine box_event ?hg (N := 1) ?hd (cs := #[.slice A0_0 l0_0.length c0_0]) (t := 29) ?hr ?_; (case hd => rfl); (case hg => rfl); (case hr => first | (go_simp; done) | (go_simp; rfl)); intro gb141 hg w2 hbox hb; have n0_ := Aside0.mk (below_step u3_0 hb); have n1_ := Aside0.mk (hbox); have n2_ := Aside0.mk ((by rw [hg]; exact (below_size u3_0) : w.heap.size ≤ gb141)); have n3_ := Aside0.mk ((by rw [hg]; exact (below_size u3_0) : w.heap.size ≤ gb141)); clear HB; have HB := n0_; have BK141 := n1_; have GW141 := n2_; have GE141 := n3_; clear n0_ n1_ n2_ n3_; clear hb hbox hg) | ((with_reducible refine gate_dst (N := 2) rfl ?_); refine box_event ?hg (N := 2) ?hd (cs := #[.slice none 0 0]) (t := 29) ?hr ?_; (case hd => rfl); (case hg => rfl); (case hr => first | (go_simp; done) | (go_simp; rfl)); intro gb142 hg w3 hbox hb; have n0_ := Aside0.mk (blk_below (g := gb141) (o := .cells #[.slice A0_0 l0_0.length c0_0] 29 (0, 0)) u3_7 hb); have n1_ := Aside0.mk (below_step u3_17 hb); have n2_ := Aside0.mk (hbox); have n3_ := Aside0.mk ((by rw [hg]; exact (below_size u3_17) : w.heap.size ≤ gb142)); have n4_ := Aside0.mk ((by rw [hg]; exact (below_size u3_17) : w.heap.size ≤ gb142)); have n5_ := Aside0.mk ((by rw [hg]; exact Nat.ne_of_lt (blk_lt (g := gb141) (o := .cells #[.slice A0_0 l0_0.length c0_0] 29 (0, 0)) u3_7) : gb141 ≠ gb142)); have n6_ := Aside0.mk ((by rw [hg]; exact Nat.ne_of_gt (blk_lt (g := gb141) (o := .cells #[.slice A0_0 l0_0.length c0_0] 29 (0, 0)) u3_7) : gb142 ≠ gb141)); clear BK141; clear HB; have BK141 := n0_; have HB := n1_; have BK142 := n2_; have GW142 := n3_; have GE142 := n4_; have NB141_142 := n5_; have NB142_141 := n6_; clear n0_ n1_ n2_ n3_ n4_ n5_ n6_; clear hb hbox hg) | ((with_reducible refine gate_dst (N := 3) rfl ?_); refine box_event ?hg (N := 3) ?hd (cs := #[.slice none 0 0]) (t := 29) ?hr ?_; (case hd => rfl); (case hg => rfl); (case hr => first | (go_simp; done) | (go_simp; rfl)); intro gb143 hg w4 hbox hb; have n0_ := Aside0.mk (blk_below (g := gb141) (o := .cells #[.slice A0_0 l0_0.length c0_0] 29 (0, 0)) u3_7 hb); have n1_ := Aside0.mk (blk_below (g := gb142) (o := .cells #[.slice none 0 0] 29 (0, 0)) u3_14 hb); have n2_ := Aside0.mk (below_step u3_11 hb); have n3_ := Aside0.mk (hbox); have n4_ := Aside0.mk ((by rw [hg]; exact (below_size u3_11) : w.heap.size ≤ gb143)); have n5_ := Aside0.mk ((by rw [hg]; exact (below_size u3_11) : w.heap.size ≤ gb143)); have n6_ := Aside0.mk ((by rw [hg]; exact Nat.ne_of_lt (blk_lt (g := gb141) (o := .cells #[.slice A0_0 l0_0.length c0_0] 29 (0, 0)) u3_7) : gb141 ≠ gb143)); have n7_ := Aside0.mk ((by rw [hg]; exact Nat.ne_of_gt (blk_lt (g := gb141) (o := .cells #[.slice A0_0 l0_0.length c0_0] 29 (0, 0)) u3_7) : gb143 ≠ gb141)); have n8_ := Aside0.mk ((by rw [hg]; exact Nat.ne_of_lt (blk_lt (g := gb142) (o := .cells #[.slice none 0 0] 29 (0, 0)) u3_14) : gb142 ≠ gb143)); have n9_ := Aside0.mk ((by rw [hg]; exact Nat.ne_of_gt (blk_lt (g := gb142) (o := .cells #[.slice none 0 0] 29 (0, 0)) u3_14) : gb143 ≠ gb142)); clear BK141; clear BK142; clear HB; have BK141 := n0_; have BK142 := n1_; have HB := n2_; have BK143 := n3_; have GW143 := n4_; have GE143 := n5_; have NB141_143 := n6_; have NB143_141 := n7_; have NB142_143 := n8_; have NB143_142 := n9_; clear n0_ n1_ n2_ n3_ n4_ n5_ n6_ n7_ n8_ n9_; clear hb hbox hg; have hnb5 := NB143_141.out; have hnc5 := NB141_143.out; have hnb6 := NB143_142.out; have hnc6 := NB142_143.out; have hcz7_0 : w4.cell? ⟨gb143, 0, none⟩ = some (.slice none 0 0) := (blk_cell BK143.out 0).trans rfl; have hfz7_0 := blk_frozen BK143.out 0))
  go_loopg [4] k (fun kq v4 w' => ∃ (x4_1 : Int) (x144000_1 : List (S53)) (u144000 : Value), v4 = .int .i64 x4_1 ∧ Aside0 (spec_l10Copy.l0 kq x4_1 l0_0 x144000_1 = some r) ∧ Aside0 (kq ≤ k) ∧ Aside0 (Kd.R k53 53 w' w.heap.size (fun _ => True) u144000 x144000_1) ∧ Aside0 (w'.heap[gb141]? = some (.cells #[(.slice A0_0 l0_0.length c0_0)] 29 (0, 0))) ∧ Aside0 (w'.heap[gb142]? = some (.cells #[(.slice none 0 0)] 29 (0, 0))) ∧ Aside0 (w'.heap[gb143]? = some (.cells #[u144000] 29 (0, 0))) ∧ Aside0 (Below w.heap.size w w'))
  case atStart => exact ⟨(0), (([] : List (S53))), (.slice none 0 0), u3_15, H', ⟨Nat.le_refl _⟩, ⟨by first | exact Kd.R_nil _ _ _ _ _ | exact Kd.N_nil _ _ _ _ _ | exact Kd.V_nil _ _ _ _ _ | exact Kd.Q_nil _ _ _ _ _ | exact Kd.S_nil _ _ _ _ _⟩, ⟨by (with_reducible repeat (first | refine blk_drewN ?_ _ | refine blk_drew ?_ | refine blk_alloc ?_ _)); refine blk_far ?_ NB141_143.out _; (with_reducible repeat (first | refine blk_drewN ?_ _ | refine blk_drew ?_ | refine blk_alloc ?_ _)); exact BK141.out⟩, ⟨by (with_reducible repeat (first | refine blk_drewN ?_ _ | refine blk_drew ?_ | refine blk_alloc ?_ _)); refine blk_far ?_ NB142_143.out _; (with_reducible repeat (first | refine blk_drewN ?_ _ | refine blk_drew ?_ | refine blk_alloc ?_ _)); exact BK142.out⟩, ⟨by (with_reducible repeat (first | refine blk_drewN ?_ _ | refine blk_drew ?_ | refine blk_alloc ?_ _)); refine blk_put (cs := #[.slice none 0 0]) ?_ 0 _ rfl; (with_reducible repeat (first | refine blk_drewN ?_ _ | refine blk_drew ?_ | refine blk_alloc ?_ _)); exact BK143.out⟩, ⟨by repeat (first | (with_reducible first | exact HB.out | apply below_alloc | apply pw_below_drewN | apply below_drew1 | refine below_set ?_ GE141.out | refine below_set ?_ GE142.out | refine below_set ?_ GE143.out) | exact HB.out)⟩⟩
  case round =>
    clear H'
    try clear p2
    try clear c5
    try clear c6
    try clear hcz7_0
    try clear hfz7_0
    obtain ⟨x4_1, x144000_1, u144000, rfl, HA, HK1, HO_144000, BK141, BK142, BK143, HB⟩ := hrel
    cases gk with
    | zero => exact absurd HA.out (by simp [spec_l10Copy.l0])
    | succ k1 =>
      have H := HA.out
      clear HA
      simp only [spec_l10Copy.l0] at H
      by_cases c8 : x4_1 < (l0_0.length : Int)
      · rw [if_pos c8] at H
        have c8b0 : decide (x4_1 < (l0_0.length : Int)) = true := decide_eq_true c8
        clear c8
        by_cases c9 : 0 ≤ x4_1
        · rw [if_pos c9] at H
          have c9b0 : decide (0 ≤ x4_1) = true := decide_eq_true c9
          clear c9
          by_cases c10 : x144000_1.length < 3518437208883
          · rw [if_pos c10] at H
            have LMc10 := Aside0.mk c10
            clear c10
            obtain ⟨y145, hy145⟩ : ∃ y_ : List (S53), y_ = (x144000_1 ++ [(⟨(rd_T53 l0_0 x4_1).f0, (rd_T53 l0_0 x4_1).f1, (rd_T53 l0_0 x4_1).f2, (rd_T53 l0_0 x4_1).f3, (rd_T53 l0_0 x4_1).f4⟩ : S53)]) := ⟨_, rfl⟩
            replace H : (spec_l10Copy.l0 k1 (wrap64 (x4_1 + 1)) l0_0 y145) = some r := by first | (rw [hy145]; with_reducible exact H) | (have H2_ := (Option.bind_some _ _).symm.trans H; rw [hy145]; with_reducible exact H2_) | (have H2_ := (Option.bind_some _ _).symm.trans H; with_reducible exact H2_) | with_reducible exact H | (rw [hy145]; exact H) | exact H
            have Ny145 := Aside0.mk hy145
            clear hy145
            have H' := Aside0.mk H
            clear H
            have hnb11 := NB141_142.out
            have hnc11 := NB142_141.out
            have hnb12 := NB141_143.out
            have hnc12 := NB143_141.out
            have hcz13_0 : wr.cell? ⟨gb141, 0, none⟩ = some (.slice A0_0 l0_0.length c0_0) := (blk_cell BK141.out 0).trans rfl
            have hfz13_0 := blk_frozen BK141.out 0
            try go_wp2
            have n0_ := Aside0.mk (Kd.R_drew HO_144000.out)
            have n1_ := Aside0.mk (blk_drew BK141.out)
            have n2_ := Aside0.mk (blk_drew BK142.out)
            have n3_ := Aside0.mk (blk_drew BK143.out)
            have n4_ := Aside0.mk (below_drew1 HB.out)
            clear HO_144000
            clear BK141
            clear BK142
            clear BK143
            clear HB
            have HO_144000 := n0_
            have BK141 := n1_
            have BK142 := n2_
            have BK143 := n3_
            have HB := n4_
            clear n0_ n1_ n2_ n3_ n4_
            have p144 : 0 ≤ (x4_1 : Int) := of_decide_eq_true u3_5
            have q144 : x4_1 < (l0_0.length : Int) := of_decide_eq_true u3_5
            obtain ⟨ad144, e144, hx144_0, hx144_1, hx144_2, hx144_3, hx144_4⟩ := at_T53 HR0_0.out x4_1 p144 q144
            have hw144_4 := hx144_4
            have hw144_3 := hx144_3
            have hw144_2 := hx144_2
            have hw144_1 := hx144_1
            have hw144_0 := hx144_0
            cases e144
            replace hx144_0 := (HB.out.cell (World.block_lt_of_cell? w _ hx144_0)).trans hx144_0
            replace hx144_1 := (HB.out.cell (World.block_lt_of_cell? w _ hx144_1)).trans hx144_1
            replace hx144_2 := (HB.out.cell (World.block_lt_of_cell? w _ hx144_2)).trans hx144_2
            replace hx144_3 := (HB.out.cell (World.block_lt_of_cell? w _ hx144_3)).trans hx144_3
            replace hx144_4 := (HB.out.cell (World.block_lt_of_cell? w _ hx144_4)).trans hx144_4
            replace p144 := eq_true p144
            replace q144 := eq_true q144
            refine start_ (n := 11) (S := fun w' => w'.cell? ⟨gb143, 0, none⟩ = some (u144000) ∧ w'.cell? ⟨gb141, 0, none⟩ = some (.slice (some ad144) l0_0.length c0_0) ∧ w'.cell? (ad144.add ((x4_1).toNat * 5)) = some (.int .u64 ((rd_T53 l0_0 x4_1).f0)) ∧ w'.cell? ⟨(ad144.add ((x4_1).toNat * 5)).block, (ad144.add ((x4_1).toNat * 5)).off + 1, none⟩ = some (.int .u64 ((rd_T53 l0_0 x4_1).f1)) ∧ w'.cell? ⟨(ad144.add ((x4_1).toNat * 5)).block, (ad144.add ((x4_1).toNat * 5)).off + 2, none⟩ = some (.int .u64 ((rd_T53 l0_0 x4_1).f2)) ∧ w'.cell? ⟨(ad144.add ((x4_1).toNat * 5)).block, (ad144.add ((x4_1).toNat * 5)).off + 3, none⟩ = some (.int .u64 ((rd_T53 l0_0 x4_1).f3)) ∧ w'.cell? ⟨(ad144.add ((x4_1).toNat * 5)).block, (ad144.add ((x4_1).toNat * 5)).off + 4, none⟩ = some (.int .i64 ((rd_T53 l0_0 x4_1).f4))) (ds := [10]) #[false, false, false, false, false, false, false, false, false, false, false] (by kernel_rfl) rfl rfl ⟨(blk_cell BK143.out 0).trans rfl, (blk_cell BK141.out 0).trans rfl, ((HB.out.cell (World.block_lt_of_cell? w _ hw144_0)).trans hw144_0), ((HB.out.cell (World.block_lt_of_cell? w _ hw144_1)).trans hw144_1), ((HB.out.cell (World.block_lt_of_cell? w _ hw144_2)).trans hw144_2), ((HB.out.cell (World.block_lt_of_cell? w _ hw144_3)).trans hw144_3), ((HB.out.cell (World.block_lt_of_cell? w _ hw144_4)).trans hw144_4)⟩ (fun hHeld => ?_); refine with_tabW spec_l10Copy.tab5 spec_l10Copy.bits5 (fun HT_ HW_ => ?_)
            generalize wr.drew = w14 at HO_144000 BK141 BK142 BK143 HB hx144_0 hx144_1 hx144_2 hx144_3 hx144_4 hHeld ⊢
            refine pure_ (i := 0) (N := some 13) (v := ?_) (a' := ?_) #[true, false, false, false, false, false, false, false, false, false, false] rfl rfl (any_of HT_.out (by kernel_rfl)) (fun _ _ _ h => h) (Or.inl ⟨by rfl, ?_⟩) ?_ ?_
            rotate_left
            · intro w'
              go_simp
              with_reducible rfl
            rotate_left
            · simp only [Act.put, List.setIfInBounds_toArray, List.set_cons_zero, List.set_cons_succ, i64_w, i32_w]
              rfl
            refine pure_ (i := 2) (N := some 15) (v := ?_) (a' := ?_) #[true, false, true, false, false, false, false, false, false, false, false] rfl rfl (any_of HT_.out (by kernel_rfl)) (fun _ _ _ h => h) (Or.inl ⟨by rfl, ?_⟩) ?_ ?_
            rotate_left
            · intro w'
              go_simp
              with_reducible rfl
            rotate_left
            · simp only [Act.put, List.setIfInBounds_toArray, List.set_cons_zero, List.set_cons_succ, i64_w, i32_w]
              rfl
            refine pure_ (i := 4) (N := some 17) (v := ?_) (a' := ?_) #[true, false, true, false, true, false, false, false, false, false, false] rfl rfl (any_of HT_.out (by kernel_rfl)) (fun _ _ _ h => h) (Or.inl ⟨by rfl, ?_⟩) ?_ ?_
            rotate_left
            · intro w'
              go_simp
              with_reducible rfl
            rotate_left
            · simp only [Act.put, List.setIfInBounds_toArray, List.set_cons_zero, List.set_cons_succ, i64_w, i32_w]
              rfl
            refine take_ (i := 1) (N := some 14) (v := ?_) (a' := ?_) #[true, true, true, false, true, false, false, false, false, false, false] rfl rfl (take_ofW HT_.out HW_.out (by kernel_rfl)) (fun _ _ _ h => h) (Or.inl ⟨by rfl, ?_⟩) hHeld ?_ ?_
            rotate_left
            · rintro w' ⟨s0, s1, s2, s3, s4, s5, s6⟩
              go_simp
              with_reducible rfl
            rotate_left
            · simp only [Act.put, List.setIfInBounds_toArray, List.set_cons_zero, List.set_cons_succ, i64_w, i32_w]
              rfl
            refine take_ (i := 3) (N := some 16) (v := ?_) (a' := ?_) #[true, true, true, true, true, false, false, false, false, false, false] rfl rfl (take_ofW HT_.out HW_.out (by kernel_rfl)) (fun _ _ _ h => h) (Or.inl ⟨by rfl, ?_⟩) hHeld ?_ ?_
            rotate_left
            · rintro w' ⟨s0, s1, s2, s3, s4, s5, s6⟩
              go_simp
              with_reducible rfl
            rotate_left
            · simp only [Act.put, List.setIfInBounds_toArray, List.set_cons_zero, List.set_cons_succ, i64_w, i32_w]
              rfl
            refine pure_ (i := 5) (N := some 18) (v := ?_) (a' := ?_) #[true, true, true, true, true, true, false, false, false, false, false] rfl rfl (any_of HT_.out (by kernel_rfl)) (fun _ _ _ h => h) (Or.inl ⟨by rfl, ?_⟩) ?_ ?_
            rotate_left
            · intro w'
              go_simp
              with_reducible rfl
            rotate_left
            · simp only [Act.put, List.setIfInBounds_toArray, List.set_cons_zero, List.set_cons_succ, i64_w, i32_w]
              rfl
            refine take_ (i := 6) (N := some 19) (v := ?_) (a' := ?_) #[true, true, true, true, true, true, true, false, false, false, false] rfl rfl (take_ofW HT_.out HW_.out (by kernel_rfl)) (fun _ _ _ h => h) (Or.inl ⟨by rfl, ?_⟩) hHeld ?_ ?_
            rotate_left
            · rintro w' ⟨s0, s1, s2, s3, s4, s5, s6⟩
              go_simp
              with_reducible rfl
            rotate_left
            · simp only [Act.put, List.setIfInBounds_toArray, List.set_cons_zero, List.set_cons_succ, i64_w, i32_w]
              rfl
            refine one_ (i := 7) (N := some 20) #[true, true, true, true, true, true, true, true, false, false, false] rfl rfl (one_of HT_.out (by kernel_rfl)) (by decide) (fun K hK => ?_)
            refine value_ (w1 := ?_) (v := ?_) (by rfl) rfl ?_ ?_
            rotate_left 2
            · go_simp
              constructor
              · rfl
              · rfl
            refine hK.out _ _ ⟨(blk_cell (blk_alloc BK143.out _) 0).trans rfl, (blk_cell (blk_alloc BK141.out _) 0).trans rfl, (World.cell?_alloc_lt _ _ _ (World.block_lt_of_cell? _ _ (((HB.out.cell (World.block_lt_of_cell? w _ hw144_0)).trans hw144_0)))).trans (((HB.out.cell (World.block_lt_of_cell? w _ hw144_0)).trans hw144_0)), (World.cell?_alloc_lt _ _ _ (World.block_lt_of_cell? _ _ (((HB.out.cell (World.block_lt_of_cell? w _ hw144_1)).trans hw144_1)))).trans (((HB.out.cell (World.block_lt_of_cell? w _ hw144_1)).trans hw144_1)), (World.cell?_alloc_lt _ _ _ (World.block_lt_of_cell? _ _ (((HB.out.cell (World.block_lt_of_cell? w _ hw144_2)).trans hw144_2)))).trans (((HB.out.cell (World.block_lt_of_cell? w _ hw144_2)).trans hw144_2)), (World.cell?_alloc_lt _ _ _ (World.block_lt_of_cell? _ _ (((HB.out.cell (World.block_lt_of_cell? w _ hw144_3)).trans hw144_3)))).trans (((HB.out.cell (World.block_lt_of_cell? w _ hw144_3)).trans hw144_3)), (World.cell?_alloc_lt _ _ _ (World.block_lt_of_cell? _ _ (((HB.out.cell (World.block_lt_of_cell? w _ hw144_4)).trans hw144_4)))).trans (((HB.out.cell (World.block_lt_of_cell? w _ hw144_4)).trans hw144_4))⟩ (fun hHeld => ?_)
            clear hK K
            refine norm_ (a' := ?_) ?_ ?_
            rotate_left
            · show Act.put _ (some 20) _ = _
              simp only [Act.put, List.setIfInBounds_toArray, List.set_cons_zero, List.set_cons_succ, i64_w, i32_w]
              rfl
            refine one_ (i := 8) (N := some 21) #[true, true, true, true, true, true, true, true, true, false, false] rfl rfl (one_of HT_.out (by kernel_rfl)) (by decide) (fun K hK => ?_)
            refine Kd.R_append_step k53 (w0 := w) w.heap.size (by rfl) (.tmp 14) (.tmp 20) 27 53 (.agg #[(.int .u64 0), (.int .u64 0), (.int .u64 0), (.int .u64 0), (.int .i64 0)]) 40 rfl Try.underlying27 info53 rfl (by decide) (by omega) u144000 x144000_1 (⟨(rd_T53 l0_0 x4_1).f0, (rd_T53 l0_0 x4_1).f1, (rd_T53 l0_0 x4_1).f2, (rd_T53 l0_0 x4_1).f3, (rd_T53 l0_0 x4_1).f4⟩ : S53) [.int .u64 ((rd_T53 l0_0 x4_1).f0), .int .u64 ((rd_T53 l0_0 x4_1).f1), .int .u64 ((rd_T53 l0_0 x4_1).f2), .int .u64 ((rd_T53 l0_0 x4_1).f3), .int .i64 ((rd_T53 l0_0 x4_1).f4)] (fun _ => True) (fun _ => False) rfl rfl ?aP (fun _ hk => hk.elim) ?aF ?aO ?aB ?aS ?aL ?_
            (case aP => exact k53_mkM _ _ _ (⟨(rd_T53 l0_0 x4_1).f0, (rd_T53 l0_0 x4_1).f1, (rd_T53 l0_0 x4_1).f2, (rd_T53 l0_0 x4_1).f3, (rd_T53 l0_0 x4_1).f4⟩ : S53))
            (case aB => exact u3_19)
            (case aF => exact (fun _ _ => trivial))
            (case aO => exact (by (with_reducible repeat (first | apply Kd.R_alloc | apply Kd.R_drewN | apply Kd.R_drew)); exact HO_144000.out))
            (case aS => exact (below_size u3_19))
            (case aL => have := LMc10.out; omega)
            intro v146 w15 ho hb hg hat
            rw [← Ny145.out] at ho
            have n0_ := Aside0.mk (blk_grown (g := gb141) (o := .cells #[.slice (some ad144) l0_0.length c0_0] 29 (0, 0)) u3_7 hg (Kd.R_ne HO_144000.out BK141.out (by decide)))
            have n1_ := Aside0.mk (blk_grown (g := gb142) (o := .cells #[.slice none 0 0] 29 (0, 0)) u3_14 hg (Kd.R_ne HO_144000.out BK142.out (by decide)))
            have n2_ := Aside0.mk (blk_grown (g := gb143) (o := .cells #[u144000] 29 (0, 0)) (by (with_reducible repeat (first | refine blk_drewN ?_ _ | refine blk_drew ?_ | refine blk_alloc ?_ _)); exact BK143.out) hg (Kd.R_ne HO_144000.out BK143.out (by decide)))
            have n3_ := Aside0.mk (hb)
            have n4_ := Aside0.mk (ho)
            clear BK141
            clear BK142
            clear BK143
            clear HB
            clear HO_144000
            have BK141 := n0_
            have BK142 := n1_
            have BK143 := n2_
            have HB := n3_
            have HO147 := n4_
            clear n0_ n1_ n2_ n3_ n4_
            clear ho hb hg hat
            obtain ⟨Ao16, co16, eo16⟩ := Kd.R_slice HO147.out
            (first | subst eo16 | (injection eo16 with f1_ f2_ f3_; have f4_ := f1_.symm; have f5_ := f3_.symm; clear f1_ f2_ f3_; subst f4_; subst f5_))
            refine hK.out _ _ ⟨(blk_cell BK143.out 0).trans rfl, (blk_cell BK141.out 0).trans rfl, ((HB.out.cell (World.block_lt_of_cell? w _ hw144_0)).trans hw144_0), ((HB.out.cell (World.block_lt_of_cell? w _ hw144_1)).trans hw144_1), ((HB.out.cell (World.block_lt_of_cell? w _ hw144_2)).trans hw144_2), ((HB.out.cell (World.block_lt_of_cell? w _ hw144_3)).trans hw144_3), ((HB.out.cell (World.block_lt_of_cell? w _ hw144_4)).trans hw144_4)⟩ (fun hHeld => ?_)
            clear hK K
            refine norm_ (a' := ?_) ?_ ?_
            rotate_left
            · show Act.put _ (some 21) _ = _
              simp only [Act.put, List.setIfInBounds_toArray, List.set_cons_zero, List.set_cons_succ, i64_w, i32_w]
              rfl
            refine pure_ (i := 9) (N := some 22) (v := ?_) (a' := ?_) #[true, true, true, true, true, true, true, true, true, true, false] rfl rfl (any_of HT_.out (by kernel_rfl)) (fun _ _ _ h => h) (Or.inl ⟨by rfl, ?_⟩) ?_ ?_
            rotate_left
            · intro w'
              go_simp
              with_reducible rfl
            rotate_left
            · simp only [Act.put, List.setIfInBounds_toArray, List.set_cons_zero, List.set_cons_succ, i64_w, i32_w]
              rfl
            refine last_ (i := 10) (N := none) #[true, true, true, true, true, true, true, true, true, true, true] rfl rfl (one_of HT_.out (by kernel_rfl)) (by decide) (fun K hK => ?_)
            have hs17 : w15.cell? ⟨gb143, 0, none⟩ = some (u144000) := (blk_cell BK143.out 0).trans rfl
            have hfs17 := blk_frozen BK143.out 0
            have hns17_0 := NB141_143.out
            have hns17_1 := NB142_143.out
            have hms17_0 := NB143_141.out
            have hms17_1 := NB143_142.out
            refine skip_ (w1 := ?_) (by rfl) rfl ?_ ?_
            rotate_left
            · go_simp
              rfl
            refine hK.out _ _ ?_
            clear hK K
            refine done_ (done_of HT_.out (by kernel_rfl)) ?_
            try go_wp2
            go_roundg k1
            case measure => have := HK1.out; omega
            case rel => exact ⟨(wrap64 (x4_1 + 1)), (y145), (.slice Ao16 y145.length co16), u3_15, H', ⟨by have := HK1.out; omega⟩, ⟨by (with_reducible repeat (first | apply Kd.R_alloc | apply Kd.R_drewN | apply Kd.R_drew)); exact Kd.R_mono (Kd.R_far (p := ⟨gb143, 0, none⟩) (Kd.R_types HO147.out BK143.out (by decide)) (fun _ hk => hk.2) (.slice Ao16 y145.length co16)) (fun _ hk => trivial)⟩, ⟨by (with_reducible repeat (first | refine blk_drewN ?_ _ | refine blk_drew ?_ | refine blk_alloc ?_ _)); refine blk_far ?_ NB141_143.out _; (with_reducible repeat (first | refine blk_drewN ?_ _ | refine blk_drew ?_ | refine blk_alloc ?_ _)); exact BK141.out⟩, ⟨by (with_reducible repeat (first | refine blk_drewN ?_ _ | refine blk_drew ?_ | refine blk_alloc ?_ _)); refine blk_far ?_ NB142_143.out _; (with_reducible repeat (first | refine blk_drewN ?_ _ | refine blk_drew ?_ | refine blk_alloc ?_ _)); exact BK142.out⟩, ⟨by (with_reducible repeat (first | refine blk_drewN ?_ _ | refine blk_drew ?_ | refine blk_alloc ?_ _)); refine blk_put (cs := #[u144000]) ?_ 0 _ rfl; (with_reducible repeat (first | refine blk_drewN ?_ _ | refine blk_drew ?_ | refine blk_alloc ?_ _)); exact BK143.out⟩, ⟨by repeat (first | (with_reducible first | exact HB.out | apply below_alloc | apply pw_below_drewN | apply below_drew1 | refine below_set ?_ GE141.out | refine below_set ?_ GE142.out | refine below_set ?_ GE143.out) | exact HB.out)⟩⟩
          · rw [if_neg c10] at H
            exact absurd H (by simp)
        · rw [if_neg c9] at H
          exact absurd H (by simp)
      · rw [if_neg c8] at H
        have c8b0 : decide (x4_1 < (l0_0.length : Int)) = false := decide_eq_false c8
        clear c8
        obtain rfl := Option.some.inj H
        have hnb18 := NB141_142.out
        have hnc18 := NB142_141.out
        have hnb19 := NB141_143.out
        have hnc19 := NB143_141.out
        have hcz20_0 : wr.cell? ⟨gb141, 0, none⟩ = some (.slice A0_0 l0_0.length c0_0) := (blk_cell BK141.out 0).trans rfl
        have hfz20_0 := blk_frozen BK141.out 0
        have hnb21 := NB143_142.out
        have hnc21 := NB142_143.out
        have hcz22_0 : wr.cell? ⟨gb143, 0, none⟩ = some (u144000) := (blk_cell BK143.out 0).trans rfl
        have hfz22_0 := blk_frozen BK143.out 0
        obtain ⟨Ao23, co23, eo23⟩ := Kd.R_slice HO_144000.out
        subst eo23
        have hcz24_0 : wr.cell? ⟨gb142, 0, none⟩ = some (.slice none 0 0) := (blk_cell BK142.out 0).trans rfl
        have hfz24_0 := blk_frozen BK142.out 0
        go_wp2
        refine bodyPost_ret (results_cell_row rfl _ _ gb142 29 #[.slice Ao23 x144000_1.length co23] (0, 0) _ rfl (by (with_reducible repeat (first | refine blk_drewN ?_ _ | refine blk_drew ?_ | refine blk_alloc ?_ _)); refine blk_put (cs := #[.slice none 0 0]) ?_ 0 _ rfl; (with_reducible repeat (first | refine blk_drewN ?_ _ | refine blk_drew ?_ | refine blk_alloc ?_ _)); exact BK142.out) Try.underlying29 rfl (by kernel_rfl)) rfl ?_
        exact ⟨_, by first | rfl | (simp [errW_none, errW_some] <;> rfl) | (simp [*, errW_none, errW_some] <;> rfl), by (with_reducible repeat (first | apply Kd.R_alloc | apply Kd.R_drewN | apply Kd.R_drew)); exact Kd.R_mono (Kd.R_far (p := ⟨gb142, 0, none⟩) (Kd.R_types HO_144000.out BK142.out (by decide)) (fun _ hk => hk.2) (.slice Ao23 x144000_1.length co23)) (fun _ hk => trivial), by repeat (first | (with_reducible first | exact HB.out | apply below_alloc | apply pw_below_drewN | apply below_drew1 | refine below_set ?_ GE141.out | refine below_set ?_ GE142.out | refine below_set ?_ GE143.out) | exact HB.out)⟩

/-! ### spec_l10With: function 55 -/
def spec_l10With.l0 : Nat → Int → Int → Int → Int → Int → Int → List (S53) → Option ((List (S53)))
  | 0, _, _, _, _, _, _, _ => none
  | k + 1, x6, x150000, x150001, x150002, x150003, x150004, x155000 => if x6 < (x155000.length : Int) then (if 0 ≤ x6 then (if ((rd_T53 x155000 x6).f0) = x150000 then (spec_l10With.l0 k (wrap64 (x6 + 1)) x150000 x150001 x150002 x150003 x150004 (x155000.set (x6 : Int).toNat (⟨x150000, x150001, x150002, x150003, x150004⟩ : S53))) else (spec_l10With.l0 k (wrap64 (x6 + 1)) x150000 x150001 x150002 x150003 x150004 x155000)) else (none)) else (some x155000)
def spec_l10With.f (k : Nat) (l0_0 : List (S53)) (a1_0 : Int) (a1_1 : Int) (a1_2 : Int) (a1_3 : Int) (a1_4 : Int) : Option ((List (S53))) := (spec_l10Copy.f k l0_0).bind fun t151 => (spec_l10With.l0 k 0 a1_0 a1_1 a1_2 a1_3 a1_4 t151)
theorem spec_l10With.mono_l : ∀ k, (∀ y0 y1 y2 y3 y4 y5 y6, LeO (spec_l10With.l0 k y0 y1 y2 y3 y4 y5 y6) (spec_l10With.l0 (k + 1) y0 y1 y2 y3 y4 y5 y6))
  | 0 => fun _ _ _ _ _ _ _ r h => by simp [spec_l10With.l0] at h
  | k + 1 => by
    have ih0 := spec_l10With.mono_l k
    · intro y0 y1 y2 y3 y4 y5 y6
      unfold spec_l10With.l0
      repeat' first
      | (with_reducible exact ih0 _ _ _ _ _ _ _)
      | (with_reducible exact spec_l10Copy.mono _ _)
      | (with_reducible exact LeO.refl _)
      | (with_reducible exact LeO.none _)
      | (with_reducible refine LeO.ite ?_ ?_)
      | (with_reducible refine LeO.bind ?_ (fun _ => ?_))
      | exact ih0 _ _ _ _ _ _ _
      | exact spec_l10Copy.mono _ _
      | exact LeO.none _
      | refine LeO.ite ?_ ?_
      | refine LeO.bind ?_ (fun _ => ?_)
theorem spec_l10With.mono : ∀ a0 a1 a2 a3 a4 a5 k, LeO (spec_l10With.f k a0 a1 a2 a3 a4 a5) (spec_l10With.f (k + 1) a0 a1 a2 a3 a4 a5) := by
  intro a0 a1 a2 a3 a4 a5 k
  have ih0 := spec_l10With.mono_l k
  unfold spec_l10With.f
  repeat' first
      | (with_reducible exact ih0 _ _ _ _ _ _ _)
      | (with_reducible exact spec_l10Copy.mono _ _)
      | (with_reducible exact LeO.refl _)
      | (with_reducible exact LeO.none _)
      | (with_reducible refine LeO.ite ?_ ?_)
      | (with_reducible refine LeO.bind ?_ (fun _ => ?_))
      | exact ih0 _ _ _ _ _ _ _
      | exact spec_l10Copy.mono _ _
      | exact LeO.none _
      | refine LeO.ite ?_ ?_
      | refine LeO.bind ?_ (fun _ => ?_)
set_option maxHeartbeats 8000000 in
set_option maxRecDepth 100000 in
theorem spec_l10With.calls (k : Nat) (A0_0 : Option Addr) (c0_0 : Nat) (l0_0 : List (S53)) (a1_0 : Int) (a1_1 : Int) (a1_2 : Int) (a1_3 : Int) (a1_4 : Int) (r : List (S53)) (w : World) (hr0_0 : Kd.C k53 w A0_0 l0_0.length l0_0) (hc0_0 : l0_0.length ≤ c0_0) (h : spec_l10With.f k l0_0 a1_0 a1_1 a1_2 a1_3 a1_4 = some r) :
    Calls Try.prog 55 #[.agg #[.slice A0_0 l0_0.length c0_0], .agg #[.int .u64 a1_0, .int .u64 a1_1, .int .u64 a1_2, .int .u64 a1_3, .int .i64 a1_4]] w fun e w' => ∃ v0_ : Value, e = .returned (.agg #[v0_]) ∧ Kd.R k53 53 w' w.heap.size (fun _ => True) v0_ r ∧ Below w.heap.size w w' := by
  have hu29 := Try.underlying29
  have hu53 := Try.underlying53
  have HR0_0 := Aside0.mk hr0_0
  have HC0_0 := Aside0.mk hc0_0
  clear hr0_0 hc0_0
  have HB := Aside0.mk (Below.refl w.heap.size w)
  have H : ((spec_l10Copy.f k l0_0).bind fun t151 => (spec_l10With.l0 k 0 a1_0 a1_1 a1_2 a1_3 a1_4 t151)) = some r := h
  clear h
  replace H := Option.bind_eq_some_iff.mp H
  obtain ⟨t151, A30, H⟩ := H
  replace H : (spec_l10With.l0 k 0 a1_0 a1_1 a1_2 a1_3 a1_4 t151) = some r := H
  have A3 := Aside0.mk A30
  clear A30
  have H' := Aside0.mk H
  clear H
  go_enter Try.func55, Try.ntmps55
  go_wp2_with (first | (first | ((with_reducible refine gate_dst (N := 2) rfl ?_); refine box_event ?hg (N := 2) ?hd (cs := #[.slice A0_0 l0_0.length c0_0]) (t := 29) ?hr ?_; (case hd => rfl); (case hg => rfl); (case hr => first | (go_simp; done) | (go_simp; rfl)); intro gb148 hg w4 hbox hb; have n0_ := Aside0.mk (below_step u3_0 hb); have n1_ := Aside0.mk (hbox); have n2_ := Aside0.mk ((by rw [hg]; exact (below_size u3_0) : w.heap.size ≤ gb148)); have n3_ := Aside0.mk ((by rw [hg]; exact (below_size u3_0) : w.heap.size ≤ gb148)); clear HB; have HB := n0_; have BK148 := n1_; have GW148 := n2_; have GE148 := n3_; clear n0_ n1_ n2_ n3_; clear hb hbox hg) | ((with_reducible refine gate_dst (N := 3) rfl ?_); refine box_event ?hg (N := 3) ?hd (cs := #[.int .u64 a1_0, .int .u64 a1_1, .int .u64 a1_2, .int .u64 a1_3, .int .i64 a1_4]) (t := 53) ?hr ?_; (case hd => rfl); (case hg => rfl); (case hr => first | (go_simp; done) | (go_simp; rfl)); intro gb149 hg w5 hbox hb; have n0_ := Aside0.mk (blk_below (g := gb148) (o := .cells #[.slice A0_0 l0_0.length c0_0] 29 (0, 0)) u3_1 hb); have n1_ := Aside0.mk (below_step u3_18 hb); have n2_ := Aside0.mk (hbox); have n3_ := Aside0.mk ((by rw [hg]; exact (below_size u3_18) : w.heap.size ≤ gb149)); have n4_ := Aside0.mk ((by rw [hg]; exact (below_size u3_18) : w.heap.size ≤ gb149)); have n5_ := Aside0.mk ((by rw [hg]; exact Nat.ne_of_lt (blk_lt (g := gb148) (o := .cells #[.slice A0_0 l0_0.length c0_0] 29 (0, 0)) u3_1) : gb148 ≠ gb149)); have n6_ := Aside0.mk ((by rw [hg]; exact Nat.ne_of_gt (blk_lt (g := gb148) (o := .cells #[.slice A0_0 l0_0.length c0_0] 29 (0, 0)) u3_1) : gb149 ≠ gb148)); clear BK148; clear HB; have BK148 := n0_; have HB := n1_; have BK149 := n2_; have GW149 := n3_; have GE149 := n4_; have NB148_149 := n5_; have NB149_148 := n6_; clear n0_ n1_ n2_ n3_ n4_ n5_ n6_; clear hb hbox hg) | ((with_reducible refine gate_dst (N := 4) rfl ?_); refine box_event ?hg (N := 4) ?hd (cs := #[.slice none 0 0]) (t := 29) ?hr ?_; (case hd => rfl); (case hg => rfl); (case hr => first | (go_simp; done) | (go_simp; rfl)); intro gb150 hg w6 hbox hb; have n0_ := Aside0.mk (blk_below (g := gb148) (o := .cells #[.slice A0_0 l0_0.length c0_0] 29 (0, 0)) u3_1 hb); have n1_ := Aside0.mk (blk_below (g := gb149) (o := .cells #[.int .u64 a1_0, .int .u64 a1_1, .int .u64 a1_2, .int .u64 a1_3, .int .i64 a1_4] 53 (0, 0)) u3_3 hb); have n2_ := Aside0.mk (below_step u3_12 hb); have n3_ := Aside0.mk (hbox); have n4_ := Aside0.mk ((by rw [hg]; exact (below_size u3_12) : w.heap.size ≤ gb150)); have n5_ := Aside0.mk ((by rw [hg]; exact (below_size u3_12) : w.heap.size ≤ gb150)); have n6_ := Aside0.mk ((by rw [hg]; exact Nat.ne_of_lt (blk_lt (g := gb148) (o := .cells #[.slice A0_0 l0_0.length c0_0] 29 (0, 0)) u3_1) : gb148 ≠ gb150)); have n7_ := Aside0.mk ((by rw [hg]; exact Nat.ne_of_gt (blk_lt (g := gb148) (o := .cells #[.slice A0_0 l0_0.length c0_0] 29 (0, 0)) u3_1) : gb150 ≠ gb148)); have n8_ := Aside0.mk ((by rw [hg]; exact Nat.ne_of_lt (blk_lt (g := gb149) (o := .cells #[.int .u64 a1_0, .int .u64 a1_1, .int .u64 a1_2, .int .u64 a1_3, .int .i64 a1_4] 53 (0, 0)) u3_3) : gb149 ≠ gb150)); have n9_ := Aside0.mk ((by rw [hg]; exact Nat.ne_of_gt (blk_lt (g := gb149) (o := .cells #[.int .u64 a1_0, .int .u64 a1_1, .int .u64 a1_2, .int .u64 a1_3, .int .i64 a1_4] 53 (0, 0)) u3_3) : gb150 ≠ gb149)); clear BK148; clear BK149; clear HB; have BK148 := n0_; have BK149 := n1_; have HB := n2_; have BK150 := n3_; have GW150 := n4_; have GE150 := n5_; have NB148_150 := n6_; have NB150_148 := n7_; have NB149_150 := n8_; have NB150_149 := n9_; clear n0_ n1_ n2_ n3_ n4_ n5_ n6_ n7_ n8_ n9_; clear hb hbox hg; have hnb7 := NB148_149.out; have hnc7 := NB149_148.out; have hnb8 := NB148_150.out; have hnc8 := NB150_148.out; have hcz9_0 : w6.cell? ⟨gb148, 0, none⟩ = some (.slice A0_0 l0_0.length c0_0) := (blk_cell BK148.out 0).trans rfl; have hfz9_0 := blk_frozen BK148.out 0) | (go_at_call 54; (with_reducible refine (spec_l10Copy.calls k _ _ l0_0 t151 _ ?side1 ?side2 A3.out).mono ?_); (case side1 => repeat (first | exact (Kd.C_below HR0_0.out HB.out) | (with_reducible refine Kd.C_alloc ?_ _) | (with_reducible refine Kd.C_drewN ?_ _) | (with_reducible refine Kd.C_drew ?_))); (case side2 => exact HC0_0.out); rintro e w10 ⟨v152, rfl, ho0, hb⟩; have n0_ := Aside0.mk (Kd.R_lower (Kd.R_newB ho0 (g := gb149) (o := .cells #[.int .u64 a1_0, .int .u64 a1_1, .int .u64 a1_2, .int .u64 a1_3, .int .i64 a1_4] 53 (0, 0)) u3_3) (below_size u3_2)); have n1_ := Aside0.mk (blk_below (g := gb148) (o := .cells #[.slice A0_0 l0_0.length c0_0] 29 (0, 0)) u3_1 hb); have n2_ := Aside0.mk (blk_below (g := gb149) (o := .cells #[.int .u64 a1_0, .int .u64 a1_1, .int .u64 a1_2, .int .u64 a1_3, .int .i64 a1_4] 53 (0, 0)) u3_3 hb); have n3_ := Aside0.mk (blk_below (g := gb150) (o := .cells #[.slice none 0 0] 29 (0, 0)) u3_8 hb); have n4_ := Aside0.mk (below_step u3_2 hb); clear BK148; clear BK149; clear BK150; clear HB; have HO153 := n0_; have BK148 := n1_; have BK149 := n2_; have BK150 := n3_; have HB := n4_; clear n0_ n1_ n2_ n3_ n4_; (try clear hb); (try clear hb2); (try clear hk); (try clear hi); (try clear ho0)) | ((with_reducible refine gate_dst (N := 5) rfl ?_); refine box_event ?hg (N := 5) ?hd (cs := #[.slice none 0 0]) (t := 29) ?hr ?_; (case hd => rfl); (case hg => rfl); (case hr => first | (go_simp; done) | (go_simp; rfl)); intro gb154 hg w11 hbox hb; have n0_ := Aside0.mk (Kd.R_below (by (with_reducible repeat (first | apply Kd.R_alloc | apply Kd.R_drewN | apply Kd.R_drew)); exact HO153.out) hb); have n1_ := Aside0.mk (blk_below (g := gb148) (o := .cells #[.slice A0_0 l0_0.length c0_0] 29 (0, 0)) u3_1 hb); have n2_ := Aside0.mk (blk_below (g := gb149) (o := .cells #[.int .u64 a1_0, .int .u64 a1_1, .int .u64 a1_2, .int .u64 a1_3, .int .i64 a1_4] 53 (0, 0)) u3_3 hb); have n3_ := Aside0.mk (blk_below (g := gb150) (o := .cells #[.slice none 0 0] 29 (0, 0)) u3_8 hb); have n4_ := Aside0.mk (below_step u3_2 hb); have n5_ := Aside0.mk (hbox); have n6_ := Aside0.mk ((by rw [hg]; exact (below_size u3_2) : w.heap.size ≤ gb154)); have n7_ := Aside0.mk ((by rw [hg]; exact (below_size u3_2) : w.heap.size ≤ gb154)); have n8_ := Aside0.mk ((by rw [hg]; exact Nat.ne_of_lt (blk_lt (g := gb148) (o := .cells #[.slice A0_0 l0_0.length c0_0] 29 (0, 0)) u3_1) : gb148 ≠ gb154)); have n9_ := Aside0.mk ((by rw [hg]; exact Nat.ne_of_gt (blk_lt (g := gb148) (o := .cells #[.slice A0_0 l0_0.length c0_0] 29 (0, 0)) u3_1) : gb154 ≠ gb148)); have n10_ := Aside0.mk ((by rw [hg]; exact Nat.ne_of_lt (blk_lt (g := gb149) (o := .cells #[.int .u64 a1_0, .int .u64 a1_1, .int .u64 a1_2, .int .u64 a1_3, .int .i64 a1_4] 53 (0, 0)) u3_3) : gb149 ≠ gb154)); have n11_ := Aside0.mk ((by rw [hg]; exact Nat.ne_of_gt (blk_lt (g := gb149) (o := .cells #[.int .u64 a1_0, .int .u64 a1_1, .int .u64 a1_2, .int .u64 a1_3, .int .i64 a1_4] 53 (0, 0)) u3_3) : gb154 ≠ gb149)); have n12_ := Aside0.mk ((by rw [hg]; exact Nat.ne_of_lt (blk_lt (g := gb150) (o := .cells #[.slice none 0 0] 29 (0, 0)) u3_8) : gb150 ≠ gb154)); have n13_ := Aside0.mk ((by rw [hg]; exact Nat.ne_of_gt (blk_lt (g := gb150) (o := .cells #[.slice none 0 0] 29 (0, 0)) u3_8) : gb154 ≠ gb150)); clear HO153; clear BK148; clear BK149; clear BK150; clear HB; have HO153 := n0_; have BK148 := n1_; have BK149 := n2_; have BK150 := n3_; have HB := n4_; have BK154 := n5_; have GW154 := n6_; have GE154 := n7_; have NB148_154 := n8_; have NB154_148 := n9_; have NB149_154 := n10_; have NB154_149 := n11_; have NB150_154 := n12_; have NB154_150 := n13_; clear n0_ n1_ n2_ n3_ n4_ n5_ n6_ n7_ n8_ n9_ n10_ n11_ n12_ n13_; clear hb hbox hg; obtain ⟨Ao12, co12, eo12⟩ := Kd.R_slice HO153.out; subst eo12; have hnb13 := NB154_148.out; have hnc13 := NB148_154.out; have hnb14 := NB154_149.out; have hnc14 := NB149_154.out; have hnb15 := NB154_150.out; have hnc15 := NB150_154.out; have hcz16_0 : w11.cell? ⟨gb154, 0, none⟩ = some (.slice none 0 0) := (blk_cell BK154.out 0).trans rfl; have hfz16_0 := blk_frozen BK154.out 0)) | go_quiet (first | (go_at_call 54; (with_reducible refine (spec_l10Copy.calls k _ _ l0_0 t151 _ ?side1 ?side2 A3.out).mono ?_); (case side1 => repeat (first | exact (Kd.C_below HR0_0.out HB.out) | (with_reducible refine Kd.C_alloc ?_ _) | (with_reducible refine Kd.C_drewN ?_ _) | (with_reducible refine Kd.C_drew ?_))); (case side2 => exact HC0_0.out); rintro e w10 ⟨v152, rfl, ho0, hb⟩; have n0_ := Aside0.mk (Kd.R_lower (Kd.R_newB ho0 (g := gb149) (o := .cells #[.int .u64 a1_0, .int .u64 a1_1, .int .u64 a1_2, .int .u64 a1_3, .int .i64 a1_4] 53 (0, 0)) u3_3) (below_size u3_2)); have n1_ := Aside0.mk (blk_below (g := gb148) (o := .cells #[.slice A0_0 l0_0.length c0_0] 29 (0, 0)) u3_1 hb); have n2_ := Aside0.mk (blk_below (g := gb149) (o := .cells #[.int .u64 a1_0, .int .u64 a1_1, .int .u64 a1_2, .int .u64 a1_3, .int .i64 a1_4] 53 (0, 0)) u3_3 hb); have n3_ := Aside0.mk (blk_below (g := gb150) (o := .cells #[.slice none 0 0] 29 (0, 0)) u3_8 hb); have n4_ := Aside0.mk (below_step u3_2 hb); clear BK148; clear BK149; clear BK150; clear HB; have HO153 := n0_; have BK148 := n1_; have BK149 := n2_; have BK150 := n3_; have HB := n4_; clear n0_ n1_ n2_ n3_ n4_; (try clear hb); (try clear hb2); (try clear hk); (try clear hi); (try clear ho0))))
  go_loopg [6] k (fun kq v6 w' => ∃ (x6_1 : Int) (x150000_1 : Int) (x150001_1 : Int) (x150002_1 : Int) (x150003_1 : Int) (x150004_1 : Int) (x155000_1 : List (S53)) (u155000 : Value), v6 = .int .i64 x6_1 ∧ Aside0 (spec_l10With.l0 kq x6_1 x150000_1 x150001_1 x150002_1 x150003_1 x150004_1 x155000_1 = some r) ∧ Aside0 (kq ≤ k) ∧ Aside0 (Kd.R k53 53 w' w.heap.size (fun k_ => k_ ≠ gb149) u155000 x155000_1) ∧ Aside0 (w'.heap[gb148]? = some (.cells #[(.slice A0_0 l0_0.length c0_0)] 29 (0, 0))) ∧ Aside0 (w'.heap[gb149]? = some (.cells #[.int .u64 x150000_1, .int .u64 x150001_1, .int .u64 x150002_1, .int .u64 x150003_1, .int .i64 x150004_1] 53 (0, 0))) ∧ Aside0 (w'.heap[gb150]? = some (.cells #[(.slice none 0 0)] 29 (0, 0))) ∧ Aside0 (w'.heap[gb154]? = some (.cells #[u155000] 29 (0, 0))) ∧ Aside0 (Below w.heap.size w w'))
  case atStart => exact ⟨(0), (a1_0), (a1_1), (a1_2), (a1_3), (a1_4), (t151), (.slice Ao12 t151.length co12), u3_15, H', ⟨Nat.le_refl _⟩, ⟨by (with_reducible repeat (first | apply Kd.R_alloc | apply Kd.R_drewN | apply Kd.R_drew)); exact Kd.R_mono (Kd.R_far (p := ⟨gb154, 0, none⟩) (Kd.R_types HO153.out BK154.out (by decide)) (fun _ hk => hk.2) (.slice Ao12 t151.length co12)) (fun _ hk => hk.1.2)⟩, ⟨by (with_reducible repeat (first | refine blk_drewN ?_ _ | refine blk_drew ?_ | refine blk_alloc ?_ _)); refine blk_far ?_ NB148_154.out _; (with_reducible repeat (first | refine blk_drewN ?_ _ | refine blk_drew ?_ | refine blk_alloc ?_ _)); exact BK148.out⟩, ⟨by (with_reducible repeat (first | refine blk_drewN ?_ _ | refine blk_drew ?_ | refine blk_alloc ?_ _)); refine blk_far ?_ NB149_154.out _; (with_reducible repeat (first | refine blk_drewN ?_ _ | refine blk_drew ?_ | refine blk_alloc ?_ _)); exact BK149.out⟩, ⟨by (with_reducible repeat (first | refine blk_drewN ?_ _ | refine blk_drew ?_ | refine blk_alloc ?_ _)); refine blk_far ?_ NB150_154.out _; (with_reducible repeat (first | refine blk_drewN ?_ _ | refine blk_drew ?_ | refine blk_alloc ?_ _)); exact BK150.out⟩, ⟨by (with_reducible repeat (first | refine blk_drewN ?_ _ | refine blk_drew ?_ | refine blk_alloc ?_ _)); refine blk_put (cs := #[.slice none 0 0]) ?_ 0 _ rfl; (with_reducible repeat (first | refine blk_drewN ?_ _ | refine blk_drew ?_ | refine blk_alloc ?_ _)); exact BK154.out⟩, ⟨by repeat (first | (with_reducible first | exact HB.out | apply below_alloc | apply pw_below_drewN | apply below_drew1 | refine below_set ?_ GE148.out | refine below_set ?_ GE149.out | refine below_set ?_ GE150.out | refine below_set ?_ GE154.out) | exact HB.out)⟩⟩
  case round =>
    clear H'
    try clear c1
    try clear p2
    try clear c5
    try clear c7
    try clear c8
    try clear c13
    try clear c14
    try clear c15
    try clear hcz16_0
    try clear hcz9_0
    try clear hfz16_0
    try clear hfz9_0
    obtain ⟨x6_1, x150000_1, x150001_1, x150002_1, x150003_1, x150004_1, x155000_1, u155000, rfl, HA, HK1, HO_155000, BK148, BK149, BK150, BK154, HB⟩ := hrel
    cases gk with
    | zero => exact absurd HA.out (by simp [spec_l10With.l0])
    | succ k1 =>
      have H := HA.out
      clear HA
      simp only [spec_l10With.l0] at H
      by_cases c17 : x6_1 < (x155000_1.length : Int)
      · rw [if_pos c17] at H
        have c17b0 : decide (x6_1 < (x155000_1.length : Int)) = true := decide_eq_true c17
        clear c17
        by_cases c18 : 0 ≤ x6_1
        · rw [if_pos c18] at H
          have c18b0 : decide (0 ≤ x6_1) = true := decide_eq_true c18
          clear c18
          by_cases c19 : ((rd_T53 x155000_1 x6_1).f0) = x150000_1
          · rw [if_pos c19] at H
            have c19b0 : (((rd_T53 x155000_1 x6_1).f0) == x150000_1) = true := beq_iff_eq.mpr c19
            have c19b1 : (((rd_T53 x155000_1 x6_1).f0) != x150000_1) = false := bne_eq_false_iff_eq.mpr c19
            clear c19
            obtain ⟨y156, hy156⟩ : ∃ y_ : List (S53), y_ = (x155000_1.set (x6_1 : Int).toNat (⟨x150000_1, x150001_1, x150002_1, x150003_1, x150004_1⟩ : S53)) := ⟨_, rfl⟩
            replace H : (spec_l10With.l0 k1 (wrap64 (x6_1 + 1)) x150000_1 x150001_1 x150002_1 x150003_1 x150004_1 y156) = some r := by first | (rw [hy156]; with_reducible exact H) | (have H2_ := (Option.bind_some _ _).symm.trans H; rw [hy156]; with_reducible exact H2_) | (have H2_ := (Option.bind_some _ _).symm.trans H; with_reducible exact H2_) | with_reducible exact H | (rw [hy156]; exact H) | exact H
            have Ny156 := Aside0.mk hy156
            clear hy156
            have H' := Aside0.mk H
            clear H
            have hnb21 := NB154_148.out
            have hnc21 := NB148_154.out
            have hnb22 := NB154_149.out
            have hnc22 := NB149_154.out
            have hnb23 := NB154_150.out
            have hnc23 := NB150_154.out
            have hcz24_0 : wr.cell? ⟨gb154, 0, none⟩ = some (u155000) := (blk_cell BK154.out 0).trans rfl
            have hfz24_0 := blk_frozen BK154.out 0
            obtain ⟨Ao25, co25, eo25⟩ := Kd.R_slice HO_155000.out
            subst eo25
            have p155 : 0 ≤ (x6_1 : Int) := of_decide_eq_true u3_5
            have q155 : x6_1 < (x155000_1.length : Int) := of_decide_eq_true u3_5
            obtain ⟨ad155, e155, hx155_0, hx155_1, hx155_2, hx155_3, hx155_4⟩ := at_T53 (Kd.R_reads' HO_155000.out).2.2 x6_1 p155 q155
            cases e155
            replace p155 := eq_true p155
            replace q155 := eq_true q155
            have hnb26 := NB149_148.out
            have hnc26 := NB148_149.out
            have hnb27 := NB149_150.out
            have hnc27 := NB150_149.out
            have hcz28_0 : wr.cell? ⟨gb149, 0, none⟩ = some (.int .u64 x150000_1) := (blk_cell BK149.out 0).trans rfl
            have hcz28_1 : wr.cell? ⟨gb149, 1, none⟩ = some (.int .u64 x150001_1) := (blk_cell BK149.out 1).trans rfl
            have hcz28_2 : wr.cell? ⟨gb149, 2, none⟩ = some (.int .u64 x150002_1) := (blk_cell BK149.out 2).trans rfl
            have hcz28_3 : wr.cell? ⟨gb149, 3, none⟩ = some (.int .u64 x150003_1) := (blk_cell BK149.out 3).trans rfl
            have hcz28_4 : wr.cell? ⟨gb149, 4, none⟩ = some (.int .i64 x150004_1) := (blk_cell BK149.out 4).trans rfl
            have hfz28_0 := blk_frozen BK149.out 0
            have hfz28_1 := blk_frozen BK149.out 1
            have hfz28_2 := blk_frozen BK149.out 2
            have hfz28_3 := blk_frozen BK149.out 3
            have hfz28_4 := blk_frozen BK149.out 4
            have p20 : 0 ≤ (x6_1 : Int) := of_decide_eq_true u3_5
            have q20 : (x6_1 : Int) < ((x155000_1.length : Int) : Int) := of_decide_eq_true u3_5
            obtain ⟨go20, co20, eo20, gb20, gl20, cl20, HG20⟩ := Kd.R_form HO_155000.out (by omega)
            (first | cases eo20 | (injection eo20 with ea_ en_ ec_; (first | subst ea_ | (injection ea_ with ea_; subst ea_)); subst ec_; clear en_))
            have GB20 := Aside0.mk gb20
            have GG20 := Aside0.mk HG20
            clear gb20 gl20 HG20
            (first | simp only [add_plain] at hx155_0 | skip)
            (first | simp only [add_plain] at hx155_1 | skip)
            (first | simp only [add_plain] at hx155_2 | skip)
            (first | simp only [add_plain] at hx155_3 | skip)
            (first | simp only [add_plain] at hx155_4 | skip)
            obtain ⟨ce20, hcl20, hM20, hcc20, hfr20⟩ := Kd.R_elem HO_155000.out z53 (x6_1 : Int) p20 q20
            obtain rfl := k53_openM hM20
            have hx20_0 : wr.cell? ⟨go20, (x6_1 : Int).toNat * 5, none⟩ = some (.int .u64 ((rd_T53 x155000_1 x6_1).f0)) := hcc20 0 _ rfl
            have hx20_1 : wr.cell? ⟨go20, (x6_1 : Int).toNat * 5 + 1, none⟩ = some (.int .u64 ((rd_T53 x155000_1 x6_1).f1)) := hcc20 1 _ rfl
            have hx20_2 : wr.cell? ⟨go20, (x6_1 : Int).toNat * 5 + 2, none⟩ = some (.int .u64 ((rd_T53 x155000_1 x6_1).f2)) := hcc20 2 _ rfl
            have hx20_3 : wr.cell? ⟨go20, (x6_1 : Int).toNat * 5 + 3, none⟩ = some (.int .u64 ((rd_T53 x155000_1 x6_1).f3)) := hcc20 3 _ rfl
            have hx20_4 : wr.cell? ⟨go20, (x6_1 : Int).toNat * 5 + 4, none⟩ = some (.int .i64 ((rd_T53 x155000_1 x6_1).f4)) := hcc20 4 _ rfl
            have hf20_0 : wr.frozen? ⟨go20, (x6_1 : Int).toNat * 5, none⟩ = false := hfr20 0
            have hf20_1 : wr.frozen? ⟨go20, (x6_1 : Int).toNat * 5 + 1, none⟩ = false := hfr20 1
            have hf20_2 : wr.frozen? ⟨go20, (x6_1 : Int).toNat * 5 + 2, none⟩ = false := hfr20 2
            have hf20_3 : wr.frozen? ⟨go20, (x6_1 : Int).toNat * 5 + 3, none⟩ = false := hfr20 3
            have hf20_4 : wr.frozen? ⟨go20, (x6_1 : Int).toNat * 5 + 4, none⟩ = false := hfr20 4
            clear hcl20 hcc20 hfr20 hM20
            replace p20 := eq_true p20
            replace q20 := eq_true q20
            have HX29 := Aside0.mk (show Kd.R k53 53 wr w.heap.size (fun k_ => k_ ≠ gb149) (.slice (some ⟨go20, 0, none⟩) x155000_1.length co25) x155000_1 from u3_20)
            obtain ⟨ce29, hcl29, hM29, hcc29, hfr29⟩ := Kd.R_elem HX29.out z53 (x6_1 : Int) (of_decide_eq_true u3_5) (by have h_ : (x6_1 : Int) < ((x155000_1.length : Int) : Int) := of_decide_eq_true u3_5; first | exact h_ | (have e_ := (Kd.R_reads' HO_155000.out).1; omega) | simpa using h_)
            obtain rfl := k53_openM hM29
            have HP29 := Kd.R_seg HX29.out (x6_1 : Int) (of_decide_eq_true u3_5) (by have h_ : (x6_1 : Int) < ((x155000_1.length : Int) : Int) := of_decide_eq_true u3_5; first | exact h_ | (have e_ := (Kd.R_reads' HO_155000.out).1; omega) | simpa using h_) (seg := [.int .u64 x150000_1, .int .u64 x150001_1, .int .u64 x150002_1, .int .u64 x150003_1, .int .i64 x150004_1]) (j := 0) hcl29 hcc29 (show 5 ≤ 5 from by decide) (x' := (⟨x150000_1, x150001_1, x150002_1, x150003_1, x150004_1⟩ : S53)) (k53_mkM _ _ _ (⟨x150000_1, x150001_1, x150002_1, x150003_1, x150004_1⟩ : S53) ) (fun _ hk => hk)
            have hx29_0 := hcc29 0 _ rfl
            (try simp only [show (k53).sz = 5 from rfl, Nat.mul_one, Nat.add_zero] at hx29_0)
            have hf29_0 := hfr29 0
            (try simp only [show (k53).sz = 5 from rfl, Nat.mul_one, Nat.add_zero] at hf29_0)
            have hx29_1 := hcc29 1 _ rfl
            (try simp only [show (k53).sz = 5 from rfl, Nat.mul_one, Nat.add_zero] at hx29_1)
            have hf29_1 := hfr29 1
            (try simp only [show (k53).sz = 5 from rfl, Nat.mul_one, Nat.add_zero] at hf29_1)
            have hx29_2 := hcc29 2 _ rfl
            (try simp only [show (k53).sz = 5 from rfl, Nat.mul_one, Nat.add_zero] at hx29_2)
            have hf29_2 := hfr29 2
            (try simp only [show (k53).sz = 5 from rfl, Nat.mul_one, Nat.add_zero] at hf29_2)
            have hx29_3 := hcc29 3 _ rfl
            (try simp only [show (k53).sz = 5 from rfl, Nat.mul_one, Nat.add_zero] at hx29_3)
            have hf29_3 := hfr29 3
            (try simp only [show (k53).sz = 5 from rfl, Nat.mul_one, Nat.add_zero] at hf29_3)
            have hx29_4 := hcc29 4 _ rfl
            (try simp only [show (k53).sz = 5 from rfl, Nat.mul_one, Nat.add_zero] at hx29_4)
            have hf29_4 := hfr29 4
            (try simp only [show (k53).sz = 5 from rfl, Nat.mul_one, Nat.add_zero] at hf29_4)
            clear hcl29 hcc29 hfr29 hM29
            go_wp2_with (first | (first | ((with_reducible refine gate_store (t := 53) (p := 29) rfl ?_); (try (rw [drewN_self wr]; generalize hq_ : World.drewN wr _ = wr; have n0_ := Aside0.mk (Kd.R_at hq_ HO_155000.out); have n1_ := Aside0.mk (blk_at hq_ BK148.out); have n2_ := Aside0.mk (blk_at hq_ BK149.out); have n3_ := Aside0.mk (blk_at hq_ BK150.out); have n4_ := Aside0.mk (blk_at hq_ BK154.out); have n5_ := Aside0.mk (below_at hq_ HB.out); clear hq_ HO_155000 BK148 BK149 BK150 BK154 HB; have HO_155000 := n0_; have BK148 := n1_; have BK149 := n2_; have BK150 := n3_; have BK154 := n4_; have HB := n5_; clear n0_ n1_ n2_ n3_ n4_ n5_; (try (have HX29 := Aside0.mk (show Kd.R k53 53 wr w.heap.size (fun k_ => k_ ≠ gb149) (.slice (some ⟨go20, 0, none⟩) x155000_1.length co25) x155000_1 from u3_20))); (try (obtain ⟨ce29, hcl29, hM29, hcc29, hfr29⟩ := Kd.R_elem HX29.out z53 (x6_1 : Int) (of_decide_eq_true u3_5) (by have h_ : (x6_1 : Int) < ((x155000_1.length : Int) : Int) := of_decide_eq_true u3_5; first | exact h_ | (have e_ := (Kd.R_reads' HO_155000.out).1; omega) | simpa using h_))); (try (obtain rfl := k53_openM hM29)); (try (have HP29 := Kd.R_seg HX29.out (x6_1 : Int) (of_decide_eq_true u3_5) (by have h_ : (x6_1 : Int) < ((x155000_1.length : Int) : Int) := of_decide_eq_true u3_5; first | exact h_ | (have e_ := (Kd.R_reads' HO_155000.out).1; omega) | simpa using h_) (seg := [.int .u64 x150000_1, .int .u64 x150001_1, .int .u64 x150002_1, .int .u64 x150003_1, .int .i64 x150004_1]) (j := 0) hcl29 hcc29 (show 5 ≤ 5 from by decide) (x' := (⟨x150000_1, x150001_1, x150002_1, x150003_1, x150004_1⟩ : S53)) (k53_mkM _ _ _ (⟨x150000_1, x150001_1, x150002_1, x150003_1, x150004_1⟩ : S53) ) (fun _ hk => hk))); (try (have hx29_0 := hcc29 0 _ rfl)); (try (try simp only [show (k53).sz = 5 from rfl, Nat.mul_one, Nat.add_zero] at hx29_0)); (try (have hf29_0 := hfr29 0)); (try (try simp only [show (k53).sz = 5 from rfl, Nat.mul_one, Nat.add_zero] at hf29_0)); (try (have hx29_1 := hcc29 1 _ rfl)); (try (try simp only [show (k53).sz = 5 from rfl, Nat.mul_one, Nat.add_zero] at hx29_1)); (try (have hf29_1 := hfr29 1)); (try (try simp only [show (k53).sz = 5 from rfl, Nat.mul_one, Nat.add_zero] at hf29_1)); (try (have hx29_2 := hcc29 2 _ rfl)); (try (try simp only [show (k53).sz = 5 from rfl, Nat.mul_one, Nat.add_zero] at hx29_2)); (try (have hf29_2 := hfr29 2)); (try (try simp only [show (k53).sz = 5 from rfl, Nat.mul_one, Nat.add_zero] at hf29_2)); (try (have hx29_3 := hcc29 3 _ rfl)); (try (try simp only [show (k53).sz = 5 from rfl, Nat.mul_one, Nat.add_zero] at hx29_3)); (try (have hf29_3 := hfr29 3)); (try (try simp only [show (k53).sz = 5 from rfl, Nat.mul_one, Nat.add_zero] at hf29_3)); (try (have hx29_4 := hcc29 4 _ rfl)); (try (try simp only [show (k53).sz = 5 from rfl, Nat.mul_one, Nat.add_zero] at hx29_4)); (try (have hf29_4 := hfr29 4)); (try (try simp only [show (k53).sz = 5 from rfl, Nat.mul_one, Nat.add_zero] at hf29_4)); (try (clear hcl29 hcc29 hfr29 hM29)))); refine store_event (t := 53) (p := 29) (v := ?vo_w30) (w1 := (((((wr.setCell ⟨go20, (x6_1 : Int).toNat * 5, none⟩ (.int .u64 x150000_1)).setCell ⟨go20, (x6_1 : Int).toNat * 5 + 1, none⟩ (.int .u64 x150001_1)).setCell ⟨go20, (x6_1 : Int).toNat * 5 + 2, none⟩ (.int .u64 x150002_1)).setCell ⟨go20, (x6_1 : Int).toNat * 5 + 3, none⟩ (.int .u64 x150003_1)).setCell ⟨go20, (x6_1 : Int).toNat * 5 + 4, none⟩ (.int .i64 x150004_1))) ?hg ?ho ?hn ?hr ?_; (case ho => rfl); (case hg => rfl); (case hn => rfl); (case hr => first | (go_simp; done) | (go_simp; rfl)); intro w30 hw; have hg : wr.grownBy w30 (some go20) := (by rw [hw]; exact HP29.2); have hp_ : Kd.R k53 53 w30 w.heap.size (fun k_ => k_ ≠ gb149) (.slice (some ⟨go20, 0, none⟩) x155000_1.length co25) y156 := (by rw [hw, Ny156.out]; exact HP29.1); clear HP29; have n0_ := Aside0.mk (hp_); have n1_ := Aside0.mk (blk_grown (g := gb148) (o := .cells #[.slice A0_0 l0_0.length c0_0] 29 (0, 0)) u3_1 hg (Kd.R_ne HO_155000.out BK148.out (by decide))); have n2_ := Aside0.mk (blk_grown (g := gb149) (o := .cells #[.int .u64 x150000_1, .int .u64 x150001_1, .int .u64 x150002_1, .int .u64 x150003_1, .int .i64 x150004_1] 53 (0, 0)) u3_3 hg (Kd.R_away HO_155000.out (fun _ hk => hk))); have n3_ := Aside0.mk (blk_grown (g := gb150) (o := .cells #[.slice none 0 0] 29 (0, 0)) u3_8 hg (Kd.R_ne HO_155000.out BK150.out (by decide))); have n4_ := Aside0.mk (blk_grown (g := gb154) (o := .cells #[.slice (some ⟨go20, 0, none⟩) x155000_1.length co25] 29 (0, 0)) u3_21 hg (Kd.R_ne HO_155000.out BK154.out (by decide))); have n5_ := Aside0.mk ((by rw [hw]; exact below_set (below_set (below_set (below_set (below_set (HB.out) GB20.out) GB20.out) GB20.out) GB20.out) GB20.out : Below w.heap.size w w30)); clear HO_155000; clear BK148; clear BK149; clear BK150; clear BK154; clear HB; have HO_155000 := n0_; have BK148 := n1_; have BK149 := n2_; have BK150 := n3_; have BK154 := n4_; have HB := n5_; clear n0_ n1_ n2_ n3_ n4_ n5_; clear hg hw hp_)) | go_quiet (first | ((with_reducible refine gate_store (t := 53) (p := 29) rfl ?_); (try (rw [drewN_self wr]; generalize hq_ : World.drewN wr _ = wr; have n0_ := Aside0.mk (Kd.R_at hq_ HO_155000.out); have n1_ := Aside0.mk (blk_at hq_ BK148.out); have n2_ := Aside0.mk (blk_at hq_ BK149.out); have n3_ := Aside0.mk (blk_at hq_ BK150.out); have n4_ := Aside0.mk (blk_at hq_ BK154.out); have n5_ := Aside0.mk (below_at hq_ HB.out); clear hq_ HO_155000 BK148 BK149 BK150 BK154 HB; have HO_155000 := n0_; have BK148 := n1_; have BK149 := n2_; have BK150 := n3_; have BK154 := n4_; have HB := n5_; clear n0_ n1_ n2_ n3_ n4_ n5_; (try (have HX29 := Aside0.mk (show Kd.R k53 53 wr w.heap.size (fun k_ => k_ ≠ gb149) (.slice (some ⟨go20, 0, none⟩) x155000_1.length co25) x155000_1 from u3_20))); (try (obtain ⟨ce29, hcl29, hM29, hcc29, hfr29⟩ := Kd.R_elem HX29.out z53 (x6_1 : Int) (of_decide_eq_true u3_5) (by have h_ : (x6_1 : Int) < ((x155000_1.length : Int) : Int) := of_decide_eq_true u3_5; first | exact h_ | (have e_ := (Kd.R_reads' HO_155000.out).1; omega) | simpa using h_))); (try (obtain rfl := k53_openM hM29)); (try (have HP29 := Kd.R_seg HX29.out (x6_1 : Int) (of_decide_eq_true u3_5) (by have h_ : (x6_1 : Int) < ((x155000_1.length : Int) : Int) := of_decide_eq_true u3_5; first | exact h_ | (have e_ := (Kd.R_reads' HO_155000.out).1; omega) | simpa using h_) (seg := [.int .u64 x150000_1, .int .u64 x150001_1, .int .u64 x150002_1, .int .u64 x150003_1, .int .i64 x150004_1]) (j := 0) hcl29 hcc29 (show 5 ≤ 5 from by decide) (x' := (⟨x150000_1, x150001_1, x150002_1, x150003_1, x150004_1⟩ : S53)) (k53_mkM _ _ _ (⟨x150000_1, x150001_1, x150002_1, x150003_1, x150004_1⟩ : S53) ) (fun _ hk => hk))); (try (have hx29_0 := hcc29 0 _ rfl)); (try (try simp only [show (k53).sz = 5 from rfl, Nat.mul_one, Nat.add_zero] at hx29_0)); (try (have hf29_0 := hfr29 0)); (try (try simp only [show (k53).sz = 5 from rfl, Nat.mul_one, Nat.add_zero] at hf29_0)); (try (have hx29_1 := hcc29 1 _ rfl)); (try (try simp only [show (k53).sz = 5 from rfl, Nat.mul_one, Nat.add_zero] at hx29_1)); (try (have hf29_1 := hfr29 1)); (try (try simp only [show (k53).sz = 5 from rfl, Nat.mul_one, Nat.add_zero] at hf29_1)); (try (have hx29_2 := hcc29 2 _ rfl)); (try (try simp only [show (k53).sz = 5 from rfl, Nat.mul_one, Nat.add_zero] at hx29_2)); (try (have hf29_2 := hfr29 2)); (try (try simp only [show (k53).sz = 5 from rfl, Nat.mul_one, Nat.add_zero] at hf29_2)); (try (have hx29_3 := hcc29 3 _ rfl)); (try (try simp only [show (k53).sz = 5 from rfl, Nat.mul_one, Nat.add_zero] at hx29_3)); (try (have hf29_3 := hfr29 3)); (try (try simp only [show (k53).sz = 5 from rfl, Nat.mul_one, Nat.add_zero] at hf29_3)); (try (have hx29_4 := hcc29 4 _ rfl)); (try (try simp only [show (k53).sz = 5 from rfl, Nat.mul_one, Nat.add_zero] at hx29_4)); (try (have hf29_4 := hfr29 4)); (try (try simp only [show (k53).sz = 5 from rfl, Nat.mul_one, Nat.add_zero] at hf29_4)); (try (clear hcl29 hcc29 hfr29 hM29)))); refine store_event (t := 53) (p := 29) (v := ?vo_w30) (w1 := (((((wr.setCell ⟨go20, (x6_1 : Int).toNat * 5, none⟩ (.int .u64 x150000_1)).setCell ⟨go20, (x6_1 : Int).toNat * 5 + 1, none⟩ (.int .u64 x150001_1)).setCell ⟨go20, (x6_1 : Int).toNat * 5 + 2, none⟩ (.int .u64 x150002_1)).setCell ⟨go20, (x6_1 : Int).toNat * 5 + 3, none⟩ (.int .u64 x150003_1)).setCell ⟨go20, (x6_1 : Int).toNat * 5 + 4, none⟩ (.int .i64 x150004_1))) ?hg ?ho ?hn ?hr ?_; (case ho => rfl); (case hg => rfl); (case hn => rfl); (case hr => first | (go_simp; done) | (go_simp; rfl)); intro w30 hw; have hg : wr.grownBy w30 (some go20) := (by rw [hw]; exact HP29.2); have hp_ : Kd.R k53 53 w30 w.heap.size (fun k_ => k_ ≠ gb149) (.slice (some ⟨go20, 0, none⟩) x155000_1.length co25) y156 := (by rw [hw, Ny156.out]; exact HP29.1); clear HP29; have n0_ := Aside0.mk (hp_); have n1_ := Aside0.mk (blk_grown (g := gb148) (o := .cells #[.slice A0_0 l0_0.length c0_0] 29 (0, 0)) u3_1 hg (Kd.R_ne HO_155000.out BK148.out (by decide))); have n2_ := Aside0.mk (blk_grown (g := gb149) (o := .cells #[.int .u64 x150000_1, .int .u64 x150001_1, .int .u64 x150002_1, .int .u64 x150003_1, .int .i64 x150004_1] 53 (0, 0)) u3_3 hg (Kd.R_away HO_155000.out (fun _ hk => hk))); have n3_ := Aside0.mk (blk_grown (g := gb150) (o := .cells #[.slice none 0 0] 29 (0, 0)) u3_8 hg (Kd.R_ne HO_155000.out BK150.out (by decide))); have n4_ := Aside0.mk (blk_grown (g := gb154) (o := .cells #[.slice (some ⟨go20, 0, none⟩) x155000_1.length co25] 29 (0, 0)) u3_21 hg (Kd.R_ne HO_155000.out BK154.out (by decide))); have n5_ := Aside0.mk ((by rw [hw]; exact below_set (below_set (below_set (below_set (below_set (HB.out) GB20.out) GB20.out) GB20.out) GB20.out) GB20.out : Below w.heap.size w w30)); clear HO_155000; clear BK148; clear BK149; clear BK150; clear BK154; clear HB; have HO_155000 := n0_; have BK148 := n1_; have BK149 := n2_; have BK150 := n3_; have BK154 := n4_; have HB := n5_; clear n0_ n1_ n2_ n3_ n4_ n5_; clear hg hw hp_)))
            go_roundg k1
            case measure => have := HK1.out; omega
            case rel => exact ⟨(wrap64 (x6_1 + 1)), (x150000_1), (x150001_1), (x150002_1), (x150003_1), (x150004_1), (y156), (.slice (some ⟨go20, 0, none⟩) x155000_1.length co25), u3_15, H', ⟨by have := HK1.out; omega⟩, ⟨by (with_reducible repeat (first | apply Kd.R_alloc | apply Kd.R_drewN | apply Kd.R_drew)); exact HO_155000.out⟩, ⟨by (with_reducible repeat (first | refine blk_drewN ?_ _ | refine blk_drew ?_ | refine blk_alloc ?_ _)); exact BK148.out⟩, ⟨by (with_reducible repeat (first | refine blk_drewN ?_ _ | refine blk_drew ?_ | refine blk_alloc ?_ _)); exact BK149.out⟩, ⟨by (with_reducible repeat (first | refine blk_drewN ?_ _ | refine blk_drew ?_ | refine blk_alloc ?_ _)); exact BK150.out⟩, ⟨by (with_reducible repeat (first | refine blk_drewN ?_ _ | refine blk_drew ?_ | refine blk_alloc ?_ _)); exact BK154.out⟩, ⟨by repeat (first | (with_reducible first | exact HB.out | apply below_alloc | apply pw_below_drewN | apply below_drew1 | refine below_set ?_ GE148.out | refine below_set ?_ GE149.out | refine below_set ?_ GE150.out | refine below_set ?_ GE154.out) | exact HB.out)⟩⟩
          · rw [if_neg c19] at H
            have c19b0 : (((rd_T53 x155000_1 x6_1).f0) == x150000_1) = false := beq_eq_false_iff_ne.mpr c19
            have c19b1 : (((rd_T53 x155000_1 x6_1).f0) != x150000_1) = true := bne_iff_ne.mpr c19
            have H' := Aside0.mk H
            clear H
            have hnb31 := NB154_148.out
            have hnc31 := NB148_154.out
            have hnb32 := NB154_149.out
            have hnc32 := NB149_154.out
            have hnb33 := NB154_150.out
            have hnc33 := NB150_154.out
            have hcz34_0 : wr.cell? ⟨gb154, 0, none⟩ = some (u155000) := (blk_cell BK154.out 0).trans rfl
            have hfz34_0 := blk_frozen BK154.out 0
            obtain ⟨Ao35, co35, eo35⟩ := Kd.R_slice HO_155000.out
            subst eo35
            have p155 : 0 ≤ (x6_1 : Int) := of_decide_eq_true u3_5
            have q155 : x6_1 < (x155000_1.length : Int) := of_decide_eq_true u3_5
            obtain ⟨ad155, e155, hx155_0, hx155_1, hx155_2, hx155_3, hx155_4⟩ := at_T53 (Kd.R_reads' HO_155000.out).2.2 x6_1 p155 q155
            cases e155
            replace p155 := eq_true p155
            replace q155 := eq_true q155
            have hnb36 := NB149_148.out
            have hnc36 := NB148_149.out
            have hnb37 := NB149_150.out
            have hnc37 := NB150_149.out
            have hcz38_0 : wr.cell? ⟨gb149, 0, none⟩ = some (.int .u64 x150000_1) := (blk_cell BK149.out 0).trans rfl
            have hcz38_1 : wr.cell? ⟨gb149, 1, none⟩ = some (.int .u64 x150001_1) := (blk_cell BK149.out 1).trans rfl
            have hcz38_2 : wr.cell? ⟨gb149, 2, none⟩ = some (.int .u64 x150002_1) := (blk_cell BK149.out 2).trans rfl
            have hcz38_3 : wr.cell? ⟨gb149, 3, none⟩ = some (.int .u64 x150003_1) := (blk_cell BK149.out 3).trans rfl
            have hcz38_4 : wr.cell? ⟨gb149, 4, none⟩ = some (.int .i64 x150004_1) := (blk_cell BK149.out 4).trans rfl
            have hfz38_0 := blk_frozen BK149.out 0
            have hfz38_1 := blk_frozen BK149.out 1
            have hfz38_2 := blk_frozen BK149.out 2
            have hfz38_3 := blk_frozen BK149.out 3
            have hfz38_4 := blk_frozen BK149.out 4
            go_wp2
            repeat (go_quiet (fail); try go_wp2)
            go_roundg k1
            case measure => have := HK1.out; omega
            case rel => exact ⟨(wrap64 (x6_1 + 1)), (x150000_1), (x150001_1), (x150002_1), (x150003_1), (x150004_1), (x155000_1), (.slice (some ad155) x155000_1.length co35), u3_15, H', ⟨by have := HK1.out; omega⟩, ⟨by (with_reducible repeat (first | apply Kd.R_alloc | apply Kd.R_drewN | apply Kd.R_drew)); exact HO_155000.out⟩, ⟨by (with_reducible repeat (first | refine blk_drewN ?_ _ | refine blk_drew ?_ | refine blk_alloc ?_ _)); exact BK148.out⟩, ⟨by (with_reducible repeat (first | refine blk_drewN ?_ _ | refine blk_drew ?_ | refine blk_alloc ?_ _)); exact BK149.out⟩, ⟨by (with_reducible repeat (first | refine blk_drewN ?_ _ | refine blk_drew ?_ | refine blk_alloc ?_ _)); exact BK150.out⟩, ⟨by (with_reducible repeat (first | refine blk_drewN ?_ _ | refine blk_drew ?_ | refine blk_alloc ?_ _)); exact BK154.out⟩, ⟨by repeat (first | (with_reducible first | exact HB.out | apply below_alloc | apply pw_below_drewN | apply below_drew1 | refine below_set ?_ GE148.out | refine below_set ?_ GE149.out | refine below_set ?_ GE150.out | refine below_set ?_ GE154.out) | exact HB.out)⟩⟩
        · rw [if_neg c18] at H
          exact absurd H (by simp)
      · rw [if_neg c17] at H
        have c17b0 : decide (x6_1 < (x155000_1.length : Int)) = false := decide_eq_false c17
        clear c17
        obtain rfl := Option.some.inj H
        have hnb39 := NB154_148.out
        have hnc39 := NB148_154.out
        have hnb40 := NB154_149.out
        have hnc40 := NB149_154.out
        have hnb41 := NB154_150.out
        have hnc41 := NB150_154.out
        have hcz42_0 : wr.cell? ⟨gb154, 0, none⟩ = some (u155000) := (blk_cell BK154.out 0).trans rfl
        have hfz42_0 := blk_frozen BK154.out 0
        obtain ⟨Ao43, co43, eo43⟩ := Kd.R_slice HO_155000.out
        subst eo43
        have hnb44 := NB150_148.out
        have hnc44 := NB148_150.out
        have hnb45 := NB150_149.out
        have hnc45 := NB149_150.out
        have hcz46_0 : wr.cell? ⟨gb150, 0, none⟩ = some (.slice none 0 0) := (blk_cell BK150.out 0).trans rfl
        have hfz46_0 := blk_frozen BK150.out 0
        go_wp2
        repeat (go_quiet (fail); try go_wp2)
        refine bodyPost_ret (results_cell_row rfl _ _ gb150 29 #[.slice Ao43 x155000_1.length co43] (0, 0) _ rfl (by (with_reducible repeat (first | refine blk_drewN ?_ _ | refine blk_drew ?_ | refine blk_alloc ?_ _)); refine blk_put (cs := #[.slice none 0 0]) ?_ 0 _ rfl; (with_reducible repeat (first | refine blk_drewN ?_ _ | refine blk_drew ?_ | refine blk_alloc ?_ _)); exact BK150.out) Try.underlying29 rfl (by kernel_rfl)) rfl ?_
        exact ⟨_, by first | rfl | (simp [errW_none, errW_some] <;> rfl) | (simp [*, errW_none, errW_some] <;> rfl), by (with_reducible repeat (first | apply Kd.R_alloc | apply Kd.R_drewN | apply Kd.R_drew)); exact Kd.R_mono (Kd.R_far (p := ⟨gb150, 0, none⟩) (Kd.R_types HO_155000.out BK150.out (by decide)) (fun _ hk => hk.2) (.slice Ao43 x155000_1.length co43)) (fun _ hk => trivial), by repeat (first | (with_reducible first | exact HB.out | apply below_alloc | apply pw_below_drewN | apply below_drew1 | refine below_set ?_ GE148.out | refine below_set ?_ GE149.out | refine below_set ?_ GE150.out | refine below_set ?_ GE154.out) | exact HB.out)⟩

end Go.Proofs.Ytdbfjakhkclggaa.QFnExactMoveMoney
