-- Printed by the session's own program wip/prx.py.
import Derived.Test.YtdbfjakhkclggaaQFnHoldsx0
namespace Go.Proofs.Ytdbfjakhkclggaa.QFnHolds
open Go.RowKit Go.Proofs.YtdbfjakhkclggaaW.PrintWords Go.Proofs.YtdbfjakhkclggaaW.PrintLast Go.Proofs.YtdbfjakhkclggaaW.PrintMore
attribute [local go_sem] max2_int min2_int max_two min_two max_three min_three max_four min_four Go.Proofs.Ytdbfjakhkclggaa.Set.isSome_setCell Go.Proofs.Ytdbfjakhkclggaa.Add.add64   -- for this text's walks alone
set_option linter.unusedVariables false
set_option linter.unusedSimpArgs false

-- NOT PRINTED: function 76 (bits_Add64)

-- squeezed
theorem u2_0 {P : Prop} (h : P := by repeat (first | (with_reducible first | exact HB.out | apply below_alloc | apply pw_below_drewN | apply below_drew1 | refine below_set ?_ GE101.out) | exact HB.out)) : P := h
theorem u2_1 {P : Prop} (h : P := by (with_reducible repeat (first | refine blk_drewN ?_ _ | refine blk_drew ?_ | refine blk_alloc ?_ _)); exact BK101.out) : P := h
theorem u2_2 {P : Prop} (h : P := by (with_reducible repeat (first | refine blk_drewN ?_ _ | refine blk_drew ?_ | refine blk_alloc ?_ _)); refine blk_far ?_ NB101_103.out _; (with_reducible repeat (first | refine blk_drewN ?_ _ | refine blk_drew ?_ | refine blk_alloc ?_ _)); refine blk_far ?_ NB101_103.out _; (with_reducible repeat (first | refine blk_drewN ?_ _ | refine blk_drew ?_ | refine blk_alloc ?_ _)); refine blk_far ?_ NB101_103.out _; (with_reducible repeat (first | refine blk_drewN ?_ _ | refine blk_drew ?_ | refine blk_alloc ?_ _)); refine blk_far ?_ NB101_103.out _; (with_reducible repeat (first | refine blk_drewN ?_ _ | refine blk_drew ?_ | refine blk_alloc ?_ _)); refine blk_far ?_ NB101_103.out _; (with_reducible repeat (first | refine blk_drewN ?_ _ | refine blk_drew ?_ | refine blk_alloc ?_ _)); exact BK101.out) : P := h
theorem u2_3 {P : Prop} (h : P := by repeat (first | (with_reducible first | exact HB.out | apply below_alloc | apply pw_below_drewN | apply below_drew1 | refine below_set ?_ GE101.out | refine below_set ?_ GE103.out) | exact HB.out)) : P := h
theorem u2_4 {P : Prop} (h : P := by first | (rw [add_block]; exact hn105_0) | (show (Addr.add _ _).block ≠ _; rw [add_block]; exact hn105_0) | exact hn105_0) : P := h
theorem u2_5 {P : Prop} (h : P := by first | (rw [add_block]; exact hn105_1) | (show (Addr.add _ _).block ≠ _; rw [add_block]; exact hn105_1) | exact hn105_1) : P := h
theorem u2_6 {P : Prop} (h : P := by first | (rw [add_block]; exact hn105_2) | (show (Addr.add _ _).block ≠ _; rw [add_block]; exact hn105_2) | exact hn105_2) : P := h
theorem u2_7 {P : Prop} (h : P := by first | (rw [add_block]; exact hn105_3) | (show (Addr.add _ _).block ≠ _; rw [add_block]; exact hn105_3) | exact hn105_3) : P := h
theorem u2_8 {P : Prop} (h : P := by first | (rw [add_block]; exact hn105_4) | (show (Addr.add _ _).block ≠ _; rw [add_block]; exact hn105_4) | exact hn105_4) : P := h
theorem u2_9 {P : Prop} (h : P := by first | (rw [add_block]; exact hn104_0) | (show (Addr.add _ _).block ≠ _; rw [add_block]; exact hn104_0) | exact hn104_0) : P := h
theorem u2_10 {P : Prop} (h : P := by first | (rw [add_block]; exact hn104_1) | (show (Addr.add _ _).block ≠ _; rw [add_block]; exact hn104_1) | exact hn104_1) : P := h
theorem u2_11 {P : Prop} (h : P := by first | (rw [add_block]; exact hn104_2) | (show (Addr.add _ _).block ≠ _; rw [add_block]; exact hn104_2) | exact hn104_2) : P := h
theorem u2_12 {P : Prop} (h : P := by first | (rw [add_block]; exact hn104_3) | (show (Addr.add _ _).block ≠ _; rw [add_block]; exact hn104_3) | exact hn104_3) : P := h
theorem u2_13 {P : Prop} (h : P := by first | (rw [add_block]; exact hn104_4) | (show (Addr.add _ _).block ≠ _; rw [add_block]; exact hn104_4) | exact hn104_4) : P := h
theorem u2_14 {P : Prop} (h : P := by first | (with_reducible assumption) | assumption) : P := h
theorem u2_15 {P : Prop} (h : P := by have := World.block_lt_of_cell? _ _ hx105_0; first | rwa [add_block] at this | exact this) : P := h
theorem u2_16 {P : Prop} (h : P := by have := World.block_lt_of_cell? _ _ hx104_0; first | rwa [add_block] at this | exact this) : P := h
theorem u2_17 {P : Prop} (h : P := by repeat (first | (with_reducible first | exact HB.out | apply below_alloc | apply pw_below_drewN | apply below_drew1) | exact HB.out)) : P := h
theorem u2_18 {P : Prop} (h : P := by first | rfl | (simp; done) | (simp [*]; done)) : P := h
theorem u2_19 {P : Prop} (h : P := by repeat (first | (with_reducible first | exact HB.out | apply below_alloc | apply pw_below_drewN | apply below_drew1 | refine below_set ?_ GE106.out) | exact HB.out)) : P := h
/-! ### impl_isBook: function 50 -/
def impl_isBook.l0 : Nat → List (S53) → Int → Int → List (S53) → Option (Bool)
  | 0, _, _, _, _ => none
  | k + 1, x10, x11, x12, x102000 => if x12 < x11 then (if 0 ≤ x12 then (if x12 < (x10.length : Int) then (if 0 ≤ ((rd_T53 x10 x12).f1) then (if 0 ≤ ((rd_T53 x10 x12).f2) then (if 0 ≤ (IntKind.u64.wrap (((rd_T53 x10 x12).f1) + ((rd_T53 x10 x12).f2))) then (if 0 ≤ ((rd_T53 x10 x12).f3) then (if (IntKind.u64.wrap (((((rd_T53 x10 x12).f1) + ((rd_T53 x10 x12).f2)) / 18446744073709551616) + (((IntKind.u64.wrap (((rd_T53 x10 x12).f1) + ((rd_T53 x10 x12).f2))) + ((rd_T53 x10 x12).f3)) / 18446744073709551616))) > 0 then (some false) else (if ((rd_T53 x10 x12).f4) < 0 then (some false) else (if ((rd_T53 x10 x12).f4) = 0 then (if ((rd_T53 x10 x12).f2) = 0 then (if ((rd_T53 x10 x12).f3) = 0 then (if x12 > 0 then (if 0 ≤ (wrap64 (x12 - 1)) then (if (wrap64 (x12 - 1)) < (x102000.length : Int) then (if ((rd_T53 x102000 (wrap64 (x12 - 1))).f0) ≥ ((rd_T53 x10 x12).f0) then (some false) else (impl_isBook.l0 k x10 x11 (wrap64 (x12 + 1)) x102000)) else (none)) else (none)) else (impl_isBook.l0 k x10 x11 (wrap64 (x12 + 1)) x102000)) else (some false)) else (some false)) else (if x12 > 0 then (if 0 ≤ (wrap64 (x12 - 1)) then (if (wrap64 (x12 - 1)) < (x102000.length : Int) then (if ((rd_T53 x102000 (wrap64 (x12 - 1))).f0) ≥ ((rd_T53 x10 x12).f0) then (some false) else (impl_isBook.l0 k x10 x11 (wrap64 (x12 + 1)) x102000)) else (none)) else (none)) else (impl_isBook.l0 k x10 x11 (wrap64 (x12 + 1)) x102000))))) else (none)) else (none)) else (none)) else (none)) else (none)) else (none)) else (some (decide ((x102000.length : Int) ≤ 40)))
def impl_isBook.f (k : Nat) (l0_0 : List (S53)) : Option (Bool) := impl_isBook.l0 k l0_0 (l0_0.length : Int) 0 l0_0
theorem impl_isBook.mono_l : ∀ k, (∀ y0 y1 y2 y3, LeO (impl_isBook.l0 k y0 y1 y2 y3) (impl_isBook.l0 (k + 1) y0 y1 y2 y3))
  | 0 => fun _ _ _ _ r h => by simp [impl_isBook.l0] at h
  | k + 1 => by
    have ih0 := impl_isBook.mono_l k
    · intro y0 y1 y2 y3
      unfold impl_isBook.l0
      repeat' first
      | (with_reducible exact ih0 _ _ _ _)
      | (with_reducible exact LeO.refl _)
      | (with_reducible exact LeO.none _)
      | (with_reducible refine LeO.ite ?_ ?_)
      | (with_reducible refine LeO.bind ?_ (fun _ => ?_))
      | exact ih0 _ _ _ _
      | exact LeO.none _
      | refine LeO.ite ?_ ?_
      | refine LeO.bind ?_ (fun _ => ?_)
theorem impl_isBook.mono : ∀ a0 k, LeO (impl_isBook.f k a0) (impl_isBook.f (k + 1) a0) := by
  intro a0 k
  have ih0 := impl_isBook.mono_l k
  unfold impl_isBook.f
  repeat' first
      | (with_reducible exact ih0 _ _ _ _)
      | (with_reducible exact LeO.refl _)
      | (with_reducible exact LeO.none _)
      | (with_reducible refine LeO.ite ?_ ?_)
      | (with_reducible refine LeO.bind ?_ (fun _ => ?_))
      | exact ih0 _ _ _ _
      | exact LeO.none _
      | refine LeO.ite ?_ ?_
      | refine LeO.bind ?_ (fun _ => ?_)
set_option maxHeartbeats 8000000 in
set_option maxRecDepth 100000 in
theorem impl_isBook.calls (k : Nat) (A0_0 : Option Addr) (c0_0 : Nat) (l0_0 : List (S53)) (r : Bool) (w : World) (hr0_0 : Kd.C k53 w A0_0 l0_0.length l0_0) (hc0_0 : l0_0.length ≤ c0_0) (h : impl_isBook.f k l0_0 = some r) :
    Calls Try.prog 50 #[.agg #[.slice A0_0 l0_0.length c0_0]] w fun e w' => e = .returned (.bool r) ∧ Below w.heap.size w w' := by
  have hu29 := Try.underlying29
  have hu53 := Try.underlying53
  have HR0_0 := Aside0.mk hr0_0
  have HC0_0 := Aside0.mk hc0_0
  clear hr0_0 hc0_0
  have HB := Aside0.mk (Below.refl w.heap.size w)
  have H : (impl_isBook.l0 k l0_0 (l0_0.length : Int) 0 l0_0) = some r := h
  clear h
  have H' := Aside0.mk H
  clear H
  go_enter Try.func50, Try.ntmps50
  go_wp2_with (first | (first | ((with_reducible refine gate_dst (N := 1) rfl ?_); refine box_event ?hg (N := 1) ?hd (cs := #[.slice A0_0 l0_0.length c0_0]) (t := 29) ?hr ?_; (case hd => rfl); (case hg => rfl); (case hr => first | (go_simp; done) | (go_simp; rfl)); intro gb101 hg w2 hbox hb; have n0_ := Aside0.mk (below_step u2_17 hb); have n1_ := Aside0.mk (hbox); have n2_ := Aside0.mk ((by rw [hg]; exact (below_size u2_17) : w.heap.size ≤ gb101)); have n3_ := Aside0.mk ((by rw [hg]; exact (below_size u2_17) : w.heap.size ≤ gb101)); clear HB; have HB := n0_; have BK101 := n1_; have GW101 := n2_; have GE101 := n3_; clear n0_ n1_ n2_ n3_; clear hb hbox hg; have hcz3_0 : w2.cell? ⟨gb101, 0, none⟩ = some (.slice A0_0 l0_0.length c0_0) := (blk_cell BK101.out 0).trans rfl; have hfz3_0 := blk_frozen BK101.out 0)) | go_quiet (fail))
  go_loopg [12] k (fun kq v12 w' => ∃ (x12_1 : Int), v12 = .int .i64 x12_1 ∧ Aside0 (impl_isBook.l0 kq l0_0 (l0_0.length : Int) x12_1 l0_0 = some r) ∧ Aside0 (kq ≤ k) ∧ Aside0 (w'.heap[gb101]? = some (.cells #[(.slice A0_0 l0_0.length c0_0)] 29 (0, 0))) ∧ Aside0 (Below w.heap.size w w'))
  case atStart => exact ⟨(0), u2_18, H', ⟨Nat.le_refl _⟩, ⟨u2_1⟩, ⟨u2_0⟩⟩
  clear H'
  try clear p2
  try clear hcz3_0
  try clear hfz3_0
  obtain ⟨x12_1, rfl, HA, HK1, BK101, HB⟩ := hrel
  cases gk with
  | zero => exact absurd HA.out (by simp [impl_isBook.l0])
  | succ k1 =>
    have H := HA.out
    clear HA
    simp only [impl_isBook.l0] at H
    by_cases c4 : x12_1 < (l0_0.length : Int)
    rotate_left
    · rw [if_neg c4] at H
      have c4b0 : decide (x12_1 < (l0_0.length : Int)) = false := decide_eq_false c4
      clear c4
      obtain rfl := Option.some.inj H
      have hcz53_0 : wr.cell? ⟨gb101, 0, none⟩ = some (.slice A0_0 l0_0.length c0_0) := (blk_cell BK101.out 0).trans rfl
      have hfz53_0 := blk_frozen BK101.out 0
      go_wp2
      repeat (go_quiet (fail); try go_wp2)
      go_ret
      exact ⟨by first | rfl | (simp [errW_none, errW_some] <;> rfl) | (simp [*, errW_none, errW_some] <;> rfl), u2_0⟩
    rw [if_pos c4] at H
    have c4b0 : decide (x12_1 < (l0_0.length : Int)) = true := decide_eq_true c4
    clear c4
    by_cases c5 : 0 ≤ x12_1
    rotate_left
    · rw [if_neg c5] at H
      exact absurd H (by simp)
    rw [if_pos c5] at H
    have c5b0 : decide (0 ≤ x12_1) = true := decide_eq_true c5
    clear c5
    by_cases c6 : x12_1 < (l0_0.length : Int)
    rotate_left
    · rw [if_neg c6] at H
      exact absurd H (by simp)
    rw [if_pos c6] at H
    have c6b0 : decide (x12_1 < (l0_0.length : Int)) = true := decide_eq_true c6
    clear c6
    by_cases c7 : 0 ≤ ((rd_T53 l0_0 x12_1).f1)
    rotate_left
    · rw [if_neg c7] at H
      exact absurd H (by simp)
    rw [if_pos c7] at H
    have c7b0 := eq_true c7
    have c7b1 : decide (0 ≤ ((rd_T53 l0_0 x12_1).f1)) = true := decide_eq_true c7
    clear c7
    by_cases c8 : 0 ≤ ((rd_T53 l0_0 x12_1).f2)
    rotate_left
    · rw [if_neg c8] at H
      exact absurd H (by simp)
    rw [if_pos c8] at H
    have c8b0 := eq_true c8
    have c8b1 : decide (0 ≤ ((rd_T53 l0_0 x12_1).f2)) = true := decide_eq_true c8
    clear c8
    obtain ⟨ji9, hji9⟩ : ∃ j_ : Int, (IntKind.u64.wrap (((rd_T53 l0_0 x12_1).f1) + ((rd_T53 l0_0 x12_1).f2))) = j_ := ⟨_, rfl⟩
    replace H : (if 0 ≤ (ji9) then (if 0 ≤ ((rd_T53 l0_0 x12_1).f3) then (if (IntKind.u64.wrap (((((rd_T53 l0_0 x12_1).f1) + ((rd_T53 l0_0 x12_1).f2)) / 18446744073709551616) + (((ji9) + ((rd_T53 l0_0 x12_1).f3)) / 18446744073709551616))) > 0 then (some false) else (if ((rd_T53 l0_0 x12_1).f4) < 0 then (some false) else (if ((rd_T53 l0_0 x12_1).f4) = 0 then (if ((rd_T53 l0_0 x12_1).f2) = 0 then (if ((rd_T53 l0_0 x12_1).f3) = 0 then (if x12_1 > 0 then (if 0 ≤ (wrap64 (x12_1 - 1)) then (if (wrap64 (x12_1 - 1)) < (l0_0.length : Int) then (if ((rd_T53 l0_0 (wrap64 (x12_1 - 1))).f0) ≥ ((rd_T53 l0_0 x12_1).f0) then (some false) else (impl_isBook.l0 k1 l0_0 (l0_0.length : Int) (wrap64 (x12_1 + 1)) l0_0)) else (none)) else (none)) else (impl_isBook.l0 k1 l0_0 (l0_0.length : Int) (wrap64 (x12_1 + 1)) l0_0)) else (some false)) else (some false)) else (if x12_1 > 0 then (if 0 ≤ (wrap64 (x12_1 - 1)) then (if (wrap64 (x12_1 - 1)) < (l0_0.length : Int) then (if ((rd_T53 l0_0 (wrap64 (x12_1 - 1))).f0) ≥ ((rd_T53 l0_0 x12_1).f0) then (some false) else (impl_isBook.l0 k1 l0_0 (l0_0.length : Int) (wrap64 (x12_1 + 1)) l0_0)) else (none)) else (none)) else (impl_isBook.l0 k1 l0_0 (l0_0.length : Int) (wrap64 (x12_1 + 1)) l0_0))))) else (none)) else (none)) = some r := by first | (rw [hji9] at H; exact H) | (simp only [hji9] at H ⊢; exact H)
    by_cases c10 : 0 ≤ (ji9)
    rotate_left
    · rw [if_neg c10] at H
      exact absurd H (by simp)
    rw [if_pos c10] at H
    have c10b0 := eq_true c10
    have c10b1 : decide (0 ≤ (ji9)) = true := decide_eq_true c10
    clear c10
    by_cases c11 : 0 ≤ ((rd_T53 l0_0 x12_1).f3)
    rotate_left
    · rw [if_neg c11] at H
      exact absurd H (by simp)
    rw [if_pos c11] at H
    have c11b0 := eq_true c11
    have c11b1 : decide (0 ≤ ((rd_T53 l0_0 x12_1).f3)) = true := decide_eq_true c11
    clear c11
    by_cases c12 : (IntKind.u64.wrap (((((rd_T53 l0_0 x12_1).f1) + ((rd_T53 l0_0 x12_1).f2)) / 18446744073709551616) + (((ji9) + ((rd_T53 l0_0 x12_1).f3)) / 18446744073709551616))) > 0
    · rw [if_pos c12] at H
      have c12b0 : decide (0 < (IntKind.u64.wrap (((((rd_T53 l0_0 x12_1).f1) + ((rd_T53 l0_0 x12_1).f2)) / 18446744073709551616) + (((ji9) + ((rd_T53 l0_0 x12_1).f3)) / 18446744073709551616)))) = true := decide_eq_true c12
      clear c12
      obtain rfl := Option.some.inj H
      have p102 : 0 ≤ (x12_1 : Int) := of_decide_eq_true u2_14
      have q102 : x12_1 < (l0_0.length : Int) := of_decide_eq_true u2_14
      obtain ⟨ad102, e102, hx102_0, hx102_1, hx102_2, hx102_3, hx102_4⟩ := at_T53 HR0_0.out x12_1 p102 q102
      cases e102
      replace hx102_0 := (HB.out.cell (World.block_lt_of_cell? w _ hx102_0)).trans hx102_0
      replace hx102_1 := (HB.out.cell (World.block_lt_of_cell? w _ hx102_1)).trans hx102_1
      replace hx102_2 := (HB.out.cell (World.block_lt_of_cell? w _ hx102_2)).trans hx102_2
      replace hx102_3 := (HB.out.cell (World.block_lt_of_cell? w _ hx102_3)).trans hx102_3
      replace hx102_4 := (HB.out.cell (World.block_lt_of_cell? w _ hx102_4)).trans hx102_4
      replace p102 := eq_true p102
      replace q102 := eq_true q102
      go_wp2_with (first | (first | ((with_reducible refine gate_dst (N := 4) rfl ?_); refine box_event ?hg (N := 4) ?hd (cs := #[.int .u64 0, .int .u64 0, .int .u64 0, .int .u64 0, .int .i64 0]) (t := 53) ?hr ?_; (case hd => rfl); (case hg => rfl); (case hr => first | (go_simp; done) | (go_simp; rfl)); intro gb103 hg w13 hbox hb; have n0_ := Aside0.mk (blk_below (g := gb101) (o := .cells #[.slice (some ad102) l0_0.length c0_0] 29 (0, 0)) u2_1 hb); have n1_ := Aside0.mk (below_step u2_0 hb); have n2_ := Aside0.mk (hbox); have n3_ := Aside0.mk ((by rw [hg]; exact (below_size u2_0) : w.heap.size ≤ gb103)); have n4_ := Aside0.mk ((by rw [hg]; exact (below_size u2_0) : w.heap.size ≤ gb103)); have n5_ := Aside0.mk ((by rw [hg]; exact Nat.ne_of_lt (blk_lt (g := gb101) (o := .cells #[.slice (some ad102) l0_0.length c0_0] 29 (0, 0)) u2_1) : gb101 ≠ gb103)); have n6_ := Aside0.mk ((by rw [hg]; exact Nat.ne_of_gt (blk_lt (g := gb101) (o := .cells #[.slice (some ad102) l0_0.length c0_0] 29 (0, 0)) u2_1) : gb103 ≠ gb101)); clear BK101; clear HB; have BK101 := n0_; have HB := n1_; have BK103 := n2_; have GW103 := n3_; have GE103 := n4_; have NB101_103 := n5_; have NB103_101 := n6_; clear n0_ n1_ n2_ n3_ n4_ n5_ n6_; clear hb hbox hg; have hnb14 := NB103_101.out; have hnc14 := NB101_103.out; have hcz15_0 : w13.cell? ⟨gb103, 0, none⟩ = some (.int .u64 0) := (blk_cell BK103.out 0).trans rfl; have hcz15_1 : w13.cell? ⟨gb103, 1, none⟩ = some (.int .u64 0) := (blk_cell BK103.out 1).trans rfl; have hcz15_2 : w13.cell? ⟨gb103, 2, none⟩ = some (.int .u64 0) := (blk_cell BK103.out 2).trans rfl; have hcz15_3 : w13.cell? ⟨gb103, 3, none⟩ = some (.int .u64 0) := (blk_cell BK103.out 3).trans rfl; have hcz15_4 : w13.cell? ⟨gb103, 4, none⟩ = some (.int .i64 0) := (blk_cell BK103.out 4).trans rfl; have hfz15_0 := blk_frozen BK103.out 0; have hfz15_1 := blk_frozen BK103.out 1; have hfz15_2 := blk_frozen BK103.out 2; have hfz15_3 := blk_frozen BK103.out 3; have hfz15_4 := blk_frozen BK103.out 4)) | go_quiet (fail))
      go_ret
      exact ⟨by first | rfl | (simp [errW_none, errW_some] <;> rfl) | (simp only [← hji9]; first | rfl | (simp [errW_none, errW_some] <;> rfl)) | (simp [*, errW_none, errW_some] <;> rfl), u2_3⟩
    rw [if_neg c12] at H
    have c12b0 : decide (0 < (IntKind.u64.wrap (((((rd_T53 l0_0 x12_1).f1) + ((rd_T53 l0_0 x12_1).f2)) / 18446744073709551616) + (((ji9) + ((rd_T53 l0_0 x12_1).f3)) / 18446744073709551616)))) = false := decide_eq_false c12
    clear c12
    by_cases c16 : ((rd_T53 l0_0 x12_1).f4) < 0
    · rw [if_pos c16] at H
      have c16b0 : decide (((rd_T53 l0_0 x12_1).f4) < 0) = true := decide_eq_true c16
      clear c16
      obtain rfl := Option.some.inj H
      have p102 : 0 ≤ (x12_1 : Int) := of_decide_eq_true u2_14
      have q102 : x12_1 < (l0_0.length : Int) := of_decide_eq_true u2_14
      obtain ⟨ad102, e102, hx102_0, hx102_1, hx102_2, hx102_3, hx102_4⟩ := at_T53 HR0_0.out x12_1 p102 q102
      cases e102
      replace hx102_0 := (HB.out.cell (World.block_lt_of_cell? w _ hx102_0)).trans hx102_0
      replace hx102_1 := (HB.out.cell (World.block_lt_of_cell? w _ hx102_1)).trans hx102_1
      replace hx102_2 := (HB.out.cell (World.block_lt_of_cell? w _ hx102_2)).trans hx102_2
      replace hx102_3 := (HB.out.cell (World.block_lt_of_cell? w _ hx102_3)).trans hx102_3
      replace hx102_4 := (HB.out.cell (World.block_lt_of_cell? w _ hx102_4)).trans hx102_4
      replace p102 := eq_true p102
      replace q102 := eq_true q102
      go_wp2_with (first | (first | ((with_reducible refine gate_dst (N := 4) rfl ?_); refine box_event ?hg (N := 4) ?hd (cs := #[.int .u64 0, .int .u64 0, .int .u64 0, .int .u64 0, .int .i64 0]) (t := 53) ?hr ?_; (case hd => rfl); (case hg => rfl); (case hr => first | (go_simp; done) | (go_simp; rfl)); intro gb103 hg w17 hbox hb; have n0_ := Aside0.mk (blk_below (g := gb101) (o := .cells #[.slice (some ad102) l0_0.length c0_0] 29 (0, 0)) u2_1 hb); have n1_ := Aside0.mk (below_step u2_0 hb); have n2_ := Aside0.mk (hbox); have n3_ := Aside0.mk ((by rw [hg]; exact (below_size u2_0) : w.heap.size ≤ gb103)); have n4_ := Aside0.mk ((by rw [hg]; exact (below_size u2_0) : w.heap.size ≤ gb103)); have n5_ := Aside0.mk ((by rw [hg]; exact Nat.ne_of_lt (blk_lt (g := gb101) (o := .cells #[.slice (some ad102) l0_0.length c0_0] 29 (0, 0)) u2_1) : gb101 ≠ gb103)); have n6_ := Aside0.mk ((by rw [hg]; exact Nat.ne_of_gt (blk_lt (g := gb101) (o := .cells #[.slice (some ad102) l0_0.length c0_0] 29 (0, 0)) u2_1) : gb103 ≠ gb101)); clear BK101; clear HB; have BK101 := n0_; have HB := n1_; have BK103 := n2_; have GW103 := n3_; have GE103 := n4_; have NB101_103 := n5_; have NB103_101 := n6_; clear n0_ n1_ n2_ n3_ n4_ n5_ n6_; clear hb hbox hg; have hnb18 := NB103_101.out; have hnc18 := NB101_103.out; have hcz19_0 : w17.cell? ⟨gb103, 0, none⟩ = some (.int .u64 0) := (blk_cell BK103.out 0).trans rfl; have hcz19_1 : w17.cell? ⟨gb103, 1, none⟩ = some (.int .u64 0) := (blk_cell BK103.out 1).trans rfl; have hcz19_2 : w17.cell? ⟨gb103, 2, none⟩ = some (.int .u64 0) := (blk_cell BK103.out 2).trans rfl; have hcz19_3 : w17.cell? ⟨gb103, 3, none⟩ = some (.int .u64 0) := (blk_cell BK103.out 3).trans rfl; have hcz19_4 : w17.cell? ⟨gb103, 4, none⟩ = some (.int .i64 0) := (blk_cell BK103.out 4).trans rfl; have hfz19_0 := blk_frozen BK103.out 0; have hfz19_1 := blk_frozen BK103.out 1; have hfz19_2 := blk_frozen BK103.out 2; have hfz19_3 := blk_frozen BK103.out 3; have hfz19_4 := blk_frozen BK103.out 4)) | go_quiet (fail))
      go_ret
      exact ⟨by first | rfl | (simp [errW_none, errW_some] <;> rfl) | (simp only [← hji9]; first | rfl | (simp [errW_none, errW_some] <;> rfl)) | (simp [*, errW_none, errW_some] <;> rfl), u2_3⟩
    rw [if_neg c16] at H
    have c16b0 : decide (((rd_T53 l0_0 x12_1).f4) < 0) = false := decide_eq_false c16
    clear c16
    by_cases c20 : ((rd_T53 l0_0 x12_1).f4) = 0
    rotate_left
    · rw [if_neg c20] at H
      have c20b0 : (((rd_T53 l0_0 x12_1).f4) == 0) = false := beq_eq_false_iff_ne.mpr c20
      have c20b1 : (((rd_T53 l0_0 x12_1).f4) != 0) = true := bne_iff_ne.mpr c20
      by_cases c41 : x12_1 > 0
      rotate_left
      · rw [if_neg c41] at H
        have c41b0 : decide (0 < x12_1) = false := decide_eq_false c41
        clear c41
        have H' := Aside0.mk H
        clear H
        have p102 : 0 ≤ (x12_1 : Int) := of_decide_eq_true u2_14
        have q102 : x12_1 < (l0_0.length : Int) := of_decide_eq_true u2_14
        obtain ⟨ad102, e102, hx102_0, hx102_1, hx102_2, hx102_3, hx102_4⟩ := at_T53 HR0_0.out x12_1 p102 q102
        cases e102
        replace hx102_0 := (HB.out.cell (World.block_lt_of_cell? w _ hx102_0)).trans hx102_0
        replace hx102_1 := (HB.out.cell (World.block_lt_of_cell? w _ hx102_1)).trans hx102_1
        replace hx102_2 := (HB.out.cell (World.block_lt_of_cell? w _ hx102_2)).trans hx102_2
        replace hx102_3 := (HB.out.cell (World.block_lt_of_cell? w _ hx102_3)).trans hx102_3
        replace hx102_4 := (HB.out.cell (World.block_lt_of_cell? w _ hx102_4)).trans hx102_4
        replace p102 := eq_true p102
        replace q102 := eq_true q102
        go_wp2_with (first | (first | ((with_reducible refine gate_dst (N := 4) rfl ?_); refine box_event ?hg (N := 4) ?hd (cs := #[.int .u64 0, .int .u64 0, .int .u64 0, .int .u64 0, .int .i64 0]) (t := 53) ?hr ?_; (case hd => rfl); (case hg => rfl); (case hr => first | (go_simp; done) | (go_simp; rfl)); intro gb103 hg w50 hbox hb; have n0_ := Aside0.mk (blk_below (g := gb101) (o := .cells #[.slice (some ad102) l0_0.length c0_0] 29 (0, 0)) u2_1 hb); have n1_ := Aside0.mk (below_step u2_0 hb); have n2_ := Aside0.mk (hbox); have n3_ := Aside0.mk ((by rw [hg]; exact (below_size u2_0) : w.heap.size ≤ gb103)); have n4_ := Aside0.mk ((by rw [hg]; exact (below_size u2_0) : w.heap.size ≤ gb103)); have n5_ := Aside0.mk ((by rw [hg]; exact Nat.ne_of_lt (blk_lt (g := gb101) (o := .cells #[.slice (some ad102) l0_0.length c0_0] 29 (0, 0)) u2_1) : gb101 ≠ gb103)); have n6_ := Aside0.mk ((by rw [hg]; exact Nat.ne_of_gt (blk_lt (g := gb101) (o := .cells #[.slice (some ad102) l0_0.length c0_0] 29 (0, 0)) u2_1) : gb103 ≠ gb101)); clear BK101; clear HB; have BK101 := n0_; have HB := n1_; have BK103 := n2_; have GW103 := n3_; have GE103 := n4_; have NB101_103 := n5_; have NB103_101 := n6_; clear n0_ n1_ n2_ n3_ n4_ n5_ n6_; clear hb hbox hg; have hnb51 := NB103_101.out; have hnc51 := NB101_103.out; have hcz52_0 : w50.cell? ⟨gb103, 0, none⟩ = some (.int .u64 0) := (blk_cell BK103.out 0).trans rfl; have hcz52_1 : w50.cell? ⟨gb103, 1, none⟩ = some (.int .u64 0) := (blk_cell BK103.out 1).trans rfl; have hcz52_2 : w50.cell? ⟨gb103, 2, none⟩ = some (.int .u64 0) := (blk_cell BK103.out 2).trans rfl; have hcz52_3 : w50.cell? ⟨gb103, 3, none⟩ = some (.int .u64 0) := (blk_cell BK103.out 3).trans rfl; have hcz52_4 : w50.cell? ⟨gb103, 4, none⟩ = some (.int .i64 0) := (blk_cell BK103.out 4).trans rfl; have hfz52_0 := blk_frozen BK103.out 0; have hfz52_1 := blk_frozen BK103.out 1; have hfz52_2 := blk_frozen BK103.out 2; have hfz52_3 := blk_frozen BK103.out 3; have hfz52_4 := blk_frozen BK103.out 4)) | go_quiet (fail))
        go_roundg k1
        case measure => have := HK1.out; omega
        case rel => exact ⟨(wrap64 (x12_1 + 1)), u2_18, H', ⟨by have := HK1.out; omega⟩, ⟨u2_2⟩, ⟨u2_3⟩⟩
      rw [if_pos c41] at H
      have c41b0 : decide (0 < x12_1) = true := decide_eq_true c41
      clear c41
      obtain ⟨ji42, hji42⟩ : ∃ j_ : Int, (wrap64 (x12_1 - 1)) = j_ := ⟨_, rfl⟩
      replace H : (if 0 ≤ (ji42) then (if (ji42) < (l0_0.length : Int) then (if ((rd_T53 l0_0 (ji42)).f0) ≥ ((rd_T53 l0_0 x12_1).f0) then (some false) else (impl_isBook.l0 k1 l0_0 (l0_0.length : Int) (wrap64 (x12_1 + 1)) l0_0)) else (none)) else (none)) = some r := by first | (rw [hji42] at H; exact H) | (simp only [hji42] at H ⊢; exact H)
      have hji42w : (IntKind.i64.wrap (x12_1 - 1)) = ji42 := (i64_w _).trans hji42
      by_cases c43 : 0 ≤ (ji42)
      rotate_left
      · rw [if_neg c43] at H
        exact absurd H (by simp)
      rw [if_pos c43] at H
      have c43b0 : decide (0 ≤ (ji42)) = true := decide_eq_true c43
      clear c43
      by_cases c44 : (ji42) < (l0_0.length : Int)
      rotate_left
      · rw [if_neg c44] at H
        exact absurd H (by simp)
      rw [if_pos c44] at H
      have c44b0 : decide ((ji42) < (l0_0.length : Int)) = true := decide_eq_true c44
      clear c44
      have H9 := Aside0.mk H
      clear H
      have p102 : 0 ≤ (x12_1 : Int) := of_decide_eq_true u2_14
      have q102 : x12_1 < (l0_0.length : Int) := of_decide_eq_true u2_14
      obtain ⟨ad102, e102, hx102_0, hx102_1, hx102_2, hx102_3, hx102_4⟩ := at_T53 HR0_0.out x12_1 p102 q102
      cases e102
      replace hx102_0 := (HB.out.cell (World.block_lt_of_cell? w _ hx102_0)).trans hx102_0
      replace hx102_1 := (HB.out.cell (World.block_lt_of_cell? w _ hx102_1)).trans hx102_1
      replace hx102_2 := (HB.out.cell (World.block_lt_of_cell? w _ hx102_2)).trans hx102_2
      replace hx102_3 := (HB.out.cell (World.block_lt_of_cell? w _ hx102_3)).trans hx102_3
      replace hx102_4 := (HB.out.cell (World.block_lt_of_cell? w _ hx102_4)).trans hx102_4
      replace p102 := eq_true p102
      replace q102 := eq_true q102
      go_upto_if 75 with (first | ((with_reducible refine gate_dst (N := 4) rfl ?_); refine box_event ?hg (N := 4) ?hd (cs := #[.int .u64 0, .int .u64 0, .int .u64 0, .int .u64 0, .int .i64 0]) (t := 53) ?hr ?_; (case hd => rfl); (case hg => rfl); (case hr => first | (go_simp; done) | (go_simp; rfl)); intro gb103 hg w45 hbox hb; have n0_ := Aside0.mk (blk_below (g := gb101) (o := .cells #[.slice (some ad102) l0_0.length c0_0] 29 (0, 0)) u2_1 hb); have n1_ := Aside0.mk (below_step u2_0 hb); have n2_ := Aside0.mk (hbox); have n3_ := Aside0.mk ((by rw [hg]; exact (below_size u2_0) : w.heap.size ≤ gb103)); have n4_ := Aside0.mk ((by rw [hg]; exact (below_size u2_0) : w.heap.size ≤ gb103)); have n5_ := Aside0.mk ((by rw [hg]; exact Nat.ne_of_lt (blk_lt (g := gb101) (o := .cells #[.slice (some ad102) l0_0.length c0_0] 29 (0, 0)) u2_1) : gb101 ≠ gb103)); have n6_ := Aside0.mk ((by rw [hg]; exact Nat.ne_of_gt (blk_lt (g := gb101) (o := .cells #[.slice (some ad102) l0_0.length c0_0] 29 (0, 0)) u2_1) : gb103 ≠ gb101)); clear BK101; clear HB; have BK101 := n0_; have HB := n1_; have BK103 := n2_; have GW103 := n3_; have GE103 := n4_; have NB101_103 := n5_; have NB103_101 := n6_; clear n0_ n1_ n2_ n3_ n4_ n5_ n6_; clear hb hbox hg; have hnb46 := NB103_101.out; have hnc46 := NB101_103.out; have hcz47_0 : w45.cell? ⟨gb103, 0, none⟩ = some (.int .u64 0) := (blk_cell BK103.out 0).trans rfl; have hcz47_1 : w45.cell? ⟨gb103, 1, none⟩ = some (.int .u64 0) := (blk_cell BK103.out 1).trans rfl; have hcz47_2 : w45.cell? ⟨gb103, 2, none⟩ = some (.int .u64 0) := (blk_cell BK103.out 2).trans rfl; have hcz47_3 : w45.cell? ⟨gb103, 3, none⟩ = some (.int .u64 0) := (blk_cell BK103.out 3).trans rfl; have hcz47_4 : w45.cell? ⟨gb103, 4, none⟩ = some (.int .i64 0) := (blk_cell BK103.out 4).trans rfl; have hfz47_0 := blk_frozen BK103.out 0; have hfz47_1 := blk_frozen BK103.out 1; have hfz47_2 := blk_frozen BK103.out 2; have hfz47_3 := blk_frozen BK103.out 3; have hfz47_4 := blk_frozen BK103.out 4; have hcz48_0 : w45.cell? ⟨gb101, 0, none⟩ = some (.slice (some ad102) l0_0.length c0_0) := (blk_cell BK101.out 0).trans rfl; have hfz48_0 := blk_frozen BK101.out 0; have p105 : 0 ≤ ((ji42) : Int) := of_decide_eq_true u2_14; have q105 : (ji42) < (l0_0.length : Int) := of_decide_eq_true u2_14; obtain ⟨ad105, e105, hx105_0, hx105_1, hx105_2, hx105_3, hx105_4⟩ := at_T53 HR0_0.out (ji42) p105 q105; obtain rfl : ad102 = ad105 := (by injection e105); have hn105_0 : ad102.block ≠ gb103 := Nat.ne_of_lt (Nat.lt_of_lt_of_le u2_15 GW103.out); have hn105_1 : ad102.block ≠ gb103 := Nat.ne_of_lt (Nat.lt_of_lt_of_le u2_15 GW103.out); have hn105_2 : ad102.block ≠ gb103 := Nat.ne_of_lt (Nat.lt_of_lt_of_le u2_15 GW103.out); have hn105_3 : ad102.block ≠ gb103 := Nat.ne_of_lt (Nat.lt_of_lt_of_le u2_15 GW103.out); have hn105_4 : ad102.block ≠ gb103 := Nat.ne_of_lt (Nat.lt_of_lt_of_le u2_15 GW103.out); replace hx105_0 := (HB.out.cell (World.block_lt_of_cell? w _ hx105_0)).trans hx105_0; replace hx105_1 := (HB.out.cell (World.block_lt_of_cell? w _ hx105_1)).trans hx105_1; replace hx105_2 := (HB.out.cell (World.block_lt_of_cell? w _ hx105_2)).trans hx105_2; replace hx105_3 := (HB.out.cell (World.block_lt_of_cell? w _ hx105_3)).trans hx105_3; replace hx105_4 := (HB.out.cell (World.block_lt_of_cell? w _ hx105_4)).trans hx105_4; replace hx105_0 := (cell_far (p := ⟨gb103, 0, none⟩) u2_4 (.int .u64 ((rd_T53 l0_0 x12_1).f0))).trans hx105_0; replace hx105_1 := (cell_far (p := ⟨gb103, 0, none⟩) u2_4 (.int .u64 ((rd_T53 l0_0 x12_1).f0))).trans hx105_1; replace hx105_2 := (cell_far (p := ⟨gb103, 0, none⟩) u2_4 (.int .u64 ((rd_T53 l0_0 x12_1).f0))).trans hx105_2; replace hx105_3 := (cell_far (p := ⟨gb103, 0, none⟩) u2_4 (.int .u64 ((rd_T53 l0_0 x12_1).f0))).trans hx105_3; replace hx105_4 := (cell_far (p := ⟨gb103, 0, none⟩) u2_4 (.int .u64 ((rd_T53 l0_0 x12_1).f0))).trans hx105_4; replace hx105_0 := (cell_far (p := ⟨gb103, 1, none⟩) u2_5 (.int .u64 ((rd_T53 l0_0 x12_1).f1))).trans hx105_0; replace hx105_1 := (cell_far (p := ⟨gb103, 1, none⟩) u2_5 (.int .u64 ((rd_T53 l0_0 x12_1).f1))).trans hx105_1; replace hx105_2 := (cell_far (p := ⟨gb103, 1, none⟩) u2_5 (.int .u64 ((rd_T53 l0_0 x12_1).f1))).trans hx105_2; replace hx105_3 := (cell_far (p := ⟨gb103, 1, none⟩) u2_5 (.int .u64 ((rd_T53 l0_0 x12_1).f1))).trans hx105_3; replace hx105_4 := (cell_far (p := ⟨gb103, 1, none⟩) u2_5 (.int .u64 ((rd_T53 l0_0 x12_1).f1))).trans hx105_4; replace hx105_0 := (cell_far (p := ⟨gb103, 2, none⟩) u2_6 (.int .u64 ((rd_T53 l0_0 x12_1).f2))).trans hx105_0; replace hx105_1 := (cell_far (p := ⟨gb103, 2, none⟩) u2_6 (.int .u64 ((rd_T53 l0_0 x12_1).f2))).trans hx105_1; replace hx105_2 := (cell_far (p := ⟨gb103, 2, none⟩) u2_6 (.int .u64 ((rd_T53 l0_0 x12_1).f2))).trans hx105_2; replace hx105_3 := (cell_far (p := ⟨gb103, 2, none⟩) u2_6 (.int .u64 ((rd_T53 l0_0 x12_1).f2))).trans hx105_3; replace hx105_4 := (cell_far (p := ⟨gb103, 2, none⟩) u2_6 (.int .u64 ((rd_T53 l0_0 x12_1).f2))).trans hx105_4; replace hx105_0 := (cell_far (p := ⟨gb103, 3, none⟩) u2_7 (.int .u64 ((rd_T53 l0_0 x12_1).f3))).trans hx105_0; replace hx105_1 := (cell_far (p := ⟨gb103, 3, none⟩) u2_7 (.int .u64 ((rd_T53 l0_0 x12_1).f3))).trans hx105_1; replace hx105_2 := (cell_far (p := ⟨gb103, 3, none⟩) u2_7 (.int .u64 ((rd_T53 l0_0 x12_1).f3))).trans hx105_2; replace hx105_3 := (cell_far (p := ⟨gb103, 3, none⟩) u2_7 (.int .u64 ((rd_T53 l0_0 x12_1).f3))).trans hx105_3; replace hx105_4 := (cell_far (p := ⟨gb103, 3, none⟩) u2_7 (.int .u64 ((rd_T53 l0_0 x12_1).f3))).trans hx105_4; replace hx105_0 := (cell_far (p := ⟨gb103, 4, none⟩) u2_8 (.int .i64 ((rd_T53 l0_0 x12_1).f4))).trans hx105_0; replace hx105_1 := (cell_far (p := ⟨gb103, 4, none⟩) u2_8 (.int .i64 ((rd_T53 l0_0 x12_1).f4))).trans hx105_1; replace hx105_2 := (cell_far (p := ⟨gb103, 4, none⟩) u2_8 (.int .i64 ((rd_T53 l0_0 x12_1).f4))).trans hx105_2; replace hx105_3 := (cell_far (p := ⟨gb103, 4, none⟩) u2_8 (.int .i64 ((rd_T53 l0_0 x12_1).f4))).trans hx105_3; replace hx105_4 := (cell_far (p := ⟨gb103, 4, none⟩) u2_8 (.int .i64 ((rd_T53 l0_0 x12_1).f4))).trans hx105_4; (try have hch_ := fun (n_ : Nat) => (show (((((((w45.drewN n_).setCell ⟨gb103, 0, none⟩ (.int .u64 ((rd_T53 l0_0 x12_1).f0))).setCell ⟨gb103, 1, none⟩ (.int .u64 ((rd_T53 l0_0 x12_1).f1))).setCell ⟨gb103, 2, none⟩ (.int .u64 ((rd_T53 l0_0 x12_1).f2))).setCell ⟨gb103, 3, none⟩ (.int .u64 ((rd_T53 l0_0 x12_1).f3))).setCell ⟨gb103, 4, none⟩ (.int .i64 ((rd_T53 l0_0 x12_1).f4)))) = World.drewN ((((((w45.setCell ⟨gb103, 0, none⟩ (.int .u64 ((rd_T53 l0_0 x12_1).f0))).setCell ⟨gb103, 1, none⟩ (.int .u64 ((rd_T53 l0_0 x12_1).f1))).setCell ⟨gb103, 2, none⟩ (.int .u64 ((rd_T53 l0_0 x12_1).f2))).setCell ⟨gb103, 3, none⟩ (.int .u64 ((rd_T53 l0_0 x12_1).f3))).setCell ⟨gb103, 4, none⟩ (.int .i64 ((rd_T53 l0_0 x12_1).f4)))) n_ from by simp only [Go.Proofs.Ytdbfjakhkclggaa.Slc.setCell_drewN])); (try have hy105_0 := fun (n_ : Nat) => Go.Proofs.Ytdbfjakhkclggaa.Slc.cell_of (hch_ n_) hx105_0); (try have hy105_1 := fun (n_ : Nat) => Go.Proofs.Ytdbfjakhkclggaa.Slc.cell_of (hch_ n_) hx105_1); (try have hy105_2 := fun (n_ : Nat) => Go.Proofs.Ytdbfjakhkclggaa.Slc.cell_of (hch_ n_) hx105_2); (try have hy105_3 := fun (n_ : Nat) => Go.Proofs.Ytdbfjakhkclggaa.Slc.cell_of (hch_ n_) hx105_3); (try have hy105_4 := fun (n_ : Nat) => Go.Proofs.Ytdbfjakhkclggaa.Slc.cell_of (hch_ n_) hx105_4); clear hn105_0; clear hn105_1; clear hn105_2; clear hn105_3; clear hn105_4; replace p105 := eq_true p105; replace q105 := eq_true q105))
      repeat (go_quiet (first | ((with_reducible refine gate_dst (N := 4) rfl ?_); refine box_event ?hg (N := 4) ?hd (cs := #[.int .u64 0, .int .u64 0, .int .u64 0, .int .u64 0, .int .i64 0]) (t := 53) ?hr ?_; (case hd => rfl); (case hg => rfl); (case hr => first | (go_simp; done) | (go_simp; rfl)); intro gb103 hg w45 hbox hb; have n0_ := Aside0.mk (blk_below (g := gb101) (o := .cells #[.slice (some ad102) l0_0.length c0_0] 29 (0, 0)) u2_1 hb); have n1_ := Aside0.mk (below_step u2_0 hb); have n2_ := Aside0.mk (hbox); have n3_ := Aside0.mk ((by rw [hg]; exact (below_size u2_0) : w.heap.size ≤ gb103)); have n4_ := Aside0.mk ((by rw [hg]; exact (below_size u2_0) : w.heap.size ≤ gb103)); have n5_ := Aside0.mk ((by rw [hg]; exact Nat.ne_of_lt (blk_lt (g := gb101) (o := .cells #[.slice (some ad102) l0_0.length c0_0] 29 (0, 0)) u2_1) : gb101 ≠ gb103)); have n6_ := Aside0.mk ((by rw [hg]; exact Nat.ne_of_gt (blk_lt (g := gb101) (o := .cells #[.slice (some ad102) l0_0.length c0_0] 29 (0, 0)) u2_1) : gb103 ≠ gb101)); clear BK101; clear HB; have BK101 := n0_; have HB := n1_; have BK103 := n2_; have GW103 := n3_; have GE103 := n4_; have NB101_103 := n5_; have NB103_101 := n6_; clear n0_ n1_ n2_ n3_ n4_ n5_ n6_; clear hb hbox hg; have hnb46 := NB103_101.out; have hnc46 := NB101_103.out; have hcz47_0 : w45.cell? ⟨gb103, 0, none⟩ = some (.int .u64 0) := (blk_cell BK103.out 0).trans rfl; have hcz47_1 : w45.cell? ⟨gb103, 1, none⟩ = some (.int .u64 0) := (blk_cell BK103.out 1).trans rfl; have hcz47_2 : w45.cell? ⟨gb103, 2, none⟩ = some (.int .u64 0) := (blk_cell BK103.out 2).trans rfl; have hcz47_3 : w45.cell? ⟨gb103, 3, none⟩ = some (.int .u64 0) := (blk_cell BK103.out 3).trans rfl; have hcz47_4 : w45.cell? ⟨gb103, 4, none⟩ = some (.int .i64 0) := (blk_cell BK103.out 4).trans rfl; have hfz47_0 := blk_frozen BK103.out 0; have hfz47_1 := blk_frozen BK103.out 1; have hfz47_2 := blk_frozen BK103.out 2; have hfz47_3 := blk_frozen BK103.out 3; have hfz47_4 := blk_frozen BK103.out 4; have hcz48_0 : w45.cell? ⟨gb101, 0, none⟩ = some (.slice (some ad102) l0_0.length c0_0) := (blk_cell BK101.out 0).trans rfl; have hfz48_0 := blk_frozen BK101.out 0; have p105 : 0 ≤ ((ji42) : Int) := of_decide_eq_true u2_14; have q105 : (ji42) < (l0_0.length : Int) := of_decide_eq_true u2_14; obtain ⟨ad105, e105, hx105_0, hx105_1, hx105_2, hx105_3, hx105_4⟩ := at_T53 HR0_0.out (ji42) p105 q105; obtain rfl : ad102 = ad105 := (by injection e105); have hn105_0 : ad102.block ≠ gb103 := Nat.ne_of_lt (Nat.lt_of_lt_of_le u2_15 GW103.out); have hn105_1 : ad102.block ≠ gb103 := Nat.ne_of_lt (Nat.lt_of_lt_of_le u2_15 GW103.out); have hn105_2 : ad102.block ≠ gb103 := Nat.ne_of_lt (Nat.lt_of_lt_of_le u2_15 GW103.out); have hn105_3 : ad102.block ≠ gb103 := Nat.ne_of_lt (Nat.lt_of_lt_of_le u2_15 GW103.out); have hn105_4 : ad102.block ≠ gb103 := Nat.ne_of_lt (Nat.lt_of_lt_of_le u2_15 GW103.out); replace hx105_0 := (HB.out.cell (World.block_lt_of_cell? w _ hx105_0)).trans hx105_0; replace hx105_1 := (HB.out.cell (World.block_lt_of_cell? w _ hx105_1)).trans hx105_1; replace hx105_2 := (HB.out.cell (World.block_lt_of_cell? w _ hx105_2)).trans hx105_2; replace hx105_3 := (HB.out.cell (World.block_lt_of_cell? w _ hx105_3)).trans hx105_3; replace hx105_4 := (HB.out.cell (World.block_lt_of_cell? w _ hx105_4)).trans hx105_4; replace hx105_0 := (cell_far (p := ⟨gb103, 0, none⟩) u2_4 (.int .u64 ((rd_T53 l0_0 x12_1).f0))).trans hx105_0; replace hx105_1 := (cell_far (p := ⟨gb103, 0, none⟩) u2_4 (.int .u64 ((rd_T53 l0_0 x12_1).f0))).trans hx105_1; replace hx105_2 := (cell_far (p := ⟨gb103, 0, none⟩) u2_4 (.int .u64 ((rd_T53 l0_0 x12_1).f0))).trans hx105_2; replace hx105_3 := (cell_far (p := ⟨gb103, 0, none⟩) u2_4 (.int .u64 ((rd_T53 l0_0 x12_1).f0))).trans hx105_3; replace hx105_4 := (cell_far (p := ⟨gb103, 0, none⟩) u2_4 (.int .u64 ((rd_T53 l0_0 x12_1).f0))).trans hx105_4; replace hx105_0 := (cell_far (p := ⟨gb103, 1, none⟩) u2_5 (.int .u64 ((rd_T53 l0_0 x12_1).f1))).trans hx105_0; replace hx105_1 := (cell_far (p := ⟨gb103, 1, none⟩) u2_5 (.int .u64 ((rd_T53 l0_0 x12_1).f1))).trans hx105_1; replace hx105_2 := (cell_far (p := ⟨gb103, 1, none⟩) u2_5 (.int .u64 ((rd_T53 l0_0 x12_1).f1))).trans hx105_2; replace hx105_3 := (cell_far (p := ⟨gb103, 1, none⟩) u2_5 (.int .u64 ((rd_T53 l0_0 x12_1).f1))).trans hx105_3; replace hx105_4 := (cell_far (p := ⟨gb103, 1, none⟩) u2_5 (.int .u64 ((rd_T53 l0_0 x12_1).f1))).trans hx105_4; replace hx105_0 := (cell_far (p := ⟨gb103, 2, none⟩) u2_6 (.int .u64 ((rd_T53 l0_0 x12_1).f2))).trans hx105_0; replace hx105_1 := (cell_far (p := ⟨gb103, 2, none⟩) u2_6 (.int .u64 ((rd_T53 l0_0 x12_1).f2))).trans hx105_1; replace hx105_2 := (cell_far (p := ⟨gb103, 2, none⟩) u2_6 (.int .u64 ((rd_T53 l0_0 x12_1).f2))).trans hx105_2; replace hx105_3 := (cell_far (p := ⟨gb103, 2, none⟩) u2_6 (.int .u64 ((rd_T53 l0_0 x12_1).f2))).trans hx105_3; replace hx105_4 := (cell_far (p := ⟨gb103, 2, none⟩) u2_6 (.int .u64 ((rd_T53 l0_0 x12_1).f2))).trans hx105_4; replace hx105_0 := (cell_far (p := ⟨gb103, 3, none⟩) u2_7 (.int .u64 ((rd_T53 l0_0 x12_1).f3))).trans hx105_0; replace hx105_1 := (cell_far (p := ⟨gb103, 3, none⟩) u2_7 (.int .u64 ((rd_T53 l0_0 x12_1).f3))).trans hx105_1; replace hx105_2 := (cell_far (p := ⟨gb103, 3, none⟩) u2_7 (.int .u64 ((rd_T53 l0_0 x12_1).f3))).trans hx105_2; replace hx105_3 := (cell_far (p := ⟨gb103, 3, none⟩) u2_7 (.int .u64 ((rd_T53 l0_0 x12_1).f3))).trans hx105_3; replace hx105_4 := (cell_far (p := ⟨gb103, 3, none⟩) u2_7 (.int .u64 ((rd_T53 l0_0 x12_1).f3))).trans hx105_4; replace hx105_0 := (cell_far (p := ⟨gb103, 4, none⟩) u2_8 (.int .i64 ((rd_T53 l0_0 x12_1).f4))).trans hx105_0; replace hx105_1 := (cell_far (p := ⟨gb103, 4, none⟩) u2_8 (.int .i64 ((rd_T53 l0_0 x12_1).f4))).trans hx105_1; replace hx105_2 := (cell_far (p := ⟨gb103, 4, none⟩) u2_8 (.int .i64 ((rd_T53 l0_0 x12_1).f4))).trans hx105_2; replace hx105_3 := (cell_far (p := ⟨gb103, 4, none⟩) u2_8 (.int .i64 ((rd_T53 l0_0 x12_1).f4))).trans hx105_3; replace hx105_4 := (cell_far (p := ⟨gb103, 4, none⟩) u2_8 (.int .i64 ((rd_T53 l0_0 x12_1).f4))).trans hx105_4; (try have hch_ := fun (n_ : Nat) => (show (((((((w45.drewN n_).setCell ⟨gb103, 0, none⟩ (.int .u64 ((rd_T53 l0_0 x12_1).f0))).setCell ⟨gb103, 1, none⟩ (.int .u64 ((rd_T53 l0_0 x12_1).f1))).setCell ⟨gb103, 2, none⟩ (.int .u64 ((rd_T53 l0_0 x12_1).f2))).setCell ⟨gb103, 3, none⟩ (.int .u64 ((rd_T53 l0_0 x12_1).f3))).setCell ⟨gb103, 4, none⟩ (.int .i64 ((rd_T53 l0_0 x12_1).f4)))) = World.drewN ((((((w45.setCell ⟨gb103, 0, none⟩ (.int .u64 ((rd_T53 l0_0 x12_1).f0))).setCell ⟨gb103, 1, none⟩ (.int .u64 ((rd_T53 l0_0 x12_1).f1))).setCell ⟨gb103, 2, none⟩ (.int .u64 ((rd_T53 l0_0 x12_1).f2))).setCell ⟨gb103, 3, none⟩ (.int .u64 ((rd_T53 l0_0 x12_1).f3))).setCell ⟨gb103, 4, none⟩ (.int .i64 ((rd_T53 l0_0 x12_1).f4)))) n_ from by simp only [Go.Proofs.Ytdbfjakhkclggaa.Slc.setCell_drewN])); (try have hy105_0 := fun (n_ : Nat) => Go.Proofs.Ytdbfjakhkclggaa.Slc.cell_of (hch_ n_) hx105_0); (try have hy105_1 := fun (n_ : Nat) => Go.Proofs.Ytdbfjakhkclggaa.Slc.cell_of (hch_ n_) hx105_1); (try have hy105_2 := fun (n_ : Nat) => Go.Proofs.Ytdbfjakhkclggaa.Slc.cell_of (hch_ n_) hx105_2); (try have hy105_3 := fun (n_ : Nat) => Go.Proofs.Ytdbfjakhkclggaa.Slc.cell_of (hch_ n_) hx105_3); (try have hy105_4 := fun (n_ : Nat) => Go.Proofs.Ytdbfjakhkclggaa.Slc.cell_of (hch_ n_) hx105_4); clear hn105_0; clear hn105_1; clear hn105_2; clear hn105_3; clear hn105_4; replace p105 := eq_true p105; replace q105 := eq_true q105)); go_upto_if 75 with (first | ((with_reducible refine gate_dst (N := 4) rfl ?_); refine box_event ?hg (N := 4) ?hd (cs := #[.int .u64 0, .int .u64 0, .int .u64 0, .int .u64 0, .int .i64 0]) (t := 53) ?hr ?_; (case hd => rfl); (case hg => rfl); (case hr => first | (go_simp; done) | (go_simp; rfl)); intro gb103 hg w45 hbox hb; have n0_ := Aside0.mk (blk_below (g := gb101) (o := .cells #[.slice (some ad102) l0_0.length c0_0] 29 (0, 0)) u2_1 hb); have n1_ := Aside0.mk (below_step u2_0 hb); have n2_ := Aside0.mk (hbox); have n3_ := Aside0.mk ((by rw [hg]; exact (below_size u2_0) : w.heap.size ≤ gb103)); have n4_ := Aside0.mk ((by rw [hg]; exact (below_size u2_0) : w.heap.size ≤ gb103)); have n5_ := Aside0.mk ((by rw [hg]; exact Nat.ne_of_lt (blk_lt (g := gb101) (o := .cells #[.slice (some ad102) l0_0.length c0_0] 29 (0, 0)) u2_1) : gb101 ≠ gb103)); have n6_ := Aside0.mk ((by rw [hg]; exact Nat.ne_of_gt (blk_lt (g := gb101) (o := .cells #[.slice (some ad102) l0_0.length c0_0] 29 (0, 0)) u2_1) : gb103 ≠ gb101)); clear BK101; clear HB; have BK101 := n0_; have HB := n1_; have BK103 := n2_; have GW103 := n3_; have GE103 := n4_; have NB101_103 := n5_; have NB103_101 := n6_; clear n0_ n1_ n2_ n3_ n4_ n5_ n6_; clear hb hbox hg; have hnb46 := NB103_101.out; have hnc46 := NB101_103.out; have hcz47_0 : w45.cell? ⟨gb103, 0, none⟩ = some (.int .u64 0) := (blk_cell BK103.out 0).trans rfl; have hcz47_1 : w45.cell? ⟨gb103, 1, none⟩ = some (.int .u64 0) := (blk_cell BK103.out 1).trans rfl; have hcz47_2 : w45.cell? ⟨gb103, 2, none⟩ = some (.int .u64 0) := (blk_cell BK103.out 2).trans rfl; have hcz47_3 : w45.cell? ⟨gb103, 3, none⟩ = some (.int .u64 0) := (blk_cell BK103.out 3).trans rfl; have hcz47_4 : w45.cell? ⟨gb103, 4, none⟩ = some (.int .i64 0) := (blk_cell BK103.out 4).trans rfl; have hfz47_0 := blk_frozen BK103.out 0; have hfz47_1 := blk_frozen BK103.out 1; have hfz47_2 := blk_frozen BK103.out 2; have hfz47_3 := blk_frozen BK103.out 3; have hfz47_4 := blk_frozen BK103.out 4; have hcz48_0 : w45.cell? ⟨gb101, 0, none⟩ = some (.slice (some ad102) l0_0.length c0_0) := (blk_cell BK101.out 0).trans rfl; have hfz48_0 := blk_frozen BK101.out 0; have p105 : 0 ≤ ((ji42) : Int) := of_decide_eq_true u2_14; have q105 : (ji42) < (l0_0.length : Int) := of_decide_eq_true u2_14; obtain ⟨ad105, e105, hx105_0, hx105_1, hx105_2, hx105_3, hx105_4⟩ := at_T53 HR0_0.out (ji42) p105 q105; obtain rfl : ad102 = ad105 := (by injection e105); have hn105_0 : ad102.block ≠ gb103 := Nat.ne_of_lt (Nat.lt_of_lt_of_le u2_15 GW103.out); have hn105_1 : ad102.block ≠ gb103 := Nat.ne_of_lt (Nat.lt_of_lt_of_le u2_15 GW103.out); have hn105_2 : ad102.block ≠ gb103 := Nat.ne_of_lt (Nat.lt_of_lt_of_le u2_15 GW103.out); have hn105_3 : ad102.block ≠ gb103 := Nat.ne_of_lt (Nat.lt_of_lt_of_le u2_15 GW103.out); have hn105_4 : ad102.block ≠ gb103 := Nat.ne_of_lt (Nat.lt_of_lt_of_le u2_15 GW103.out); replace hx105_0 := (HB.out.cell (World.block_lt_of_cell? w _ hx105_0)).trans hx105_0; replace hx105_1 := (HB.out.cell (World.block_lt_of_cell? w _ hx105_1)).trans hx105_1; replace hx105_2 := (HB.out.cell (World.block_lt_of_cell? w _ hx105_2)).trans hx105_2; replace hx105_3 := (HB.out.cell (World.block_lt_of_cell? w _ hx105_3)).trans hx105_3; replace hx105_4 := (HB.out.cell (World.block_lt_of_cell? w _ hx105_4)).trans hx105_4; replace hx105_0 := (cell_far (p := ⟨gb103, 0, none⟩) u2_4 (.int .u64 ((rd_T53 l0_0 x12_1).f0))).trans hx105_0; replace hx105_1 := (cell_far (p := ⟨gb103, 0, none⟩) u2_4 (.int .u64 ((rd_T53 l0_0 x12_1).f0))).trans hx105_1; replace hx105_2 := (cell_far (p := ⟨gb103, 0, none⟩) u2_4 (.int .u64 ((rd_T53 l0_0 x12_1).f0))).trans hx105_2; replace hx105_3 := (cell_far (p := ⟨gb103, 0, none⟩) u2_4 (.int .u64 ((rd_T53 l0_0 x12_1).f0))).trans hx105_3; replace hx105_4 := (cell_far (p := ⟨gb103, 0, none⟩) u2_4 (.int .u64 ((rd_T53 l0_0 x12_1).f0))).trans hx105_4; replace hx105_0 := (cell_far (p := ⟨gb103, 1, none⟩) u2_5 (.int .u64 ((rd_T53 l0_0 x12_1).f1))).trans hx105_0; replace hx105_1 := (cell_far (p := ⟨gb103, 1, none⟩) u2_5 (.int .u64 ((rd_T53 l0_0 x12_1).f1))).trans hx105_1; replace hx105_2 := (cell_far (p := ⟨gb103, 1, none⟩) u2_5 (.int .u64 ((rd_T53 l0_0 x12_1).f1))).trans hx105_2; replace hx105_3 := (cell_far (p := ⟨gb103, 1, none⟩) u2_5 (.int .u64 ((rd_T53 l0_0 x12_1).f1))).trans hx105_3; replace hx105_4 := (cell_far (p := ⟨gb103, 1, none⟩) u2_5 (.int .u64 ((rd_T53 l0_0 x12_1).f1))).trans hx105_4; replace hx105_0 := (cell_far (p := ⟨gb103, 2, none⟩) u2_6 (.int .u64 ((rd_T53 l0_0 x12_1).f2))).trans hx105_0; replace hx105_1 := (cell_far (p := ⟨gb103, 2, none⟩) u2_6 (.int .u64 ((rd_T53 l0_0 x12_1).f2))).trans hx105_1; replace hx105_2 := (cell_far (p := ⟨gb103, 2, none⟩) u2_6 (.int .u64 ((rd_T53 l0_0 x12_1).f2))).trans hx105_2; replace hx105_3 := (cell_far (p := ⟨gb103, 2, none⟩) u2_6 (.int .u64 ((rd_T53 l0_0 x12_1).f2))).trans hx105_3; replace hx105_4 := (cell_far (p := ⟨gb103, 2, none⟩) u2_6 (.int .u64 ((rd_T53 l0_0 x12_1).f2))).trans hx105_4; replace hx105_0 := (cell_far (p := ⟨gb103, 3, none⟩) u2_7 (.int .u64 ((rd_T53 l0_0 x12_1).f3))).trans hx105_0; replace hx105_1 := (cell_far (p := ⟨gb103, 3, none⟩) u2_7 (.int .u64 ((rd_T53 l0_0 x12_1).f3))).trans hx105_1; replace hx105_2 := (cell_far (p := ⟨gb103, 3, none⟩) u2_7 (.int .u64 ((rd_T53 l0_0 x12_1).f3))).trans hx105_2; replace hx105_3 := (cell_far (p := ⟨gb103, 3, none⟩) u2_7 (.int .u64 ((rd_T53 l0_0 x12_1).f3))).trans hx105_3; replace hx105_4 := (cell_far (p := ⟨gb103, 3, none⟩) u2_7 (.int .u64 ((rd_T53 l0_0 x12_1).f3))).trans hx105_4; replace hx105_0 := (cell_far (p := ⟨gb103, 4, none⟩) u2_8 (.int .i64 ((rd_T53 l0_0 x12_1).f4))).trans hx105_0; replace hx105_1 := (cell_far (p := ⟨gb103, 4, none⟩) u2_8 (.int .i64 ((rd_T53 l0_0 x12_1).f4))).trans hx105_1; replace hx105_2 := (cell_far (p := ⟨gb103, 4, none⟩) u2_8 (.int .i64 ((rd_T53 l0_0 x12_1).f4))).trans hx105_2; replace hx105_3 := (cell_far (p := ⟨gb103, 4, none⟩) u2_8 (.int .i64 ((rd_T53 l0_0 x12_1).f4))).trans hx105_3; replace hx105_4 := (cell_far (p := ⟨gb103, 4, none⟩) u2_8 (.int .i64 ((rd_T53 l0_0 x12_1).f4))).trans hx105_4; (try have hch_ := fun (n_ : Nat) => (show (((((((w45.drewN n_).setCell ⟨gb103, 0, none⟩ (.int .u64 ((rd_T53 l0_0 x12_1).f0))).setCell ⟨gb103, 1, none⟩ (.int .u64 ((rd_T53 l0_0 x12_1).f1))).setCell ⟨gb103, 2, none⟩ (.int .u64 ((rd_T53 l0_0 x12_1).f2))).setCell ⟨gb103, 3, none⟩ (.int .u64 ((rd_T53 l0_0 x12_1).f3))).setCell ⟨gb103, 4, none⟩ (.int .i64 ((rd_T53 l0_0 x12_1).f4)))) = World.drewN ((((((w45.setCell ⟨gb103, 0, none⟩ (.int .u64 ((rd_T53 l0_0 x12_1).f0))).setCell ⟨gb103, 1, none⟩ (.int .u64 ((rd_T53 l0_0 x12_1).f1))).setCell ⟨gb103, 2, none⟩ (.int .u64 ((rd_T53 l0_0 x12_1).f2))).setCell ⟨gb103, 3, none⟩ (.int .u64 ((rd_T53 l0_0 x12_1).f3))).setCell ⟨gb103, 4, none⟩ (.int .i64 ((rd_T53 l0_0 x12_1).f4)))) n_ from by simp only [Go.Proofs.Ytdbfjakhkclggaa.Slc.setCell_drewN])); (try have hy105_0 := fun (n_ : Nat) => Go.Proofs.Ytdbfjakhkclggaa.Slc.cell_of (hch_ n_) hx105_0); (try have hy105_1 := fun (n_ : Nat) => Go.Proofs.Ytdbfjakhkclggaa.Slc.cell_of (hch_ n_) hx105_1); (try have hy105_2 := fun (n_ : Nat) => Go.Proofs.Ytdbfjakhkclggaa.Slc.cell_of (hch_ n_) hx105_2); (try have hy105_3 := fun (n_ : Nat) => Go.Proofs.Ytdbfjakhkclggaa.Slc.cell_of (hch_ n_) hx105_3); (try have hy105_4 := fun (n_ : Nat) => Go.Proofs.Ytdbfjakhkclggaa.Slc.cell_of (hch_ n_) hx105_4); clear hn105_0; clear hn105_1; clear hn105_2; clear hn105_3; clear hn105_4; replace p105 := eq_true p105; replace q105 := eq_true q105)))
      have H := H9.out
      clear H9
      by_cases c49 : ((rd_T53 l0_0 (ji42)).f0) ≥ ((rd_T53 l0_0 x12_1).f0)
      · rw [if_pos c49] at H
        have c49b0 : decide (((rd_T53 l0_0 x12_1).f0) ≤ ((rd_T53 l0_0 (ji42)).f0)) = true := decide_eq_true c49
        clear c49
        (first | rw [c49b0] | (simp only [i64_w, i32_w]; rw [c49b0]) | skip)
        obtain rfl := Option.some.inj H
        go_wp2
        repeat (go_quiet (fail); try go_wp2)
        go_ret
        exact ⟨by first | rfl | (simp [errW_none, errW_some] <;> rfl) | (simp only [← hji9, ← hji42]; first | rfl | (simp [errW_none, errW_some] <;> rfl)) | (simp [*, errW_none, errW_some] <;> rfl), u2_3⟩
      rw [if_neg c49] at H
      have c49b0 : decide (((rd_T53 l0_0 x12_1).f0) ≤ ((rd_T53 l0_0 (ji42)).f0)) = false := decide_eq_false c49
      clear c49
      (first | rw [c49b0] | (simp only [i64_w, i32_w]; rw [c49b0]) | skip)
      have H' := Aside0.mk H
      clear H
      go_wp2
      repeat (go_quiet (fail); try go_wp2)
      go_roundg k1
      case measure => have := HK1.out; omega
      case rel => exact ⟨(wrap64 (x12_1 + 1)), u2_18, H', ⟨by have := HK1.out; omega⟩, ⟨u2_2⟩, ⟨u2_3⟩⟩
    rw [if_pos c20] at H
    have c20b0 : (((rd_T53 l0_0 x12_1).f4) == 0) = true := beq_iff_eq.mpr c20
    have c20b1 : (((rd_T53 l0_0 x12_1).f4) != 0) = false := bne_eq_false_iff_eq.mpr c20
    clear c20
    by_cases c21 : ((rd_T53 l0_0 x12_1).f2) = 0
    rotate_left
    · rw [if_neg c21] at H
      have c21b0 : (((rd_T53 l0_0 x12_1).f2) == 0) = false := beq_eq_false_iff_ne.mpr c21
      have c21b1 : (((rd_T53 l0_0 x12_1).f2) != 0) = true := bne_iff_ne.mpr c21
      obtain rfl := Option.some.inj H
      have p102 : 0 ≤ (x12_1 : Int) := of_decide_eq_true u2_14
      have q102 : x12_1 < (l0_0.length : Int) := of_decide_eq_true u2_14
      obtain ⟨ad102, e102, hx102_0, hx102_1, hx102_2, hx102_3, hx102_4⟩ := at_T53 HR0_0.out x12_1 p102 q102
      cases e102
      replace hx102_0 := (HB.out.cell (World.block_lt_of_cell? w _ hx102_0)).trans hx102_0
      replace hx102_1 := (HB.out.cell (World.block_lt_of_cell? w _ hx102_1)).trans hx102_1
      replace hx102_2 := (HB.out.cell (World.block_lt_of_cell? w _ hx102_2)).trans hx102_2
      replace hx102_3 := (HB.out.cell (World.block_lt_of_cell? w _ hx102_3)).trans hx102_3
      replace hx102_4 := (HB.out.cell (World.block_lt_of_cell? w _ hx102_4)).trans hx102_4
      replace p102 := eq_true p102
      replace q102 := eq_true q102
      go_wp2_with (first | (first | ((with_reducible refine gate_dst (N := 4) rfl ?_); refine box_event ?hg (N := 4) ?hd (cs := #[.int .u64 0, .int .u64 0, .int .u64 0, .int .u64 0, .int .i64 0]) (t := 53) ?hr ?_; (case hd => rfl); (case hg => rfl); (case hr => first | (go_simp; done) | (go_simp; rfl)); intro gb103 hg w38 hbox hb; have n0_ := Aside0.mk (blk_below (g := gb101) (o := .cells #[.slice (some ad102) l0_0.length c0_0] 29 (0, 0)) u2_1 hb); have n1_ := Aside0.mk (below_step u2_0 hb); have n2_ := Aside0.mk (hbox); have n3_ := Aside0.mk ((by rw [hg]; exact (below_size u2_0) : w.heap.size ≤ gb103)); have n4_ := Aside0.mk ((by rw [hg]; exact (below_size u2_0) : w.heap.size ≤ gb103)); have n5_ := Aside0.mk ((by rw [hg]; exact Nat.ne_of_lt (blk_lt (g := gb101) (o := .cells #[.slice (some ad102) l0_0.length c0_0] 29 (0, 0)) u2_1) : gb101 ≠ gb103)); have n6_ := Aside0.mk ((by rw [hg]; exact Nat.ne_of_gt (blk_lt (g := gb101) (o := .cells #[.slice (some ad102) l0_0.length c0_0] 29 (0, 0)) u2_1) : gb103 ≠ gb101)); clear BK101; clear HB; have BK101 := n0_; have HB := n1_; have BK103 := n2_; have GW103 := n3_; have GE103 := n4_; have NB101_103 := n5_; have NB103_101 := n6_; clear n0_ n1_ n2_ n3_ n4_ n5_ n6_; clear hb hbox hg; have hnb39 := NB103_101.out; have hnc39 := NB101_103.out; have hcz40_0 : w38.cell? ⟨gb103, 0, none⟩ = some (.int .u64 0) := (blk_cell BK103.out 0).trans rfl; have hcz40_1 : w38.cell? ⟨gb103, 1, none⟩ = some (.int .u64 0) := (blk_cell BK103.out 1).trans rfl; have hcz40_2 : w38.cell? ⟨gb103, 2, none⟩ = some (.int .u64 0) := (blk_cell BK103.out 2).trans rfl; have hcz40_3 : w38.cell? ⟨gb103, 3, none⟩ = some (.int .u64 0) := (blk_cell BK103.out 3).trans rfl; have hcz40_4 : w38.cell? ⟨gb103, 4, none⟩ = some (.int .i64 0) := (blk_cell BK103.out 4).trans rfl; have hfz40_0 := blk_frozen BK103.out 0; have hfz40_1 := blk_frozen BK103.out 1; have hfz40_2 := blk_frozen BK103.out 2; have hfz40_3 := blk_frozen BK103.out 3; have hfz40_4 := blk_frozen BK103.out 4)) | go_quiet (fail))
      go_ret
      exact ⟨by first | rfl | (simp [errW_none, errW_some] <;> rfl) | (simp only [← hji9]; first | rfl | (simp [errW_none, errW_some] <;> rfl)) | (simp [*, errW_none, errW_some] <;> rfl), u2_3⟩
    rw [if_pos c21] at H
    have c21b0 : (((rd_T53 l0_0 x12_1).f2) == 0) = true := beq_iff_eq.mpr c21
    have c21b1 : (((rd_T53 l0_0 x12_1).f2) != 0) = false := bne_eq_false_iff_eq.mpr c21
    clear c21
    by_cases c22 : ((rd_T53 l0_0 x12_1).f3) = 0
    rotate_left
    · rw [if_neg c22] at H
      have c22b0 : (((rd_T53 l0_0 x12_1).f3) == 0) = false := beq_eq_false_iff_ne.mpr c22
      have c22b1 : (((rd_T53 l0_0 x12_1).f3) != 0) = true := bne_iff_ne.mpr c22
      obtain rfl := Option.some.inj H
      have p102 : 0 ≤ (x12_1 : Int) := of_decide_eq_true u2_14
      have q102 : x12_1 < (l0_0.length : Int) := of_decide_eq_true u2_14
      obtain ⟨ad102, e102, hx102_0, hx102_1, hx102_2, hx102_3, hx102_4⟩ := at_T53 HR0_0.out x12_1 p102 q102
      cases e102
      replace hx102_0 := (HB.out.cell (World.block_lt_of_cell? w _ hx102_0)).trans hx102_0
      replace hx102_1 := (HB.out.cell (World.block_lt_of_cell? w _ hx102_1)).trans hx102_1
      replace hx102_2 := (HB.out.cell (World.block_lt_of_cell? w _ hx102_2)).trans hx102_2
      replace hx102_3 := (HB.out.cell (World.block_lt_of_cell? w _ hx102_3)).trans hx102_3
      replace hx102_4 := (HB.out.cell (World.block_lt_of_cell? w _ hx102_4)).trans hx102_4
      replace p102 := eq_true p102
      replace q102 := eq_true q102
      go_wp2_with (first | (first | ((with_reducible refine gate_dst (N := 4) rfl ?_); refine box_event ?hg (N := 4) ?hd (cs := #[.int .u64 0, .int .u64 0, .int .u64 0, .int .u64 0, .int .i64 0]) (t := 53) ?hr ?_; (case hd => rfl); (case hg => rfl); (case hr => first | (go_simp; done) | (go_simp; rfl)); intro gb103 hg w35 hbox hb; have n0_ := Aside0.mk (blk_below (g := gb101) (o := .cells #[.slice (some ad102) l0_0.length c0_0] 29 (0, 0)) u2_1 hb); have n1_ := Aside0.mk (below_step u2_0 hb); have n2_ := Aside0.mk (hbox); have n3_ := Aside0.mk ((by rw [hg]; exact (below_size u2_0) : w.heap.size ≤ gb103)); have n4_ := Aside0.mk ((by rw [hg]; exact (below_size u2_0) : w.heap.size ≤ gb103)); have n5_ := Aside0.mk ((by rw [hg]; exact Nat.ne_of_lt (blk_lt (g := gb101) (o := .cells #[.slice (some ad102) l0_0.length c0_0] 29 (0, 0)) u2_1) : gb101 ≠ gb103)); have n6_ := Aside0.mk ((by rw [hg]; exact Nat.ne_of_gt (blk_lt (g := gb101) (o := .cells #[.slice (some ad102) l0_0.length c0_0] 29 (0, 0)) u2_1) : gb103 ≠ gb101)); clear BK101; clear HB; have BK101 := n0_; have HB := n1_; have BK103 := n2_; have GW103 := n3_; have GE103 := n4_; have NB101_103 := n5_; have NB103_101 := n6_; clear n0_ n1_ n2_ n3_ n4_ n5_ n6_; clear hb hbox hg; have hnb36 := NB103_101.out; have hnc36 := NB101_103.out; have hcz37_0 : w35.cell? ⟨gb103, 0, none⟩ = some (.int .u64 0) := (blk_cell BK103.out 0).trans rfl; have hcz37_1 : w35.cell? ⟨gb103, 1, none⟩ = some (.int .u64 0) := (blk_cell BK103.out 1).trans rfl; have hcz37_2 : w35.cell? ⟨gb103, 2, none⟩ = some (.int .u64 0) := (blk_cell BK103.out 2).trans rfl; have hcz37_3 : w35.cell? ⟨gb103, 3, none⟩ = some (.int .u64 0) := (blk_cell BK103.out 3).trans rfl; have hcz37_4 : w35.cell? ⟨gb103, 4, none⟩ = some (.int .i64 0) := (blk_cell BK103.out 4).trans rfl; have hfz37_0 := blk_frozen BK103.out 0; have hfz37_1 := blk_frozen BK103.out 1; have hfz37_2 := blk_frozen BK103.out 2; have hfz37_3 := blk_frozen BK103.out 3; have hfz37_4 := blk_frozen BK103.out 4)) | go_quiet (fail))
      go_ret
      exact ⟨by first | rfl | (simp [errW_none, errW_some] <;> rfl) | (simp only [← hji9]; first | rfl | (simp [errW_none, errW_some] <;> rfl)) | (simp [*, errW_none, errW_some] <;> rfl), u2_3⟩
    rw [if_pos c22] at H
    have c22b0 : (((rd_T53 l0_0 x12_1).f3) == 0) = true := beq_iff_eq.mpr c22
    have c22b1 : (((rd_T53 l0_0 x12_1).f3) != 0) = false := bne_eq_false_iff_eq.mpr c22
    clear c22
    by_cases c23 : x12_1 > 0
    rotate_left
    · rw [if_neg c23] at H
      have c23b0 : decide (0 < x12_1) = false := decide_eq_false c23
      clear c23
      have H' := Aside0.mk H
      clear H
      have p102 : 0 ≤ (x12_1 : Int) := of_decide_eq_true u2_14
      have q102 : x12_1 < (l0_0.length : Int) := of_decide_eq_true u2_14
      obtain ⟨ad102, e102, hx102_0, hx102_1, hx102_2, hx102_3, hx102_4⟩ := at_T53 HR0_0.out x12_1 p102 q102
      cases e102
      replace hx102_0 := (HB.out.cell (World.block_lt_of_cell? w _ hx102_0)).trans hx102_0
      replace hx102_1 := (HB.out.cell (World.block_lt_of_cell? w _ hx102_1)).trans hx102_1
      replace hx102_2 := (HB.out.cell (World.block_lt_of_cell? w _ hx102_2)).trans hx102_2
      replace hx102_3 := (HB.out.cell (World.block_lt_of_cell? w _ hx102_3)).trans hx102_3
      replace hx102_4 := (HB.out.cell (World.block_lt_of_cell? w _ hx102_4)).trans hx102_4
      replace p102 := eq_true p102
      replace q102 := eq_true q102
      go_wp2_with (first | (first | ((with_reducible refine gate_dst (N := 4) rfl ?_); refine box_event ?hg (N := 4) ?hd (cs := #[.int .u64 0, .int .u64 0, .int .u64 0, .int .u64 0, .int .i64 0]) (t := 53) ?hr ?_; (case hd => rfl); (case hg => rfl); (case hr => first | (go_simp; done) | (go_simp; rfl)); intro gb103 hg w32 hbox hb; have n0_ := Aside0.mk (blk_below (g := gb101) (o := .cells #[.slice (some ad102) l0_0.length c0_0] 29 (0, 0)) u2_1 hb); have n1_ := Aside0.mk (below_step u2_0 hb); have n2_ := Aside0.mk (hbox); have n3_ := Aside0.mk ((by rw [hg]; exact (below_size u2_0) : w.heap.size ≤ gb103)); have n4_ := Aside0.mk ((by rw [hg]; exact (below_size u2_0) : w.heap.size ≤ gb103)); have n5_ := Aside0.mk ((by rw [hg]; exact Nat.ne_of_lt (blk_lt (g := gb101) (o := .cells #[.slice (some ad102) l0_0.length c0_0] 29 (0, 0)) u2_1) : gb101 ≠ gb103)); have n6_ := Aside0.mk ((by rw [hg]; exact Nat.ne_of_gt (blk_lt (g := gb101) (o := .cells #[.slice (some ad102) l0_0.length c0_0] 29 (0, 0)) u2_1) : gb103 ≠ gb101)); clear BK101; clear HB; have BK101 := n0_; have HB := n1_; have BK103 := n2_; have GW103 := n3_; have GE103 := n4_; have NB101_103 := n5_; have NB103_101 := n6_; clear n0_ n1_ n2_ n3_ n4_ n5_ n6_; clear hb hbox hg; have hnb33 := NB103_101.out; have hnc33 := NB101_103.out; have hcz34_0 : w32.cell? ⟨gb103, 0, none⟩ = some (.int .u64 0) := (blk_cell BK103.out 0).trans rfl; have hcz34_1 : w32.cell? ⟨gb103, 1, none⟩ = some (.int .u64 0) := (blk_cell BK103.out 1).trans rfl; have hcz34_2 : w32.cell? ⟨gb103, 2, none⟩ = some (.int .u64 0) := (blk_cell BK103.out 2).trans rfl; have hcz34_3 : w32.cell? ⟨gb103, 3, none⟩ = some (.int .u64 0) := (blk_cell BK103.out 3).trans rfl; have hcz34_4 : w32.cell? ⟨gb103, 4, none⟩ = some (.int .i64 0) := (blk_cell BK103.out 4).trans rfl; have hfz34_0 := blk_frozen BK103.out 0; have hfz34_1 := blk_frozen BK103.out 1; have hfz34_2 := blk_frozen BK103.out 2; have hfz34_3 := blk_frozen BK103.out 3; have hfz34_4 := blk_frozen BK103.out 4)) | go_quiet (fail))
      go_roundg k1
      case measure => have := HK1.out; omega
      case rel => exact ⟨(wrap64 (x12_1 + 1)), u2_18, H', ⟨by have := HK1.out; omega⟩, ⟨u2_2⟩, ⟨u2_3⟩⟩
    rw [if_pos c23] at H
    have c23b0 : decide (0 < x12_1) = true := decide_eq_true c23
    clear c23
    obtain ⟨ji24, hji24⟩ : ∃ j_ : Int, (wrap64 (x12_1 - 1)) = j_ := ⟨_, rfl⟩
    replace H : (if 0 ≤ (ji24) then (if (ji24) < (l0_0.length : Int) then (if ((rd_T53 l0_0 (ji24)).f0) ≥ ((rd_T53 l0_0 x12_1).f0) then (some false) else (impl_isBook.l0 k1 l0_0 (l0_0.length : Int) (wrap64 (x12_1 + 1)) l0_0)) else (none)) else (none)) = some r := by first | (rw [hji24] at H; exact H) | (simp only [hji24] at H ⊢; exact H)
    have hji24w : (IntKind.i64.wrap (x12_1 - 1)) = ji24 := (i64_w _).trans hji24
    by_cases c25 : 0 ≤ (ji24)
    rotate_left
    · rw [if_neg c25] at H
      exact absurd H (by simp)
    rw [if_pos c25] at H
    have c25b0 : decide (0 ≤ (ji24)) = true := decide_eq_true c25
    clear c25
    by_cases c26 : (ji24) < (l0_0.length : Int)
    rotate_left
    · rw [if_neg c26] at H
      exact absurd H (by simp)
    rw [if_pos c26] at H
    have c26b0 : decide ((ji24) < (l0_0.length : Int)) = true := decide_eq_true c26
    clear c26
    have H9 := Aside0.mk H
    clear H
    have p102 : 0 ≤ (x12_1 : Int) := of_decide_eq_true u2_14
    have q102 : x12_1 < (l0_0.length : Int) := of_decide_eq_true u2_14
    obtain ⟨ad102, e102, hx102_0, hx102_1, hx102_2, hx102_3, hx102_4⟩ := at_T53 HR0_0.out x12_1 p102 q102
    cases e102
    replace hx102_0 := (HB.out.cell (World.block_lt_of_cell? w _ hx102_0)).trans hx102_0
    replace hx102_1 := (HB.out.cell (World.block_lt_of_cell? w _ hx102_1)).trans hx102_1
    replace hx102_2 := (HB.out.cell (World.block_lt_of_cell? w _ hx102_2)).trans hx102_2
    replace hx102_3 := (HB.out.cell (World.block_lt_of_cell? w _ hx102_3)).trans hx102_3
    replace hx102_4 := (HB.out.cell (World.block_lt_of_cell? w _ hx102_4)).trans hx102_4
    replace p102 := eq_true p102
    replace q102 := eq_true q102
    go_upto_if 75 with (first | ((with_reducible refine gate_dst (N := 4) rfl ?_); refine box_event ?hg (N := 4) ?hd (cs := #[.int .u64 0, .int .u64 0, .int .u64 0, .int .u64 0, .int .i64 0]) (t := 53) ?hr ?_; (case hd => rfl); (case hg => rfl); (case hr => first | (go_simp; done) | (go_simp; rfl)); intro gb103 hg w27 hbox hb; have n0_ := Aside0.mk (blk_below (g := gb101) (o := .cells #[.slice (some ad102) l0_0.length c0_0] 29 (0, 0)) u2_1 hb); have n1_ := Aside0.mk (below_step u2_0 hb); have n2_ := Aside0.mk (hbox); have n3_ := Aside0.mk ((by rw [hg]; exact (below_size u2_0) : w.heap.size ≤ gb103)); have n4_ := Aside0.mk ((by rw [hg]; exact (below_size u2_0) : w.heap.size ≤ gb103)); have n5_ := Aside0.mk ((by rw [hg]; exact Nat.ne_of_lt (blk_lt (g := gb101) (o := .cells #[.slice (some ad102) l0_0.length c0_0] 29 (0, 0)) u2_1) : gb101 ≠ gb103)); have n6_ := Aside0.mk ((by rw [hg]; exact Nat.ne_of_gt (blk_lt (g := gb101) (o := .cells #[.slice (some ad102) l0_0.length c0_0] 29 (0, 0)) u2_1) : gb103 ≠ gb101)); clear BK101; clear HB; have BK101 := n0_; have HB := n1_; have BK103 := n2_; have GW103 := n3_; have GE103 := n4_; have NB101_103 := n5_; have NB103_101 := n6_; clear n0_ n1_ n2_ n3_ n4_ n5_ n6_; clear hb hbox hg; have hnb28 := NB103_101.out; have hnc28 := NB101_103.out; have hcz29_0 : w27.cell? ⟨gb103, 0, none⟩ = some (.int .u64 0) := (blk_cell BK103.out 0).trans rfl; have hcz29_1 : w27.cell? ⟨gb103, 1, none⟩ = some (.int .u64 0) := (blk_cell BK103.out 1).trans rfl; have hcz29_2 : w27.cell? ⟨gb103, 2, none⟩ = some (.int .u64 0) := (blk_cell BK103.out 2).trans rfl; have hcz29_3 : w27.cell? ⟨gb103, 3, none⟩ = some (.int .u64 0) := (blk_cell BK103.out 3).trans rfl; have hcz29_4 : w27.cell? ⟨gb103, 4, none⟩ = some (.int .i64 0) := (blk_cell BK103.out 4).trans rfl; have hfz29_0 := blk_frozen BK103.out 0; have hfz29_1 := blk_frozen BK103.out 1; have hfz29_2 := blk_frozen BK103.out 2; have hfz29_3 := blk_frozen BK103.out 3; have hfz29_4 := blk_frozen BK103.out 4; have hcz30_0 : w27.cell? ⟨gb101, 0, none⟩ = some (.slice (some ad102) l0_0.length c0_0) := (blk_cell BK101.out 0).trans rfl; have hfz30_0 := blk_frozen BK101.out 0; have p104 : 0 ≤ ((ji24) : Int) := of_decide_eq_true u2_14; have q104 : (ji24) < (l0_0.length : Int) := of_decide_eq_true u2_14; obtain ⟨ad104, e104, hx104_0, hx104_1, hx104_2, hx104_3, hx104_4⟩ := at_T53 HR0_0.out (ji24) p104 q104; obtain rfl : ad102 = ad104 := (by injection e104); have hn104_0 : ad102.block ≠ gb103 := Nat.ne_of_lt (Nat.lt_of_lt_of_le u2_16 GW103.out); have hn104_1 : ad102.block ≠ gb103 := Nat.ne_of_lt (Nat.lt_of_lt_of_le u2_16 GW103.out); have hn104_2 : ad102.block ≠ gb103 := Nat.ne_of_lt (Nat.lt_of_lt_of_le u2_16 GW103.out); have hn104_3 : ad102.block ≠ gb103 := Nat.ne_of_lt (Nat.lt_of_lt_of_le u2_16 GW103.out); have hn104_4 : ad102.block ≠ gb103 := Nat.ne_of_lt (Nat.lt_of_lt_of_le u2_16 GW103.out); replace hx104_0 := (HB.out.cell (World.block_lt_of_cell? w _ hx104_0)).trans hx104_0; replace hx104_1 := (HB.out.cell (World.block_lt_of_cell? w _ hx104_1)).trans hx104_1; replace hx104_2 := (HB.out.cell (World.block_lt_of_cell? w _ hx104_2)).trans hx104_2; replace hx104_3 := (HB.out.cell (World.block_lt_of_cell? w _ hx104_3)).trans hx104_3; replace hx104_4 := (HB.out.cell (World.block_lt_of_cell? w _ hx104_4)).trans hx104_4; replace hx104_0 := (cell_far (p := ⟨gb103, 0, none⟩) u2_9 (.int .u64 ((rd_T53 l0_0 x12_1).f0))).trans hx104_0; replace hx104_1 := (cell_far (p := ⟨gb103, 0, none⟩) u2_9 (.int .u64 ((rd_T53 l0_0 x12_1).f0))).trans hx104_1; replace hx104_2 := (cell_far (p := ⟨gb103, 0, none⟩) u2_9 (.int .u64 ((rd_T53 l0_0 x12_1).f0))).trans hx104_2; replace hx104_3 := (cell_far (p := ⟨gb103, 0, none⟩) u2_9 (.int .u64 ((rd_T53 l0_0 x12_1).f0))).trans hx104_3; replace hx104_4 := (cell_far (p := ⟨gb103, 0, none⟩) u2_9 (.int .u64 ((rd_T53 l0_0 x12_1).f0))).trans hx104_4; replace hx104_0 := (cell_far (p := ⟨gb103, 1, none⟩) u2_10 (.int .u64 ((rd_T53 l0_0 x12_1).f1))).trans hx104_0; replace hx104_1 := (cell_far (p := ⟨gb103, 1, none⟩) u2_10 (.int .u64 ((rd_T53 l0_0 x12_1).f1))).trans hx104_1; replace hx104_2 := (cell_far (p := ⟨gb103, 1, none⟩) u2_10 (.int .u64 ((rd_T53 l0_0 x12_1).f1))).trans hx104_2; replace hx104_3 := (cell_far (p := ⟨gb103, 1, none⟩) u2_10 (.int .u64 ((rd_T53 l0_0 x12_1).f1))).trans hx104_3; replace hx104_4 := (cell_far (p := ⟨gb103, 1, none⟩) u2_10 (.int .u64 ((rd_T53 l0_0 x12_1).f1))).trans hx104_4; replace hx104_0 := (cell_far (p := ⟨gb103, 2, none⟩) u2_11 (.int .u64 ((rd_T53 l0_0 x12_1).f2))).trans hx104_0; replace hx104_1 := (cell_far (p := ⟨gb103, 2, none⟩) u2_11 (.int .u64 ((rd_T53 l0_0 x12_1).f2))).trans hx104_1; replace hx104_2 := (cell_far (p := ⟨gb103, 2, none⟩) u2_11 (.int .u64 ((rd_T53 l0_0 x12_1).f2))).trans hx104_2; replace hx104_3 := (cell_far (p := ⟨gb103, 2, none⟩) u2_11 (.int .u64 ((rd_T53 l0_0 x12_1).f2))).trans hx104_3; replace hx104_4 := (cell_far (p := ⟨gb103, 2, none⟩) u2_11 (.int .u64 ((rd_T53 l0_0 x12_1).f2))).trans hx104_4; replace hx104_0 := (cell_far (p := ⟨gb103, 3, none⟩) u2_12 (.int .u64 ((rd_T53 l0_0 x12_1).f3))).trans hx104_0; replace hx104_1 := (cell_far (p := ⟨gb103, 3, none⟩) u2_12 (.int .u64 ((rd_T53 l0_0 x12_1).f3))).trans hx104_1; replace hx104_2 := (cell_far (p := ⟨gb103, 3, none⟩) u2_12 (.int .u64 ((rd_T53 l0_0 x12_1).f3))).trans hx104_2; replace hx104_3 := (cell_far (p := ⟨gb103, 3, none⟩) u2_12 (.int .u64 ((rd_T53 l0_0 x12_1).f3))).trans hx104_3; replace hx104_4 := (cell_far (p := ⟨gb103, 3, none⟩) u2_12 (.int .u64 ((rd_T53 l0_0 x12_1).f3))).trans hx104_4; replace hx104_0 := (cell_far (p := ⟨gb103, 4, none⟩) u2_13 (.int .i64 ((rd_T53 l0_0 x12_1).f4))).trans hx104_0; replace hx104_1 := (cell_far (p := ⟨gb103, 4, none⟩) u2_13 (.int .i64 ((rd_T53 l0_0 x12_1).f4))).trans hx104_1; replace hx104_2 := (cell_far (p := ⟨gb103, 4, none⟩) u2_13 (.int .i64 ((rd_T53 l0_0 x12_1).f4))).trans hx104_2; replace hx104_3 := (cell_far (p := ⟨gb103, 4, none⟩) u2_13 (.int .i64 ((rd_T53 l0_0 x12_1).f4))).trans hx104_3; replace hx104_4 := (cell_far (p := ⟨gb103, 4, none⟩) u2_13 (.int .i64 ((rd_T53 l0_0 x12_1).f4))).trans hx104_4; (try have hch_ := fun (n_ : Nat) => (show (((((((w27.drewN n_).setCell ⟨gb103, 0, none⟩ (.int .u64 ((rd_T53 l0_0 x12_1).f0))).setCell ⟨gb103, 1, none⟩ (.int .u64 ((rd_T53 l0_0 x12_1).f1))).setCell ⟨gb103, 2, none⟩ (.int .u64 ((rd_T53 l0_0 x12_1).f2))).setCell ⟨gb103, 3, none⟩ (.int .u64 ((rd_T53 l0_0 x12_1).f3))).setCell ⟨gb103, 4, none⟩ (.int .i64 ((rd_T53 l0_0 x12_1).f4)))) = World.drewN ((((((w27.setCell ⟨gb103, 0, none⟩ (.int .u64 ((rd_T53 l0_0 x12_1).f0))).setCell ⟨gb103, 1, none⟩ (.int .u64 ((rd_T53 l0_0 x12_1).f1))).setCell ⟨gb103, 2, none⟩ (.int .u64 ((rd_T53 l0_0 x12_1).f2))).setCell ⟨gb103, 3, none⟩ (.int .u64 ((rd_T53 l0_0 x12_1).f3))).setCell ⟨gb103, 4, none⟩ (.int .i64 ((rd_T53 l0_0 x12_1).f4)))) n_ from by simp only [Go.Proofs.Ytdbfjakhkclggaa.Slc.setCell_drewN])); (try have hy104_0 := fun (n_ : Nat) => Go.Proofs.Ytdbfjakhkclggaa.Slc.cell_of (hch_ n_) hx104_0); (try have hy104_1 := fun (n_ : Nat) => Go.Proofs.Ytdbfjakhkclggaa.Slc.cell_of (hch_ n_) hx104_1); (try have hy104_2 := fun (n_ : Nat) => Go.Proofs.Ytdbfjakhkclggaa.Slc.cell_of (hch_ n_) hx104_2); (try have hy104_3 := fun (n_ : Nat) => Go.Proofs.Ytdbfjakhkclggaa.Slc.cell_of (hch_ n_) hx104_3); (try have hy104_4 := fun (n_ : Nat) => Go.Proofs.Ytdbfjakhkclggaa.Slc.cell_of (hch_ n_) hx104_4); clear hn104_0; clear hn104_1; clear hn104_2; clear hn104_3; clear hn104_4; replace p104 := eq_true p104; replace q104 := eq_true q104))
    repeat (go_quiet (first | ((with_reducible refine gate_dst (N := 4) rfl ?_); refine box_event ?hg (N := 4) ?hd (cs := #[.int .u64 0, .int .u64 0, .int .u64 0, .int .u64 0, .int .i64 0]) (t := 53) ?hr ?_; (case hd => rfl); (case hg => rfl); (case hr => first | (go_simp; done) | (go_simp; rfl)); intro gb103 hg w27 hbox hb; have n0_ := Aside0.mk (blk_below (g := gb101) (o := .cells #[.slice (some ad102) l0_0.length c0_0] 29 (0, 0)) u2_1 hb); have n1_ := Aside0.mk (below_step u2_0 hb); have n2_ := Aside0.mk (hbox); have n3_ := Aside0.mk ((by rw [hg]; exact (below_size u2_0) : w.heap.size ≤ gb103)); have n4_ := Aside0.mk ((by rw [hg]; exact (below_size u2_0) : w.heap.size ≤ gb103)); have n5_ := Aside0.mk ((by rw [hg]; exact Nat.ne_of_lt (blk_lt (g := gb101) (o := .cells #[.slice (some ad102) l0_0.length c0_0] 29 (0, 0)) u2_1) : gb101 ≠ gb103)); have n6_ := Aside0.mk ((by rw [hg]; exact Nat.ne_of_gt (blk_lt (g := gb101) (o := .cells #[.slice (some ad102) l0_0.length c0_0] 29 (0, 0)) u2_1) : gb103 ≠ gb101)); clear BK101; clear HB; have BK101 := n0_; have HB := n1_; have BK103 := n2_; have GW103 := n3_; have GE103 := n4_; have NB101_103 := n5_; have NB103_101 := n6_; clear n0_ n1_ n2_ n3_ n4_ n5_ n6_; clear hb hbox hg; have hnb28 := NB103_101.out; have hnc28 := NB101_103.out; have hcz29_0 : w27.cell? ⟨gb103, 0, none⟩ = some (.int .u64 0) := (blk_cell BK103.out 0).trans rfl; have hcz29_1 : w27.cell? ⟨gb103, 1, none⟩ = some (.int .u64 0) := (blk_cell BK103.out 1).trans rfl; have hcz29_2 : w27.cell? ⟨gb103, 2, none⟩ = some (.int .u64 0) := (blk_cell BK103.out 2).trans rfl; have hcz29_3 : w27.cell? ⟨gb103, 3, none⟩ = some (.int .u64 0) := (blk_cell BK103.out 3).trans rfl; have hcz29_4 : w27.cell? ⟨gb103, 4, none⟩ = some (.int .i64 0) := (blk_cell BK103.out 4).trans rfl; have hfz29_0 := blk_frozen BK103.out 0; have hfz29_1 := blk_frozen BK103.out 1; have hfz29_2 := blk_frozen BK103.out 2; have hfz29_3 := blk_frozen BK103.out 3; have hfz29_4 := blk_frozen BK103.out 4; have hcz30_0 : w27.cell? ⟨gb101, 0, none⟩ = some (.slice (some ad102) l0_0.length c0_0) := (blk_cell BK101.out 0).trans rfl; have hfz30_0 := blk_frozen BK101.out 0; have p104 : 0 ≤ ((ji24) : Int) := of_decide_eq_true u2_14; have q104 : (ji24) < (l0_0.length : Int) := of_decide_eq_true u2_14; obtain ⟨ad104, e104, hx104_0, hx104_1, hx104_2, hx104_3, hx104_4⟩ := at_T53 HR0_0.out (ji24) p104 q104; obtain rfl : ad102 = ad104 := (by injection e104); have hn104_0 : ad102.block ≠ gb103 := Nat.ne_of_lt (Nat.lt_of_lt_of_le u2_16 GW103.out); have hn104_1 : ad102.block ≠ gb103 := Nat.ne_of_lt (Nat.lt_of_lt_of_le u2_16 GW103.out); have hn104_2 : ad102.block ≠ gb103 := Nat.ne_of_lt (Nat.lt_of_lt_of_le u2_16 GW103.out); have hn104_3 : ad102.block ≠ gb103 := Nat.ne_of_lt (Nat.lt_of_lt_of_le u2_16 GW103.out); have hn104_4 : ad102.block ≠ gb103 := Nat.ne_of_lt (Nat.lt_of_lt_of_le u2_16 GW103.out); replace hx104_0 := (HB.out.cell (World.block_lt_of_cell? w _ hx104_0)).trans hx104_0; replace hx104_1 := (HB.out.cell (World.block_lt_of_cell? w _ hx104_1)).trans hx104_1; replace hx104_2 := (HB.out.cell (World.block_lt_of_cell? w _ hx104_2)).trans hx104_2; replace hx104_3 := (HB.out.cell (World.block_lt_of_cell? w _ hx104_3)).trans hx104_3; replace hx104_4 := (HB.out.cell (World.block_lt_of_cell? w _ hx104_4)).trans hx104_4; replace hx104_0 := (cell_far (p := ⟨gb103, 0, none⟩) u2_9 (.int .u64 ((rd_T53 l0_0 x12_1).f0))).trans hx104_0; replace hx104_1 := (cell_far (p := ⟨gb103, 0, none⟩) u2_9 (.int .u64 ((rd_T53 l0_0 x12_1).f0))).trans hx104_1; replace hx104_2 := (cell_far (p := ⟨gb103, 0, none⟩) u2_9 (.int .u64 ((rd_T53 l0_0 x12_1).f0))).trans hx104_2; replace hx104_3 := (cell_far (p := ⟨gb103, 0, none⟩) u2_9 (.int .u64 ((rd_T53 l0_0 x12_1).f0))).trans hx104_3; replace hx104_4 := (cell_far (p := ⟨gb103, 0, none⟩) u2_9 (.int .u64 ((rd_T53 l0_0 x12_1).f0))).trans hx104_4; replace hx104_0 := (cell_far (p := ⟨gb103, 1, none⟩) u2_10 (.int .u64 ((rd_T53 l0_0 x12_1).f1))).trans hx104_0; replace hx104_1 := (cell_far (p := ⟨gb103, 1, none⟩) u2_10 (.int .u64 ((rd_T53 l0_0 x12_1).f1))).trans hx104_1; replace hx104_2 := (cell_far (p := ⟨gb103, 1, none⟩) u2_10 (.int .u64 ((rd_T53 l0_0 x12_1).f1))).trans hx104_2; replace hx104_3 := (cell_far (p := ⟨gb103, 1, none⟩) u2_10 (.int .u64 ((rd_T53 l0_0 x12_1).f1))).trans hx104_3; replace hx104_4 := (cell_far (p := ⟨gb103, 1, none⟩) u2_10 (.int .u64 ((rd_T53 l0_0 x12_1).f1))).trans hx104_4; replace hx104_0 := (cell_far (p := ⟨gb103, 2, none⟩) u2_11 (.int .u64 ((rd_T53 l0_0 x12_1).f2))).trans hx104_0; replace hx104_1 := (cell_far (p := ⟨gb103, 2, none⟩) u2_11 (.int .u64 ((rd_T53 l0_0 x12_1).f2))).trans hx104_1; replace hx104_2 := (cell_far (p := ⟨gb103, 2, none⟩) u2_11 (.int .u64 ((rd_T53 l0_0 x12_1).f2))).trans hx104_2; replace hx104_3 := (cell_far (p := ⟨gb103, 2, none⟩) u2_11 (.int .u64 ((rd_T53 l0_0 x12_1).f2))).trans hx104_3; replace hx104_4 := (cell_far (p := ⟨gb103, 2, none⟩) u2_11 (.int .u64 ((rd_T53 l0_0 x12_1).f2))).trans hx104_4; replace hx104_0 := (cell_far (p := ⟨gb103, 3, none⟩) u2_12 (.int .u64 ((rd_T53 l0_0 x12_1).f3))).trans hx104_0; replace hx104_1 := (cell_far (p := ⟨gb103, 3, none⟩) u2_12 (.int .u64 ((rd_T53 l0_0 x12_1).f3))).trans hx104_1; replace hx104_2 := (cell_far (p := ⟨gb103, 3, none⟩) u2_12 (.int .u64 ((rd_T53 l0_0 x12_1).f3))).trans hx104_2; replace hx104_3 := (cell_far (p := ⟨gb103, 3, none⟩) u2_12 (.int .u64 ((rd_T53 l0_0 x12_1).f3))).trans hx104_3; replace hx104_4 := (cell_far (p := ⟨gb103, 3, none⟩) u2_12 (.int .u64 ((rd_T53 l0_0 x12_1).f3))).trans hx104_4; replace hx104_0 := (cell_far (p := ⟨gb103, 4, none⟩) u2_13 (.int .i64 ((rd_T53 l0_0 x12_1).f4))).trans hx104_0; replace hx104_1 := (cell_far (p := ⟨gb103, 4, none⟩) u2_13 (.int .i64 ((rd_T53 l0_0 x12_1).f4))).trans hx104_1; replace hx104_2 := (cell_far (p := ⟨gb103, 4, none⟩) u2_13 (.int .i64 ((rd_T53 l0_0 x12_1).f4))).trans hx104_2; replace hx104_3 := (cell_far (p := ⟨gb103, 4, none⟩) u2_13 (.int .i64 ((rd_T53 l0_0 x12_1).f4))).trans hx104_3; replace hx104_4 := (cell_far (p := ⟨gb103, 4, none⟩) u2_13 (.int .i64 ((rd_T53 l0_0 x12_1).f4))).trans hx104_4; (try have hch_ := fun (n_ : Nat) => (show (((((((w27.drewN n_).setCell ⟨gb103, 0, none⟩ (.int .u64 ((rd_T53 l0_0 x12_1).f0))).setCell ⟨gb103, 1, none⟩ (.int .u64 ((rd_T53 l0_0 x12_1).f1))).setCell ⟨gb103, 2, none⟩ (.int .u64 ((rd_T53 l0_0 x12_1).f2))).setCell ⟨gb103, 3, none⟩ (.int .u64 ((rd_T53 l0_0 x12_1).f3))).setCell ⟨gb103, 4, none⟩ (.int .i64 ((rd_T53 l0_0 x12_1).f4)))) = World.drewN ((((((w27.setCell ⟨gb103, 0, none⟩ (.int .u64 ((rd_T53 l0_0 x12_1).f0))).setCell ⟨gb103, 1, none⟩ (.int .u64 ((rd_T53 l0_0 x12_1).f1))).setCell ⟨gb103, 2, none⟩ (.int .u64 ((rd_T53 l0_0 x12_1).f2))).setCell ⟨gb103, 3, none⟩ (.int .u64 ((rd_T53 l0_0 x12_1).f3))).setCell ⟨gb103, 4, none⟩ (.int .i64 ((rd_T53 l0_0 x12_1).f4)))) n_ from by simp only [Go.Proofs.Ytdbfjakhkclggaa.Slc.setCell_drewN])); (try have hy104_0 := fun (n_ : Nat) => Go.Proofs.Ytdbfjakhkclggaa.Slc.cell_of (hch_ n_) hx104_0); (try have hy104_1 := fun (n_ : Nat) => Go.Proofs.Ytdbfjakhkclggaa.Slc.cell_of (hch_ n_) hx104_1); (try have hy104_2 := fun (n_ : Nat) => Go.Proofs.Ytdbfjakhkclggaa.Slc.cell_of (hch_ n_) hx104_2); (try have hy104_3 := fun (n_ : Nat) => Go.Proofs.Ytdbfjakhkclggaa.Slc.cell_of (hch_ n_) hx104_3); (try have hy104_4 := fun (n_ : Nat) => Go.Proofs.Ytdbfjakhkclggaa.Slc.cell_of (hch_ n_) hx104_4); clear hn104_0; clear hn104_1; clear hn104_2; clear hn104_3; clear hn104_4; replace p104 := eq_true p104; replace q104 := eq_true q104)); go_upto_if 75 with (first | ((with_reducible refine gate_dst (N := 4) rfl ?_); refine box_event ?hg (N := 4) ?hd (cs := #[.int .u64 0, .int .u64 0, .int .u64 0, .int .u64 0, .int .i64 0]) (t := 53) ?hr ?_; (case hd => rfl); (case hg => rfl); (case hr => first | (go_simp; done) | (go_simp; rfl)); intro gb103 hg w27 hbox hb; have n0_ := Aside0.mk (blk_below (g := gb101) (o := .cells #[.slice (some ad102) l0_0.length c0_0] 29 (0, 0)) u2_1 hb); have n1_ := Aside0.mk (below_step u2_0 hb); have n2_ := Aside0.mk (hbox); have n3_ := Aside0.mk ((by rw [hg]; exact (below_size u2_0) : w.heap.size ≤ gb103)); have n4_ := Aside0.mk ((by rw [hg]; exact (below_size u2_0) : w.heap.size ≤ gb103)); have n5_ := Aside0.mk ((by rw [hg]; exact Nat.ne_of_lt (blk_lt (g := gb101) (o := .cells #[.slice (some ad102) l0_0.length c0_0] 29 (0, 0)) u2_1) : gb101 ≠ gb103)); have n6_ := Aside0.mk ((by rw [hg]; exact Nat.ne_of_gt (blk_lt (g := gb101) (o := .cells #[.slice (some ad102) l0_0.length c0_0] 29 (0, 0)) u2_1) : gb103 ≠ gb101)); clear BK101; clear HB; have BK101 := n0_; have HB := n1_; have BK103 := n2_; have GW103 := n3_; have GE103 := n4_; have NB101_103 := n5_; have NB103_101 := n6_; clear n0_ n1_ n2_ n3_ n4_ n5_ n6_; clear hb hbox hg; have hnb28 := NB103_101.out; have hnc28 := NB101_103.out; have hcz29_0 : w27.cell? ⟨gb103, 0, none⟩ = some (.int .u64 0) := (blk_cell BK103.out 0).trans rfl; have hcz29_1 : w27.cell? ⟨gb103, 1, none⟩ = some (.int .u64 0) := (blk_cell BK103.out 1).trans rfl; have hcz29_2 : w27.cell? ⟨gb103, 2, none⟩ = some (.int .u64 0) := (blk_cell BK103.out 2).trans rfl; have hcz29_3 : w27.cell? ⟨gb103, 3, none⟩ = some (.int .u64 0) := (blk_cell BK103.out 3).trans rfl; have hcz29_4 : w27.cell? ⟨gb103, 4, none⟩ = some (.int .i64 0) := (blk_cell BK103.out 4).trans rfl; have hfz29_0 := blk_frozen BK103.out 0; have hfz29_1 := blk_frozen BK103.out 1; have hfz29_2 := blk_frozen BK103.out 2; have hfz29_3 := blk_frozen BK103.out 3; have hfz29_4 := blk_frozen BK103.out 4; have hcz30_0 : w27.cell? ⟨gb101, 0, none⟩ = some (.slice (some ad102) l0_0.length c0_0) := (blk_cell BK101.out 0).trans rfl; have hfz30_0 := blk_frozen BK101.out 0; have p104 : 0 ≤ ((ji24) : Int) := of_decide_eq_true u2_14; have q104 : (ji24) < (l0_0.length : Int) := of_decide_eq_true u2_14; obtain ⟨ad104, e104, hx104_0, hx104_1, hx104_2, hx104_3, hx104_4⟩ := at_T53 HR0_0.out (ji24) p104 q104; obtain rfl : ad102 = ad104 := (by injection e104); have hn104_0 : ad102.block ≠ gb103 := Nat.ne_of_lt (Nat.lt_of_lt_of_le u2_16 GW103.out); have hn104_1 : ad102.block ≠ gb103 := Nat.ne_of_lt (Nat.lt_of_lt_of_le u2_16 GW103.out); have hn104_2 : ad102.block ≠ gb103 := Nat.ne_of_lt (Nat.lt_of_lt_of_le u2_16 GW103.out); have hn104_3 : ad102.block ≠ gb103 := Nat.ne_of_lt (Nat.lt_of_lt_of_le u2_16 GW103.out); have hn104_4 : ad102.block ≠ gb103 := Nat.ne_of_lt (Nat.lt_of_lt_of_le u2_16 GW103.out); replace hx104_0 := (HB.out.cell (World.block_lt_of_cell? w _ hx104_0)).trans hx104_0; replace hx104_1 := (HB.out.cell (World.block_lt_of_cell? w _ hx104_1)).trans hx104_1; replace hx104_2 := (HB.out.cell (World.block_lt_of_cell? w _ hx104_2)).trans hx104_2; replace hx104_3 := (HB.out.cell (World.block_lt_of_cell? w _ hx104_3)).trans hx104_3; replace hx104_4 := (HB.out.cell (World.block_lt_of_cell? w _ hx104_4)).trans hx104_4; replace hx104_0 := (cell_far (p := ⟨gb103, 0, none⟩) u2_9 (.int .u64 ((rd_T53 l0_0 x12_1).f0))).trans hx104_0; replace hx104_1 := (cell_far (p := ⟨gb103, 0, none⟩) u2_9 (.int .u64 ((rd_T53 l0_0 x12_1).f0))).trans hx104_1; replace hx104_2 := (cell_far (p := ⟨gb103, 0, none⟩) u2_9 (.int .u64 ((rd_T53 l0_0 x12_1).f0))).trans hx104_2; replace hx104_3 := (cell_far (p := ⟨gb103, 0, none⟩) u2_9 (.int .u64 ((rd_T53 l0_0 x12_1).f0))).trans hx104_3; replace hx104_4 := (cell_far (p := ⟨gb103, 0, none⟩) u2_9 (.int .u64 ((rd_T53 l0_0 x12_1).f0))).trans hx104_4; replace hx104_0 := (cell_far (p := ⟨gb103, 1, none⟩) u2_10 (.int .u64 ((rd_T53 l0_0 x12_1).f1))).trans hx104_0; replace hx104_1 := (cell_far (p := ⟨gb103, 1, none⟩) u2_10 (.int .u64 ((rd_T53 l0_0 x12_1).f1))).trans hx104_1; replace hx104_2 := (cell_far (p := ⟨gb103, 1, none⟩) u2_10 (.int .u64 ((rd_T53 l0_0 x12_1).f1))).trans hx104_2; replace hx104_3 := (cell_far (p := ⟨gb103, 1, none⟩) u2_10 (.int .u64 ((rd_T53 l0_0 x12_1).f1))).trans hx104_3; replace hx104_4 := (cell_far (p := ⟨gb103, 1, none⟩) u2_10 (.int .u64 ((rd_T53 l0_0 x12_1).f1))).trans hx104_4; replace hx104_0 := (cell_far (p := ⟨gb103, 2, none⟩) u2_11 (.int .u64 ((rd_T53 l0_0 x12_1).f2))).trans hx104_0; replace hx104_1 := (cell_far (p := ⟨gb103, 2, none⟩) u2_11 (.int .u64 ((rd_T53 l0_0 x12_1).f2))).trans hx104_1; replace hx104_2 := (cell_far (p := ⟨gb103, 2, none⟩) u2_11 (.int .u64 ((rd_T53 l0_0 x12_1).f2))).trans hx104_2; replace hx104_3 := (cell_far (p := ⟨gb103, 2, none⟩) u2_11 (.int .u64 ((rd_T53 l0_0 x12_1).f2))).trans hx104_3; replace hx104_4 := (cell_far (p := ⟨gb103, 2, none⟩) u2_11 (.int .u64 ((rd_T53 l0_0 x12_1).f2))).trans hx104_4; replace hx104_0 := (cell_far (p := ⟨gb103, 3, none⟩) u2_12 (.int .u64 ((rd_T53 l0_0 x12_1).f3))).trans hx104_0; replace hx104_1 := (cell_far (p := ⟨gb103, 3, none⟩) u2_12 (.int .u64 ((rd_T53 l0_0 x12_1).f3))).trans hx104_1; replace hx104_2 := (cell_far (p := ⟨gb103, 3, none⟩) u2_12 (.int .u64 ((rd_T53 l0_0 x12_1).f3))).trans hx104_2; replace hx104_3 := (cell_far (p := ⟨gb103, 3, none⟩) u2_12 (.int .u64 ((rd_T53 l0_0 x12_1).f3))).trans hx104_3; replace hx104_4 := (cell_far (p := ⟨gb103, 3, none⟩) u2_12 (.int .u64 ((rd_T53 l0_0 x12_1).f3))).trans hx104_4; replace hx104_0 := (cell_far (p := ⟨gb103, 4, none⟩) u2_13 (.int .i64 ((rd_T53 l0_0 x12_1).f4))).trans hx104_0; replace hx104_1 := (cell_far (p := ⟨gb103, 4, none⟩) u2_13 (.int .i64 ((rd_T53 l0_0 x12_1).f4))).trans hx104_1; replace hx104_2 := (cell_far (p := ⟨gb103, 4, none⟩) u2_13 (.int .i64 ((rd_T53 l0_0 x12_1).f4))).trans hx104_2; replace hx104_3 := (cell_far (p := ⟨gb103, 4, none⟩) u2_13 (.int .i64 ((rd_T53 l0_0 x12_1).f4))).trans hx104_3; replace hx104_4 := (cell_far (p := ⟨gb103, 4, none⟩) u2_13 (.int .i64 ((rd_T53 l0_0 x12_1).f4))).trans hx104_4; (try have hch_ := fun (n_ : Nat) => (show (((((((w27.drewN n_).setCell ⟨gb103, 0, none⟩ (.int .u64 ((rd_T53 l0_0 x12_1).f0))).setCell ⟨gb103, 1, none⟩ (.int .u64 ((rd_T53 l0_0 x12_1).f1))).setCell ⟨gb103, 2, none⟩ (.int .u64 ((rd_T53 l0_0 x12_1).f2))).setCell ⟨gb103, 3, none⟩ (.int .u64 ((rd_T53 l0_0 x12_1).f3))).setCell ⟨gb103, 4, none⟩ (.int .i64 ((rd_T53 l0_0 x12_1).f4)))) = World.drewN ((((((w27.setCell ⟨gb103, 0, none⟩ (.int .u64 ((rd_T53 l0_0 x12_1).f0))).setCell ⟨gb103, 1, none⟩ (.int .u64 ((rd_T53 l0_0 x12_1).f1))).setCell ⟨gb103, 2, none⟩ (.int .u64 ((rd_T53 l0_0 x12_1).f2))).setCell ⟨gb103, 3, none⟩ (.int .u64 ((rd_T53 l0_0 x12_1).f3))).setCell ⟨gb103, 4, none⟩ (.int .i64 ((rd_T53 l0_0 x12_1).f4)))) n_ from by simp only [Go.Proofs.Ytdbfjakhkclggaa.Slc.setCell_drewN])); (try have hy104_0 := fun (n_ : Nat) => Go.Proofs.Ytdbfjakhkclggaa.Slc.cell_of (hch_ n_) hx104_0); (try have hy104_1 := fun (n_ : Nat) => Go.Proofs.Ytdbfjakhkclggaa.Slc.cell_of (hch_ n_) hx104_1); (try have hy104_2 := fun (n_ : Nat) => Go.Proofs.Ytdbfjakhkclggaa.Slc.cell_of (hch_ n_) hx104_2); (try have hy104_3 := fun (n_ : Nat) => Go.Proofs.Ytdbfjakhkclggaa.Slc.cell_of (hch_ n_) hx104_3); (try have hy104_4 := fun (n_ : Nat) => Go.Proofs.Ytdbfjakhkclggaa.Slc.cell_of (hch_ n_) hx104_4); clear hn104_0; clear hn104_1; clear hn104_2; clear hn104_3; clear hn104_4; replace p104 := eq_true p104; replace q104 := eq_true q104)))
    have H := H9.out
    clear H9
    by_cases c31 : ((rd_T53 l0_0 (ji24)).f0) ≥ ((rd_T53 l0_0 x12_1).f0)
    · rw [if_pos c31] at H
      have c31b0 : decide (((rd_T53 l0_0 x12_1).f0) ≤ ((rd_T53 l0_0 (ji24)).f0)) = true := decide_eq_true c31
      clear c31
      (first | rw [c31b0] | (simp only [i64_w, i32_w]; rw [c31b0]) | skip)
      obtain rfl := Option.some.inj H
      go_wp2
      repeat (go_quiet (fail); try go_wp2)
      go_ret
      exact ⟨by first | rfl | (simp [errW_none, errW_some] <;> rfl) | (simp only [← hji9, ← hji24]; first | rfl | (simp [errW_none, errW_some] <;> rfl)) | (simp [*, errW_none, errW_some] <;> rfl), u2_3⟩
    rw [if_neg c31] at H
    have c31b0 : decide (((rd_T53 l0_0 x12_1).f0) ≤ ((rd_T53 l0_0 (ji24)).f0)) = false := decide_eq_false c31
    clear c31
    (first | rw [c31b0] | (simp only [i64_w, i32_w]; rw [c31b0]) | skip)
    have H' := Aside0.mk H
    clear H
    go_wp2
    repeat (go_quiet (fail); try go_wp2)
    go_roundg k1
    case measure => have := HK1.out; omega
    case rel => exact ⟨(wrap64 (x12_1 + 1)), u2_18, H', ⟨by have := HK1.out; omega⟩, ⟨u2_2⟩, ⟨u2_3⟩⟩

/-! ### impl_BookOk: function 20 -/
def impl_BookOk.f (k : Nat) (l0_0 : List (S53)) : Option (Bool) := (impl_isBook.f k l0_0).bind fun t107 => (some t107)
theorem impl_BookOk.mono : ∀ a0 k, LeO (impl_BookOk.f k a0) (impl_BookOk.f (k + 1) a0) := by
  intro a0 k
  unfold impl_BookOk.f
  repeat' first
      | (with_reducible exact impl_isBook.mono _ _)
      | (with_reducible exact LeO.refl _)
      | (with_reducible exact LeO.none _)
      | (with_reducible refine LeO.ite ?_ ?_)
      | (with_reducible refine LeO.bind ?_ (fun _ => ?_))
      | exact impl_isBook.mono _ _
      | exact LeO.none _
      | refine LeO.ite ?_ ?_
      | refine LeO.bind ?_ (fun _ => ?_)
set_option maxHeartbeats 8000000 in
set_option maxRecDepth 100000 in
theorem impl_BookOk.calls (k : Nat) (A0_0 : Option Addr) (c0_0 : Nat) (l0_0 : List (S53)) (r : Bool) (w : World) (hr0_0 : Kd.C k53 w A0_0 l0_0.length l0_0) (hc0_0 : l0_0.length ≤ c0_0) (h : impl_BookOk.f k l0_0 = some r) :
    Calls Try.prog 20 #[.agg #[.slice A0_0 l0_0.length c0_0]] w fun e w' => e = .returned (.bool r) ∧ Below w.heap.size w w' := by
  have hu29 := Try.underlying29
  have HR0_0 := Aside0.mk hr0_0
  have HC0_0 := Aside0.mk hc0_0
  clear hr0_0 hc0_0
  have HB := Aside0.mk (Below.refl w.heap.size w)
  have H : ((impl_isBook.f k l0_0).bind fun t107 => (some t107)) = some r := h
  clear h
  replace H := Option.bind_eq_some_iff.mp H
  obtain ⟨t107, A20, H⟩ := H
  replace H : (some t107) = some r := H
  have A2 := Aside0.mk A20
  clear A20
  obtain rfl := Option.some.inj H
  go_enter Try.func20, Try.ntmps20
  go_wp2_with (first | ((with_reducible refine gate_dst (N := 1) rfl ?_); refine box_event ?hg (N := 1) ?hd (cs := #[.slice A0_0 l0_0.length c0_0]) (t := 29) ?hr ?_; (case hd => rfl); (case hg => rfl); (case hr => first | (go_simp; done) | (go_simp; rfl)); intro gb106 hg w3 hbox hb; have n0_ := Aside0.mk (below_step u2_17 hb); have n1_ := Aside0.mk (hbox); have n2_ := Aside0.mk ((by rw [hg]; exact (below_size u2_17) : w.heap.size ≤ gb106)); have n3_ := Aside0.mk ((by rw [hg]; exact (below_size u2_17) : w.heap.size ≤ gb106)); clear HB; have HB := n0_; have BK106 := n1_; have GW106 := n2_; have GE106 := n3_; clear n0_ n1_ n2_ n3_; clear hb hbox hg; have hcz4_0 : w3.cell? ⟨gb106, 0, none⟩ = some (.slice A0_0 l0_0.length c0_0) := (blk_cell BK106.out 0).trans rfl; have hfz4_0 := blk_frozen BK106.out 0) | ((with_reducible refine gate_callee (f := 50) rfl ?_); refine goesL_ (some 4) rfl rfl Try.func50 (by kernel_rfl) rfl #[.agg #[.slice A0_0 l0_0.length c0_0]] rfl (by (try simp only [List.map_toArray, List.map_cons, List.map_nil]); first | done | rfl | (simp only [List.length_drop, List.length_take]; rfl)) ?_; (with_reducible refine (impl_isBook.calls k _ _ l0_0 t107 _ ?side1 ?side2 A2.out).mono ?_); (case side1 => exact (by repeat (first | exact (Kd.C_below HR0_0.out HB.out) | (with_reducible refine Kd.C_alloc ?_ _) | (with_reducible refine Kd.C_drewN ?_ _) | (with_reducible refine Kd.C_drew ?_)))); (case side2 => exact HC0_0.out); rintro e w5 ⟨rfl, hb⟩; refine ⟨_, rfl, ?_⟩; have n0_ := Aside0.mk (blk_below (g := gb106) (o := .cells #[.slice A0_0 l0_0.length c0_0] 29 (0, 0)) (by (with_reducible repeat (first | refine blk_drewN ?_ _ | refine blk_drew ?_ | refine blk_alloc ?_ _)); exact BK106.out) hb); have n1_ := Aside0.mk (below_step u2_19 hb); clear BK106; clear HB; have BK106 := n0_; have HB := n1_; clear n0_ n1_; (try clear hb); (try clear hb2); (try clear hk); (try clear hi)))
  go_ret
  exact ⟨by first | rfl | (simp [errW_none, errW_some] <;> rfl) | (simp [*, errW_none, errW_some] <;> rfl), u2_19⟩

end Go.Proofs.Ytdbfjakhkclggaa.QFnHolds
