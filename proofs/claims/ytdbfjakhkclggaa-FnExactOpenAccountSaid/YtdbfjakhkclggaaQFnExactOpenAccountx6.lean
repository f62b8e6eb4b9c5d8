-- Printed by the session's own program wip/prx.py.
import Derived.Test.YtdbfjakhkclggaaQFnExactOpenAccountx0
namespace Go.Proofs.Ytdbfjakhkclggaa.QFnExactOpenAccount
open Go.RowKit Go.Proofs.YtdbfjakhkclggaaW.PrintWords Go.Proofs.YtdbfjakhkclggaaW.PrintLast Go.Proofs.YtdbfjakhkclggaaW.PrintMore
attribute [local go_sem] max2_int min2_int max_two min_two max_three min_three max_four min_four Go.Proofs.Ytdbfjakhkclggaa.Set.isSome_setCell Go.Proofs.Ytdbfjakhkclggaa.Add.add64   -- for this text's walks alone
set_option linter.unusedVariables false
set_option linter.unusedSimpArgs false

-- NOT PRINTED: function 76 (bits_Add64)

-- squeezed
theorem u6_0 {P : Prop} (h : P := by repeat (first | (with_reducible first | exact HB.out | apply below_alloc | apply pw_below_drewN | apply below_drew1 | refine below_set ?_ GE191.out) | exact HB.out)) : P := h
theorem u6_1 {P : Prop} (h : P := by (with_reducible repeat (first | refine blk_drewN ?_ _ | refine blk_drew ?_ | refine blk_alloc ?_ _)); exact BK191.out) : P := h
theorem u6_2 {P : Prop} (h : P := by (with_reducible repeat (first | refine blk_drewN ?_ _ | refine blk_drew ?_ | refine blk_alloc ?_ _)); refine blk_far ?_ NB191_193.out _; (with_reducible repeat (first | refine blk_drewN ?_ _ | refine blk_drew ?_ | refine blk_alloc ?_ _)); refine blk_far ?_ NB191_193.out _; (with_reducible repeat (first | refine blk_drewN ?_ _ | refine blk_drew ?_ | refine blk_alloc ?_ _)); refine blk_far ?_ NB191_193.out _; (with_reducible repeat (first | refine blk_drewN ?_ _ | refine blk_drew ?_ | refine blk_alloc ?_ _)); refine blk_far ?_ NB191_193.out _; (with_reducible repeat (first | refine blk_drewN ?_ _ | refine blk_drew ?_ | refine blk_alloc ?_ _)); refine blk_far ?_ NB191_193.out _; (with_reducible repeat (first | refine blk_drewN ?_ _ | refine blk_drew ?_ | refine blk_alloc ?_ _)); exact BK191.out) : P := h
theorem u6_3 {P : Prop} (h : P := by repeat (first | (with_reducible first | exact HB.out | apply below_alloc | apply pw_below_drewN | apply below_drew1 | refine below_set ?_ GE191.out | refine below_set ?_ GE193.out) | exact HB.out)) : P := h
theorem u6_4 {P : Prop} (h : P := by first | (rw [add_block]; exact hn195_0) | (show (Addr.add _ _).block ≠ _; rw [add_block]; exact hn195_0) | exact hn195_0) : P := h
theorem u6_5 {P : Prop} (h : P := by first | (rw [add_block]; exact hn195_1) | (show (Addr.add _ _).block ≠ _; rw [add_block]; exact hn195_1) | exact hn195_1) : P := h
theorem u6_6 {P : Prop} (h : P := by first | (rw [add_block]; exact hn195_2) | (show (Addr.add _ _).block ≠ _; rw [add_block]; exact hn195_2) | exact hn195_2) : P := h
theorem u6_7 {P : Prop} (h : P := by first | (rw [add_block]; exact hn195_3) | (show (Addr.add _ _).block ≠ _; rw [add_block]; exact hn195_3) | exact hn195_3) : P := h
theorem u6_8 {P : Prop} (h : P := by first | (rw [add_block]; exact hn195_4) | (show (Addr.add _ _).block ≠ _; rw [add_block]; exact hn195_4) | exact hn195_4) : P := h
theorem u6_9 {P : Prop} (h : P := by first | (rw [add_block]; exact hn194_0) | (show (Addr.add _ _).block ≠ _; rw [add_block]; exact hn194_0) | exact hn194_0) : P := h
theorem u6_10 {P : Prop} (h : P := by first | (rw [add_block]; exact hn194_1) | (show (Addr.add _ _).block ≠ _; rw [add_block]; exact hn194_1) | exact hn194_1) : P := h
theorem u6_11 {P : Prop} (h : P := by first | (rw [add_block]; exact hn194_2) | (show (Addr.add _ _).block ≠ _; rw [add_block]; exact hn194_2) | exact hn194_2) : P := h
theorem u6_12 {P : Prop} (h : P := by first | (rw [add_block]; exact hn194_3) | (show (Addr.add _ _).block ≠ _; rw [add_block]; exact hn194_3) | exact hn194_3) : P := h
theorem u6_13 {P : Prop} (h : P := by first | (rw [add_block]; exact hn194_4) | (show (Addr.add _ _).block ≠ _; rw [add_block]; exact hn194_4) | exact hn194_4) : P := h
theorem u6_14 {P : Prop} (h : P := by first | (with_reducible assumption) | assumption) : P := h
theorem u6_15 {P : Prop} (h : P := by have := World.block_lt_of_cell? _ _ hx195_0; first | rwa [add_block] at this | exact this) : P := h
theorem u6_16 {P : Prop} (h : P := by have := World.block_lt_of_cell? _ _ hx194_0; first | rwa [add_block] at this | exact this) : P := h
theorem u6_17 {P : Prop} (h : P := by repeat (first | (with_reducible first | exact HB.out | apply below_alloc | apply pw_below_drewN | apply below_drew1) | exact HB.out)) : P := h
theorem u6_18 {P : Prop} (h : P := by repeat (first | (with_reducible first | exact HB.out | apply below_alloc | apply pw_below_drewN | apply below_drew1 | refine below_set ?_ GE196.out | refine below_set ?_ GE197.out) | exact HB.out)) : P := h
theorem u6_19 {P : Prop} (h : P := by repeat (first | (with_reducible first | exact HB.out | apply below_alloc | apply pw_below_drewN | apply below_drew1 | refine below_set ?_ GE204.out) | exact HB.out)) : P := h
theorem u6_20 {P : Prop} (h : P := by (with_reducible repeat (first | refine blk_drewN ?_ _ | refine blk_drew ?_ | refine blk_alloc ?_ _)); exact BK196.out) : P := h
theorem u6_21 {P : Prop} (h : P := by repeat (first | (with_reducible first | exact HB.out | apply below_alloc | apply pw_below_drewN | apply below_drew1 | refine below_set ?_ GE196.out) | exact HB.out)) : P := h
theorem u6_22 {P : Prop} (h : P := by first | rfl | (simp; done) | (simp [*]; done)) : P := h
theorem u6_23 {P : Prop} (h : P := by (with_reducible repeat (first | refine blk_drewN ?_ _ | refine blk_drew ?_ | refine blk_alloc ?_ _)); exact BK197.out) : P := h
theorem u6_24 {P : Prop} (h : P := by (with_reducible repeat (first | refine blk_drewN ?_ _ | refine blk_drew ?_ | refine blk_alloc ?_ _)); exact BK204.out) : P := h
theorem u6_25 {P : Prop} (h : P := by simp only [Nat.min_def]; split <;> omega) : P := h
/-! ### impl_isBook: function 50 -/
def impl_isBook.l0 : Nat → List (S53) → Int → Int → List (S53) → Option (Bool)
  | 0, _, _, _, _ => none
  | k + 1, x10, x11, x12, x192000 => if x12 < x11 then (if 0 ≤ x12 then (if x12 < (x10.length : Int) then (if 0 ≤ ((rd_T53 x10 x12).f1) then (if 0 ≤ ((rd_T53 x10 x12).f2) then (if 0 ≤ (IntKind.u64.wrap (((rd_T53 x10 x12).f1) + ((rd_T53 x10 x12).f2))) then (if 0 ≤ ((rd_T53 x10 x12).f3) then (if (IntKind.u64.wrap (((((rd_T53 x10 x12).f1) + ((rd_T53 x10 x12).f2)) / 18446744073709551616) + (((IntKind.u64.wrap (((rd_T53 x10 x12).f1) + ((rd_T53 x10 x12).f2))) + ((rd_T53 x10 x12).f3)) / 18446744073709551616))) > 0 then (some false) else (if ((rd_T53 x10 x12).f4) < 0 then (some false) else (if ((rd_T53 x10 x12).f4) = 0 then (if ((rd_T53 x10 x12).f2) = 0 then (if ((rd_T53 x10 x12).f3) = 0 then (if x12 > 0 then (if 0 ≤ (wrap64 (x12 - 1)) then (if (wrap64 (x12 - 1)) < (x192000.length : Int) then (if ((rd_T53 x192000 (wrap64 (x12 - 1))).f0) ≥ ((rd_T53 x10 x12).f0) then (some false) else (impl_isBook.l0 k x10 x11 (wrap64 (x12 + 1)) x192000)) else (none)) else (none)) else (impl_isBook.l0 k x10 x11 (wrap64 (x12 + 1)) x192000)) else (some false)) else (some false)) else (if x12 > 0 then (if 0 ≤ (wrap64 (x12 - 1)) then (if (wrap64 (x12 - 1)) < (x192000.length : Int) then (if ((rd_T53 x192000 (wrap64 (x12 - 1))).f0) ≥ ((rd_T53 x10 x12).f0) then (some false) else (impl_isBook.l0 k x10 x11 (wrap64 (x12 + 1)) x192000)) else (none)) else (none)) else (impl_isBook.l0 k x10 x11 (wrap64 (x12 + 1)) x192000))))) else (none)) else (none)) else (none)) else (none)) else (none)) else (none)) else (some (decide ((x192000.length : Int) ≤ 40)))
def impl_isBook.f (k : Nat) (l0_0 : List (S53)) : Option (Bool) := impl_isBook.l0 k l0_0 (l0_0.length : Int) 0 l0_0
theorem impl_isBook.mono_l : ∀ k, (∀ y0 y1 y2 y3, LeO (impl_isBook.l0 k y0 y1 y2 y3) (impl_isBook.l0 (k + 1) y0 y1 y2 y3))
  | 0 => fun _ _ _ _ r h => by simp [impl_isBook.l0] at h
  | k + 1 => by
    have ih0 := impl_isBook.mono_l k
    · intro y0 y1 y2 y3
      unfold impl_isBook.l0
      repeat' first
      | (with_reducible exact ih0 _ _ _ _)
      | (with_reducible exact LeO.refl _)
      | (with_reducible exact LeO.none _)
      | (with_reducible refine LeO.ite ?_ ?_)
      | (with_reducible refine LeO.bind ?_ (fun _ => ?_))
      | exact ih0 _ _ _ _
      | exact LeO.none _
      | refine LeO.ite ?_ ?_
      | refine LeO.bind ?_ (fun _ => ?_)
theorem impl_isBook.mono : ∀ a0 k, LeO (impl_isBook.f k a0) (impl_isBook.f (k + 1) a0) := by
  intro a0 k
  have ih0 := impl_isBook.mono_l k
  unfold impl_isBook.f
  repeat' first
      | (with_reducible exact ih0 _ _ _ _)
      | (with_reducible exact LeO.refl _)
      | (with_reducible exact LeO.none _)
      | (with_reducible refine LeO.ite ?_ ?_)
      | (with_reducible refine LeO.bind ?_ (fun _ => ?_))
      | exact ih0 _ _ _ _
      | exact LeO.none _
      | refine LeO.ite ?_ ?_
      | refine LeO.bind ?_ (fun _ => ?_)
set_option maxHeartbeats 8000000 in
set_option maxRecDepth 100000 in
theorem impl_isBook.calls (k : Nat) (A0_0 : Option Addr) (c0_0 : Nat) (l0_0 : List (S53)) (r : Bool) (w : World) (hr0_0 : Kd.C k53 w A0_0 l0_0.length l0_0) (hc0_0 : l0_0.length ≤ c0_0) (h : impl_isBook.f k l0_0 = some r) :
    Calls Try.prog 50 #[.agg #[.slice A0_0 l0_0.length c0_0]] w fun e w' => e = .returned (.bool r) ∧ Below w.heap.size w w' := by
  have hu29 := Try.underlying29
  have hu53 := Try.underlying53
  have HR0_0 := Aside0.mk hr0_0
  have HC0_0 := Aside0.mk hc0_0
  clear hr0_0 hc0_0
  have HB := Aside0.mk (Below.refl w.heap.size w)
  have H : (impl_isBook.l0 k l0_0 (l0_0.length : Int) 0 l0_0) = some r := h
  clear h
  have H' := Aside0.mk H
  clear H
  go_enter Try.func50, Try.ntmps50
  go_wp2_with (first | (first | ((with_reducible refine gate_dst (N := 1) rfl ?_); refine box_event ?hg (N := 1) ?hd (cs := #[.slice A0_0 l0_0.length c0_0]) (t := 29) ?hr ?_; (case hd => rfl); (case hg => rfl); (case hr => first | (go_simp; done) | (go_simp; rfl)); intro gb191 hg w2 hbox hb; have n0_ := Aside0.mk (below_step u6_17 hb); have n1_ := Aside0.mk (hbox); have n2_ := Aside0.mk ((by rw [hg]; exact (below_size u6_17) : w.heap.size ≤ gb191)); have n3_ := Aside0.mk ((by rw [hg]; exact (below_size u6_17) : w.heap.size ≤ gb191)); clear HB; have HB := n0_; have BK191 := n1_; have GW191 := n2_; have GE191 := n3_; clear n0_ n1_ n2_ n3_; clear hb hbox hg; have hcz3_0 : w2.cell? ⟨gb191, 0, none⟩ = some (.slice A0_0 l0_0.length c0_0) := (blk_cell BK191.out 0).trans rfl; have hfz3_0 := blk_frozen BK191.out 0)) | go_quiet (fail))
  go_loopg [12] k (fun kq v12 w' => ∃ (x12_1 : Int), v12 = .int .i64 x12_1 ∧ Aside0 (impl_isBook.l0 kq l0_0 (l0_0.length : Int) x12_1 l0_0 = some r) ∧ Aside0 (kq ≤ k) ∧ Aside0 (w'.heap[gb191]? = some (.cells #[(.slice A0_0 l0_0.length c0_0)] 29 (0, 0))) ∧ Aside0 (Below w.heap.size w w'))
  case atStart => exact ⟨(0), u6_22, H', ⟨Nat.le_refl _⟩, ⟨u6_1⟩, ⟨u6_0⟩⟩
  clear H'
  try clear p2
  try clear hcz3_0
  try clear hfz3_0
  obtain ⟨x12_1, rfl, HA, HK1, BK191, HB⟩ := hrel
  cases gk with
  | zero => exact absurd HA.out (by simp [impl_isBook.l0])
  | succ k1 =>
    have H := HA.out
    clear HA
    simp only [impl_isBook.l0] at H
    by_cases c4 : x12_1 < (l0_0.length : Int)
    rotate_left
    · rw [if_neg c4] at H
      have c4b0 : decide (x12_1 < (l0_0.length : Int)) = false := decide_eq_false c4
      clear c4
      obtain rfl := Option.some.inj H
      have hcz53_0 : wr.cell? ⟨gb191, 0, none⟩ = some (.slice A0_0 l0_0.length c0_0) := (blk_cell BK191.out 0).trans rfl
      have hfz53_0 := blk_frozen BK191.out 0
      go_wp2
      repeat (go_quiet (fail); try go_wp2)
      go_ret
      exact ⟨by first | rfl | (simp [errW_none, errW_some] <;> rfl) | (simp [*, errW_none, errW_some] <;> rfl), u6_0⟩
    rw [if_pos c4] at H
    have c4b0 : decide (x12_1 < (l0_0.length : Int)) = true := decide_eq_true c4
    clear c4
    by_cases c5 : 0 ≤ x12_1
    rotate_left
    · rw [if_neg c5] at H
      exact absurd H (by simp)
    rw [if_pos c5] at H
    have c5b0 : decide (0 ≤ x12_1) = true := decide_eq_true c5
    clear c5
    by_cases c6 : x12_1 < (l0_0.length : Int)
    rotate_left
    · rw [if_neg c6] at H
      exact absurd H (by simp)
    rw [if_pos c6] at H
    have c6b0 : decide (x12_1 < (l0_0.length : Int)) = true := decide_eq_true c6
    clear c6
    by_cases c7 : 0 ≤ ((rd_T53 l0_0 x12_1).f1)
    rotate_left
    · rw [if_neg c7] at H
      exact absurd H (by simp)
    rw [if_pos c7] at H
    have c7b0 := eq_true c7
    have c7b1 : decide (0 ≤ ((rd_T53 l0_0 x12_1).f1)) = true := decide_eq_true c7
    clear c7
    by_cases c8 : 0 ≤ ((rd_T53 l0_0 x12_1).f2)
    rotate_left
    · rw [if_neg c8] at H
      exact absurd H (by simp)
    rw [if_pos c8] at H
    have c8b0 := eq_true c8
    have c8b1 : decide (0 ≤ ((rd_T53 l0_0 x12_1).f2)) = true := decide_eq_true c8
    clear c8
    obtain ⟨ji9, hji9⟩ : ∃ j_ : Int, (IntKind.u64.wrap (((rd_T53 l0_0 x12_1).f1) + ((rd_T53 l0_0 x12_1).f2))) = j_ := ⟨_, rfl⟩
    replace H : (if 0 ≤ (ji9) then (if 0 ≤ ((rd_T53 l0_0 x12_1).f3) then (if (IntKind.u64.wrap (((((rd_T53 l0_0 x12_1).f1) + ((rd_T53 l0_0 x12_1).f2)) / 18446744073709551616) + (((ji9) + ((rd_T53 l0_0 x12_1).f3)) / 18446744073709551616))) > 0 then (some false) else (if ((rd_T53 l0_0 x12_1).f4) < 0 then (some false) else (if ((rd_T53 l0_0 x12_1).f4) = 0 then (if ((rd_T53 l0_0 x12_1).f2) = 0 then (if ((rd_T53 l0_0 x12_1).f3) = 0 then (if x12_1 > 0 then (if 0 ≤ (wrap64 (x12_1 - 1)) then (if (wrap64 (x12_1 - 1)) < (l0_0.length : Int) then (if ((rd_T53 l0_0 (wrap64 (x12_1 - 1))).f0) ≥ ((rd_T53 l0_0 x12_1).f0) then (some false) else (impl_isBook.l0 k1 l0_0 (l0_0.length : Int) (wrap64 (x12_1 + 1)) l0_0)) else (none)) else (none)) else (impl_isBook.l0 k1 l0_0 (l0_0.length : Int) (wrap64 (x12_1 + 1)) l0_0)) else (some false)) else (some false)) else (if x12_1 > 0 then (if 0 ≤ (wrap64 (x12_1 - 1)) then (if (wrap64 (x12_1 - 1)) < (l0_0.length : Int) then (if ((rd_T53 l0_0 (wrap64 (x12_1 - 1))).f0) ≥ ((rd_T53 l0_0 x12_1).f0) then (some false) else (impl_isBook.l0 k1 l0_0 (l0_0.length : Int) (wrap64 (x12_1 + 1)) l0_0)) else (none)) else (none)) else (impl_isBook.l0 k1 l0_0 (l0_0.length : Int) (wrap64 (x12_1 + 1)) l0_0))))) else (none)) else (none)) = some r := by first | (rw [hji9] at H; exact H) | (simp only [hji9] at H ⊢; exact H)
    by_cases c10 : 0 ≤ (ji9)
    rotate_left
    · rw [if_neg c10] at H
      exact absurd H (by simp)
    rw [if_pos c10] at H
    have c10b0 := eq_true c10
    have c10b1 : decide (0 ≤ (ji9)) = true := decide_eq_true c10
    clear c10
    by_cases c11 : 0 ≤ ((rd_T53 l0_0 x12_1).f3)
    rotate_left
    · rw [if_neg c11] at H
      exact absurd H (by simp)
    rw [if_pos c11] at H
    have c11b0 := eq_true c11
    have c11b1 : decide (0 ≤ ((rd_T53 l0_0 x12_1).f3)) = true := decide_eq_true c11
    clear c11
    by_cases c12 : (IntKind.u64.wrap (((((rd_T53 l0_0 x12_1).f1) + ((rd_T53 l0_0 x12_1).f2)) / 18446744073709551616) + (((ji9) + ((rd_T53 l0_0 x12_1).f3)) / 18446744073709551616))) > 0
    · rw [if_pos c12] at H
      have c12b0 : decide (0 < (IntKind.u64.wrap (((((rd_T53 l0_0 x12_1).f1) + ((rd_T53 l0_0 x12_1).f2)) / 18446744073709551616) + (((ji9) + ((rd_T53 l0_0 x12_1).f3)) / 18446744073709551616)))) = true := decide_eq_true c12
      clear c12
      obtain rfl := Option.some.inj H
      have p192 : 0 ≤ (x12_1 : Int) := of_decide_eq_true u6_14
      have q192 : x12_1 < (l0_0.length : Int) := of_decide_eq_true u6_14
      obtain ⟨ad192, e192, hx192_0, hx192_1, hx192_2, hx192_3, hx192_4⟩ := at_T53 HR0_0.out x12_1 p192 q192
      cases e192
      replace hx192_0 := (HB.out.cell (World.block_lt_of_cell? w _ hx192_0)).trans hx192_0
      replace hx192_1 := (HB.out.cell (World.block_lt_of_cell? w _ hx192_1)).trans hx192_1
      replace hx192_2 := (HB.out.cell (World.block_lt_of_cell? w _ hx192_2)).trans hx192_2
      replace hx192_3 := (HB.out.cell (World.block_lt_of_cell? w _ hx192_3)).trans hx192_3
      replace hx192_4 := (HB.out.cell (World.block_lt_of_cell? w _ hx192_4)).trans hx192_4
      replace p192 := eq_true p192
      replace q192 := eq_true q192
      go_wp2_with (first | (first | ((with_reducible refine gate_dst (N := 4) rfl ?_); refine box_event ?hg (N := 4) ?hd (cs := #[.int .u64 0, .int .u64 0, .int .u64 0, .int .u64 0, .int .i64 0]) (t := 53) ?hr ?_; (case hd => rfl); (case hg => rfl); (case hr => first | (go_simp; done) | (go_simp; rfl)); intro gb193 hg w13 hbox hb; have n0_ := Aside0.mk (blk_below (g := gb191) (o := .cells #[.slice (some ad192) l0_0.length c0_0] 29 (0, 0)) u6_1 hb); have n1_ := Aside0.mk (below_step u6_0 hb); have n2_ := Aside0.mk (hbox); have n3_ := Aside0.mk ((by rw [hg]; exact (below_size u6_0) : w.heap.size ≤ gb193)); have n4_ := Aside0.mk ((by rw [hg]; exact (below_size u6_0) : w.heap.size ≤ gb193)); have n5_ := Aside0.mk ((by rw [hg]; exact Nat.ne_of_lt (blk_lt (g := gb191) (o := .cells #[.slice (some ad192) l0_0.length c0_0] 29 (0, 0)) u6_1) : gb191 ≠ gb193)); have n6_ := Aside0.mk ((by rw [hg]; exact Nat.ne_of_gt (blk_lt (g := gb191) (o := .cells #[.slice (some ad192) l0_0.length c0_0] 29 (0, 0)) u6_1) : gb193 ≠ gb191)); clear BK191; clear HB; have BK191 := n0_; have HB := n1_; have BK193 := n2_; have GW193 := n3_; have GE193 := n4_; have NB191_193 := n5_; have NB193_191 := n6_; clear n0_ n1_ n2_ n3_ n4_ n5_ n6_; clear hb hbox hg; have hnb14 := NB193_191.out; have hnc14 := NB191_193.out; have hcz15_0 : w13.cell? ⟨gb193, 0, none⟩ = some (.int .u64 0) := (blk_cell BK193.out 0).trans rfl; have hcz15_1 : w13.cell? ⟨gb193, 1, none⟩ = some (.int .u64 0) := (blk_cell BK193.out 1).trans rfl; have hcz15_2 : w13.cell? ⟨gb193, 2, none⟩ = some (.int .u64 0) := (blk_cell BK193.out 2).trans rfl; have hcz15_3 : w13.cell? ⟨gb193, 3, none⟩ = some (.int .u64 0) := (blk_cell BK193.out 3).trans rfl; have hcz15_4 : w13.cell? ⟨gb193, 4, none⟩ = some (.int .i64 0) := (blk_cell BK193.out 4).trans rfl; have hfz15_0 := blk_frozen BK193.out 0; have hfz15_1 := blk_frozen BK193.out 1; have hfz15_2 := blk_frozen BK193.out 2; have hfz15_3 := blk_frozen BK193.out 3; have hfz15_4 := blk_frozen BK193.out 4)) | go_quiet (fail))
      go_ret
      exact ⟨by first | rfl | (simp [errW_none, errW_some] <;> rfl) | (simp only [← hji9]; first | rfl | (simp [errW_none, errW_some] <;> rfl)) | (simp [*, errW_none, errW_some] <;> rfl), u6_3⟩
    rw [if_neg c12] at H
    have c12b0 : decide (0 < (IntKind.u64.wrap (((((rd_T53 l0_0 x12_1).f1) + ((rd_T53 l0_0 x12_1).f2)) / 18446744073709551616) + (((ji9) + ((rd_T53 l0_0 x12_1).f3)) / 18446744073709551616)))) = false := decide_eq_false c12
    clear c12
    by_cases c16 : ((rd_T53 l0_0 x12_1).f4) < 0
    · rw [if_pos c16] at H
      have c16b0 : decide (((rd_T53 l0_0 x12_1).f4) < 0) = true := decide_eq_true c16
      clear c16
      obtain rfl := Option.some.inj H
      have p192 : 0 ≤ (x12_1 : Int) := of_decide_eq_true u6_14
      have q192 : x12_1 < (l0_0.length : Int) := of_decide_eq_true u6_14
      obtain ⟨ad192, e192, hx192_0, hx192_1, hx192_2, hx192_3, hx192_4⟩ := at_T53 HR0_0.out x12_1 p192 q192
      cases e192
      replace hx192_0 := (HB.out.cell (World.block_lt_of_cell? w _ hx192_0)).trans hx192_0
      replace hx192_1 := (HB.out.cell (World.block_lt_of_cell? w _ hx192_1)).trans hx192_1
      replace hx192_2 := (HB.out.cell (World.block_lt_of_cell? w _ hx192_2)).trans hx192_2
      replace hx192_3 := (HB.out.cell (World.block_lt_of_cell? w _ hx192_3)).trans hx192_3
      replace hx192_4 := (HB.out.cell (World.block_lt_of_cell? w _ hx192_4)).trans hx192_4
      replace p192 := eq_true p192
      replace q192 := eq_true q192
      go_wp2_with (first | (first | ((with_reducible refine gate_dst (N := 4) rfl ?_); refine box_event ?hg (N := 4) ?hd (cs := #[.int .u64 0, .int .u64 0, .int .u64 0, .int .u64 0, .int .i64 0]) (t := 53) ?hr ?_; (case hd => rfl); (case hg => rfl); (case hr => first | (go_simp; done) | (go_simp; rfl)); intro gb193 hg w17 hbox hb; have n0_ := Aside0.mk (blk_below (g := gb191) (o := .cells #[.slice (some ad192) l0_0.length c0_0] 29 (0, 0)) u6_1 hb); have n1_ := Aside0.mk (below_step u6_0 hb); have n2_ := Aside0.mk (hbox); have n3_ := Aside0.mk ((by rw [hg]; exact (below_size u6_0) : w.heap.size ≤ gb193)); have n4_ := Aside0.mk ((by rw [hg]; exact (below_size u6_0) : w.heap.size ≤ gb193)); have n5_ := Aside0.mk ((by rw [hg]; exact Nat.ne_of_lt (blk_lt (g := gb191) (o := .cells #[.slice (some ad192) l0_0.length c0_0] 29 (0, 0)) u6_1) : gb191 ≠ gb193)); have n6_ := Aside0.mk ((by rw [hg]; exact Nat.ne_of_gt (blk_lt (g := gb191) (o := .cells #[.slice (some ad192) l0_0.length c0_0] 29 (0, 0)) u6_1) : gb193 ≠ gb191)); clear BK191; clear HB; have BK191 := n0_; have HB := n1_; have BK193 := n2_; have GW193 := n3_; have GE193 := n4_; have NB191_193 := n5_; have NB193_191 := n6_; clear n0_ n1_ n2_ n3_ n4_ n5_ n6_; clear hb hbox hg; have hnb18 := NB193_191.out; have hnc18 := NB191_193.out; have hcz19_0 : w17.cell? ⟨gb193, 0, none⟩ = some (.int .u64 0) := (blk_cell BK193.out 0).trans rfl; have hcz19_1 : w17.cell? ⟨gb193, 1, none⟩ = some (.int .u64 0) := (blk_cell BK193.out 1).trans rfl; have hcz19_2 : w17.cell? ⟨gb193, 2, none⟩ = some (.int .u64 0) := (blk_cell BK193.out 2).trans rfl; have hcz19_3 : w17.cell? ⟨gb193, 3, none⟩ = some (.int .u64 0) := (blk_cell BK193.out 3).trans rfl; have hcz19_4 : w17.cell? ⟨gb193, 4, none⟩ = some (.int .i64 0) := (blk_cell BK193.out 4).trans rfl; have hfz19_0 := blk_frozen BK193.out 0; have hfz19_1 := blk_frozen BK193.out 1; have hfz19_2 := blk_frozen BK193.out 2; have hfz19_3 := blk_frozen BK193.out 3; have hfz19_4 := blk_frozen BK193.out 4)) | go_quiet (fail))
      go_ret
      exact ⟨by first | rfl | (simp [errW_none, errW_some] <;> rfl) | (simp only [← hji9]; first | rfl | (simp [errW_none, errW_some] <;> rfl)) | (simp [*, errW_none, errW_some] <;> rfl), u6_3⟩
    rw [if_neg c16] at H
    have c16b0 : decide (((rd_T53 l0_0 x12_1).f4) < 0) = false := decide_eq_false c16
    clear c16
    by_cases c20 : ((rd_T53 l0_0 x12_1).f4) = 0
    rotate_left
    · rw [if_neg c20] at H
      have c20b0 : (((rd_T53 l0_0 x12_1).f4) == 0) = false := beq_eq_false_iff_ne.mpr c20
      have c20b1 : (((rd_T53 l0_0 x12_1).f4) != 0) = true := bne_iff_ne.mpr c20
      by_cases c41 : x12_1 > 0
      rotate_left
      · rw [if_neg c41] at H
        have c41b0 : decide (0 < x12_1) = false := decide_eq_false c41
        clear c41
        have H' := Aside0.mk H
        clear H
        have p192 : 0 ≤ (x12_1 : Int) := of_decide_eq_true u6_14
        have q192 : x12_1 < (l0_0.length : Int) := of_decide_eq_true u6_14
        obtain ⟨ad192, e192, hx192_0, hx192_1, hx192_2, hx192_3, hx192_4⟩ := at_T53 HR0_0.out x12_1 p192 q192
        cases e192
        replace hx192_0 := (HB.out.cell (World.block_lt_of_cell? w _ hx192_0)).trans hx192_0
        replace hx192_1 := (HB.out.cell (World.block_lt_of_cell? w _ hx192_1)).trans hx192_1
        replace hx192_2 := (HB.out.cell (World.block_lt_of_cell? w _ hx192_2)).trans hx192_2
        replace hx192_3 := (HB.out.cell (World.block_lt_of_cell? w _ hx192_3)).trans hx192_3
        replace hx192_4 := (HB.out.cell (World.block_lt_of_cell? w _ hx192_4)).trans hx192_4
        replace p192 := eq_true p192
        replace q192 := eq_true q192
        go_wp2_with (first | (first | ((with_reducible refine gate_dst (N := 4) rfl ?_); refine box_event ?hg (N := 4) ?hd (cs := #[.int .u64 0, .int .u64 0, .int .u64 0, .int .u64 0, .int .i64 0]) (t := 53) ?hr ?_; (case hd => rfl); (case hg => rfl); (case hr => first | (go_simp; done) | (go_simp; rfl)); intro gb193 hg w50 hbox hb; have n0_ := Aside0.mk (blk_below (g := gb191) (o := .cells #[.slice (some ad192) l0_0.length c0_0] 29 (0, 0)) u6_1 hb); have n1_ := Aside0.mk (below_step u6_0 hb); have n2_ := Aside0.mk (hbox); have n3_ := Aside0.mk ((by rw [hg]; exact (below_size u6_0) : w.heap.size ≤ gb193)); have n4_ := Aside0.mk ((by rw [hg]; exact (below_size u6_0) : w.heap.size ≤ gb193)); have n5_ := Aside0.mk ((by rw [hg]; exact Nat.ne_of_lt (blk_lt (g := gb191) (o := .cells #[.slice (some ad192) l0_0.length c0_0] 29 (0, 0)) u6_1) : gb191 ≠ gb193)); have n6_ := Aside0.mk ((by rw [hg]; exact Nat.ne_of_gt (blk_lt (g := gb191) (o := .cells #[.slice (some ad192) l0_0.length c0_0] 29 (0, 0)) u6_1) : gb193 ≠ gb191)); clear BK191; clear HB; have BK191 := n0_; have HB := n1_; have BK193 := n2_; have GW193 := n3_; have GE193 := n4_; have NB191_193 := n5_; have NB193_191 := n6_; clear n0_ n1_ n2_ n3_ n4_ n5_ n6_; clear hb hbox hg; have hnb51 := NB193_191.out; have hnc51 := NB191_193.out; have hcz52_0 : w50.cell? ⟨gb193, 0, none⟩ = some (.int .u64 0) := (blk_cell BK193.out 0).trans rfl; have hcz52_1 : w50.cell? ⟨gb193, 1, none⟩ = some (.int .u64 0) := (blk_cell BK193.out 1).trans rfl; have hcz52_2 : w50.cell? ⟨gb193, 2, none⟩ = some (.int .u64 0) := (blk_cell BK193.out 2).trans rfl; have hcz52_3 : w50.cell? ⟨gb193, 3, none⟩ = some (.int .u64 0) := (blk_cell BK193.out 3).trans rfl; have hcz52_4 : w50.cell? ⟨gb193, 4, none⟩ = some (.int .i64 0) := (blk_cell BK193.out 4).trans rfl; have hfz52_0 := blk_frozen BK193.out 0; have hfz52_1 := blk_frozen BK193.out 1; have hfz52_2 := blk_frozen BK193.out 2; have hfz52_3 := blk_frozen BK193.out 3; have hfz52_4 := blk_frozen BK193.out 4)) | go_quiet (fail))
        go_roundg k1
        case measure => have := HK1.out; omega
        case rel => exact ⟨(wrap64 (x12_1 + 1)), u6_22, H', ⟨by have := HK1.out; omega⟩, ⟨u6_2⟩, ⟨u6_3⟩⟩
      rw [if_pos c41] at H
      have c41b0 : decide (0 < x12_1) = true := decide_eq_true c41
      clear c41
      obtain ⟨ji42, hji42⟩ : ∃ j_ : Int, (wrap64 (x12_1 - 1)) = j_ := ⟨_, rfl⟩
      replace H : (if 0 ≤ (ji42) then (if (ji42) < (l0_0.length : Int) then (if ((rd_T53 l0_0 (ji42)).f0) ≥ ((rd_T53 l0_0 x12_1).f0) then (some false) else (impl_isBook.l0 k1 l0_0 (l0_0.length : Int) (wrap64 (x12_1 + 1)) l0_0)) else (none)) else (none)) = some r := by first | (rw [hji42] at H; exact H) | (simp only [hji42] at H ⊢; exact H)
      have hji42w : (IntKind.i64.wrap (x12_1 - 1)) = ji42 := (i64_w _).trans hji42
      by_cases c43 : 0 ≤ (ji42)
      rotate_left
      · rw [if_neg c43] at H
        exact absurd H (by simp)
      rw [if_pos c43] at H
      have c43b0 : decide (0 ≤ (ji42)) = true := decide_eq_true c43
      clear c43
      by_cases c44 : (ji42) < (l0_0.length : Int)
      rotate_left
      · rw [if_neg c44] at H
        exact absurd H (by simp)
      rw [if_pos c44] at H
      have c44b0 : decide ((ji42) < (l0_0.length : Int)) = true := decide_eq_true c44
      clear c44
      have H9 := Aside0.mk H
      clear H
      have p192 : 0 ≤ (x12_1 : Int) := of_decide_eq_true u6_14
      have q192 : x12_1 < (l0_0.length : Int) := of_decide_eq_true u6_14
      obtain ⟨ad192, e192, hx192_0, hx192_1, hx192_2, hx192_3, hx192_4⟩ := at_T53 HR0_0.out x12_1 p192 q192
      cases e192
      replace hx192_0 := (HB.out.cell (World.block_lt_of_cell? w _ hx192_0)).trans hx192_0
      replace hx192_1 := (HB.out.cell (World.block_lt_of_cell? w _ hx192_1)).trans hx192_1
      replace hx192_2 := (HB.out.cell (World.block_lt_of_cell? w _ hx192_2)).trans hx192_2
      replace hx192_3 := (HB.out.cell (World.block_lt_of_cell? w _ hx192_3)).trans hx192_3
      replace hx192_4 := (HB.out.cell (World.block_lt_of_cell? w _ hx192_4)).trans hx192_4
      replace p192 := eq_true p192
      replace q192 := eq_true q192
      go_upto_if 75 with (first | ((with_reducible refine gate_dst (N := 4) rfl ?_); refine box_event ?hg (N := 4) ?hd (cs := #[.int .u64 0, .int .u64 0, .int .u64 0, .int .u64 0, .int .i64 0]) (t := 53) ?hr ?_; (case hd => rfl); (case hg => rfl); (case hr => first | (go_simp; done) | (go_simp; rfl)); intro gb193 hg w45 hbox hb; have n0_ := Aside0.mk (blk_below (g := gb191) (o := .cells #[.slice (some ad192) l0_0.length c0_0] 29 (0, 0)) u6_1 hb); have n1_ := Aside0.mk (below_step u6_0 hb); have n2_ := Aside0.mk (hbox); have n3_ := Aside0.mk ((by rw [hg]; exact (below_size u6_0) : w.heap.size ≤ gb193)); have n4_ := Aside0.mk ((by rw [hg]; exact (below_size u6_0) : w.heap.size ≤ gb193)); have n5_ := Aside0.mk ((by rw [hg]; exact Nat.ne_of_lt (blk_lt (g := gb191) (o := .cells #[.slice (some ad192) l0_0.length c0_0] 29 (0, 0)) u6_1) : gb191 ≠ gb193)); have n6_ := Aside0.mk ((by rw [hg]; exact Nat.ne_of_gt (blk_lt (g := gb191) (o := .cells #[.slice (some ad192) l0_0.length c0_0] 29 (0, 0)) u6_1) : gb193 ≠ gb191)); clear BK191; clear HB; have BK191 := n0_; have HB := n1_; have BK193 := n2_; have GW193 := n3_; have GE193 := n4_; have NB191_193 := n5_; have NB193_191 := n6_; clear n0_ n1_ n2_ n3_ n4_ n5_ n6_; clear hb hbox hg; have hnb46 := NB193_191.out; have hnc46 := NB191_193.out; have hcz47_0 : w45.cell? ⟨gb193, 0, none⟩ = some (.int .u64 0) := (blk_cell BK193.out 0).trans rfl; have hcz47_1 : w45.cell? ⟨gb193, 1, none⟩ = some (.int .u64 0) := (blk_cell BK193.out 1).trans rfl; have hcz47_2 : w45.cell? ⟨gb193, 2, none⟩ = some (.int .u64 0) := (blk_cell BK193.out 2).trans rfl; have hcz47_3 : w45.cell? ⟨gb193, 3, none⟩ = some (.int .u64 0) := (blk_cell BK193.out 3).trans rfl; have hcz47_4 : w45.cell? ⟨gb193, 4, none⟩ = some (.int .i64 0) := (blk_cell BK193.out 4).trans rfl; have hfz47_0 := blk_frozen BK193.out 0; have hfz47_1 := blk_frozen BK193.out 1; have hfz47_2 := blk_frozen BK193.out 2; have hfz47_3 := blk_frozen BK193.out 3; have hfz47_4 := blk_frozen BK193.out 4; have hcz48_0 : w45.cell? ⟨gb191, 0, none⟩ = some (.slice (some ad192) l0_0.length c0_0) := (blk_cell BK191.out 0).trans rfl; have hfz48_0 := blk_frozen BK191.out 0; have p195 : 0 ≤ ((ji42) : Int) := of_decide_eq_true u6_14; have q195 : (ji42) < (l0_0.length : Int) := of_decide_eq_true u6_14; obtain ⟨ad195, e195, hx195_0, hx195_1, hx195_2, hx195_3, hx195_4⟩ := at_T53 HR0_0.out (ji42) p195 q195; obtain rfl : ad192 = ad195 := (by injection e195); have hn195_0 : ad192.block ≠ gb193 := Nat.ne_of_lt (Nat.lt_of_lt_of_le u6_15 GW193.out); have hn195_1 : ad192.block ≠ gb193 := Nat.ne_of_lt (Nat.lt_of_lt_of_le u6_15 GW193.out); have hn195_2 : ad192.block ≠ gb193 := Nat.ne_of_lt (Nat.lt_of_lt_of_le u6_15 GW193.out); have hn195_3 : ad192.block ≠ gb193 := Nat.ne_of_lt (Nat.lt_of_lt_of_le u6_15 GW193.out); have hn195_4 : ad192.block ≠ gb193 := Nat.ne_of_lt (Nat.lt_of_lt_of_le u6_15 GW193.out); replace hx195_0 := (HB.out.cell (World.block_lt_of_cell? w _ hx195_0)).trans hx195_0; replace hx195_1 := (HB.out.cell (World.block_lt_of_cell? w _ hx195_1)).trans hx195_1; replace hx195_2 := (HB.out.cell (World.block_lt_of_cell? w _ hx195_2)).trans hx195_2; replace hx195_3 := (HB.out.cell (World.block_lt_of_cell? w _ hx195_3)).trans hx195_3; replace hx195_4 := (HB.out.cell (World.block_lt_of_cell? w _ hx195_4)).trans hx195_4; replace hx195_0 := (cell_far (p := ⟨gb193, 0, none⟩) u6_4 (.int .u64 ((rd_T53 l0_0 x12_1).f0))).trans hx195_0; replace hx195_1 := (cell_far (p := ⟨gb193, 0, none⟩) u6_4 (.int .u64 ((rd_T53 l0_0 x12_1).f0))).trans hx195_1; replace hx195_2 := (cell_far (p := ⟨gb193, 0, none⟩) u6_4 (.int .u64 ((rd_T53 l0_0 x12_1).f0))).trans hx195_2; replace hx195_3 := (cell_far (p := ⟨gb193, 0, none⟩) u6_4 (.int .u64 ((rd_T53 l0_0 x12_1).f0))).trans hx195_3; replace hx195_4 := (cell_far (p := ⟨gb193, 0, none⟩) u6_4 (.int .u64 ((rd_T53 l0_0 x12_1).f0))).trans hx195_4; replace hx195_0 := (cell_far (p := ⟨gb193, 1, none⟩) u6_5 (.int .u64 ((rd_T53 l0_0 x12_1).f1))).trans hx195_0; replace hx195_1 := (cell_far (p := ⟨gb193, 1, none⟩) u6_5 (.int .u64 ((rd_T53 l0_0 x12_1).f1))).trans hx195_1; replace hx195_2 := (cell_far (p := ⟨gb193, 1, none⟩) u6_5 (.int .u64 ((rd_T53 l0_0 x12_1).f1))).trans hx195_2; replace hx195_3 := (cell_far (p := ⟨gb193, 1, none⟩) u6_5 (.int .u64 ((rd_T53 l0_0 x12_1).f1))).trans hx195_3; replace hx195_4 := (cell_far (p := ⟨gb193, 1, none⟩) u6_5 (.int .u64 ((rd_T53 l0_0 x12_1).f1))).trans hx195_4; replace hx195_0 := (cell_far (p := ⟨gb193, 2, none⟩) u6_6 (.int .u64 ((rd_T53 l0_0 x12_1).f2))).trans hx195_0; replace hx195_1 := (cell_far (p := ⟨gb193, 2, none⟩) u6_6 (.int .u64 ((rd_T53 l0_0 x12_1).f2))).trans hx195_1; replace hx195_2 := (cell_far (p := ⟨gb193, 2, none⟩) u6_6 (.int .u64 ((rd_T53 l0_0 x12_1).f2))).trans hx195_2; replace hx195_3 := (cell_far (p := ⟨gb193, 2, none⟩) u6_6 (.int .u64 ((rd_T53 l0_0 x12_1).f2))).trans hx195_3; replace hx195_4 := (cell_far (p := ⟨gb193, 2, none⟩) u6_6 (.int .u64 ((rd_T53 l0_0 x12_1).f2))).trans hx195_4; replace hx195_0 := (cell_far (p := ⟨gb193, 3, none⟩) u6_7 (.int .u64 ((rd_T53 l0_0 x12_1).f3))).trans hx195_0; replace hx195_1 := (cell_far (p := ⟨gb193, 3, none⟩) u6_7 (.int .u64 ((rd_T53 l0_0 x12_1).f3))).trans hx195_1; replace hx195_2 := (cell_far (p := ⟨gb193, 3, none⟩) u6_7 (.int .u64 ((rd_T53 l0_0 x12_1).f3))).trans hx195_2; replace hx195_3 := (cell_far (p := ⟨gb193, 3, none⟩) u6_7 (.int .u64 ((rd_T53 l0_0 x12_1).f3))).trans hx195_3; replace hx195_4 := (cell_far (p := ⟨gb193, 3, none⟩) u6_7 (.int .u64 ((rd_T53 l0_0 x12_1).f3))).trans hx195_4; replace hx195_0 := (cell_far (p := ⟨gb193, 4, none⟩) u6_8 (.int .i64 ((rd_T53 l0_0 x12_1).f4))).trans hx195_0; replace hx195_1 := (cell_far (p := ⟨gb193, 4, none⟩) u6_8 (.int .i64 ((rd_T53 l0_0 x12_1).f4))).trans hx195_1; replace hx195_2 := (cell_far (p := ⟨gb193, 4, none⟩) u6_8 (.int .i64 ((rd_T53 l0_0 x12_1).f4))).trans hx195_2; replace hx195_3 := (cell_far (p := ⟨gb193, 4, none⟩) u6_8 (.int .i64 ((rd_T53 l0_0 x12_1).f4))).trans hx195_3; replace hx195_4 := (cell_far (p := ⟨gb193, 4, none⟩) u6_8 (.int .i64 ((rd_T53 l0_0 x12_1).f4))).trans hx195_4; (try have hch_ := fun (n_ : Nat) => (show (((((((w45.drewN n_).setCell ⟨gb193, 0, none⟩ (.int .u64 ((rd_T53 l0_0 x12_1).f0))).setCell ⟨gb193, 1, none⟩ (.int .u64 ((rd_T53 l0_0 x12_1).f1))).setCell ⟨gb193, 2, none⟩ (.int .u64 ((rd_T53 l0_0 x12_1).f2))).setCell ⟨gb193, 3, none⟩ (.int .u64 ((rd_T53 l0_0 x12_1).f3))).setCell ⟨gb193, 4, none⟩ (.int .i64 ((rd_T53 l0_0 x12_1).f4)))) = World.drewN ((((((w45.setCell ⟨gb193, 0, none⟩ (.int .u64 ((rd_T53 l0_0 x12_1).f0))).setCell ⟨gb193, 1, none⟩ (.int .u64 ((rd_T53 l0_0 x12_1).f1))).setCell ⟨gb193, 2, none⟩ (.int .u64 ((rd_T53 l0_0 x12_1).f2))).setCell ⟨gb193, 3, none⟩ (.int .u64 ((rd_T53 l0_0 x12_1).f3))).setCell ⟨gb193, 4, none⟩ (.int .i64 ((rd_T53 l0_0 x12_1).f4)))) n_ from by simp only [Go.Proofs.Ytdbfjakhkclggaa.Slc.setCell_drewN])); (try have hy195_0 := fun (n_ : Nat) => Go.Proofs.Ytdbfjakhkclggaa.Slc.cell_of (hch_ n_) hx195_0); (try have hy195_1 := fun (n_ : Nat) => Go.Proofs.Ytdbfjakhkclggaa.Slc.cell_of (hch_ n_) hx195_1); (try have hy195_2 := fun (n_ : Nat) => Go.Proofs.Ytdbfjakhkclggaa.Slc.cell_of (hch_ n_) hx195_2); (try have hy195_3 := fun (n_ : Nat) => Go.Proofs.Ytdbfjakhkclggaa.Slc.cell_of (hch_ n_) hx195_3); (try have hy195_4 := fun (n_ : Nat) => Go.Proofs.Ytdbfjakhkclggaa.Slc.cell_of (hch_ n_) hx195_4); clear hn195_0; clear hn195_1; clear hn195_2; clear hn195_3; clear hn195_4; replace p195 := eq_true p195; replace q195 := eq_true q195))
      repeat (go_quiet (first | ((with_reducible refine gate_dst (N := 4) rfl ?_); refine box_event ?hg (N := 4) ?hd (cs := #[.int .u64 0, .int .u64 0, .int .u64 0, .int .u64 0, .int .i64 0]) (t := 53) ?hr ?_; (case hd => rfl); (case hg => rfl); (case hr => first | (go_simp; done) | (go_simp; rfl)); intro gb193 hg w45 hbox hb; have n0_ := Aside0.mk (blk_below (g := gb191) (o := .cells #[.slice (some ad192) l0_0.length c0_0] 29 (0, 0)) u6_1 hb); have n1_ := Aside0.mk (below_step u6_0 hb); have n2_ := Aside0.mk (hbox); have n3_ := Aside0.mk ((by rw [hg]; exact (below_size u6_0) : w.heap.size ≤ gb193)); have n4_ := Aside0.mk ((by rw [hg]; exact (below_size u6_0) : w.heap.size ≤ gb193)); have n5_ := Aside0.mk ((by rw [hg]; exact Nat.ne_of_lt (blk_lt (g := gb191) (o := .cells #[.slice (some ad192) l0_0.length c0_0] 29 (0, 0)) u6_1) : gb191 ≠ gb193)); have n6_ := Aside0.mk ((by rw [hg]; exact Nat.ne_of_gt (blk_lt (g := gb191) (o := .cells #[.slice (some ad192) l0_0.length c0_0] 29 (0, 0)) u6_1) : gb193 ≠ gb191)); clear BK191; clear HB; have BK191 := n0_; have HB := n1_; have BK193 := n2_; have GW193 := n3_; have GE193 := n4_; have NB191_193 := n5_; have NB193_191 := n6_; clear n0_ n1_ n2_ n3_ n4_ n5_ n6_; clear hb hbox hg; have hnb46 := NB193_191.out; have hnc46 := NB191_193.out; have hcz47_0 : w45.cell? ⟨gb193, 0, none⟩ = some (.int .u64 0) := (blk_cell BK193.out 0).trans rfl; have hcz47_1 : w45.cell? ⟨gb193, 1, none⟩ = some (.int .u64 0) := (blk_cell BK193.out 1).trans rfl; have hcz47_2 : w45.cell? ⟨gb193, 2, none⟩ = some (.int .u64 0) := (blk_cell BK193.out 2).trans rfl; have hcz47_3 : w45.cell? ⟨gb193, 3, none⟩ = some (.int .u64 0) := (blk_cell BK193.out 3).trans rfl; have hcz47_4 : w45.cell? ⟨gb193, 4, none⟩ = some (.int .i64 0) := (blk_cell BK193.out 4).trans rfl; have hfz47_0 := blk_frozen BK193.out 0; have hfz47_1 := blk_frozen BK193.out 1; have hfz47_2 := blk_frozen BK193.out 2; have hfz47_3 := blk_frozen BK193.out 3; have hfz47_4 := blk_frozen BK193.out 4; have hcz48_0 : w45.cell? ⟨gb191, 0, none⟩ = some (.slice (some ad192) l0_0.length c0_0) := (blk_cell BK191.out 0).trans rfl; have hfz48_0 := blk_frozen BK191.out 0; have p195 : 0 ≤ ((ji42) : Int) := of_decide_eq_true u6_14; have q195 : (ji42) < (l0_0.length : Int) := of_decide_eq_true u6_14; obtain ⟨ad195, e195, hx195_0, hx195_1, hx195_2, hx195_3, hx195_4⟩ := at_T53 HR0_0.out (ji42) p195 q195; obtain rfl : ad192 = ad195 := (by injection e195); have hn195_0 : ad192.block ≠ gb193 := Nat.ne_of_lt (Nat.lt_of_lt_of_le u6_15 GW193.out); have hn195_1 : ad192.block ≠ gb193 := Nat.ne_of_lt (Nat.lt_of_lt_of_le u6_15 GW193.out); have hn195_2 : ad192.block ≠ gb193 := Nat.ne_of_lt (Nat.lt_of_lt_of_le u6_15 GW193.out); have hn195_3 : ad192.block ≠ gb193 := Nat.ne_of_lt (Nat.lt_of_lt_of_le u6_15 GW193.out); have hn195_4 : ad192.block ≠ gb193 := Nat.ne_of_lt (Nat.lt_of_lt_of_le u6_15 GW193.out); replace hx195_0 := (HB.out.cell (World.block_lt_of_cell? w _ hx195_0)).trans hx195_0; replace hx195_1 := (HB.out.cell (World.block_lt_of_cell? w _ hx195_1)).trans hx195_1; replace hx195_2 := (HB.out.cell (World.block_lt_of_cell? w _ hx195_2)).trans hx195_2; replace hx195_3 := (HB.out.cell (World.block_lt_of_cell? w _ hx195_3)).trans hx195_3; replace hx195_4 := (HB.out.cell (World.block_lt_of_cell? w _ hx195_4)).trans hx195_4; replace hx195_0 := (cell_far (p := ⟨gb193, 0, none⟩) u6_4 (.int .u64 ((rd_T53 l0_0 x12_1).f0))).trans hx195_0; replace hx195_1 := (cell_far (p := ⟨gb193, 0, none⟩) u6_4 (.int .u64 ((rd_T53 l0_0 x12_1).f0))).trans hx195_1; replace hx195_2 := (cell_far (p := ⟨gb193, 0, none⟩) u6_4 (.int .u64 ((rd_T53 l0_0 x12_1).f0))).trans hx195_2; replace hx195_3 := (cell_far (p := ⟨gb193, 0, none⟩) u6_4 (.int .u64 ((rd_T53 l0_0 x12_1).f0))).trans hx195_3; replace hx195_4 := (cell_far (p := ⟨gb193, 0, none⟩) u6_4 (.int .u64 ((rd_T53 l0_0 x12_1).f0))).trans hx195_4; replace hx195_0 := (cell_far (p := ⟨gb193, 1, none⟩) u6_5 (.int .u64 ((rd_T53 l0_0 x12_1).f1))).trans hx195_0; replace hx195_1 := (cell_far (p := ⟨gb193, 1, none⟩) u6_5 (.int .u64 ((rd_T53 l0_0 x12_1).f1))).trans hx195_1; replace hx195_2 := (cell_far (p := ⟨gb193, 1, none⟩) u6_5 (.int .u64 ((rd_T53 l0_0 x12_1).f1))).trans hx195_2; replace hx195_3 := (cell_far (p := ⟨gb193, 1, none⟩) u6_5 (.int .u64 ((rd_T53 l0_0 x12_1).f1))).trans hx195_3; replace hx195_4 := (cell_far (p := ⟨gb193, 1, none⟩) u6_5 (.int .u64 ((rd_T53 l0_0 x12_1).f1))).trans hx195_4; replace hx195_0 := (cell_far (p := ⟨gb193, 2, none⟩) u6_6 (.int .u64 ((rd_T53 l0_0 x12_1).f2))).trans hx195_0; replace hx195_1 := (cell_far (p := ⟨gb193, 2, none⟩) u6_6 (.int .u64 ((rd_T53 l0_0 x12_1).f2))).trans hx195_1; replace hx195_2 := (cell_far (p := ⟨gb193, 2, none⟩) u6_6 (.int .u64 ((rd_T53 l0_0 x12_1).f2))).trans hx195_2; replace hx195_3 := (cell_far (p := ⟨gb193, 2, none⟩) u6_6 (.int .u64 ((rd_T53 l0_0 x12_1).f2))).trans hx195_3; replace hx195_4 := (cell_far (p := ⟨gb193, 2, none⟩) u6_6 (.int .u64 ((rd_T53 l0_0 x12_1).f2))).trans hx195_4; replace hx195_0 := (cell_far (p := ⟨gb193, 3, none⟩) u6_7 (.int .u64 ((rd_T53 l0_0 x12_1).f3))).trans hx195_0; replace hx195_1 := (cell_far (p := ⟨gb193, 3, none⟩) u6_7 (.int .u64 ((rd_T53 l0_0 x12_1).f3))).trans hx195_1; replace hx195_2 := (cell_far (p := ⟨gb193, 3, none⟩) u6_7 (.int .u64 ((rd_T53 l0_0 x12_1).f3))).trans hx195_2; replace hx195_3 := (cell_far (p := ⟨gb193, 3, none⟩) u6_7 (.int .u64 ((rd_T53 l0_0 x12_1).f3))).trans hx195_3; replace hx195_4 := (cell_far (p := ⟨gb193, 3, none⟩) u6_7 (.int .u64 ((rd_T53 l0_0 x12_1).f3))).trans hx195_4; replace hx195_0 := (cell_far (p := ⟨gb193, 4, none⟩) u6_8 (.int .i64 ((rd_T53 l0_0 x12_1).f4))).trans hx195_0; replace hx195_1 := (cell_far (p := ⟨gb193, 4, none⟩) u6_8 (.int .i64 ((rd_T53 l0_0 x12_1).f4))).trans hx195_1; replace hx195_2 := (cell_far (p := ⟨gb193, 4, none⟩) u6_8 (.int .i64 ((rd_T53 l0_0 x12_1).f4))).trans hx195_2; replace hx195_3 := (cell_far (p := ⟨gb193, 4, none⟩) u6_8 (.int .i64 ((rd_T53 l0_0 x12_1).f4))).trans hx195_3; replace hx195_4 := (cell_far (p := ⟨gb193, 4, none⟩) u6_8 (.int .i64 ((rd_T53 l0_0 x12_1).f4))).trans hx195_4; (try have hch_ := fun (n_ : Nat) => (show (((((((w45.drewN n_).setCell ⟨gb193, 0, none⟩ (.int .u64 ((rd_T53 l0_0 x12_1).f0))).setCell ⟨gb193, 1, none⟩ (.int .u64 ((rd_T53 l0_0 x12_1).f1))).setCell ⟨gb193, 2, none⟩ (.int .u64 ((rd_T53 l0_0 x12_1).f2))).setCell ⟨gb193, 3, none⟩ (.int .u64 ((rd_T53 l0_0 x12_1).f3))).setCell ⟨gb193, 4, none⟩ (.int .i64 ((rd_T53 l0_0 x12_1).f4)))) = World.drewN ((((((w45.setCell ⟨gb193, 0, none⟩ (.int .u64 ((rd_T53 l0_0 x12_1).f0))).setCell ⟨gb193, 1, none⟩ (.int .u64 ((rd_T53 l0_0 x12_1).f1))).setCell ⟨gb193, 2, none⟩ (.int .u64 ((rd_T53 l0_0 x12_1).f2))).setCell ⟨gb193, 3, none⟩ (.int .u64 ((rd_T53 l0_0 x12_1).f3))).setCell ⟨gb193, 4, none⟩ (.int .i64 ((rd_T53 l0_0 x12_1).f4)))) n_ from by simp only [Go.Proofs.Ytdbfjakhkclggaa.Slc.setCell_drewN])); (try have hy195_0 := fun (n_ : Nat) => Go.Proofs.Ytdbfjakhkclggaa.Slc.cell_of (hch_ n_) hx195_0); (try have hy195_1 := fun (n_ : Nat) => Go.Proofs.Ytdbfjakhkclggaa.Slc.cell_of (hch_ n_) hx195_1); (try have hy195_2 := fun (n_ : Nat) => Go.Proofs.Ytdbfjakhkclggaa.Slc.cell_of (hch_ n_) hx195_2); (try have hy195_3 := fun (n_ : Nat) => Go.Proofs.Ytdbfjakhkclggaa.Slc.cell_of (hch_ n_) hx195_3); (try have hy195_4 := fun (n_ : Nat) => Go.Proofs.Ytdbfjakhkclggaa.Slc.cell_of (hch_ n_) hx195_4); clear hn195_0; clear hn195_1; clear hn195_2; clear hn195_3; clear hn195_4; replace p195 := eq_true p195; replace q195 := eq_true q195)); go_upto_if 75 with (first | ((with_reducible refine gate_dst (N := 4) rfl ?_); refine box_event ?hg (N := 4) ?hd (cs := #[.int .u64 0, .int .u64 0, .int .u64 0, .int .u64 0, .int .i64 0]) (t := 53) ?hr ?_; (case hd => rfl); (case hg => rfl); (case hr => first | (go_simp; done) | (go_simp; rfl)); intro gb193 hg w45 hbox hb; have n0_ := Aside0.mk (blk_below (g := gb191) (o := .cells #[.slice (some ad192) l0_0.length c0_0] 29 (0, 0)) u6_1 hb); have n1_ := Aside0.mk (below_step u6_0 hb); have n2_ := Aside0.mk (hbox); have n3_ := Aside0.mk ((by rw [hg]; exact (below_size u6_0) : w.heap.size ≤ gb193)); have n4_ := Aside0.mk ((by rw [hg]; exact (below_size u6_0) : w.heap.size ≤ gb193)); have n5_ := Aside0.mk ((by rw [hg]; exact Nat.ne_of_lt (blk_lt (g := gb191) (o := .cells #[.slice (some ad192) l0_0.length c0_0] 29 (0, 0)) u6_1) : gb191 ≠ gb193)); have n6_ := Aside0.mk ((by rw [hg]; exact Nat.ne_of_gt (blk_lt (g := gb191) (o := .cells #[.slice (some ad192) l0_0.length c0_0] 29 (0, 0)) u6_1) : gb193 ≠ gb191)); clear BK191; clear HB; have BK191 := n0_; have HB := n1_; have BK193 := n2_; have GW193 := n3_; have GE193 := n4_; have NB191_193 := n5_; have NB193_191 := n6_; clear n0_ n1_ n2_ n3_ n4_ n5_ n6_; clear hb hbox hg; have hnb46 := NB193_191.out; have hnc46 := NB191_193.out; have hcz47_0 : w45.cell? ⟨gb193, 0, none⟩ = some (.int .u64 0) := (blk_cell BK193.out 0).trans rfl; have hcz47_1 : w45.cell? ⟨gb193, 1, none⟩ = some (.int .u64 0) := (blk_cell BK193.out 1).trans rfl; have hcz47_2 : w45.cell? ⟨gb193, 2, none⟩ = some (.int .u64 0) := (blk_cell BK193.out 2).trans rfl; have hcz47_3 : w45.cell? ⟨gb193, 3, none⟩ = some (.int .u64 0) := (blk_cell BK193.out 3).trans rfl; have hcz47_4 : w45.cell? ⟨gb193, 4, none⟩ = some (.int .i64 0) := (blk_cell BK193.out 4).trans rfl; have hfz47_0 := blk_frozen BK193.out 0; have hfz47_1 := blk_frozen BK193.out 1; have hfz47_2 := blk_frozen BK193.out 2; have hfz47_3 := blk_frozen BK193.out 3; have hfz47_4 := blk_frozen BK193.out 4; have hcz48_0 : w45.cell? ⟨gb191, 0, none⟩ = some (.slice (some ad192) l0_0.length c0_0) := (blk_cell BK191.out 0).trans rfl; have hfz48_0 := blk_frozen BK191.out 0; have p195 : 0 ≤ ((ji42) : Int) := of_decide_eq_true u6_14; have q195 : (ji42) < (l0_0.length : Int) := of_decide_eq_true u6_14; obtain ⟨ad195, e195, hx195_0, hx195_1, hx195_2, hx195_3, hx195_4⟩ := at_T53 HR0_0.out (ji42) p195 q195; obtain rfl : ad192 = ad195 := (by injection e195); have hn195_0 : ad192.block ≠ gb193 := Nat.ne_of_lt (Nat.lt_of_lt_of_le u6_15 GW193.out); have hn195_1 : ad192.block ≠ gb193 := Nat.ne_of_lt (Nat.lt_of_lt_of_le u6_15 GW193.out); have hn195_2 : ad192.block ≠ gb193 := Nat.ne_of_lt (Nat.lt_of_lt_of_le u6_15 GW193.out); have hn195_3 : ad192.block ≠ gb193 := Nat.ne_of_lt (Nat.lt_of_lt_of_le u6_15 GW193.out); have hn195_4 : ad192.block ≠ gb193 := Nat.ne_of_lt (Nat.lt_of_lt_of_le u6_15 GW193.out); replace hx195_0 := (HB.out.cell (World.block_lt_of_cell? w _ hx195_0)).trans hx195_0; replace hx195_1 := (HB.out.cell (World.block_lt_of_cell? w _ hx195_1)).trans hx195_1; replace hx195_2 := (HB.out.cell (World.block_lt_of_cell? w _ hx195_2)).trans hx195_2; replace hx195_3 := (HB.out.cell (World.block_lt_of_cell? w _ hx195_3)).trans hx195_3; replace hx195_4 := (HB.out.cell (World.block_lt_of_cell? w _ hx195_4)).trans hx195_4; replace hx195_0 := (cell_far (p := ⟨gb193, 0, none⟩) u6_4 (.int .u64 ((rd_T53 l0_0 x12_1).f0))).trans hx195_0; replace hx195_1 := (cell_far (p := ⟨gb193, 0, none⟩) u6_4 (.int .u64 ((rd_T53 l0_0 x12_1).f0))).trans hx195_1; replace hx195_2 := (cell_far (p := ⟨gb193, 0, none⟩) u6_4 (.int .u64 ((rd_T53 l0_0 x12_1).f0))).trans hx195_2; replace hx195_3 := (cell_far (p := ⟨gb193, 0, none⟩) u6_4 (.int .u64 ((rd_T53 l0_0 x12_1).f0))).trans hx195_3; replace hx195_4 := (cell_far (p := ⟨gb193, 0, none⟩) u6_4 (.int .u64 ((rd_T53 l0_0 x12_1).f0))).trans hx195_4; replace hx195_0 := (cell_far (p := ⟨gb193, 1, none⟩) u6_5 (.int .u64 ((rd_T53 l0_0 x12_1).f1))).trans hx195_0; replace hx195_1 := (cell_far (p := ⟨gb193, 1, none⟩) u6_5 (.int .u64 ((rd_T53 l0_0 x12_1).f1))).trans hx195_1; replace hx195_2 := (cell_far (p := ⟨gb193, 1, none⟩) u6_5 (.int .u64 ((rd_T53 l0_0 x12_1).f1))).trans hx195_2; replace hx195_3 := (cell_far (p := ⟨gb193, 1, none⟩) u6_5 (.int .u64 ((rd_T53 l0_0 x12_1).f1))).trans hx195_3; replace hx195_4 := (cell_far (p := ⟨gb193, 1, none⟩) u6_5 (.int .u64 ((rd_T53 l0_0 x12_1).f1))).trans hx195_4; replace hx195_0 := (cell_far (p := ⟨gb193, 2, none⟩) u6_6 (.int .u64 ((rd_T53 l0_0 x12_1).f2))).trans hx195_0; replace hx195_1 := (cell_far (p := ⟨gb193, 2, none⟩) u6_6 (.int .u64 ((rd_T53 l0_0 x12_1).f2))).trans hx195_1; replace hx195_2 := (cell_far (p := ⟨gb193, 2, none⟩) u6_6 (.int .u64 ((rd_T53 l0_0 x12_1).f2))).trans hx195_2; replace hx195_3 := (cell_far (p := ⟨gb193, 2, none⟩) u6_6 (.int .u64 ((rd_T53 l0_0 x12_1).f2))).trans hx195_3; replace hx195_4 := (cell_far (p := ⟨gb193, 2, none⟩) u6_6 (.int .u64 ((rd_T53 l0_0 x12_1).f2))).trans hx195_4; replace hx195_0 := (cell_far (p := ⟨gb193, 3, none⟩) u6_7 (.int .u64 ((rd_T53 l0_0 x12_1).f3))).trans hx195_0; replace hx195_1 := (cell_far (p := ⟨gb193, 3, none⟩) u6_7 (.int .u64 ((rd_T53 l0_0 x12_1).f3))).trans hx195_1; replace hx195_2 := (cell_far (p := ⟨gb193, 3, none⟩) u6_7 (.int .u64 ((rd_T53 l0_0 x12_1).f3))).trans hx195_2; replace hx195_3 := (cell_far (p := ⟨gb193, 3, none⟩) u6_7 (.int .u64 ((rd_T53 l0_0 x12_1).f3))).trans hx195_3; replace hx195_4 := (cell_far (p := ⟨gb193, 3, none⟩) u6_7 (.int .u64 ((rd_T53 l0_0 x12_1).f3))).trans hx195_4; replace hx195_0 := (cell_far (p := ⟨gb193, 4, none⟩) u6_8 (.int .i64 ((rd_T53 l0_0 x12_1).f4))).trans hx195_0; replace hx195_1 := (cell_far (p := ⟨gb193, 4, none⟩) u6_8 (.int .i64 ((rd_T53 l0_0 x12_1).f4))).trans hx195_1; replace hx195_2 := (cell_far (p := ⟨gb193, 4, none⟩) u6_8 (.int .i64 ((rd_T53 l0_0 x12_1).f4))).trans hx195_2; replace hx195_3 := (cell_far (p := ⟨gb193, 4, none⟩) u6_8 (.int .i64 ((rd_T53 l0_0 x12_1).f4))).trans hx195_3; replace hx195_4 := (cell_far (p := ⟨gb193, 4, none⟩) u6_8 (.int .i64 ((rd_T53 l0_0 x12_1).f4))).trans hx195_4; (try have hch_ := fun (n_ : Nat) => (show (((((((w45.drewN n_).setCell ⟨gb193, 0, none⟩ (.int .u64 ((rd_T53 l0_0 x12_1).f0))).setCell ⟨gb193, 1, none⟩ (.int .u64 ((rd_T53 l0_0 x12_1).f1))).setCell ⟨gb193, 2, none⟩ (.int .u64 ((rd_T53 l0_0 x12_1).f2))).setCell ⟨gb193, 3, none⟩ (.int .u64 ((rd_T53 l0_0 x12_1).f3))).setCell ⟨gb193, 4, none⟩ (.int .i64 ((rd_T53 l0_0 x12_1).f4)))) = World.drewN ((((((w45.setCell ⟨gb193, 0, none⟩ (.int .u64 ((rd_T53 l0_0 x12_1).f0))).setCell ⟨gb193, 1, none⟩ (.int .u64 ((rd_T53 l0_0 x12_1).f1))).setCell ⟨gb193, 2, none⟩ (.int .u64 ((rd_T53 l0_0 x12_1).f2))).setCell ⟨gb193, 3, none⟩ (.int .u64 ((rd_T53 l0_0 x12_1).f3))).setCell ⟨gb193, 4, none⟩ (.int .i64 ((rd_T53 l0_0 x12_1).f4)))) n_ from by simp only [Go.Proofs.Ytdbfjakhkclggaa.Slc.setCell_drewN])); (try have hy195_0 := fun (n_ : Nat) => Go.Proofs.Ytdbfjakhkclggaa.Slc.cell_of (hch_ n_) hx195_0); (try have hy195_1 := fun (n_ : Nat) => Go.Proofs.Ytdbfjakhkclggaa.Slc.cell_of (hch_ n_) hx195_1); (try have hy195_2 := fun (n_ : Nat) => Go.Proofs.Ytdbfjakhkclggaa.Slc.cell_of (hch_ n_) hx195_2); (try have hy195_3 := fun (n_ : Nat) => Go.Proofs.Ytdbfjakhkclggaa.Slc.cell_of (hch_ n_) hx195_3); (try have hy195_4 := fun (n_ : Nat) => Go.Proofs.Ytdbfjakhkclggaa.Slc.cell_of (hch_ n_) hx195_4); clear hn195_0; clear hn195_1; clear hn195_2; clear hn195_3; clear hn195_4; replace p195 := eq_true p195; replace q195 := eq_true q195)))
      have H := H9.out
      clear H9
      by_cases c49 : ((rd_T53 l0_0 (ji42)).f0) ≥ ((rd_T53 l0_0 x12_1).f0)
      · rw [if_pos c49] at H
        have c49b0 : decide (((rd_T53 l0_0 x12_1).f0) ≤ ((rd_T53 l0_0 (ji42)).f0)) = true := decide_eq_true c49
        clear c49
        (first | rw [c49b0] | (simp only [i64_w, i32_w]; rw [c49b0]) | skip)
        obtain rfl := Option.some.inj H
        go_wp2
        repeat (go_quiet (fail); try go_wp2)
        go_ret
        exact ⟨by first | rfl | (simp [errW_none, errW_some] <;> rfl) | (simp only [← hji9, ← hji42]; first | rfl | (simp [errW_none, errW_some] <;> rfl)) | (simp [*, errW_none, errW_some] <;> rfl), u6_3⟩
      rw [if_neg c49] at H
      have c49b0 : decide (((rd_T53 l0_0 x12_1).f0) ≤ ((rd_T53 l0_0 (ji42)).f0)) = false := decide_eq_false c49
      clear c49
      (first | rw [c49b0] | (simp only [i64_w, i32_w]; rw [c49b0]) | skip)
      have H' := Aside0.mk H
      clear H
      go_wp2
      repeat (go_quiet (fail); try go_wp2)
      go_roundg k1
      case measure => have := HK1.out; omega
      case rel => exact ⟨(wrap64 (x12_1 + 1)), u6_22, H', ⟨by have := HK1.out; omega⟩, ⟨u6_2⟩, ⟨u6_3⟩⟩
    rw [if_pos c20] at H
    have c20b0 : (((rd_T53 l0_0 x12_1).f4) == 0) = true := beq_iff_eq.mpr c20
    have c20b1 : (((rd_T53 l0_0 x12_1).f4) != 0) = false := bne_eq_false_iff_eq.mpr c20
    clear c20
    by_cases c21 : ((rd_T53 l0_0 x12_1).f2) = 0
    rotate_left
    · rw [if_neg c21] at H
      have c21b0 : (((rd_T53 l0_0 x12_1).f2) == 0) = false := beq_eq_false_iff_ne.mpr c21
      have c21b1 : (((rd_T53 l0_0 x12_1).f2) != 0) = true := bne_iff_ne.mpr c21
      obtain rfl := Option.some.inj H
      have p192 : 0 ≤ (x12_1 : Int) := of_decide_eq_true u6_14
      have q192 : x12_1 < (l0_0.length : Int) := of_decide_eq_true u6_14
      obtain ⟨ad192, e192, hx192_0, hx192_1, hx192_2, hx192_3, hx192_4⟩ := at_T53 HR0_0.out x12_1 p192 q192
      cases e192
      replace hx192_0 := (HB.out.cell (World.block_lt_of_cell? w _ hx192_0)).trans hx192_0
      replace hx192_1 := (HB.out.cell (World.block_lt_of_cell? w _ hx192_1)).trans hx192_1
      replace hx192_2 := (HB.out.cell (World.block_lt_of_cell? w _ hx192_2)).trans hx192_2
      replace hx192_3 := (HB.out.cell (World.block_lt_of_cell? w _ hx192_3)).trans hx192_3
      replace hx192_4 := (HB.out.cell (World.block_lt_of_cell? w _ hx192_4)).trans hx192_4
      replace p192 := eq_true p192
      replace q192 := eq_true q192
      go_wp2_with (first | (first | ((with_reducible refine gate_dst (N := 4) rfl ?_); refine box_event ?hg (N := 4) ?hd (cs := #[.int .u64 0, .int .u64 0, .int .u64 0, .int .u64 0, .int .i64 0]) (t := 53) ?hr ?_; (case hd => rfl); (case hg => rfl); (case hr => first | (go_simp; done) | (go_simp; rfl)); intro gb193 hg w38 hbox hb; have n0_ := Aside0.mk (blk_below (g := gb191) (o := .cells #[.slice (some ad192) l0_0.length c0_0] 29 (0, 0)) u6_1 hb); have n1_ := Aside0.mk (below_step u6_0 hb); have n2_ := Aside0.mk (hbox); have n3_ := Aside0.mk ((by rw [hg]; exact (below_size u6_0) : w.heap.size ≤ gb193)); have n4_ := Aside0.mk ((by rw [hg]; exact (below_size u6_0) : w.heap.size ≤ gb193)); have n5_ := Aside0.mk ((by rw [hg]; exact Nat.ne_of_lt (blk_lt (g := gb191) (o := .cells #[.slice (some ad192) l0_0.length c0_0] 29 (0, 0)) u6_1) : gb191 ≠ gb193)); have n6_ := Aside0.mk ((by rw [hg]; exact Nat.ne_of_gt (blk_lt (g := gb191) (o := .cells #[.slice (some ad192) l0_0.length c0_0] 29 (0, 0)) u6_1) : gb193 ≠ gb191)); clear BK191; clear HB; have BK191 := n0_; have HB := n1_; have BK193 := n2_; have GW193 := n3_; have GE193 := n4_; have NB191_193 := n5_; have NB193_191 := n6_; clear n0_ n1_ n2_ n3_ n4_ n5_ n6_; clear hb hbox hg; have hnb39 := NB193_191.out; have hnc39 := NB191_193.out; have hcz40_0 : w38.cell? ⟨gb193, 0, none⟩ = some (.int .u64 0) := (blk_cell BK193.out 0).trans rfl; have hcz40_1 : w38.cell? ⟨gb193, 1, none⟩ = some (.int .u64 0) := (blk_cell BK193.out 1).trans rfl; have hcz40_2 : w38.cell? ⟨gb193, 2, none⟩ = some (.int .u64 0) := (blk_cell BK193.out 2).trans rfl; have hcz40_3 : w38.cell? ⟨gb193, 3, none⟩ = some (.int .u64 0) := (blk_cell BK193.out 3).trans rfl; have hcz40_4 : w38.cell? ⟨gb193, 4, none⟩ = some (.int .i64 0) := (blk_cell BK193.out 4).trans rfl; have hfz40_0 := blk_frozen BK193.out 0; have hfz40_1 := blk_frozen BK193.out 1; have hfz40_2 := blk_frozen BK193.out 2; have hfz40_3 := blk_frozen BK193.out 3; have hfz40_4 := blk_frozen BK193.out 4)) | go_quiet (fail))
      go_ret
      exact ⟨by first | rfl | (simp [errW_none, errW_some] <;> rfl) | (simp only [← hji9]; first | rfl | (simp [errW_none, errW_some] <;> rfl)) | (simp [*, errW_none, errW_some] <;> rfl), u6_3⟩
    rw [if_pos c21] at H
    have c21b0 : (((rd_T53 l0_0 x12_1).f2) == 0) = true := beq_iff_eq.mpr c21
    have c21b1 : (((rd_T53 l0_0 x12_1).f2) != 0) = false := bne_eq_false_iff_eq.mpr c21
    clear c21
    by_cases c22 : ((rd_T53 l0_0 x12_1).f3) = 0
    rotate_left
    · rw [if_neg c22] at H
      have c22b0 : (((rd_T53 l0_0 x12_1).f3) == 0) = false := beq_eq_false_iff_ne.mpr c22
      have c22b1 : (((rd_T53 l0_0 x12_1).f3) != 0) = true := bne_iff_ne.mpr c22
      obtain rfl := Option.some.inj H
      have p192 : 0 ≤ (x12_1 : Int) := of_decide_eq_true u6_14
      have q192 : x12_1 < (l0_0.length : Int) := of_decide_eq_true u6_14
      obtain ⟨ad192, e192, hx192_0, hx192_1, hx192_2, hx192_3, hx192_4⟩ := at_T53 HR0_0.out x12_1 p192 q192
      cases e192
      replace hx192_0 := (HB.out.cell (World.block_lt_of_cell? w _ hx192_0)).trans hx192_0
      replace hx192_1 := (HB.out.cell (World.block_lt_of_cell? w _ hx192_1)).trans hx192_1
      replace hx192_2 := (HB.out.cell (World.block_lt_of_cell? w _ hx192_2)).trans hx192_2
      replace hx192_3 := (HB.out.cell (World.block_lt_of_cell? w _ hx192_3)).trans hx192_3
      replace hx192_4 := (HB.out.cell (World.block_lt_of_cell? w _ hx192_4)).trans hx192_4
      replace p192 := eq_true p192
      replace q192 := eq_true q192
      go_wp2_with (first | (first | ((with_reducible refine gate_dst (N := 4) rfl ?_); refine box_event ?hg (N := 4) ?hd (cs := #[.int .u64 0, .int .u64 0, .int .u64 0, .int .u64 0, .int .i64 0]) (t := 53) ?hr ?_; (case hd => rfl); (case hg => rfl); (case hr => first | (go_simp; done) | (go_simp; rfl)); intro gb193 hg w35 hbox hb; have n0_ := Aside0.mk (blk_below (g := gb191) (o := .cells #[.slice (some ad192) l0_0.length c0_0] 29 (0, 0)) u6_1 hb); have n1_ := Aside0.mk (below_step u6_0 hb); have n2_ := Aside0.mk (hbox); have n3_ := Aside0.mk ((by rw [hg]; exact (below_size u6_0) : w.heap.size ≤ gb193)); have n4_ := Aside0.mk ((by rw [hg]; exact (below_size u6_0) : w.heap.size ≤ gb193)); have n5_ := Aside0.mk ((by rw [hg]; exact Nat.ne_of_lt (blk_lt (g := gb191) (o := .cells #[.slice (some ad192) l0_0.length c0_0] 29 (0, 0)) u6_1) : gb191 ≠ gb193)); have n6_ := Aside0.mk ((by rw [hg]; exact Nat.ne_of_gt (blk_lt (g := gb191) (o := .cells #[.slice (some ad192) l0_0.length c0_0] 29 (0, 0)) u6_1) : gb193 ≠ gb191)); clear BK191; clear HB; have BK191 := n0_; have HB := n1_; have BK193 := n2_; have GW193 := n3_; have GE193 := n4_; have NB191_193 := n5_; have NB193_191 := n6_; clear n0_ n1_ n2_ n3_ n4_ n5_ n6_; clear hb hbox hg; have hnb36 := NB193_191.out; have hnc36 := NB191_193.out; have hcz37_0 : w35.cell? ⟨gb193, 0, none⟩ = some (.int .u64 0) := (blk_cell BK193.out 0).trans rfl; have hcz37_1 : w35.cell? ⟨gb193, 1, none⟩ = some (.int .u64 0) := (blk_cell BK193.out 1).trans rfl; have hcz37_2 : w35.cell? ⟨gb193, 2, none⟩ = some (.int .u64 0) := (blk_cell BK193.out 2).trans rfl; have hcz37_3 : w35.cell? ⟨gb193, 3, none⟩ = some (.int .u64 0) := (blk_cell BK193.out 3).trans rfl; have hcz37_4 : w35.cell? ⟨gb193, 4, none⟩ = some (.int .i64 0) := (blk_cell BK193.out 4).trans rfl; have hfz37_0 := blk_frozen BK193.out 0; have hfz37_1 := blk_frozen BK193.out 1; have hfz37_2 := blk_frozen BK193.out 2; have hfz37_3 := blk_frozen BK193.out 3; have hfz37_4 := blk_frozen BK193.out 4)) | go_quiet (fail))
      go_ret
      exact ⟨by first | rfl | (simp [errW_none, errW_some] <;> rfl) | (simp only [← hji9]; first | rfl | (simp [errW_none, errW_some] <;> rfl)) | (simp [*, errW_none, errW_some] <;> rfl), u6_3⟩
    rw [if_pos c22] at H
    have c22b0 : (((rd_T53 l0_0 x12_1).f3) == 0) = true := beq_iff_eq.mpr c22
    have c22b1 : (((rd_T53 l0_0 x12_1).f3) != 0) = false := bne_eq_false_iff_eq.mpr c22
    clear c22
    by_cases c23 : x12_1 > 0
    rotate_left
    · rw [if_neg c23] at H
      have c23b0 : decide (0 < x12_1) = false := decide_eq_false c23
      clear c23
      have H' := Aside0.mk H
      clear H
      have p192 : 0 ≤ (x12_1 : Int) := of_decide_eq_true u6_14
      have q192 : x12_1 < (l0_0.length : Int) := of_decide_eq_true u6_14
      obtain ⟨ad192, e192, hx192_0, hx192_1, hx192_2, hx192_3, hx192_4⟩ := at_T53 HR0_0.out x12_1 p192 q192
      cases e192
      replace hx192_0 := (HB.out.cell (World.block_lt_of_cell? w _ hx192_0)).trans hx192_0
      replace hx192_1 := (HB.out.cell (World.block_lt_of_cell? w _ hx192_1)).trans hx192_1
      replace hx192_2 := (HB.out.cell (World.block_lt_of_cell? w _ hx192_2)).trans hx192_2
      replace hx192_3 := (HB.out.cell (World.block_lt_of_cell? w _ hx192_3)).trans hx192_3
      replace hx192_4 := (HB.out.cell (World.block_lt_of_cell? w _ hx192_4)).trans hx192_4
      replace p192 := eq_true p192
      replace q192 := eq_true q192
      go_wp2_with (first | (first | ((with_reducible refine gate_dst (N := 4) rfl ?_); refine box_event ?hg (N := 4) ?hd (cs := #[.int .u64 0, .int .u64 0, .int .u64 0, .int .u64 0, .int .i64 0]) (t := 53) ?hr ?_; (case hd => rfl); (case hg => rfl); (case hr => first | (go_simp; done) | (go_simp; rfl)); intro gb193 hg w32 hbox hb; have n0_ := Aside0.mk (blk_below (g := gb191) (o := .cells #[.slice (some ad192) l0_0.length c0_0] 29 (0, 0)) u6_1 hb); have n1_ := Aside0.mk (below_step u6_0 hb); have n2_ := Aside0.mk (hbox); have n3_ := Aside0.mk ((by rw [hg]; exact (below_size u6_0) : w.heap.size ≤ gb193)); have n4_ := Aside0.mk ((by rw [hg]; exact (below_size u6_0) : w.heap.size ≤ gb193)); have n5_ := Aside0.mk ((by rw [hg]; exact Nat.ne_of_lt (blk_lt (g := gb191) (o := .cells #[.slice (some ad192) l0_0.length c0_0] 29 (0, 0)) u6_1) : gb191 ≠ gb193)); have n6_ := Aside0.mk ((by rw [hg]; exact Nat.ne_of_gt (blk_lt (g := gb191) (o := .cells #[.slice (some ad192) l0_0.length c0_0] 29 (0, 0)) u6_1) : gb193 ≠ gb191)); clear BK191; clear HB; have BK191 := n0_; have HB := n1_; have BK193 := n2_; have GW193 := n3_; have GE193 := n4_; have NB191_193 := n5_; have NB193_191 := n6_; clear n0_ n1_ n2_ n3_ n4_ n5_ n6_; clear hb hbox hg; have hnb33 := NB193_191.out; have hnc33 := NB191_193.out; have hcz34_0 : w32.cell? ⟨gb193, 0, none⟩ = some (.int .u64 0) := (blk_cell BK193.out 0).trans rfl; have hcz34_1 : w32.cell? ⟨gb193, 1, none⟩ = some (.int .u64 0) := (blk_cell BK193.out 1).trans rfl; have hcz34_2 : w32.cell? ⟨gb193, 2, none⟩ = some (.int .u64 0) := (blk_cell BK193.out 2).trans rfl; have hcz34_3 : w32.cell? ⟨gb193, 3, none⟩ = some (.int .u64 0) := (blk_cell BK193.out 3).trans rfl; have hcz34_4 : w32.cell? ⟨gb193, 4, none⟩ = some (.int .i64 0) := (blk_cell BK193.out 4).trans rfl; have hfz34_0 := blk_frozen BK193.out 0; have hfz34_1 := blk_frozen BK193.out 1; have hfz34_2 := blk_frozen BK193.out 2; have hfz34_3 := blk_frozen BK193.out 3; have hfz34_4 := blk_frozen BK193.out 4)) | go_quiet (fail))
      go_roundg k1
      case measure => have := HK1.out; omega
      case rel => exact ⟨(wrap64 (x12_1 + 1)), u6_22, H', ⟨by have := HK1.out; omega⟩, ⟨u6_2⟩, ⟨u6_3⟩⟩
    rw [if_pos c23] at H
    have c23b0 : decide (0 < x12_1) = true := decide_eq_true c23
    clear c23
    obtain ⟨ji24, hji24⟩ : ∃ j_ : Int, (wrap64 (x12_1 - 1)) = j_ := ⟨_, rfl⟩
    replace H : (if 0 ≤ (ji24) then (if (ji24) < (l0_0.length : Int) then (if ((rd_T53 l0_0 (ji24)).f0) ≥ ((rd_T53 l0_0 x12_1).f0) then (some false) else (impl_isBook.l0 k1 l0_0 (l0_0.length : Int) (wrap64 (x12_1 + 1)) l0_0)) else (none)) else (none)) = some r := by first | (rw [hji24] at H; exact H) | (simp only [hji24] at H ⊢; exact H)
    have hji24w : (IntKind.i64.wrap (x12_1 - 1)) = ji24 := (i64_w _).trans hji24
    by_cases c25 : 0 ≤ (ji24)
    rotate_left
    · rw [if_neg c25] at H
      exact absurd H (by simp)
    rw [if_pos c25] at H
    have c25b0 : decide (0 ≤ (ji24)) = true := decide_eq_true c25
    clear c25
    by_cases c26 : (ji24) < (l0_0.length : Int)
    rotate_left
    · rw [if_neg c26] at H
      exact absurd H (by simp)
    rw [if_pos c26] at H
    have c26b0 : decide ((ji24) < (l0_0.length : Int)) = true := decide_eq_true c26
    clear c26
    have H9 := Aside0.mk H
    clear H
    have p192 : 0 ≤ (x12_1 : Int) := of_decide_eq_true u6_14
    have q192 : x12_1 < (l0_0.length : Int) := of_decide_eq_true u6_14
    obtain ⟨ad192, e192, hx192_0, hx192_1, hx192_2, hx192_3, hx192_4⟩ := at_T53 HR0_0.out x12_1 p192 q192
    cases e192
    replace hx192_0 := (HB.out.cell (World.block_lt_of_cell? w _ hx192_0)).trans hx192_0
    replace hx192_1 := (HB.out.cell (World.block_lt_of_cell? w _ hx192_1)).trans hx192_1
    replace hx192_2 := (HB.out.cell (World.block_lt_of_cell? w _ hx192_2)).trans hx192_2
    replace hx192_3 := (HB.out.cell (World.block_lt_of_cell? w _ hx192_3)).trans hx192_3
    replace hx192_4 := (HB.out.cell (World.block_lt_of_cell? w _ hx192_4)).trans hx192_4
    replace p192 := eq_true p192
    replace q192 := eq_true q192
    go_upto_if 75 with (first | ((with_reducible refine gate_dst (N := 4) rfl ?_); refine box_event ?hg (N := 4) ?hd (cs := #[.int .u64 0, .int .u64 0, .int .u64 0, .int .u64 0, .int .i64 0]) (t := 53) ?hr ?_; (case hd => rfl); (case hg => rfl); (case hr => first | (go_simp; done) | (go_simp; rfl)); intro gb193 hg w27 hbox hb; have n0_ := Aside0.mk (blk_below (g := gb191) (o := .cells #[.slice (some ad192) l0_0.length c0_0] 29 (0, 0)) u6_1 hb); have n1_ := Aside0.mk (below_step u6_0 hb); have n2_ := Aside0.mk (hbox); have n3_ := Aside0.mk ((by rw [hg]; exact (below_size u6_0) : w.heap.size ≤ gb193)); have n4_ := Aside0.mk ((by rw [hg]; exact (below_size u6_0) : w.heap.size ≤ gb193)); have n5_ := Aside0.mk ((by rw [hg]; exact Nat.ne_of_lt (blk_lt (g := gb191) (o := .cells #[.slice (some ad192) l0_0.length c0_0] 29 (0, 0)) u6_1) : gb191 ≠ gb193)); have n6_ := Aside0.mk ((by rw [hg]; exact Nat.ne_of_gt (blk_lt (g := gb191) (o := .cells #[.slice (some ad192) l0_0.length c0_0] 29 (0, 0)) u6_1) : gb193 ≠ gb191)); clear BK191; clear HB; have BK191 := n0_; have HB := n1_; have BK193 := n2_; have GW193 := n3_; have GE193 := n4_; have NB191_193 := n5_; have NB193_191 := n6_; clear n0_ n1_ n2_ n3_ n4_ n5_ n6_; clear hb hbox hg; have hnb28 := NB193_191.out; have hnc28 := NB191_193.out; have hcz29_0 : w27.cell? ⟨gb193, 0, none⟩ = some (.int .u64 0) := (blk_cell BK193.out 0).trans rfl; have hcz29_1 : w27.cell? ⟨gb193, 1, none⟩ = some (.int .u64 0) := (blk_cell BK193.out 1).trans rfl; have hcz29_2 : w27.cell? ⟨gb193, 2, none⟩ = some (.int .u64 0) := (blk_cell BK193.out 2).trans rfl; have hcz29_3 : w27.cell? ⟨gb193, 3, none⟩ = some (.int .u64 0) := (blk_cell BK193.out 3).trans rfl; have hcz29_4 : w27.cell? ⟨gb193, 4, none⟩ = some (.int .i64 0) := (blk_cell BK193.out 4).trans rfl; have hfz29_0 := blk_frozen BK193.out 0; have hfz29_1 := blk_frozen BK193.out 1; have hfz29_2 := blk_frozen BK193.out 2; have hfz29_3 := blk_frozen BK193.out 3; have hfz29_4 := blk_frozen BK193.out 4; have hcz30_0 : w27.cell? ⟨gb191, 0, none⟩ = some (.slice (some ad192) l0_0.length c0_0) := (blk_cell BK191.out 0).trans rfl; have hfz30_0 := blk_frozen BK191.out 0; have p194 : 0 ≤ ((ji24) : Int) := of_decide_eq_true u6_14; have q194 : (ji24) < (l0_0.length : Int) := of_decide_eq_true u6_14; obtain ⟨ad194, e194, hx194_0, hx194_1, hx194_2, hx194_3, hx194_4⟩ := at_T53 HR0_0.out (ji24) p194 q194; obtain rfl : ad192 = ad194 := (by injection e194); have hn194_0 : ad192.block ≠ gb193 := Nat.ne_of_lt (Nat.lt_of_lt_of_le u6_16 GW193.out); have hn194_1 : ad192.block ≠ gb193 := Nat.ne_of_lt (Nat.lt_of_lt_of_le u6_16 GW193.out); have hn194_2 : ad192.block ≠ gb193 := Nat.ne_of_lt (Nat.lt_of_lt_of_le u6_16 GW193.out); have hn194_3 : ad192.block ≠ gb193 := Nat.ne_of_lt (Nat.lt_of_lt_of_le u6_16 GW193.out); have hn194_4 : ad192.block ≠ gb193 := Nat.ne_of_lt (Nat.lt_of_lt_of_le u6_16 GW193.out); replace hx194_0 := (HB.out.cell (World.block_lt_of_cell? w _ hx194_0)).trans hx194_0; replace hx194_1 := (HB.out.cell (World.block_lt_of_cell? w _ hx194_1)).trans hx194_1; replace hx194_2 := (HB.out.cell (World.block_lt_of_cell? w _ hx194_2)).trans hx194_2; replace hx194_3 := (HB.out.cell (World.block_lt_of_cell? w _ hx194_3)).trans hx194_3; replace hx194_4 := (HB.out.cell (World.block_lt_of_cell? w _ hx194_4)).trans hx194_4; replace hx194_0 := (cell_far (p := ⟨gb193, 0, none⟩) u6_9 (.int .u64 ((rd_T53 l0_0 x12_1).f0))).trans hx194_0; replace hx194_1 := (cell_far (p := ⟨gb193, 0, none⟩) u6_9 (.int .u64 ((rd_T53 l0_0 x12_1).f0))).trans hx194_1; replace hx194_2 := (cell_far (p := ⟨gb193, 0, none⟩) u6_9 (.int .u64 ((rd_T53 l0_0 x12_1).f0))).trans hx194_2; replace hx194_3 := (cell_far (p := ⟨gb193, 0, none⟩) u6_9 (.int .u64 ((rd_T53 l0_0 x12_1).f0))).trans hx194_3; replace hx194_4 := (cell_far (p := ⟨gb193, 0, none⟩) u6_9 (.int .u64 ((rd_T53 l0_0 x12_1).f0))).trans hx194_4; replace hx194_0 := (cell_far (p := ⟨gb193, 1, none⟩) u6_10 (.int .u64 ((rd_T53 l0_0 x12_1).f1))).trans hx194_0; replace hx194_1 := (cell_far (p := ⟨gb193, 1, none⟩) u6_10 (.int .u64 ((rd_T53 l0_0 x12_1).f1))).trans hx194_1; replace hx194_2 := (cell_far (p := ⟨gb193, 1, none⟩) u6_10 (.int .u64 ((rd_T53 l0_0 x12_1).f1))).trans hx194_2; replace hx194_3 := (cell_far (p := ⟨gb193, 1, none⟩) u6_10 (.int .u64 ((rd_T53 l0_0 x12_1).f1))).trans hx194_3; replace hx194_4 := (cell_far (p := ⟨gb193, 1, none⟩) u6_10 (.int .u64 ((rd_T53 l0_0 x12_1).f1))).trans hx194_4; replace hx194_0 := (cell_far (p := ⟨gb193, 2, none⟩) u6_11 (.int .u64 ((rd_T53 l0_0 x12_1).f2))).trans hx194_0; replace hx194_1 := (cell_far (p := ⟨gb193, 2, none⟩) u6_11 (.int .u64 ((rd_T53 l0_0 x12_1).f2))).trans hx194_1; replace hx194_2 := (cell_far (p := ⟨gb193, 2, none⟩) u6_11 (.int .u64 ((rd_T53 l0_0 x12_1).f2))).trans hx194_2; replace hx194_3 := (cell_far (p := ⟨gb193, 2, none⟩) u6_11 (.int .u64 ((rd_T53 l0_0 x12_1).f2))).trans hx194_3; replace hx194_4 := (cell_far (p := ⟨gb193, 2, none⟩) u6_11 (.int .u64 ((rd_T53 l0_0 x12_1).f2))).trans hx194_4; replace hx194_0 := (cell_far (p := ⟨gb193, 3, none⟩) u6_12 (.int .u64 ((rd_T53 l0_0 x12_1).f3))).trans hx194_0; replace hx194_1 := (cell_far (p := ⟨gb193, 3, none⟩) u6_12 (.int .u64 ((rd_T53 l0_0 x12_1).f3))).trans hx194_1; replace hx194_2 := (cell_far (p := ⟨gb193, 3, none⟩) u6_12 (.int .u64 ((rd_T53 l0_0 x12_1).f3))).trans hx194_2; replace hx194_3 := (cell_far (p := ⟨gb193, 3, none⟩) u6_12 (.int .u64 ((rd_T53 l0_0 x12_1).f3))).trans hx194_3; replace hx194_4 := (cell_far (p := ⟨gb193, 3, none⟩) u6_12 (.int .u64 ((rd_T53 l0_0 x12_1).f3))).trans hx194_4; replace hx194_0 := (cell_far (p := ⟨gb193, 4, none⟩) u6_13 (.int .i64 ((rd_T53 l0_0 x12_1).f4))).trans hx194_0; replace hx194_1 := (cell_far (p := ⟨gb193, 4, none⟩) u6_13 (.int .i64 ((rd_T53 l0_0 x12_1).f4))).trans hx194_1; replace hx194_2 := (cell_far (p := ⟨gb193, 4, none⟩) u6_13 (.int .i64 ((rd_T53 l0_0 x12_1).f4))).trans hx194_2; replace hx194_3 := (cell_far (p := ⟨gb193, 4, none⟩) u6_13 (.int .i64 ((rd_T53 l0_0 x12_1).f4))).trans hx194_3; replace hx194_4 := (cell_far (p := ⟨gb193, 4, none⟩) u6_13 (.int .i64 ((rd_T53 l0_0 x12_1).f4))).trans hx194_4; (try have hch_ := fun (n_ : Nat) => (show (((((((w27.drewN n_).setCell ⟨gb193, 0, none⟩ (.int .u64 ((rd_T53 l0_0 x12_1).f0))).setCell ⟨gb193, 1, none⟩ (.int .u64 ((rd_T53 l0_0 x12_1).f1))).setCell ⟨gb193, 2, none⟩ (.int .u64 ((rd_T53 l0_0 x12_1).f2))).setCell ⟨gb193, 3, none⟩ (.int .u64 ((rd_T53 l0_0 x12_1).f3))).setCell ⟨gb193, 4, none⟩ (.int .i64 ((rd_T53 l0_0 x12_1).f4)))) = World.drewN ((((((w27.setCell ⟨gb193, 0, none⟩ (.int .u64 ((rd_T53 l0_0 x12_1).f0))).setCell ⟨gb193, 1, none⟩ (.int .u64 ((rd_T53 l0_0 x12_1).f1))).setCell ⟨gb193, 2, none⟩ (.int .u64 ((rd_T53 l0_0 x12_1).f2))).setCell ⟨gb193, 3, none⟩ (.int .u64 ((rd_T53 l0_0 x12_1).f3))).setCell ⟨gb193, 4, none⟩ (.int .i64 ((rd_T53 l0_0 x12_1).f4)))) n_ from by simp only [Go.Proofs.Ytdbfjakhkclggaa.Slc.setCell_drewN])); (try have hy194_0 := fun (n_ : Nat) => Go.Proofs.Ytdbfjakhkclggaa.Slc.cell_of (hch_ n_) hx194_0); (try have hy194_1 := fun (n_ : Nat) => Go.Proofs.Ytdbfjakhkclggaa.Slc.cell_of (hch_ n_) hx194_1); (try have hy194_2 := fun (n_ : Nat) => Go.Proofs.Ytdbfjakhkclggaa.Slc.cell_of (hch_ n_) hx194_2); (try have hy194_3 := fun (n_ : Nat) => Go.Proofs.Ytdbfjakhkclggaa.Slc.cell_of (hch_ n_) hx194_3); (try have hy194_4 := fun (n_ : Nat) => Go.Proofs.Ytdbfjakhkclggaa.Slc.cell_of (hch_ n_) hx194_4); clear hn194_0; clear hn194_1; clear hn194_2; clear hn194_3; clear hn194_4; replace p194 := eq_true p194; replace q194 := eq_true q194))
    repeat (go_quiet (first | ((with_reducible refine gate_dst (N := 4) rfl ?_); refine box_event ?hg (N := 4) ?hd (cs := #[.int .u64 0, .int .u64 0, .int .u64 0, .int .u64 0, .int .i64 0]) (t := 53) ?hr ?_; (case hd => rfl); (case hg => rfl); (case hr => first | (go_simp; done) | (go_simp; rfl)); intro gb193 hg w27 hbox hb; have n0_ := Aside0.mk (blk_below (g := gb191) (o := .cells #[.slice (some ad192) l0_0.length c0_0] 29 (0, 0)) u6_1 hb); have n1_ := Aside0.mk (below_step u6_0 hb); have n2_ := Aside0.mk (hbox); have n3_ := Aside0.mk ((by rw [hg]; exact (below_size u6_0) : w.heap.size ≤ gb193)); have n4_ := Aside0.mk ((by rw [hg]; exact (below_size u6_0) : w.heap.size ≤ gb193)); have n5_ := Aside0.mk ((by rw [hg]; exact Nat.ne_of_lt (blk_lt (g := gb191) (o := .cells #[.slice (some ad192) l0_0.length c0_0] 29 (0, 0)) u6_1) : gb191 ≠ gb193)); have n6_ := Aside0.mk ((by rw [hg]; exact Nat.ne_of_gt (blk_lt (g := gb191) (o := .cells #[.slice (some ad192) l0_0.length c0_0] 29 (0, 0)) u6_1) : gb193 ≠ gb191)); clear BK191; clear HB; have BK191 := n0_; have HB := n1_; have BK193 := n2_; have GW193 := n3_; have GE193 := n4_; have NB191_193 := n5_; have NB193_191 := n6_; clear n0_ n1_ n2_ n3_ n4_ n5_ n6_; clear hb hbox hg; have hnb28 := NB193_191.out; have hnc28 := NB191_193.out; have hcz29_0 : w27.cell? ⟨gb193, 0, none⟩ = some (.int .u64 0) := (blk_cell BK193.out 0).trans rfl; have hcz29_1 : w27.cell? ⟨gb193, 1, none⟩ = some (.int .u64 0) := (blk_cell BK193.out 1).trans rfl; have hcz29_2 : w27.cell? ⟨gb193, 2, none⟩ = some (.int .u64 0) := (blk_cell BK193.out 2).trans rfl; have hcz29_3 : w27.cell? ⟨gb193, 3, none⟩ = some (.int .u64 0) := (blk_cell BK193.out 3).trans rfl; have hcz29_4 : w27.cell? ⟨gb193, 4, none⟩ = some (.int .i64 0) := (blk_cell BK193.out 4).trans rfl; have hfz29_0 := blk_frozen BK193.out 0; have hfz29_1 := blk_frozen BK193.out 1; have hfz29_2 := blk_frozen BK193.out 2; have hfz29_3 := blk_frozen BK193.out 3; have hfz29_4 := blk_frozen BK193.out 4; have hcz30_0 : w27.cell? ⟨gb191, 0, none⟩ = some (.slice (some ad192) l0_0.length c0_0) := (blk_cell BK191.out 0).trans rfl; have hfz30_0 := blk_frozen BK191.out 0; have p194 : 0 ≤ ((ji24) : Int) := of_decide_eq_true u6_14; have q194 : (ji24) < (l0_0.length : Int) := of_decide_eq_true u6_14; obtain ⟨ad194, e194, hx194_0, hx194_1, hx194_2, hx194_3, hx194_4⟩ := at_T53 HR0_0.out (ji24) p194 q194; obtain rfl : ad192 = ad194 := (by injection e194); have hn194_0 : ad192.block ≠ gb193 := Nat.ne_of_lt (Nat.lt_of_lt_of_le u6_16 GW193.out); have hn194_1 : ad192.block ≠ gb193 := Nat.ne_of_lt (Nat.lt_of_lt_of_le u6_16 GW193.out); have hn194_2 : ad192.block ≠ gb193 := Nat.ne_of_lt (Nat.lt_of_lt_of_le u6_16 GW193.out); have hn194_3 : ad192.block ≠ gb193 := Nat.ne_of_lt (Nat.lt_of_lt_of_le u6_16 GW193.out); have hn194_4 : ad192.block ≠ gb193 := Nat.ne_of_lt (Nat.lt_of_lt_of_le u6_16 GW193.out); replace hx194_0 := (HB.out.cell (World.block_lt_of_cell? w _ hx194_0)).trans hx194_0; replace hx194_1 := (HB.out.cell (World.block_lt_of_cell? w _ hx194_1)).trans hx194_1; replace hx194_2 := (HB.out.cell (World.block_lt_of_cell? w _ hx194_2)).trans hx194_2; replace hx194_3 := (HB.out.cell (World.block_lt_of_cell? w _ hx194_3)).trans hx194_3; replace hx194_4 := (HB.out.cell (World.block_lt_of_cell? w _ hx194_4)).trans hx194_4; replace hx194_0 := (cell_far (p := ⟨gb193, 0, none⟩) u6_9 (.int .u64 ((rd_T53 l0_0 x12_1).f0))).trans hx194_0; replace hx194_1 := (cell_far (p := ⟨gb193, 0, none⟩) u6_9 (.int .u64 ((rd_T53 l0_0 x12_1).f0))).trans hx194_1; replace hx194_2 := (cell_far (p := ⟨gb193, 0, none⟩) u6_9 (.int .u64 ((rd_T53 l0_0 x12_1).f0))).trans hx194_2; replace hx194_3 := (cell_far (p := ⟨gb193, 0, none⟩) u6_9 (.int .u64 ((rd_T53 l0_0 x12_1).f0))).trans hx194_3; replace hx194_4 := (cell_far (p := ⟨gb193, 0, none⟩) u6_9 (.int .u64 ((rd_T53 l0_0 x12_1).f0))).trans hx194_4; replace hx194_0 := (cell_far (p := ⟨gb193, 1, none⟩) u6_10 (.int .u64 ((rd_T53 l0_0 x12_1).f1))).trans hx194_0; replace hx194_1 := (cell_far (p := ⟨gb193, 1, none⟩) u6_10 (.int .u64 ((rd_T53 l0_0 x12_1).f1))).trans hx194_1; replace hx194_2 := (cell_far (p := ⟨gb193, 1, none⟩) u6_10 (.int .u64 ((rd_T53 l0_0 x12_1).f1))).trans hx194_2; replace hx194_3 := (cell_far (p := ⟨gb193, 1, none⟩) u6_10 (.int .u64 ((rd_T53 l0_0 x12_1).f1))).trans hx194_3; replace hx194_4 := (cell_far (p := ⟨gb193, 1, none⟩) u6_10 (.int .u64 ((rd_T53 l0_0 x12_1).f1))).trans hx194_4; replace hx194_0 := (cell_far (p := ⟨gb193, 2, none⟩) u6_11 (.int .u64 ((rd_T53 l0_0 x12_1).f2))).trans hx194_0; replace hx194_1 := (cell_far (p := ⟨gb193, 2, none⟩) u6_11 (.int .u64 ((rd_T53 l0_0 x12_1).f2))).trans hx194_1; replace hx194_2 := (cell_far (p := ⟨gb193, 2, none⟩) u6_11 (.int .u64 ((rd_T53 l0_0 x12_1).f2))).trans hx194_2; replace hx194_3 := (cell_far (p := ⟨gb193, 2, none⟩) u6_11 (.int .u64 ((rd_T53 l0_0 x12_1).f2))).trans hx194_3; replace hx194_4 := (cell_far (p := ⟨gb193, 2, none⟩) u6_11 (.int .u64 ((rd_T53 l0_0 x12_1).f2))).trans hx194_4; replace hx194_0 := (cell_far (p := ⟨gb193, 3, none⟩) u6_12 (.int .u64 ((rd_T53 l0_0 x12_1).f3))).trans hx194_0; replace hx194_1 := (cell_far (p := ⟨gb193, 3, none⟩) u6_12 (.int .u64 ((rd_T53 l0_0 x12_1).f3))).trans hx194_1; replace hx194_2 := (cell_far (p := ⟨gb193, 3, none⟩) u6_12 (.int .u64 ((rd_T53 l0_0 x12_1).f3))).trans hx194_2; replace hx194_3 := (cell_far (p := ⟨gb193, 3, none⟩) u6_12 (.int .u64 ((rd_T53 l0_0 x12_1).f3))).trans hx194_3; replace hx194_4 := (cell_far (p := ⟨gb193, 3, none⟩) u6_12 (.int .u64 ((rd_T53 l0_0 x12_1).f3))).trans hx194_4; replace hx194_0 := (cell_far (p := ⟨gb193, 4, none⟩) u6_13 (.int .i64 ((rd_T53 l0_0 x12_1).f4))).trans hx194_0; replace hx194_1 := (cell_far (p := ⟨gb193, 4, none⟩) u6_13 (.int .i64 ((rd_T53 l0_0 x12_1).f4))).trans hx194_1; replace hx194_2 := (cell_far (p := ⟨gb193, 4, none⟩) u6_13 (.int .i64 ((rd_T53 l0_0 x12_1).f4))).trans hx194_2; replace hx194_3 := (cell_far (p := ⟨gb193, 4, none⟩) u6_13 (.int .i64 ((rd_T53 l0_0 x12_1).f4))).trans hx194_3; replace hx194_4 := (cell_far (p := ⟨gb193, 4, none⟩) u6_13 (.int .i64 ((rd_T53 l0_0 x12_1).f4))).trans hx194_4; (try have hch_ := fun (n_ : Nat) => (show (((((((w27.drewN n_).setCell ⟨gb193, 0, none⟩ (.int .u64 ((rd_T53 l0_0 x12_1).f0))).setCell ⟨gb193, 1, none⟩ (.int .u64 ((rd_T53 l0_0 x12_1).f1))).setCell ⟨gb193, 2, none⟩ (.int .u64 ((rd_T53 l0_0 x12_1).f2))).setCell ⟨gb193, 3, none⟩ (.int .u64 ((rd_T53 l0_0 x12_1).f3))).setCell ⟨gb193, 4, none⟩ (.int .i64 ((rd_T53 l0_0 x12_1).f4)))) = World.drewN ((((((w27.setCell ⟨gb193, 0, none⟩ (.int .u64 ((rd_T53 l0_0 x12_1).f0))).setCell ⟨gb193, 1, none⟩ (.int .u64 ((rd_T53 l0_0 x12_1).f1))).setCell ⟨gb193, 2, none⟩ (.int .u64 ((rd_T53 l0_0 x12_1).f2))).setCell ⟨gb193, 3, none⟩ (.int .u64 ((rd_T53 l0_0 x12_1).f3))).setCell ⟨gb193, 4, none⟩ (.int .i64 ((rd_T53 l0_0 x12_1).f4)))) n_ from by simp only [Go.Proofs.Ytdbfjakhkclggaa.Slc.setCell_drewN])); (try have hy194_0 := fun (n_ : Nat) => Go.Proofs.Ytdbfjakhkclggaa.Slc.cell_of (hch_ n_) hx194_0); (try have hy194_1 := fun (n_ : Nat) => Go.Proofs.Ytdbfjakhkclggaa.Slc.cell_of (hch_ n_) hx194_1); (try have hy194_2 := fun (n_ : Nat) => Go.Proofs.Ytdbfjakhkclggaa.Slc.cell_of (hch_ n_) hx194_2); (try have hy194_3 := fun (n_ : Nat) => Go.Proofs.Ytdbfjakhkclggaa.Slc.cell_of (hch_ n_) hx194_3); (try have hy194_4 := fun (n_ : Nat) => Go.Proofs.Ytdbfjakhkclggaa.Slc.cell_of (hch_ n_) hx194_4); clear hn194_0; clear hn194_1; clear hn194_2; clear hn194_3; clear hn194_4; replace p194 := eq_true p194; replace q194 := eq_true q194)); go_upto_if 75 with (first | ((with_reducible refine gate_dst (N := 4) rfl ?_); refine box_event ?hg (N := 4) ?hd (cs := #[.int .u64 0, .int .u64 0, .int .u64 0, .int .u64 0, .int .i64 0]) (t := 53) ?hr ?_; (case hd => rfl); (case hg => rfl); (case hr => first | (go_simp; done) | (go_simp; rfl)); intro gb193 hg w27 hbox hb; have n0_ := Aside0.mk (blk_below (g := gb191) (o := .cells #[.slice (some ad192) l0_0.length c0_0] 29 (0, 0)) u6_1 hb); have n1_ := Aside0.mk (below_step u6_0 hb); have n2_ := Aside0.mk (hbox); have n3_ := Aside0.mk ((by rw [hg]; exact (below_size u6_0) : w.heap.size ≤ gb193)); have n4_ := Aside0.mk ((by rw [hg]; exact (below_size u6_0) : w.heap.size ≤ gb193)); have n5_ := Aside0.mk ((by rw [hg]; exact Nat.ne_of_lt (blk_lt (g := gb191) (o := .cells #[.slice (some ad192) l0_0.length c0_0] 29 (0, 0)) u6_1) : gb191 ≠ gb193)); have n6_ := Aside0.mk ((by rw [hg]; exact Nat.ne_of_gt (blk_lt (g := gb191) (o := .cells #[.slice (some ad192) l0_0.length c0_0] 29 (0, 0)) u6_1) : gb193 ≠ gb191)); clear BK191; clear HB; have BK191 := n0_; have HB := n1_; have BK193 := n2_; have GW193 := n3_; have GE193 := n4_; have NB191_193 := n5_; have NB193_191 := n6_; clear n0_ n1_ n2_ n3_ n4_ n5_ n6_; clear hb hbox hg; have hnb28 := NB193_191.out; have hnc28 := NB191_193.out; have hcz29_0 : w27.cell? ⟨gb193, 0, none⟩ = some (.int .u64 0) := (blk_cell BK193.out 0).trans rfl; have hcz29_1 : w27.cell? ⟨gb193, 1, none⟩ = some (.int .u64 0) := (blk_cell BK193.out 1).trans rfl; have hcz29_2 : w27.cell? ⟨gb193, 2, none⟩ = some (.int .u64 0) := (blk_cell BK193.out 2).trans rfl; have hcz29_3 : w27.cell? ⟨gb193, 3, none⟩ = some (.int .u64 0) := (blk_cell BK193.out 3).trans rfl; have hcz29_4 : w27.cell? ⟨gb193, 4, none⟩ = some (.int .i64 0) := (blk_cell BK193.out 4).trans rfl; have hfz29_0 := blk_frozen BK193.out 0; have hfz29_1 := blk_frozen BK193.out 1; have hfz29_2 := blk_frozen BK193.out 2; have hfz29_3 := blk_frozen BK193.out 3; have hfz29_4 := blk_frozen BK193.out 4; have hcz30_0 : w27.cell? ⟨gb191, 0, none⟩ = some (.slice (some ad192) l0_0.length c0_0) := (blk_cell BK191.out 0).trans rfl; have hfz30_0 := blk_frozen BK191.out 0; have p194 : 0 ≤ ((ji24) : Int) := of_decide_eq_true u6_14; have q194 : (ji24) < (l0_0.length : Int) := of_decide_eq_true u6_14; obtain ⟨ad194, e194, hx194_0, hx194_1, hx194_2, hx194_3, hx194_4⟩ := at_T53 HR0_0.out (ji24) p194 q194; obtain rfl : ad192 = ad194 := (by injection e194); have hn194_0 : ad192.block ≠ gb193 := Nat.ne_of_lt (Nat.lt_of_lt_of_le u6_16 GW193.out); have hn194_1 : ad192.block ≠ gb193 := Nat.ne_of_lt (Nat.lt_of_lt_of_le u6_16 GW193.out); have hn194_2 : ad192.block ≠ gb193 := Nat.ne_of_lt (Nat.lt_of_lt_of_le u6_16 GW193.out); have hn194_3 : ad192.block ≠ gb193 := Nat.ne_of_lt (Nat.lt_of_lt_of_le u6_16 GW193.out); have hn194_4 : ad192.block ≠ gb193 := Nat.ne_of_lt (Nat.lt_of_lt_of_le u6_16 GW193.out); replace hx194_0 := (HB.out.cell (World.block_lt_of_cell? w _ hx194_0)).trans hx194_0; replace hx194_1 := (HB.out.cell (World.block_lt_of_cell? w _ hx194_1)).trans hx194_1; replace hx194_2 := (HB.out.cell (World.block_lt_of_cell? w _ hx194_2)).trans hx194_2; replace hx194_3 := (HB.out.cell (World.block_lt_of_cell? w _ hx194_3)).trans hx194_3; replace hx194_4 := (HB.out.cell (World.block_lt_of_cell? w _ hx194_4)).trans hx194_4; replace hx194_0 := (cell_far (p := ⟨gb193, 0, none⟩) u6_9 (.int .u64 ((rd_T53 l0_0 x12_1).f0))).trans hx194_0; replace hx194_1 := (cell_far (p := ⟨gb193, 0, none⟩) u6_9 (.int .u64 ((rd_T53 l0_0 x12_1).f0))).trans hx194_1; replace hx194_2 := (cell_far (p := ⟨gb193, 0, none⟩) u6_9 (.int .u64 ((rd_T53 l0_0 x12_1).f0))).trans hx194_2; replace hx194_3 := (cell_far (p := ⟨gb193, 0, none⟩) u6_9 (.int .u64 ((rd_T53 l0_0 x12_1).f0))).trans hx194_3; replace hx194_4 := (cell_far (p := ⟨gb193, 0, none⟩) u6_9 (.int .u64 ((rd_T53 l0_0 x12_1).f0))).trans hx194_4; replace hx194_0 := (cell_far (p := ⟨gb193, 1, none⟩) u6_10 (.int .u64 ((rd_T53 l0_0 x12_1).f1))).trans hx194_0; replace hx194_1 := (cell_far (p := ⟨gb193, 1, none⟩) u6_10 (.int .u64 ((rd_T53 l0_0 x12_1).f1))).trans hx194_1; replace hx194_2 := (cell_far (p := ⟨gb193, 1, none⟩) u6_10 (.int .u64 ((rd_T53 l0_0 x12_1).f1))).trans hx194_2; replace hx194_3 := (cell_far (p := ⟨gb193, 1, none⟩) u6_10 (.int .u64 ((rd_T53 l0_0 x12_1).f1))).trans hx194_3; replace hx194_4 := (cell_far (p := ⟨gb193, 1, none⟩) u6_10 (.int .u64 ((rd_T53 l0_0 x12_1).f1))).trans hx194_4; replace hx194_0 := (cell_far (p := ⟨gb193, 2, none⟩) u6_11 (.int .u64 ((rd_T53 l0_0 x12_1).f2))).trans hx194_0; replace hx194_1 := (cell_far (p := ⟨gb193, 2, none⟩) u6_11 (.int .u64 ((rd_T53 l0_0 x12_1).f2))).trans hx194_1; replace hx194_2 := (cell_far (p := ⟨gb193, 2, none⟩) u6_11 (.int .u64 ((rd_T53 l0_0 x12_1).f2))).trans hx194_2; replace hx194_3 := (cell_far (p := ⟨gb193, 2, none⟩) u6_11 (.int .u64 ((rd_T53 l0_0 x12_1).f2))).trans hx194_3; replace hx194_4 := (cell_far (p := ⟨gb193, 2, none⟩) u6_11 (.int .u64 ((rd_T53 l0_0 x12_1).f2))).trans hx194_4; replace hx194_0 := (cell_far (p := ⟨gb193, 3, none⟩) u6_12 (.int .u64 ((rd_T53 l0_0 x12_1).f3))).trans hx194_0; replace hx194_1 := (cell_far (p := ⟨gb193, 3, none⟩) u6_12 (.int .u64 ((rd_T53 l0_0 x12_1).f3))).trans hx194_1; replace hx194_2 := (cell_far (p := ⟨gb193, 3, none⟩) u6_12 (.int .u64 ((rd_T53 l0_0 x12_1).f3))).trans hx194_2; replace hx194_3 := (cell_far (p := ⟨gb193, 3, none⟩) u6_12 (.int .u64 ((rd_T53 l0_0 x12_1).f3))).trans hx194_3; replace hx194_4 := (cell_far (p := ⟨gb193, 3, none⟩) u6_12 (.int .u64 ((rd_T53 l0_0 x12_1).f3))).trans hx194_4; replace hx194_0 := (cell_far (p := ⟨gb193, 4, none⟩) u6_13 (.int .i64 ((rd_T53 l0_0 x12_1).f4))).trans hx194_0; replace hx194_1 := (cell_far (p := ⟨gb193, 4, none⟩) u6_13 (.int .i64 ((rd_T53 l0_0 x12_1).f4))).trans hx194_1; replace hx194_2 := (cell_far (p := ⟨gb193, 4, none⟩) u6_13 (.int .i64 ((rd_T53 l0_0 x12_1).f4))).trans hx194_2; replace hx194_3 := (cell_far (p := ⟨gb193, 4, none⟩) u6_13 (.int .i64 ((rd_T53 l0_0 x12_1).f4))).trans hx194_3; replace hx194_4 := (cell_far (p := ⟨gb193, 4, none⟩) u6_13 (.int .i64 ((rd_T53 l0_0 x12_1).f4))).trans hx194_4; (try have hch_ := fun (n_ : Nat) => (show (((((((w27.drewN n_).setCell ⟨gb193, 0, none⟩ (.int .u64 ((rd_T53 l0_0 x12_1).f0))).setCell ⟨gb193, 1, none⟩ (.int .u64 ((rd_T53 l0_0 x12_1).f1))).setCell ⟨gb193, 2, none⟩ (.int .u64 ((rd_T53 l0_0 x12_1).f2))).setCell ⟨gb193, 3, none⟩ (.int .u64 ((rd_T53 l0_0 x12_1).f3))).setCell ⟨gb193, 4, none⟩ (.int .i64 ((rd_T53 l0_0 x12_1).f4)))) = World.drewN ((((((w27.setCell ⟨gb193, 0, none⟩ (.int .u64 ((rd_T53 l0_0 x12_1).f0))).setCell ⟨gb193, 1, none⟩ (.int .u64 ((rd_T53 l0_0 x12_1).f1))).setCell ⟨gb193, 2, none⟩ (.int .u64 ((rd_T53 l0_0 x12_1).f2))).setCell ⟨gb193, 3, none⟩ (.int .u64 ((rd_T53 l0_0 x12_1).f3))).setCell ⟨gb193, 4, none⟩ (.int .i64 ((rd_T53 l0_0 x12_1).f4)))) n_ from by simp only [Go.Proofs.Ytdbfjakhkclggaa.Slc.setCell_drewN])); (try have hy194_0 := fun (n_ : Nat) => Go.Proofs.Ytdbfjakhkclggaa.Slc.cell_of (hch_ n_) hx194_0); (try have hy194_1 := fun (n_ : Nat) => Go.Proofs.Ytdbfjakhkclggaa.Slc.cell_of (hch_ n_) hx194_1); (try have hy194_2 := fun (n_ : Nat) => Go.Proofs.Ytdbfjakhkclggaa.Slc.cell_of (hch_ n_) hx194_2); (try have hy194_3 := fun (n_ : Nat) => Go.Proofs.Ytdbfjakhkclggaa.Slc.cell_of (hch_ n_) hx194_3); (try have hy194_4 := fun (n_ : Nat) => Go.Proofs.Ytdbfjakhkclggaa.Slc.cell_of (hch_ n_) hx194_4); clear hn194_0; clear hn194_1; clear hn194_2; clear hn194_3; clear hn194_4; replace p194 := eq_true p194; replace q194 := eq_true q194)))
    have H := H9.out
    clear H9
    by_cases c31 : ((rd_T53 l0_0 (ji24)).f0) ≥ ((rd_T53 l0_0 x12_1).f0)
    · rw [if_pos c31] at H
      have c31b0 : decide (((rd_T53 l0_0 x12_1).f0) ≤ ((rd_T53 l0_0 (ji24)).f0)) = true := decide_eq_true c31
      clear c31
      (first | rw [c31b0] | (simp only [i64_w, i32_w]; rw [c31b0]) | skip)
      obtain rfl := Option.some.inj H
      go_wp2
      repeat (go_quiet (fail); try go_wp2)
      go_ret
      exact ⟨by first | rfl | (simp [errW_none, errW_some] <;> rfl) | (simp only [← hji9, ← hji24]; first | rfl | (simp [errW_none, errW_some] <;> rfl)) | (simp [*, errW_none, errW_some] <;> rfl), u6_3⟩
    rw [if_neg c31] at H
    have c31b0 : decide (((rd_T53 l0_0 x12_1).f0) ≤ ((rd_T53 l0_0 (ji24)).f0)) = false := decide_eq_false c31
    clear c31
    (first | rw [c31b0] | (simp only [i64_w, i32_w]; rw [c31b0]) | skip)
    have H' := Aside0.mk H
    clear H
    go_wp2
    repeat (go_quiet (fail); try go_wp2)
    go_roundg k1
    case measure => have := HK1.out; omega
    case rel => exact ⟨(wrap64 (x12_1 + 1)), u6_22, H', ⟨by have := HK1.out; omega⟩, ⟨u6_2⟩, ⟨u6_3⟩⟩

/-! ### impl_copyBook: function 56 -/
def impl_copyBook.f (l0_0 : List (S53)) : Option ((List (S53))) := (some (([] : List (S53)) : List (S53))).bind fun y198 => (if y198.length + l0_0.length < 3518437208883 then (some (y198 ++ l0_0)) else (none))
set_option maxHeartbeats 8000000 in
set_option maxRecDepth 100000 in
theorem impl_copyBook.calls (A0_0 : Option Addr) (c0_0 : Nat) (l0_0 : List (S53)) (r : List (S53)) (w : World) (hr0_0 : Kd.C k53 w A0_0 l0_0.length l0_0) (hc0_0 : l0_0.length ≤ c0_0) (h : impl_copyBook.f l0_0 = some r) :
    Calls Try.prog 56 #[.agg #[.slice A0_0 l0_0.length c0_0]] w fun e w' => ∃ v0_ : Value, e = .returned (.agg #[v0_]) ∧ Kd.R k53 53 w' w.heap.size (fun _ => True) v0_ r ∧ Below w.heap.size w w' := by
  have hu29 := Try.underlying29
  have HR0_0 := Aside0.mk hr0_0
  have HC0_0 := Aside0.mk hc0_0
  clear hr0_0 hc0_0
  have HB := Aside0.mk (Below.refl w.heap.size w)
  have H : ((some (([] : List (S53)) : List (S53))).bind fun y198 => (if y198.length + l0_0.length < 3518437208883 then (some (y198 ++ l0_0)) else (none))) = some r := h
  clear h
  obtain ⟨y198, hy198⟩ : ∃ y_ : List (S53), y_ = (([] : List (S53))) := ⟨_, rfl⟩
  replace H : (if y198.length + l0_0.length < 3518437208883 then (some (y198 ++ l0_0)) else (none)) = some r := by first | (rw [hy198]; with_reducible exact H) | (have H2_ := (Option.bind_some _ _).symm.trans H; rw [hy198]; with_reducible exact H2_) | (have H2_ := (Option.bind_some _ _).symm.trans H; with_reducible exact H2_) | with_reducible exact H | (rw [hy198]; exact H) | exact H
  have Ny198 := Aside0.mk hy198
  clear hy198
  by_cases c2 : y198.length + l0_0.length < 3518437208883
  rotate_left
  · rw [if_neg c2] at H
    exact absurd H (by simp)
  rw [if_pos c2] at H
  have LMc2 := Aside0.mk c2
  clear c2
  obtain ⟨y201, hy201⟩ : ∃ y_ : List (S53), y_ = (y198 ++ l0_0) := ⟨_, rfl⟩
  replace H : (some y201) = some r := by first | (rw [hy201]; with_reducible exact H) | (have H2_ := (Option.bind_some _ _).symm.trans H; rw [hy201]; with_reducible exact H2_) | (have H2_ := (Option.bind_some _ _).symm.trans H; with_reducible exact H2_) | with_reducible exact H | (rw [hy201]; exact H) | exact H
  have Ny201 := Aside0.mk hy201
  clear hy201
  obtain rfl := Option.some.inj H
  go_enter Try.func56, Try.ntmps56
  go_wp2_with (first | ((with_reducible refine gate_dst (N := 1) rfl ?_); refine box_event ?hg (N := 1) ?hd (cs := #[.slice A0_0 l0_0.length c0_0]) (t := 29) ?hr ?_; (case hd => rfl); (case hg => rfl); (case hr => first | (go_simp; done) | (go_simp; rfl)); intro gb196 hg w3 hbox hb; have n0_ := Aside0.mk (below_step u6_17 hb); have n1_ := Aside0.mk (hbox); have n2_ := Aside0.mk ((by rw [hg]; exact (below_size u6_17) : w.heap.size ≤ gb196)); have n3_ := Aside0.mk ((by rw [hg]; exact (below_size u6_17) : w.heap.size ≤ gb196)); clear HB; have HB := n0_; have BK196 := n1_; have GW196 := n2_; have GE196 := n3_; clear n0_ n1_ n2_ n3_; clear hb hbox hg) | ((with_reducible refine gate_dst (N := 2) rfl ?_); refine box_event ?hg (N := 2) ?hd (cs := #[.slice none 0 0]) (t := 29) ?hr ?_; (case hd => rfl); (case hg => rfl); (case hr => first | (go_simp; done) | (go_simp; rfl)); intro gb197 hg w4 hbox hb; have n0_ := Aside0.mk (blk_below (g := gb196) (o := .cells #[.slice A0_0 l0_0.length c0_0] 29 (0, 0)) u6_20 hb); have n1_ := Aside0.mk (below_step u6_21 hb); have n2_ := Aside0.mk (hbox); have n3_ := Aside0.mk ((by rw [hg]; exact (below_size u6_21) : w.heap.size ≤ gb197)); have n4_ := Aside0.mk ((by rw [hg]; exact (below_size u6_21) : w.heap.size ≤ gb197)); have n5_ := Aside0.mk ((by rw [hg]; exact Nat.ne_of_lt (blk_lt (g := gb196) (o := .cells #[.slice A0_0 l0_0.length c0_0] 29 (0, 0)) u6_20) : gb196 ≠ gb197)); have n6_ := Aside0.mk ((by rw [hg]; exact Nat.ne_of_gt (blk_lt (g := gb196) (o := .cells #[.slice A0_0 l0_0.length c0_0] 29 (0, 0)) u6_20) : gb197 ≠ gb196)); clear BK196; clear HB; have BK196 := n0_; have HB := n1_; have BK197 := n2_; have GW197 := n3_; have GE197 := n4_; have NB196_197 := n5_; have NB197_196 := n6_; clear n0_ n1_ n2_ n3_ n4_ n5_ n6_; clear hb hbox hg) | ((with_reducible refine gate_dst (N := 3) rfl ?_); refine Kd.R_lit k53 _ 53 ?hg (N := 3) ?hd (xs := ([] : List (S53))) (inner := []) (ok := fun _ => True) (okp := fun _ => True) ?hr ?hp (fun _ hk => hk) trivial (Below.refl _ _) (Nat.le_refl _) (by simp) ?_; (case hd => rfl); (case hg => rfl); (case hr => first | (go_simp; done) | (go_simp; rfl)); (case hp => exact (Reps.none _ _)); intro v199 w5 ho6 hb hg_ hnew_; clear hg_ hnew_; (first | rw [← Ny198.out] at ho6 | (simp only [Int.reduceToNat] at ho6; rw [← Ny198.out] at ho6)); have n0_ := Aside0.mk (Kd.R_lower ho6 (below_size u6_18)); have n1_ := Aside0.mk (blk_below (g := gb196) (o := .cells #[.slice A0_0 l0_0.length c0_0] 29 (0, 0)) u6_20 hb); have n2_ := Aside0.mk (blk_below (g := gb197) (o := .cells #[.slice none 0 0] 29 (0, 0)) u6_23 hb); have n3_ := Aside0.mk (below_step u6_18 hb); clear BK196; clear BK197; clear HB; have HO200 := n0_; have BK196 := n1_; have BK197 := n2_; have HB := n3_; clear n0_ n1_ n2_ n3_; clear hb ho6; have hnb7 := NB196_197.out; have hnc7 := NB197_196.out; have hcz8_0 : w5.cell? ⟨gb196, 0, none⟩ = some (.slice A0_0 l0_0.length c0_0) := (blk_cell BK196.out 0).trans rfl; have hfz8_0 := blk_frozen BK196.out 0) | ((with_reducible refine gate_builtin (b := .append) (xs := #[.tmp 3, .tmp 5]) rfl ?_); at_builtin; refine Kd.R_append_rows k53 (w0 := w) w.heap.size rfl (.tmp 3) (.tmp 5) 27 53 (.agg #[(.int .u64 0), (.int .u64 0), (.int .u64 0), (.int .u64 0), (.int .i64 0)]) 40 rfl Try.underlying27 info53 rfl (by decide) (by omega) v199 y198 l0_0 _ _ _ (fun _ => True) (fun _ => False) rfl rfl ?aO ?aR (fun _ _ h => h) (fun _ h => h.elim) ?aF ?aB ?aS ?aL ?_; (case aR => repeat (first | exact (Kd.C_below HR0_0.out HB.out) | (with_reducible refine Kd.C_alloc ?_ _) | (with_reducible refine Kd.C_drewN ?_ _) | (with_reducible refine Kd.C_drew ?_))); (case aB => exact u6_18); (case aF => exact (fun _ _ => trivial)); (case aO => exact (by (with_reducible repeat (first | apply Kd.R_alloc | apply Kd.R_drewN | apply Kd.R_drew)); exact HO200.out)); (case aS => exact (below_size u6_18)); (case aL => have := LMc2.out; omega); intro v202 w9 ho hb hg hat; rw [← Ny201.out] at ho; have n0_ := Aside0.mk (blk_grown (g := gb196) (o := .cells #[.slice A0_0 l0_0.length c0_0] 29 (0, 0)) u6_20 hg (Kd.R_ne HO200.out BK196.out (by decide))); have n1_ := Aside0.mk (blk_grown (g := gb197) (o := .cells #[.slice none 0 0] 29 (0, 0)) u6_23 hg (Kd.R_ne HO200.out BK197.out (by decide))); have n2_ := Aside0.mk (hb); have n3_ := Aside0.mk (ho); clear BK196; clear BK197; clear HB; clear HO200; have BK196 := n0_; have BK197 := n1_; have HB := n2_; have HO203 := n3_; clear n0_ n1_ n2_ n3_; clear ho hb hg hat; obtain ⟨Ao10, co10, eo10⟩ := Kd.R_slice HO203.out; subst eo10; have hcz11_0 : w9.cell? ⟨gb197, 0, none⟩ = some (.slice none 0 0) := (blk_cell BK197.out 0).trans rfl; have hfz11_0 := blk_frozen BK197.out 0))
  refine bodyPost_ret (results_cell_row rfl _ _ gb197 29 #[.slice Ao10 y201.length co10] (0, 0) _ rfl (by (with_reducible repeat (first | refine blk_drewN ?_ _ | refine blk_drew ?_ | refine blk_alloc ?_ _)); refine blk_put (cs := #[.slice none 0 0]) ?_ 0 _ rfl; (with_reducible repeat (first | refine blk_drewN ?_ _ | refine blk_drew ?_ | refine blk_alloc ?_ _)); exact BK197.out) Try.underlying29 rfl (by kernel_rfl)) rfl ?_
  exact ⟨_, by first | rfl | (simp [errW_none, errW_some] <;> rfl) | (simp [*, errW_none, errW_some] <;> rfl), (by (with_reducible repeat (first | apply Kd.R_alloc | apply Kd.R_drewN | apply Kd.R_drew)); exact Kd.R_mono (Kd.R_far (p := ⟨gb197, 0, none⟩) (Kd.R_types HO203.out BK197.out (by decide)) (fun _ hk => hk.2) (.slice Ao10 y201.length co10)) (fun _ hk => trivial)), u6_18⟩

/-! ### impl_accountOf: function 57 -/
def impl_accountOf.l0 : Nat → Int → Int → List (S53) → Option (Int × Bool)
  | 0, _, _, _ => none
  | k + 1, x1, x6, x205000 => if x6 < (x205000.length : Int) then (if 0 ≤ x6 then (if ((rd_T53 x205000 x6).f0) < x1 then (impl_accountOf.l0 k x1 (wrap64 (x6 + 1)) x205000) else (some (x6, (((rd_T53 x205000 x6).f0) == x1)))) else (none)) else (some (x6, false))
def impl_accountOf.f (k : Nat) (l0_0 : List (S53)) (a1 : Int) : Option (Int × Bool) := impl_accountOf.l0 k a1 0 l0_0
theorem impl_accountOf.mono_l : ∀ k, (∀ y0 y1 y2, LeO (impl_accountOf.l0 k y0 y1 y2) (impl_accountOf.l0 (k + 1) y0 y1 y2))
  | 0 => fun _ _ _ r h => by simp [impl_accountOf.l0] at h
  | k + 1 => by
    have ih0 := impl_accountOf.mono_l k
    · intro y0 y1 y2
      unfold impl_accountOf.l0
      repeat' first
      | (with_reducible exact ih0 _ _ _)
      | (with_reducible exact LeO.refl _)
      | (with_reducible exact LeO.none _)
      | (with_reducible refine LeO.ite ?_ ?_)
      | (with_reducible refine LeO.bind ?_ (fun _ => ?_))
      | exact ih0 _ _ _
      | exact LeO.none _
      | refine LeO.ite ?_ ?_
      | refine LeO.bind ?_ (fun _ => ?_)
theorem impl_accountOf.mono : ∀ a0 a1 k, LeO (impl_accountOf.f k a0 a1) (impl_accountOf.f (k + 1) a0 a1) := by
  intro a0 a1 k
  have ih0 := impl_accountOf.mono_l k
  unfold impl_accountOf.f
  repeat' first
      | (with_reducible exact ih0 _ _ _)
      | (with_reducible exact LeO.refl _)
      | (with_reducible exact LeO.none _)
      | (with_reducible refine LeO.ite ?_ ?_)
      | (with_reducible refine LeO.bind ?_ (fun _ => ?_))
      | exact ih0 _ _ _
      | exact LeO.none _
      | refine LeO.ite ?_ ?_
      | refine LeO.bind ?_ (fun _ => ?_)
set_option maxHeartbeats 8000000 in
set_option maxRecDepth 100000 in
theorem impl_accountOf.calls (k : Nat) (A0_0 : Option Addr) (c0_0 : Nat) (l0_0 : List (S53)) (a1 : Int) (r1 : Int) (r2 : Bool) (w : World) (hr0_0 : Kd.C k53 w A0_0 l0_0.length l0_0) (hc0_0 : l0_0.length ≤ c0_0) (h : impl_accountOf.f k l0_0 a1 = some (r1, r2)) :
    Calls Try.prog 57 #[.agg #[.slice A0_0 l0_0.length c0_0], .int .u64 a1] w fun e w' => e = .returned (.tuple #[.int .i64 r1, .bool r2]) ∧ Below w.heap.size w w' := by
  have hu29 := Try.underlying29
  have HR0_0 := Aside0.mk hr0_0
  have HC0_0 := Aside0.mk hc0_0
  clear hr0_0 hc0_0
  have HB := Aside0.mk (Below.refl w.heap.size w)
  have H : (impl_accountOf.l0 k a1 0 l0_0) = some (r1, r2) := h
  clear h
  have H' := Aside0.mk H
  clear H
  go_enter Try.func57, Try.ntmps57
  go_wp2_with (first | (first | ((with_reducible refine gate_dst (N := 2) rfl ?_); refine box_event ?hg (N := 2) ?hd (cs := #[.slice A0_0 l0_0.length c0_0]) (t := 29) ?hr ?_; (case hd => rfl); (case hg => rfl); (case hr => first | (go_simp; done) | (go_simp; rfl)); intro gb204 hg w3 hbox hb; have n0_ := Aside0.mk (below_step u6_17 hb); have n1_ := Aside0.mk (hbox); have n2_ := Aside0.mk ((by rw [hg]; exact (below_size u6_17) : w.heap.size ≤ gb204)); have n3_ := Aside0.mk ((by rw [hg]; exact (below_size u6_17) : w.heap.size ≤ gb204)); clear HB; have HB := n0_; have BK204 := n1_; have GW204 := n2_; have GE204 := n3_; clear n0_ n1_ n2_ n3_; clear hb hbox hg)) | go_quiet (fail))
  go_loopg [6] k (fun kq v6 w' => ∃ (x6_1 : Int), v6 = .int .i64 x6_1 ∧ Aside0 (impl_accountOf.l0 kq a1 x6_1 l0_0 = some (r1, r2)) ∧ Aside0 (kq ≤ k) ∧ Aside0 (w'.heap[gb204]? = some (.cells #[(.slice A0_0 l0_0.length c0_0)] 29 (0, 0))) ∧ Aside0 (Below w.heap.size w w'))
  case atStart => exact ⟨(0), u6_22, H', ⟨Nat.le_refl _⟩, ⟨u6_24⟩, ⟨u6_19⟩⟩
  clear H'
  try clear p2
  obtain ⟨x6_1, rfl, HA, HK1, BK204, HB⟩ := hrel
  cases gk with
  | zero => exact absurd HA.out (by simp [impl_accountOf.l0])
  | succ k1 =>
    have H := HA.out
    clear HA
    simp only [impl_accountOf.l0] at H
    by_cases c4 : x6_1 < (l0_0.length : Int)
    rotate_left
    · rw [if_neg c4] at H
      have c4b0 : decide (x6_1 < (l0_0.length : Int)) = false := decide_eq_false c4
      clear c4
      simp only [Option.some.injEq, Prod.mk.injEq] at H
      obtain ⟨rfl, rfl⟩ := H
      have hcz9_0 : wr.cell? ⟨gb204, 0, none⟩ = some (.slice A0_0 l0_0.length c0_0) := (blk_cell BK204.out 0).trans rfl
      have hfz9_0 := blk_frozen BK204.out 0
      go_wp2
      repeat (go_quiet (fail); try go_wp2)
      go_ret2
      exact ⟨by first | rfl | (simp [errW_none, errW_some] <;> rfl) | (simp [*, errW_none, errW_some] <;> rfl), u6_19⟩
    rw [if_pos c4] at H
    have c4b0 : decide (x6_1 < (l0_0.length : Int)) = true := decide_eq_true c4
    clear c4
    by_cases c5 : 0 ≤ x6_1
    rotate_left
    · rw [if_neg c5] at H
      exact absurd H (by simp)
    rw [if_pos c5] at H
    have c5b0 : decide (0 ≤ x6_1) = true := decide_eq_true c5
    clear c5
    have H9 := Aside0.mk H
    clear H
    have hcz6_0 : wr.cell? ⟨gb204, 0, none⟩ = some (.slice A0_0 l0_0.length c0_0) := (blk_cell BK204.out 0).trans rfl
    have hfz6_0 := blk_frozen BK204.out 0
    have p205 : 0 ≤ (x6_1 : Int) := of_decide_eq_true u6_14
    have q205 : x6_1 < (l0_0.length : Int) := of_decide_eq_true u6_14
    obtain ⟨ad205, e205, hx205_0, hx205_1, hx205_2, hx205_3, hx205_4⟩ := at_T53 HR0_0.out x6_1 p205 q205
    cases e205
    replace hx205_0 := (HB.out.cell (World.block_lt_of_cell? w _ hx205_0)).trans hx205_0
    replace hx205_1 := (HB.out.cell (World.block_lt_of_cell? w _ hx205_1)).trans hx205_1
    replace hx205_2 := (HB.out.cell (World.block_lt_of_cell? w _ hx205_2)).trans hx205_2
    replace hx205_3 := (HB.out.cell (World.block_lt_of_cell? w _ hx205_3)).trans hx205_3
    replace hx205_4 := (HB.out.cell (World.block_lt_of_cell? w _ hx205_4)).trans hx205_4
    replace p205 := eq_true p205
    replace q205 := eq_true q205
    go_upto_if 21 with (fail)
    repeat (go_quiet (fail); go_upto_if 21 with (fail))
    have H := H9.out
    clear H9
    by_cases c7 : ((rd_T53 l0_0 x6_1).f0) < a1
    · rw [if_pos c7] at H
      have c7b0 : decide (((rd_T53 l0_0 x6_1).f0) < a1) = true := decide_eq_true c7
      clear c7
      (first | rw [c7b0] | (simp only [i64_w, i32_w]; rw [c7b0]) | skip)
      have H' := Aside0.mk H
      clear H
      go_wp2
      repeat (go_quiet (fail); try go_wp2)
      go_roundg k1
      case measure => have := HK1.out; omega
      case rel => exact ⟨(wrap64 (x6_1 + 1)), u6_22, H', ⟨by have := HK1.out; omega⟩, ⟨u6_24⟩, ⟨u6_19⟩⟩
    rw [if_neg c7] at H
    have c7b0 : decide (((rd_T53 l0_0 x6_1).f0) < a1) = false := decide_eq_false c7
    clear c7
    (first | rw [c7b0] | (simp only [i64_w, i32_w]; rw [c7b0]) | skip)
    simp only [Option.some.injEq, Prod.mk.injEq] at H
    obtain ⟨rfl, rfl⟩ := H
    have hcz8_0 : wr.cell? ⟨gb204, 0, none⟩ = some (.slice (some ad205) l0_0.length c0_0) := (blk_cell BK204.out 0).trans rfl
    have hfz8_0 := blk_frozen BK204.out 0
    have p206 : 0 ≤ (x6_1 : Int) := of_decide_eq_true u6_14
    have q206 : x6_1 < (l0_0.length : Int) := of_decide_eq_true u6_14
    obtain ⟨ad206, e206, hx206_0, hx206_1, hx206_2, hx206_3, hx206_4⟩ := at_T53 HR0_0.out x6_1 p206 q206
    obtain rfl : ad205 = ad206 := (by injection e206)
    replace hx206_0 := (HB.out.cell (World.block_lt_of_cell? w _ hx206_0)).trans hx206_0
    replace hx206_1 := (HB.out.cell (World.block_lt_of_cell? w _ hx206_1)).trans hx206_1
    replace hx206_2 := (HB.out.cell (World.block_lt_of_cell? w _ hx206_2)).trans hx206_2
    replace hx206_3 := (HB.out.cell (World.block_lt_of_cell? w _ hx206_3)).trans hx206_3
    replace hx206_4 := (HB.out.cell (World.block_lt_of_cell? w _ hx206_4)).trans hx206_4
    replace p206 := eq_true p206
    replace q206 := eq_true q206
    go_wp2
    repeat (go_quiet (fail); try go_wp2)
    go_ret2
    exact ⟨by first | rfl | (simp [errW_none, errW_some] <;> rfl) | (simp [*, errW_none, errW_some] <;> rfl), u6_19⟩

/-! ### impl_Account: function 69 -/
def impl_Account.enc (x : S53) : List Value := [.int .u64 x.f0, .int .u64 x.f1, .int .u64 x.f2, .int .u64 x.f3, .int .i64 x.f4]
theorem impl_Account.flat : Go.Proofs.Ytdbfjakhkclggaa.Slc.Flat k53 impl_Account.enc := ⟨fun w base ok x => k53_mkM w base ok x, fun h => k53_open h⟩
def impl_Account.f (l0 : List (S53)) (a1 : Int) (l2 : List (S53)) : Option (List (S53)) := if 0 ≤ a1 ∧ a1 ≤ (l0.length : Int) ∧ l2.length = 1 ∧ l0.length < 1000000 then some (l0.take a1.toNat ++ l2 ++ l0.drop a1.toNat) else none
theorem impl_Account.info : (Try.prog.info? 53).map (fun i => (i.zero, i.size, i.bytes)) = some (some (.agg #[.int .u64 0, .int .u64 0, .int .u64 0, .int .u64 0, .int .i64 0]), 5, 40) := by kernel_rfl
theorem impl_Account.size : (Try.prog.info? 53).map (·.size) = some 5 := by kernel_rfl
theorem impl_Account.sizeOf (w : World) : (Go.sizeOf 53).run Try.prog w = .ok 5 w := by kernel_rfl
set_option maxHeartbeats 2000000 in
set_option maxRecDepth 100000 in
theorem impl_Account.at_end (P0_ P2_ : Nat → Prop) (A0 : Option Addr) (n c0 : Nat) (l0 : List (S53)) (g2 : Nat) (c2 : Nat) (l2 : List (S53)) (w0 w : World) (hB : Below w0.heap.size w0 w) (ho0 : Kd.R k53 53 w w0.heap.size P0_ (.slice A0 n c0) l0) (hC2 : Kd.C k53 w (some ⟨g2, 0, none⟩) 1 l2) (hn : l0.length = n) (hl2 : l2.length = 1) (hc2 : 1 ≤ c2) (hl : n < 1000000) (hnc : n ≤ c0) (hm : c0 ≤ maxLen) :
    Calls Try.prog 69 #[.slice A0 n c0, .int .i64 (n : Int), .slice (some ⟨g2, 0, none⟩) 1 c2] w fun e w' => ∃ v0_ : Value, e = .returned (v0_) ∧ Kd.R k53 53 w' w0.heap.size (fun k_ => ((P0_ k_ ∨ P2_ k_) ∨ w.heap.size ≤ k_)) v0_ (l0 ++ l2) ∧ Below w0.heap.size w0 w' ∧ Kept w w' (fun k_ => P0_ k_ ∨ P2_ k_) := by
  have hown := ho0.1
  have HO := Aside0.mk (Kd.R_mono ho0 (ok' := fun k_ => ((P0_ k_ ∨ P2_ k_) ∨ w.heap.size ≤ k_)) (fun k hk => .inl (.inl hk)))
  have HB := Aside0.mk hB
  have HC2 := Aside0.mk hC2
  have HW := Aside0.mk hown
  have HL := Aside0.mk hl
  have HN := Aside0.mk hn
  unfold maxLen at hm
  have hm63 : c0 ≤ 9223372036854775807 := by omega
  clear ho0 hB hC2 hown hm
  have p1 : (n : Int) ≤ (n : Int) := Int.le_refl _
  cases A0 with
  | none =>
    go_enter Try.func69, Try.ntmps69
    go_wp2_with (first | ((with_reducible refine gate_dst (N := 25) rfl ?_); refine Kd.R_append_rows k53 (w0 := w0) w0.heap.size rfl (.tmp 23) (.tmp 24) 27 53 (.agg #[.int .u64 0, .int .u64 0, .int .u64 0, .int .u64 0, .int .i64 0]) 40 rfl Try.underlying27 impl_Account.info rfl (by decide) (by omega) _ l0 l2 _ _ _ (fun k_ => ((P0_ k_ ∨ P2_ k_) ∨ w.heap.size ≤ k_)) (fun _ => False) rfl rfl HO.out HC2.out (fun _ _ h => h) (fun _ h => h.elim) (fun _ hk => .inr hk) HB.out HB.out.size (by have := HL.out; have := HN.out; omega) ?_; intro v1 w1 ho hb hg hat; have R0 := Aside0.mk ho; have R1 := Aside0.mk hb; have R2 := Aside0.mk hg; clear ho hb hg hat))
    go_ret
    exact ⟨_, rfl, R0.out, R1.out, Kept.of_grown (W := w) R2.out (Kept.refl w _) (fun k hk => .inl (.inl (HW.out k hk)))⟩
  | some a =>
    obtain ⟨g, o, sp⟩ := a
    have hsp : o = 0 ∧ sp = none := by
      obtain ⟨_, inner, ⟨_, ho⟩, _⟩ := HO.out
      rcases ho with ⟨he, _⟩ | ⟨g', cap', cur, he, _⟩
      · cases he
      · injection he with e1 e2 e3
        injection e1 with e1
        injection e1 with e1 e2 e3
        exact ⟨e2, e3⟩
    obtain ⟨rfl, rfl⟩ := hsp
    by_cases hce : c0 = n
    · subst hce
      go_enter Try.func69, Try.ntmps69
      go_wp2_with (first | ((with_reducible refine gate_dst (N := 25) rfl ?_); refine Kd.R_append_rows k53 (w0 := w0) w0.heap.size rfl (.tmp 23) (.tmp 24) 27 53 (.agg #[.int .u64 0, .int .u64 0, .int .u64 0, .int .u64 0, .int .i64 0]) 40 rfl Try.underlying27 impl_Account.info rfl (by decide) (by omega) _ l0 l2 _ _ _ (fun k_ => ((P0_ k_ ∨ P2_ k_) ∨ w.heap.size ≤ k_)) (fun _ => False) rfl rfl HO.out HC2.out (fun _ _ h => h) (fun _ h => h.elim) (fun _ hk => .inr hk) HB.out HB.out.size (by have := HL.out; have := HN.out; omega) ?_; intro v1 w1 ho hb hg hat; have R0 := Aside0.mk ho; have R1 := Aside0.mk hb; have R2 := Aside0.mk hg; clear ho hb hg hat))
      go_ret
      exact ⟨_, rfl, R0.out, R1.out, Kept.of_grown (W := w) R2.out (Kept.refl w _) (fun k hk => .inl (.inl (HW.out k hk)))⟩
    have hlt : n < c0 := by omega
    go_enter Try.func69, Try.ntmps69
    go_wp2_with (first | ((with_reducible refine gate_dst (N := 25) rfl ?_); refine Kd.R_append_rows k53 (w0 := w0) w0.heap.size rfl (.tmp 23) (.tmp 24) 27 53 (.agg #[.int .u64 0, .int .u64 0, .int .u64 0, .int .u64 0, .int .i64 0]) 40 rfl Try.underlying27 impl_Account.info rfl (by decide) (by omega) _ l0 l2 _ _ _ (fun k_ => ((P0_ k_ ∨ P2_ k_) ∨ w.heap.size ≤ k_)) (fun _ => False) rfl rfl HO.out HC2.out (fun _ _ h => h) (fun _ h => h.elim) (fun _ hk => .inr hk) HB.out HB.out.size (by have := HL.out; have := HN.out; omega) ?_; intro v1 w1 ho hb hg hat; have R0 := Aside0.mk ho; have R1 := Aside0.mk hb; have R2 := Aside0.mk hg; clear ho hb hg hat))
    go_ret
    exact ⟨_, rfl, R0.out, R1.out, Kept.of_grown (W := w) R2.out (Kept.refl w _) (fun k hk => .inl (.inl (HW.out k hk)))⟩
set_option maxHeartbeats 2000000 in
set_option maxRecDepth 100000 in
theorem impl_Account.shift (P0_ P2_ : Nat → Prop) (g n c i : Nat) (l0 : List (S53)) (y : S53) (cur cur2 : Array Value) (g2 c2 : Nat) (w0 w : World) (hB : Below w0.heap.size w0 w) (hg : w0.heap.size ≤ g) (hP : P0_ g) (hb : w.heap[g]? = some (.cells cur 53 (0, 0))) (hs : cur.size = c * 5) (ht : cur.toList.take (n * 5) = Go.Proofs.Ytdbfjakhkclggaa.Slc.cellsOf impl_Account.enc l0)
    (hn : l0.length = n) (hi : i < n) (hr : n + 1 ≤ c) (hm : c ≤ maxLen) (hb2 : w.heap[g2]? = some (.cells cur2 53 (0, 0))) (ht2 : cur2.toList.take 5 = impl_Account.enc y) (hne : g2 ≠ g) (hc2 : 1 ≤ c2) :
    Calls Try.prog 69 #[.slice (some ⟨g, 0, none⟩) n c, .int .i64 (i : Int), .slice (some ⟨g2, 0, none⟩) 1 c2] w fun e w' => ∃ v0_ : Value, e = .returned (v0_) ∧ Kd.R k53 53 w' w0.heap.size (fun k_ => ((P0_ k_ ∨ P2_ k_) ∨ w.heap.size ≤ k_)) v0_ (l0.take i ++ y :: l0.drop i) ∧ Below w0.heap.size w0 w' ∧ Kept w w' (fun k_ => P0_ k_ ∨ P2_ k_) := by
  have hsz3 : (k53).sz = 5 := rfl
  have hsize := impl_Account.size
  have hcl : (Go.Proofs.Ytdbfjakhkclggaa.Slc.cellsOf impl_Account.enc l0).length = n * 5 := by rw [impl_Account.flat.cells_len, hn]; rfl
  have hyl : (impl_Account.enc y).length = 5 := impl_Account.flat.len y
  have hdl : ((Go.Proofs.Ytdbfjakhkclggaa.Slc.cellsOf impl_Account.enc l0).drop (i * 5)).length = (n - i) * 5 := by rw [List.length_drop, hcl, Nat.sub_mul]
  have hc63 : c ≤ 9223372036854775807 := by unfold maxLen at hm; omega
  have hk2 : 5 ≤ cur2.size := by
    have := congrArg List.length ht2
    rw [List.length_take, hyl] at this
    simp at this
    omega
  have hcs : ∀ j v, (Go.Proofs.Ytdbfjakhkclggaa.Slc.cellsOf impl_Account.enc l0)[j]? = some v → cur[j]? = some v := fun j v hj => by
    have hlt := (List.getElem?_eq_some_iff.1 hj).1
    rw [← ht, List.getElem?_take_of_lt (by omega), Array.getElem?_toList] at hj
    exact hj
  have hvs : ∀ j v, (impl_Account.enc y)[j]? = some v → cur2[j]? = some v := fun j v hj => by
    have hlt := (List.getElem?_eq_some_iff.1 hj).1
    rw [← ht2, List.getElem?_take_of_lt (by omega), Array.getElem?_toList] at hj
    exact hj
  have hov : ∀ lb cb, (callFunc 79 #[.slice (some ⟨g2, 0, none⟩) 1 c2, .slice (some ⟨g, (i + 1) * 5, none⟩) lb cb]).run Try.prog w = .ok (.value (.bool false)) w := fun lb cb => by
    rw [run_callFunc_extern Try.func79 (by kernel_rfl) (by kernel_rfl) (by kernel_rfl) (e := Extern.SlicesOverlaps.overlaps #[27, 27] #[4]) (by kernel_rfl),
      Lib.run_overlaps_apart w 27 4 53 Try.underlying27 5 impl_Account.sizeOf ⟨g2, 0, none⟩ ⟨g, (i + 1) * 5, none⟩ 1 c2 lb cb hne 53 53 cur2.size cur.size (by simp [World.shape?, hb2]) (by simp [World.shape?, hb]) (by omega) (blk_frozen hb2 0) (blk_frozen hb2 _)]
    rfl
  have hcp1 : ∀ ty dc sc, (Builtin.copy_ #[27, 27] ty #[.slice (some ⟨g, (i + 1) * 5, none⟩) (n - i) dc, .slice (some ⟨g, i * 5, none⟩) (n + 1 - i) sc]).run Try.prog w.drew = .ok (goInt (n - i : Nat)) (w.drew.setCells g ((i + 1) * 5) ((Go.Proofs.Ytdbfjakhkclggaa.Slc.cellsOf impl_Account.enc l0).drop (i * 5))) := fun ty dc sc =>
    Go.Proofs.Ytdbfjakhkclggaa.Slc.run_copy_k w.drew _ _ ty 53 5 g ((i + 1) * 5) _ dc ⟨g, i * 5, none⟩ _ sc _ (n - i) Try.underlying27 hsize u6_25 hdl
      (fun j v hj => by
        rw [List.getElem?_drop] at hj
        rw [Addr.add_lit]
        exact (blk_cell (w := w.drew) hb _).trans (hcs _ v hj))
      (fun j hj => by
        rw [hdl, Nat.sub_mul] at hj
        have : i * 5 ≤ n * 5 := Nat.mul_le_mul_right _ (by omega)
        have : (n + 1) * 5 ≤ c * 5 := Nat.mul_le_mul_right _ hr
        have hlt : (i + 1) * 5 + j < cur.size := by rw [hs]; omega
        rw [blk_cell (w := w.drew) hb, Array.getElem?_eq_getElem hlt]; rfl)
      (fun j _ => blk_frozen (w := w.drew) hb _) (fun v hv => impl_Account.flat.cells_one l0 v (List.mem_of_mem_drop hv))
  obtain ⟨W1, hW1⟩ : ∃ W1, W1 = w.drew.setCells g ((i + 1) * 5) ((Go.Proofs.Ytdbfjakhkclggaa.Slc.cellsOf impl_Account.enc l0).drop (i * 5)) := ⟨_, rfl⟩
  rw [← hW1] at hcp1
  obtain ⟨cur1, hb1, hs1, ho1, hi1⟩ := Go.Proofs.Ytdbfjakhkclggaa.Slc.setCells_blk g 53 ((Go.Proofs.Ytdbfjakhkclggaa.Slc.cellsOf impl_Account.enc l0).drop (i * 5)) ((i + 1) * 5) w.drew cur hb
  rw [← hW1] at hb1
  have hb21 : W1.heap[g2]? = some (.cells cur2 53 (0, 0)) := by
    rw [hW1]; exact (Go.Proofs.Ytdbfjakhkclggaa.Slc.setCells_other g _ _ w.drew g2 hne).trans hb2
  have hcp2 : ∀ ty dc, (Builtin.copy_ #[27, 27] ty #[.slice (some ⟨g, i * 5, none⟩) (n + 1 - i) dc, .slice (some ⟨g2, 0, none⟩) 1 c2]).run Try.prog W1 = .ok (goInt (1 : Nat)) (W1.setCells g (i * 5) (impl_Account.enc y)) := fun ty dc =>
    Go.Proofs.Ytdbfjakhkclggaa.Slc.run_copy_k W1 _ _ ty 53 5 g (i * 5) _ dc ⟨g2, 0, none⟩ 1 c2 _ 1 Try.underlying27 hsize u6_25 (by rw [hyl])
      (fun j v hj => by
        have := (blk_cell hb21 j).trans (hvs _ v hj)
        rw [Addr.add_lit, Nat.zero_add]
        exact this)
      (fun j hj => by
        rw [hyl] at hj
        have : (i + 1) * 5 ≤ c * 5 := Nat.mul_le_mul_right _ (by omega)
        have hlt : i * 5 + j < cur1.size := by rw [hs1, hs]; omega
        rw [blk_cell hb1, Array.getElem?_eq_getElem hlt]; rfl)
      (fun j _ => blk_frozen hb1 _) (impl_Account.flat.one y)
  obtain ⟨W2, hW2⟩ : ∃ W2, W2 = W1.setCells g (i * 5) (impl_Account.enc y) := ⟨_, rfl⟩
  rw [← hW2] at hcp2
  obtain ⟨cur3, hb3, hs3, ho3, hi3⟩ := Go.Proofs.Ytdbfjakhkclggaa.Slc.setCells_blk g 53 (impl_Account.enc y) (i * 5) W1 cur1 hb1
  rw [← hW2] at hb3
  have hR : Kd.R k53 53 W2 w0.heap.size (fun k_ => ((P0_ k_ ∨ P2_ k_) ∨ w.heap.size ≤ k_)) (.slice (some ⟨g, 0, none⟩) (n + 1) c) (l0.take i ++ y :: l0.drop i) := by
    refine impl_Account.flat.row hb3 hg (.inl (.inl hP)) (by simp; omega) hr hm (hs3.trans (hs1.trans hs)) (impl_Account.flat.ins_cells hn (by omega) (fun q hq => ?_) (fun j hj => ?_) (fun j hj => ?_))
    · rw [hsz3] at hq
      have : i * 5 ≤ n * 5 := Nat.mul_le_mul_right _ (by omega)
      rw [ho3 q (.inl hq), ho1 q (.inl (by omega)), ← ht, List.getElem?_take_of_lt (by omega), Array.getElem?_toList]
    · rw [hsz3] at hj ⊢
      have : (i + 1) * 5 ≤ c * 5 := Nat.mul_le_mul_right _ (by omega)
      exact hi3 j (by omega) (by rw [hs1, hs]; omega)
    · rw [hsz3] at hj ⊢
      have h1 : i * 5 ≤ n * 5 := Nat.mul_le_mul_right _ (by omega)
      have h2 : (n + 1) * 5 ≤ c * 5 := Nat.mul_le_mul_right _ hr
      rw [Nat.sub_mul] at hj
      rw [ho3 _ (.inr (by rw [hyl]; omega)), hi1 j (by rw [hdl, Nat.sub_mul]; omega) (by rw [hs]; omega), List.getElem?_drop]
  have hBel : Below w0.heap.size w0 W2 := by
    rw [hW2, hW1]
    exact Go.Proofs.Ytdbfjakhkclggaa.Slc.below_setCells hg _ _ (Go.Proofs.Ytdbfjakhkclggaa.Slc.below_setCells hg _ _ (below_drew hB))
  have hKp : Kept w W2 (fun k_ => P0_ k_ ∨ P2_ k_) := by
    rw [hW2, hW1]
    exact Go.Proofs.Ytdbfjakhkclggaa.Slc.kept_setCells (.inl (.inl hP)) _ _ (Go.Proofs.Ytdbfjakhkclggaa.Slc.kept_setCells (.inl (.inl hP)) _ _ (Kept.drew (Kept.refl w _)))
  have HR := Aside0.mk hR
  have HBe := Aside0.mk hBel
  have HKp := Aside0.mk hKp
  have hz2 : ¬ ((i : Int) = (n : Int)) := by omega
  have hw1 : IntKind.i64.wrap ((i : Int) + 1) = (i : Int) + 1 := by rw [IntKind.wrap_i64]; omega
  have hb1' : (0 : Int) ≤ (i : Int) + 1 := by omega
  have hin : i ≤ n := by omega
  have htn : ((i : Int) + 1).toNat = i + 1 := by omega
  have hb2' : ¬ (c = i + 1) := by omega
  have hb3' : (i : Int) ≤ (n : Int) + 1 := by omega
  have hb4 : ¬ (c = i) := by omega
  clear hR hBel hKp hb hs ht hb2 ht2 hcs hvs hW1 hb1 hs1 ho1 hi1 hb21 hW2 hb3 hs3 ho3 hi3 hcl hyl hdl hB hg hP hm hk2 hsz3 hsize hn hne
  go_enter Try.func69, Try.ntmps69
  go_wp2_with (simp only [hov])
  go_region_law (refine Go.Proofs.Ytdbfjakhkclggaa.Slc.step_copy rfl _ _ 27 27 rfl _ _ (by simp [Act.eval, Act.put]) (by simp [Act.eval, Act.put]) (hcp1 _ _ _) ?_)
  go_wp2_with (at_builtin; refine Go.Proofs.Ytdbfjakhkclggaa.Slc.list_copy _ rfl _ _ 27 27 rfl _ _ rfl rfl (hcp2 _ _) ?_)
  go_ret
  exact ⟨_, rfl, HR.out, HBe.out, HKp.out⟩
theorem impl_Account.parts : ∃ i0, Try.prog.info? 53 = some i0 ∧ i0.zero = some (.agg #[.int .u64 0, .int .u64 0, .int .u64 0, .int .u64 0, .int .i64 0]) ∧ i0.size = 5 ∧ i0.bytes = 40 := by
  obtain ⟨i0, h, h2⟩ := Option.map_eq_some_iff.1 impl_Account.info
  simp only [Prod.mk.injEq] at h2
  exact ⟨i0, h, h2.1, h2.2.1, h2.2.2⟩
set_option maxHeartbeats 2000000 in
set_option maxRecDepth 100000 in
theorem impl_Account.grow (P0_ P2_ : Nat → Prop) (g n i : Nat) (l0 : List (S53)) (y : S53) (cur cur2 : Array Value) (g2 c2 : Nat) (w0 w : World) (hB : Below w0.heap.size w0 w) (hb : w.heap[g]? = some (.cells cur 53 (0, 0))) (hs : cur.size = n * 5) (ht : cur.toList.take (n * 5) = Go.Proofs.Ytdbfjakhkclggaa.Slc.cellsOf impl_Account.enc l0)
    (hn : l0.length = n) (hi : i < n) (hl : n < 1000000) (hb2 : w.heap[g2]? = some (.cells cur2 53 (0, 0))) (ht2 : cur2.toList.take 5 = impl_Account.enc y) (hc2 : 1 ≤ c2) :
    Calls Try.prog 69 #[.slice (some ⟨g, 0, none⟩) n n, .int .i64 (i : Int), .slice (some ⟨g2, 0, none⟩) 1 c2] w fun e w' => ∃ v0_ : Value, e = .returned (v0_) ∧ Kd.R k53 53 w' w0.heap.size (fun k_ => ((P0_ k_ ∨ P2_ k_) ∨ w.heap.size ≤ k_)) v0_ (l0.take i ++ y :: l0.drop i) ∧ Below w0.heap.size w0 w' ∧ Kept w w' (fun k_ => P0_ k_ ∨ P2_ k_) := by
  have hsz3 : (k53).sz = 5 := rfl
  have hsize := impl_Account.size
  obtain ⟨i0, hi0, hz0, hzs, hzb⟩ := impl_Account.parts
  have hcl : (Go.Proofs.Ytdbfjakhkclggaa.Slc.cellsOf impl_Account.enc l0).length = n * 5 := by rw [impl_Account.flat.cells_len, hn]; rfl
  have hyl : (impl_Account.enc y).length = 5 := impl_Account.flat.len y
  have hdl : ((Go.Proofs.Ytdbfjakhkclggaa.Slc.cellsOf impl_Account.enc l0).drop (i * 5)).length = (n - i) * 5 := by rw [List.length_drop, hcl, Nat.sub_mul]
  have hin3 : i * 5 ≤ n * 5 := Nat.mul_le_mul_right _ (by omega)
  have htl : ((Go.Proofs.Ytdbfjakhkclggaa.Slc.cellsOf impl_Account.enc l0).take (i * 5)).length = i * 5 := by rw [List.length_take, hcl]; omega
  have hgw : g < w.heap.size := blk_lt hb
  have hg2w : g2 < w.heap.size := blk_lt hb2
  have hcs : ∀ j v, (Go.Proofs.Ytdbfjakhkclggaa.Slc.cellsOf impl_Account.enc l0)[j]? = some v → cur[j]? = some v := fun j v hj => by
    have hlt := (List.getElem?_eq_some_iff.1 hj).1
    rw [← ht, List.getElem?_take_of_lt (by omega), Array.getElem?_toList] at hj
    exact hj
  have hvs : ∀ j v, (impl_Account.enc y)[j]? = some v → cur2[j]? = some v := fun j v hj => by
    have hlt := (List.getElem?_eq_some_iff.1 hj).1
    rw [← ht2, List.getElem?_take_of_lt (by omega), Array.getElem?_toList] at hj
    exact hj
  have hold : (Builtin.firstCells i0.size i (.slice (some ⟨g, 0, none⟩) i n)).run Try.prog w.drew = .ok ((Go.Proofs.Ytdbfjakhkclggaa.Slc.cellsOf impl_Account.enc l0).take (i * 5)).toArray w.drew := by
    rw [hzs]
    exact run_firstCells_some w.drew 5 i ⟨g, 0, none⟩ i n _ htl (fun j v hj => by
      have hj' : (Go.Proofs.Ytdbfjakhkclggaa.Slc.cellsOf impl_Account.enc l0)[j]? = some v := by
        rw [List.getElem?_take] at hj
        split at hj
        · exact hj
        · cases hj
      rw [Addr.add_lit, Nat.zero_add]
      exact (blk_cell (w := w.drew) hb j).trans (hcs j v hj'))
  have hik : i + (n + 1 - i) = n + 1 := by omega
  have hkk : (n : Int) + 1 - (i : Int) = ((n + 1 - i : Nat) : Int) := by omega
  obtain ⟨G, hG⟩ : ∃ G, G = grownCap w (n + 1) n 53 := ⟨_, rfl⟩
  obtain ⟨ROW, hROW⟩ : ∃ ROW : Array Value, ROW = ((Go.Proofs.Ytdbfjakhkclggaa.Slc.cellsOf impl_Account.enc l0).take (i * 5)).toArray ++ Builtin.zeroCells (.agg #[.int .u64 0, .int .u64 0, .int .u64 0, .int .u64 0, .int .i64 0] : Value).cells (n + 1 - i) ++ Builtin.zeroCells (.agg #[.int .u64 0, .int .u64 0, .int .u64 0, .int .u64 0, .int .i64 0] : Value).cells (G - (n + 1)) := ⟨_, rfl⟩
  have hrz : ∀ ty, (Builtin.append_ #[27, 3] ty #[.slice (some ⟨g, 0, none⟩) i n, .int .i64 ((n : Int) + 1 - (i : Int))]).run Try.prog w = .ok (.slice (some ⟨w.heap.size, 0, none⟩) (n + 1) G) (w.drew.alloc (.cells ROW 53)) := fun ty => by
    have h := Lib.run_append_grow_zeros (P := Try.prog) w 27 3 ty 53 i0 _ .i64 .i64 Try.underlying27 Try.underlying3 hi0 hz0 (some ⟨g, 0, none⟩) i n _ hold (n + 1 - i) (by omega) (by omega) (by omega) (by omega) (by rw [hzb]; omega) (by rw [hzb, hik]; exact growslice_fits (by omega) (by omega))
    rw [hik] at h
    rw [hkk, hROW, hG]
    exact h
  have hGn : n + 1 ≤ G := by rw [hG]; exact grownCap_ge w _ _ _
  have hGm : G ≤ maxLen := by rw [hG]; exact grownCap_le_maxLen w (n + 1) n 53 (by unfold maxLen; omega)
  have hRl : ROW.size = G * 5 := by
    have e1 : ∀ k, (Builtin.zeroCells (.agg #[.int .u64 0, .int .u64 0, .int .u64 0, .int .u64 0, .int .i64 0] : Value).cells k).size = k * 5 := fun k => by simp [Builtin.zeroCells, Value.cells]; try omega
    rw [hROW, Array.size_append, Array.size_append, e1, e1]
    simp only [List.size_toArray, htl]
    rw [← Nat.add_mul, ← Nat.add_mul]
    congr 1; omega
  have hR0 : ∀ q, q < i * 5 → ROW[q]? = (Go.Proofs.Ytdbfjakhkclggaa.Slc.cellsOf impl_Account.enc l0)[q]? := fun q hq => by
    rw [hROW, Array.append_assoc, Array.getElem?_append_left (by simp only [List.size_toArray, htl]; exact hq), List.getElem?_toArray, List.getElem?_take_of_lt hq]
  obtain ⟨W1, hW1⟩ : ∃ W1, W1 = w.drew.alloc (.cells ROW 53) := ⟨_, rfl⟩
  rw [← hW1] at hrz
  have hbN : W1.heap[w.heap.size]? = some (.cells ROW 53 (0, 0)) := by rw [hW1]; exact Array.getElem?_push_size
  have hkeep : ∀ k, k < w.heap.size → W1.heap[k]? = w.heap[k]? := fun k hk => by rw [hW1]; show (w.heap.push _)[k]? = _; rw [Array.getElem?_push, if_neg (Nat.ne_of_lt hk)]
  have hb2N : W1.heap[g2]? = some (.cells cur2 53 (0, 0)) := (hkeep g2 hg2w).trans hb2
  have hB1 : Below w0.heap.size w0 W1 := by rw [hW1]; exact below_alloc (below_drew hB) _
  have hK1 : Kept w W1 (fun k_ => P0_ k_ ∨ P2_ k_) := by rw [hW1]; exact (Kept.drew (Kept.refl w _)).alloc _
  have hwN : w0.heap.size ≤ w.heap.size := hB.size
  obtain ⟨NB, hNB⟩ : ∃ NB, NB = w.heap.size := ⟨_, rfl⟩
  have hgN : g ≠ NB := by omega
  have hg2N : g2 ≠ NB := by omega
  have hcpA : ∀ ty dc, (Builtin.copy_ #[27, 27] ty #[.slice (some ⟨NB, i * 5, none⟩) (n + 1 - i) dc, .slice (some ⟨g2, 0, none⟩) 1 c2]).run Try.prog W1 = .ok (goInt (1 : Nat)) (W1.setCells NB (i * 5) (impl_Account.enc y)) := fun ty dc =>
    Go.Proofs.Ytdbfjakhkclggaa.Slc.run_copy_k W1 _ _ ty 53 5 NB (i * 5) _ dc ⟨g2, 0, none⟩ 1 c2 _ 1 Try.underlying27 hsize u6_25 (by rw [hyl])
      (fun j v hj => by
        rw [Addr.add_lit, Nat.zero_add]
        exact (blk_cell hb2N j).trans (hvs _ v hj))
      (fun j hj => by
        rw [hyl] at hj
        have : (i + 1) * 5 ≤ G * 5 := Nat.mul_le_mul_right _ (by omega)
        have hlt : i * 5 + j < ROW.size := by omega
        rw [hNB, blk_cell hbN, Array.getElem?_eq_getElem hlt]; rfl)
      (fun j _ => by rw [hNB]; exact blk_frozen hbN _) (impl_Account.flat.one y)
  rw [← hNB] at hbN hrz
  obtain ⟨W2, hW2⟩ : ∃ W2, W2 = W1.setCells NB (i * 5) (impl_Account.enc y) := ⟨_, rfl⟩
  rw [← hW2] at hcpA
  obtain ⟨cur3, hb3, hs3, ho3, hi3⟩ := Go.Proofs.Ytdbfjakhkclggaa.Slc.setCells_blk NB 53 (impl_Account.enc y) (i * 5) W1 ROW hbN
  rw [← hW2] at hb3
  have hb31 : W2.heap[g]? = some (.cells cur 53 (0, 0)) := by
    rw [hW2]; exact (Go.Proofs.Ytdbfjakhkclggaa.Slc.setCells_other NB _ _ W1 g hgN).trans ((hkeep g hgw).trans hb)
  have hcpB : ∀ ty dc sc, (Builtin.copy_ #[27, 27] ty #[.slice (some ⟨NB, (i + 1) * 5, none⟩) (n - i) dc, .slice (some ⟨g, i * 5, none⟩) (n - i) sc]).run Try.prog W2.drew = .ok (goInt (n - i : Nat)) (W2.drew.setCells NB ((i + 1) * 5) ((Go.Proofs.Ytdbfjakhkclggaa.Slc.cellsOf impl_Account.enc l0).drop (i * 5))) := fun ty dc sc =>
    Go.Proofs.Ytdbfjakhkclggaa.Slc.run_copy_k W2.drew _ _ ty 53 5 NB ((i + 1) * 5) _ dc ⟨g, i * 5, none⟩ _ sc _ (n - i) Try.underlying27 hsize u6_25 hdl
      (fun j v hj => by
        rw [List.getElem?_drop] at hj
        rw [Addr.add_lit]
        exact (blk_cell (w := W2.drew) hb31 _).trans (hcs _ v hj))
      (fun j hj => by
        rw [hdl, Nat.sub_mul] at hj
        have : (n + 1) * 5 ≤ G * 5 := Nat.mul_le_mul_right _ hGn
        have hlt : (i + 1) * 5 + j < cur3.size := by rw [hs3, hRl]; omega
        rw [blk_cell (w := W2.drew) hb3, Array.getElem?_eq_getElem hlt]; rfl)
      (fun j _ => blk_frozen (w := W2.drew) hb3 _) (fun v hv => impl_Account.flat.cells_one l0 v (List.mem_of_mem_drop hv))
  obtain ⟨W3, hW3⟩ : ∃ W3, W3 = W2.drew.setCells NB ((i + 1) * 5) ((Go.Proofs.Ytdbfjakhkclggaa.Slc.cellsOf impl_Account.enc l0).drop (i * 5)) := ⟨_, rfl⟩
  rw [← hW3] at hcpB
  obtain ⟨cur4, hb4, hs4, ho4, hi4⟩ := Go.Proofs.Ytdbfjakhkclggaa.Slc.setCells_blk NB 53 ((Go.Proofs.Ytdbfjakhkclggaa.Slc.cellsOf impl_Account.enc l0).drop (i * 5)) ((i + 1) * 5) W2.drew cur3 hb3
  rw [← hW3] at hb4
  have hR : Kd.R k53 53 W3 w0.heap.size (fun k_ => ((P0_ k_ ∨ P2_ k_) ∨ w.heap.size ≤ k_)) (.slice (some ⟨NB, 0, none⟩) (n + 1) G) (l0.take i ++ y :: l0.drop i) := by
    refine impl_Account.flat.row hb4 (by omega) (.inr (by omega)) (by simp; omega) hGn hGm (hs4.trans (hs3.trans hRl)) (impl_Account.flat.ins_cells hn (by omega) (fun q hq => ?_) (fun j hj => ?_) (fun j hj => ?_))
    · rw [hsz3] at hq
      rw [ho4 q (.inl (by omega)), ho3 q (.inl hq), hR0 q hq]
    · rw [hsz3] at hj ⊢
      have : (i + 1) * 5 ≤ G * 5 := Nat.mul_le_mul_right _ (by omega)
      rw [ho4 _ (.inl (by omega))]
      exact hi3 j (by omega) (by rw [hRl]; omega)
    · rw [hsz3] at hj ⊢
      have h2 : (n + 1) * 5 ≤ G * 5 := Nat.mul_le_mul_right _ hGn
      rw [Nat.sub_mul] at hj
      rw [hi4 j (by rw [hdl, Nat.sub_mul]; omega) (by rw [hs3, hRl]; omega), List.getElem?_drop]
  have hBel : Below w0.heap.size w0 W3 := by
    rw [hW3, hW2]
    exact Go.Proofs.Ytdbfjakhkclggaa.Slc.below_setCells (by omega) _ _ (below_drew (Go.Proofs.Ytdbfjakhkclggaa.Slc.below_setCells (by omega) _ _ hB1))
  have hKp : Kept w W3 (fun k_ => P0_ k_ ∨ P2_ k_) := by
    rw [hW3, hW2]
    exact Go.Proofs.Ytdbfjakhkclggaa.Slc.kept_setCells (.inr (by omega)) _ _ (Kept.drew (Go.Proofs.Ytdbfjakhkclggaa.Slc.kept_setCells (.inr (by omega)) _ _ hK1))
  have HR := Aside0.mk hR
  have HBe := Aside0.mk hBel
  have HKp := Aside0.mk hKp
  have hz2 : ¬ ((i : Int) = (n : Int)) := by omega
  have hz3 : (n : Int) < (n : Int) + 1 := by omega
  have hG63 : G ≤ 9223372036854775807 := by unfold maxLen at hGm; omega
  have hGi : ¬ (G = i) := by omega
  have hGim : ¬ (G = i + 1) := by omega
  have hci : ¬ (n = i) := by omega
  have hw1 : IntKind.i64.wrap ((i : Int) + 1) = (i : Int) + 1 := by rw [IntKind.wrap_i64]; omega
  have hb1 : (0 : Int) ≤ (i : Int) + 1 := by omega
  have hin : i ≤ n := by omega
  have htn : ((i : Int) + 1).toNat = i + 1 := by omega
  have hb3' : (i : Int) ≤ (n : Int) := by omega
  clear hR hBel hKp hb hs ht hb2 ht2 hcs hvs hW1 hW2 hW3 hb3 hs3 ho3 hi3 hb4 hs4 ho4 hi4 hcl hyl hdl hB hsz3 hsize hi0 hz0 hzs hzb hold hROW hG hRl hR0 hbN hkeep hb2N hB1 hK1 hb31 hGm hkk hik hin3 htl hgw hg2w hgN hg2N hwN hNB hn
  go_enter Try.func69, Try.ntmps69
  go_wp2_with (first
    | (at_builtin; refine Lib.wpList_append_run _ rfl _ _ _ _ rfl _ _ rfl rfl _ _ (hrz _) ?_)
    | (at_builtin; refine Go.Proofs.Ytdbfjakhkclggaa.Slc.list_copy _ rfl _ _ 27 27 rfl _ _ rfl rfl (hcpA _ _) ?_))
  go_region_law (refine Go.Proofs.Ytdbfjakhkclggaa.Slc.step_copy rfl _ _ 27 27 rfl _ _ (by simp [Act.eval, Act.put]) (by simp [Act.eval, Act.put]) (hcpB _ _ _) ?_)
  go_wp2
  go_ret
  exact ⟨_, rfl, HR.out, HBe.out, HKp.out⟩
set_option maxHeartbeats 2000000 in
theorem impl_Account.calls (P0_ : Nat → Prop) (u9000_ : Value) (l0 : List (S53)) (a1 : Int) (P2_ : Nat → Prop) (u9001_ : Value) (l2 : List (S53)) (r : List (S53)) (w0 w : World) (hB : Below w0.heap.size w0 w) (ho0 : Kd.R k53 53 w w0.heap.size P0_ u9000_ l0) (hp0_2 : ∀ k_, P0_ k_ → ¬ P2_ k_) (ho2 : Kd.R k53 53 w w0.heap.size P2_ u9001_ l2) (hp2_0 : ∀ k_, P2_ k_ → ¬ P0_ k_) (h : impl_Account.f l0 a1 l2 = some r) :
    Calls Try.prog 69 #[u9000_, .int .i64 a1, u9001_] w fun e w' => ∃ v0_ : Value, e = .returned (v0_) ∧ Kd.R k53 53 w' w0.heap.size (fun k_ => ((P0_ k_ ∨ P2_ k_) ∨ w.heap.size ≤ k_)) v0_ r ∧ Below w0.heap.size w0 w' ∧ Kept w w' (fun k_ => P0_ k_ ∨ P2_ k_) := by
  unfold impl_Account.f at h
  by_cases hc : 0 ≤ a1 ∧ a1 ≤ (l0.length : Int) ∧ l2.length = 1 ∧ l0.length < 1000000
  rotate_left
  · rw [if_neg hc] at h; cases h
  rw [if_pos hc] at h
  obtain rfl := Option.some.inj h
  clear h
  obtain ⟨h0, hle, hl2, hl⟩ := hc
  obtain ⟨i, rfl⟩ := Int.eq_ofNat_of_zero_le h0
  rw [Int.toNat_natCast]
  match l2, hl2, ho2 with
  | [y], hl2, ho2 =>
  obtain ⟨g2, c2, cur2, rfl, _, hP2, hb2, hc2, _, _, ht2⟩ := impl_Account.flat.block ho2 (by simp)
  have ht2' : cur2.toList.take (k53).sz = impl_Account.enc y := by simpa [Go.Proofs.Ytdbfjakhkclggaa.Slc.cellsOf] using ht2
  by_cases hi : i < l0.length
  rotate_left
  · have hin : i = l0.length := by omega
    subst hin
    obtain ⟨A0, c0, rfl, hc0, _⟩ := Kd.R_reads ho0
    obtain ⟨hnl, hle2, hC2⟩ := Kd.R_reads' ho2
    have hm : c0 ≤ maxLen := by
      obtain ⟨_, inner, ⟨_, ho⟩, _⟩ := ho0
      rcases ho with ⟨he, _⟩ | ⟨g', cap', cur, he, _, _, _, hm, _⟩
      · injection he with e1 e2 e3; rw [e3]; exact Nat.zero_le _
      · injection he with e1 e2 e3; rw [e3]; exact hm
    exact (impl_Account.at_end P0_ P2_ A0 l0.length c0 l0 g2 c2 [y] w0 w hB ho0 hC2 rfl rfl hc2 hl hc0 hm).mono fun e w' h => by simpa using h
  obtain ⟨g, c, cur, rfl, hg, hP, hb, hcap, hm, hs, ht⟩ := impl_Account.flat.block ho0 (by omega)
  have hne : g2 ≠ g := fun e => hp0_2 g hP (e ▸ hP2)
  by_cases hr : l0.length + 1 ≤ c
  · exact (impl_Account.shift P0_ P2_ g l0.length c i l0 y cur cur2 g2 c2 w0 w hB hg hP hb hs ht rfl hi hr hm hb2 ht2' hne hc2).mono fun e w' h => by simpa using h
  have hcn : c = l0.length := by omega
  subst hcn
  exact (impl_Account.grow P0_ P2_ g l0.length i l0 y cur cur2 g2 c2 w0 w hB hb hs ht rfl hi hl hb2 ht2' hc2).mono fun e w' h => by simpa using h


end Go.Proofs.Ytdbfjakhkclggaa.QFnExactOpenAccount
