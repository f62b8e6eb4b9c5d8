-- Printed by the session's own program wip/prx.py.
import Derived.Test.YtdbfjakhkclggaaQFnExactMoveMoneyx0
namespace Go.Proofs.Ytdbfjakhkclggaa.QFnExactMoveMoney
open Go.RowKit Go.Proofs.YtdbfjakhkclggaaW.PrintWords Go.Proofs.YtdbfjakhkclggaaW.PrintLast Go.Proofs.YtdbfjakhkclggaaW.PrintMore
attribute [local go_sem] max2_int min2_int max_two min_two max_three min_three max_four min_four Go.Proofs.Ytdbfjakhkclggaa.Set.isSome_setCell Go.Proofs.Ytdbfjakhkclggaa.Add.add64   -- for this text's walks alone
set_option linter.unusedVariables false
set_option linter.unusedSimpArgs false

-- squeezed
theorem u5_0 {P : Prop} (h : P := by repeat (first | (with_reducible first | exact HB.out | apply below_alloc | apply pw_below_drewN | apply below_drew1 | refine below_set ?_ GE194.out) | exact HB.out)) : P := h
theorem u5_1 {P : Prop} (h : P := by (with_reducible repeat (first | refine blk_drewN ?_ _ | refine blk_drew ?_ | refine blk_alloc ?_ _)); exact BK194.out) : P := h
theorem u5_2 {P : Prop} (h : P := by first | (with_reducible assumption) | assumption) : P := h
theorem u5_3 {P : Prop} (h : P := by first | (rw [add_block]; exact hn197_0) | (show (Addr.add _ _).block ≠ _; rw [add_block]; exact hn197_0) | exact hn197_0) : P := h
theorem u5_4 {P : Prop} (h : P := by first | (rw [add_block]; exact hn197_1) | (show (Addr.add _ _).block ≠ _; rw [add_block]; exact hn197_1) | exact hn197_1) : P := h
theorem u5_5 {P : Prop} (h : P := by first | (rw [add_block]; exact hn197_2) | (show (Addr.add _ _).block ≠ _; rw [add_block]; exact hn197_2) | exact hn197_2) : P := h
theorem u5_6 {P : Prop} (h : P := by first | (rw [add_block]; exact hn197_3) | (show (Addr.add _ _).block ≠ _; rw [add_block]; exact hn197_3) | exact hn197_3) : P := h
theorem u5_7 {P : Prop} (h : P := by first | (rw [add_block]; exact hn197_4) | (show (Addr.add _ _).block ≠ _; rw [add_block]; exact hn197_4) | exact hn197_4) : P := h
theorem u5_8 {P : Prop} (h : P := by first | (rw [add_block]; exact hn198_0) | (show (Addr.add _ _).block ≠ _; rw [add_block]; exact hn198_0) | exact hn198_0) : P := h
theorem u5_9 {P : Prop} (h : P := by first | (rw [add_block]; exact hn198_1) | (show (Addr.add _ _).block ≠ _; rw [add_block]; exact hn198_1) | exact hn198_1) : P := h
theorem u5_10 {P : Prop} (h : P := by first | (rw [add_block]; exact hn198_2) | (show (Addr.add _ _).block ≠ _; rw [add_block]; exact hn198_2) | exact hn198_2) : P := h
theorem u5_11 {P : Prop} (h : P := by first | (rw [add_block]; exact hn198_3) | (show (Addr.add _ _).block ≠ _; rw [add_block]; exact hn198_3) | exact hn198_3) : P := h
theorem u5_12 {P : Prop} (h : P := by first | (rw [add_block]; exact hn198_4) | (show (Addr.add _ _).block ≠ _; rw [add_block]; exact hn198_4) | exact hn198_4) : P := h
theorem u5_13 {P : Prop} (h : P := by repeat (first | (with_reducible first | exact HB.out | apply below_alloc | apply pw_below_drewN | apply below_drew1) | exact HB.out)) : P := h
theorem u5_14 {P : Prop} (h : P := by have := World.block_lt_of_cell? _ _ hx197_0; first | rwa [add_block] at this | exact this) : P := h
theorem u5_15 {P : Prop} (h : P := by have := World.block_lt_of_cell? _ _ hx198_0; first | rwa [add_block] at this | exact this) : P := h
theorem u5_16 {P : Prop} (h : P := by repeat (first | (with_reducible first | exact HB.out | apply below_alloc | apply pw_below_drewN | apply below_drew1 | refine below_set ?_ GE199.out | refine below_set ?_ GE200.out) | exact HB.out)) : P := h
theorem u5_17 {P : Prop} (h : P := by (with_reducible repeat (first | refine blk_drewN ?_ _ | refine blk_drew ?_ | refine blk_alloc ?_ _)); exact BK199.out) : P := h
theorem u5_18 {P : Prop} (h : P := by repeat (first | (with_reducible first | exact HB.out | apply below_alloc | apply pw_below_drewN | apply below_drew1 | refine below_set ?_ GE199.out) | exact HB.out)) : P := h
theorem u5_19 {P : Prop} (h : P := by first | rfl | (simp; done) | (simp [*]; done)) : P := h
theorem u5_20 {P : Prop} (h : P := by (with_reducible repeat (first | refine blk_drewN ?_ _ | refine blk_drew ?_ | refine blk_alloc ?_ _)); exact BK200.out) : P := h
/-! ### impl_isBook: function 50 -/
def impl_isBook.l0 : Nat → List (S53) → Int → Int → List (S53) → Option (Bool)
  | 0, _, _, _, _ => none
  | k + 1, x10, x11, x12, x195000 => if x12 < x11 then (if 0 ≤ x12 then (if x12 < (x10.length : Int) then (if 0 ≤ ((rd_T53 x10 x12).f1) then (if 0 ≤ ((rd_T53 x10 x12).f2) then (if 0 ≤ (IntKind.u64.wrap (((rd_T53 x10 x12).f1) + ((rd_T53 x10 x12).f2))) then (if 0 ≤ ((rd_T53 x10 x12).f3) then (if (IntKind.u64.wrap (((((rd_T53 x10 x12).f1) + ((rd_T53 x10 x12).f2)) / 18446744073709551616) + (((IntKind.u64.wrap (((rd_T53 x10 x12).f1) + ((rd_T53 x10 x12).f2))) + ((rd_T53 x10 x12).f3)) / 18446744073709551616))) > 0 then (some false) else (if ((rd_T53 x10 x12).f4) < 0 then (some false) else (if ((rd_T53 x10 x12).f4) = 0 then (if ((rd_T53 x10 x12).f2) = 0 then (if ((rd_T53 x10 x12).f3) = 0 then (if x12 > 0 then (if 0 ≤ (wrap64 (x12 - 1)) then (if (wrap64 (x12 - 1)) < (x195000.length : Int) then (if ((rd_T53 x195000 (wrap64 (x12 - 1))).f0) ≥ ((rd_T53 x10 x12).f0) then (some false) else (impl_isBook.l0 k x10 x11 (wrap64 (x12 + 1)) x195000)) else (none)) else (none)) else (impl_isBook.l0 k x10 x11 (wrap64 (x12 + 1)) x195000)) else (some false)) else (some false)) else (if x12 > 0 then (if 0 ≤ (wrap64 (x12 - 1)) then (if (wrap64 (x12 - 1)) < (x195000.length : Int) then (if ((rd_T53 x195000 (wrap64 (x12 - 1))).f0) ≥ ((rd_T53 x10 x12).f0) then (some false) else (impl_isBook.l0 k x10 x11 (wrap64 (x12 + 1)) x195000)) else (none)) else (none)) else (impl_isBook.l0 k x10 x11 (wrap64 (x12 + 1)) x195000))))) else (none)) else (none)) else (none)) else (none)) else (none)) else (none)) else (some (decide ((x195000.length : Int) ≤ 40)))
def impl_isBook.f (k : Nat) (l0_0 : List (S53)) : Option (Bool) := impl_isBook.l0 k l0_0 (l0_0.length : Int) 0 l0_0
theorem impl_isBook.mono_l : ∀ k, (∀ y0 y1 y2 y3, LeO (impl_isBook.l0 k y0 y1 y2 y3) (impl_isBook.l0 (k + 1) y0 y1 y2 y3))
  | 0 => fun _ _ _ _ r h => by simp [impl_isBook.l0] at h
  | k + 1 => by
    have ih0 := impl_isBook.mono_l k
    · intro y0 y1 y2 y3
      unfold impl_isBook.l0
      repeat' first
      | (with_reducible exact ih0 _ _ _ _)
      | (with_reducible exact LeO.refl _)
      | (with_reducible exact LeO.none _)
      | (with_reducible refine LeO.ite ?_ ?_)
      | (with_reducible refine LeO.bind ?_ (fun _ => ?_))
      | exact ih0 _ _ _ _
      | exact LeO.none _
      | refine LeO.ite ?_ ?_
      | refine LeO.bind ?_ (fun _ => ?_)
theorem impl_isBook.mono : ∀ a0 k, LeO (impl_isBook.f k a0) (impl_isBook.f (k + 1) a0) := by
  intro a0 k
  have ih0 := impl_isBook.mono_l k
  unfold impl_isBook.f
  repeat' first
      | (with_reducible exact ih0 _ _ _ _)
      | (with_reducible exact LeO.refl _)
      | (with_reducible exact LeO.none _)
      | (with_reducible refine LeO.ite ?_ ?_)
      | (with_reducible refine LeO.bind ?_ (fun _ => ?_))
      | exact ih0 _ _ _ _
      | exact LeO.none _
      | refine LeO.ite ?_ ?_
      | refine LeO.bind ?_ (fun _ => ?_)
set_option maxHeartbeats 8000000 in
set_option maxRecDepth 100000 in
theorem impl_isBook.calls (k : Nat) (A0_0 : Option Addr) (c0_0 : Nat) (l0_0 : List (S53)) (r : Bool) (w : World) (hr0_0 : Kd.C k53 w A0_0 l0_0.length l0_0) (hc0_0 : l0_0.length ≤ c0_0) (h : impl_isBook.f k l0_0 = some r) :
    Calls Try.prog 50 #[.agg #[.slice A0_0 l0_0.length c0_0]] w fun e w' => e = .returned (.bool r) ∧ Below w.heap.size w w' := by
  have hu29 := Try.underlying29
  have hu53 := Try.underlying53
  have HR0_0 := Aside0.mk hr0_0
  have HC0_0 := Aside0.mk hc0_0
  clear hr0_0 hc0_0
  have HB := Aside0.mk (Below.refl w.heap.size w)
  have H : (impl_isBook.l0 k l0_0 (l0_0.length : Int) 0 l0_0) = some r := h
  clear h
  have H' := Aside0.mk H
  clear H
  go_enter Try.func50, Try.ntmps50
  go_wp2_with (first | (first | ((with_reducible refine gate_dst (N := 1) rfl ?_); refine box_event ?hg (N := 1) ?hd (cs := #[.slice A0_0 l0_0.length c0_0]) (t := 29) ?hr ?_; (case hd => rfl); (case hg => rfl); (case hr => first | (go_simp; done) | (go_simp; rfl)); intro gb194 hg w2 hbox hb; have n0_ := Aside0.mk (below_step u5_13 hb); have n1_ := Aside0.mk (hbox); have n2_ := Aside0.mk ((by rw [hg]; exact (below_size u5_13) : w.heap.size ≤ gb194)); have n3_ := Aside0.mk ((by rw [hg]; exact (below_size u5_13) : w.heap.size ≤ gb194)); clear HB; have HB := n0_; have BK194 := n1_; have GW194 := n2_; have GE194 := n3_; clear n0_ n1_ n2_ n3_; clear hb hbox hg; have hcz3_0 : w2.cell? ⟨gb194, 0, none⟩ = some (.slice A0_0 l0_0.length c0_0) := (blk_cell BK194.out 0).trans rfl; have hfz3_0 := blk_frozen BK194.out 0)) | go_quiet (fail))
  go_loopg [12] k (fun kq v12 w' => ∃ (x12_1 : Int), v12 = .int .i64 x12_1 ∧ Aside0 (impl_isBook.l0 kq l0_0 (l0_0.length : Int) x12_1 l0_0 = some r) ∧ Aside0 (kq ≤ k) ∧ Aside0 (w'.heap[gb194]? = some (.cells #[(.slice A0_0 l0_0.length c0_0)] 29 (0, 0))) ∧ Aside0 (Below w.heap.size w w'))
  case atStart => exact ⟨(0), u5_19, H', ⟨Nat.le_refl _⟩, ⟨by (with_reducible repeat (first | refine blk_drewN ?_ _ | refine blk_drew ?_ | refine blk_alloc ?_ _)); exact BK194.out⟩, ⟨by repeat (first | (with_reducible first | exact HB.out | apply below_alloc | apply pw_below_drewN | apply below_drew1 | refine below_set ?_ GE194.out) | exact HB.out)⟩⟩
  case round =>
    clear H'
    try clear p2
    try clear hcz3_0
    try clear hfz3_0
    obtain ⟨x12_1, rfl, HA, HK1, BK194, HB⟩ := hrel
    cases gk with
    | zero => exact absurd HA.out (by simp [impl_isBook.l0])
    | succ k1 =>
      have H := HA.out
      clear HA
      simp only [impl_isBook.l0] at H
      by_cases c4 : x12_1 < (l0_0.length : Int)
      · rw [if_pos c4] at H
        have c4b0 : decide (x12_1 < (l0_0.length : Int)) = true := decide_eq_true c4
        clear c4
        by_cases c5 : 0 ≤ x12_1
        · rw [if_pos c5] at H
          have c5b0 : decide (0 ≤ x12_1) = true := decide_eq_true c5
          clear c5
          by_cases c6 : x12_1 < (l0_0.length : Int)
          · rw [if_pos c6] at H
            have c6b0 : decide (x12_1 < (l0_0.length : Int)) = true := decide_eq_true c6
            clear c6
            by_cases c7 : 0 ≤ ((rd_T53 l0_0 x12_1).f1)
            · rw [if_pos c7] at H
              have c7b0 := eq_true c7
              have c7b1 : decide (0 ≤ ((rd_T53 l0_0 x12_1).f1)) = true := decide_eq_true c7
              clear c7
              by_cases c8 : 0 ≤ ((rd_T53 l0_0 x12_1).f2)
              · rw [if_pos c8] at H
                have c8b0 := eq_true c8
                have c8b1 : decide (0 ≤ ((rd_T53 l0_0 x12_1).f2)) = true := decide_eq_true c8
                clear c8
                obtain ⟨ji9, hji9⟩ : ∃ j_ : Int, (IntKind.u64.wrap (((rd_T53 l0_0 x12_1).f1) + ((rd_T53 l0_0 x12_1).f2))) = j_ := ⟨_, rfl⟩
                replace H : (if 0 ≤ (ji9) then (if 0 ≤ ((rd_T53 l0_0 x12_1).f3) then (if (IntKind.u64.wrap (((((rd_T53 l0_0 x12_1).f1) + ((rd_T53 l0_0 x12_1).f2)) / 18446744073709551616) + (((ji9) + ((rd_T53 l0_0 x12_1).f3)) / 18446744073709551616))) > 0 then (some false) else (if ((rd_T53 l0_0 x12_1).f4) < 0 then (some false) else (if ((rd_T53 l0_0 x12_1).f4) = 0 then (if ((rd_T53 l0_0 x12_1).f2) = 0 then (if ((rd_T53 l0_0 x12_1).f3) = 0 then (if x12_1 > 0 then (if 0 ≤ (wrap64 (x12_1 - 1)) then (if (wrap64 (x12_1 - 1)) < (l0_0.length : Int) then (if ((rd_T53 l0_0 (wrap64 (x12_1 - 1))).f0) ≥ ((rd_T53 l0_0 x12_1).f0) then (some false) else (impl_isBook.l0 k1 l0_0 (l0_0.length : Int) (wrap64 (x12_1 + 1)) l0_0)) else (none)) else (none)) else (impl_isBook.l0 k1 l0_0 (l0_0.length : Int) (wrap64 (x12_1 + 1)) l0_0)) else (some false)) else (some false)) else (if x12_1 > 0 then (if 0 ≤ (wrap64 (x12_1 - 1)) then (if (wrap64 (x12_1 - 1)) < (l0_0.length : Int) then (if ((rd_T53 l0_0 (wrap64 (x12_1 - 1))).f0) ≥ ((rd_T53 l0_0 x12_1).f0) then (some false) else (impl_isBook.l0 k1 l0_0 (l0_0.length : Int) (wrap64 (x12_1 + 1)) l0_0)) else (none)) else (none)) else (impl_isBook.l0 k1 l0_0 (l0_0.length : Int) (wrap64 (x12_1 + 1)) l0_0))))) else (none)) else (none)) = some r := by first | (rw [hji9] at H; exact H) | (simp only [hji9] at H ⊢; exact H)
                by_cases c10 : 0 ≤ (ji9)
                · rw [if_pos c10] at H
                  have c10b0 := eq_true c10
                  have c10b1 : decide (0 ≤ (ji9)) = true := decide_eq_true c10
                  clear c10
                  by_cases c11 : 0 ≤ ((rd_T53 l0_0 x12_1).f3)
                  · rw [if_pos c11] at H
                    have c11b0 := eq_true c11
                    have c11b1 : decide (0 ≤ ((rd_T53 l0_0 x12_1).f3)) = true := decide_eq_true c11
                    clear c11
                    by_cases c12 : (IntKind.u64.wrap (((((rd_T53 l0_0 x12_1).f1) + ((rd_T53 l0_0 x12_1).f2)) / 18446744073709551616) + (((ji9) + ((rd_T53 l0_0 x12_1).f3)) / 18446744073709551616))) > 0
                    · rw [if_pos c12] at H
                      have c12b0 : decide (0 < (IntKind.u64.wrap (((((rd_T53 l0_0 x12_1).f1) + ((rd_T53 l0_0 x12_1).f2)) / 18446744073709551616) + (((ji9) + ((rd_T53 l0_0 x12_1).f3)) / 18446744073709551616)))) = true := decide_eq_true c12
                      clear c12
                      obtain rfl := Option.some.inj H
                      have p195 : 0 ≤ (x12_1 : Int) := of_decide_eq_true u5_2
                      have q195 : x12_1 < (l0_0.length : Int) := of_decide_eq_true u5_2
                      obtain ⟨ad195, e195, hx195_0, hx195_1, hx195_2, hx195_3, hx195_4⟩ := at_T53 HR0_0.out x12_1 p195 q195
                      cases e195
                      replace hx195_0 := (HB.out.cell (World.block_lt_of_cell? w _ hx195_0)).trans hx195_0
                      replace hx195_1 := (HB.out.cell (World.block_lt_of_cell? w _ hx195_1)).trans hx195_1
                      replace hx195_2 := (HB.out.cell (World.block_lt_of_cell? w _ hx195_2)).trans hx195_2
                      replace hx195_3 := (HB.out.cell (World.block_lt_of_cell? w _ hx195_3)).trans hx195_3
                      replace hx195_4 := (HB.out.cell (World.block_lt_of_cell? w _ hx195_4)).trans hx195_4
                      replace p195 := eq_true p195
                      replace q195 := eq_true q195
                      go_wp2_with (first | (first | ((with_reducible refine gate_dst (N := 4) rfl ?_); refine box_event ?hg (N := 4) ?hd (cs := #[.int .u64 0, .int .u64 0, .int .u64 0, .int .u64 0, .int .i64 0]) (t := 53) ?hr ?_; (case hd => rfl); (case hg => rfl); (case hr => first | (go_simp; done) | (go_simp; rfl)); intro gb196 hg w13 hbox hb; have n0_ := Aside0.mk (blk_below (g := gb194) (o := .cells #[.slice (some ad195) l0_0.length c0_0] 29 (0, 0)) u5_1 hb); have n1_ := Aside0.mk (below_step u5_0 hb); have n2_ := Aside0.mk (hbox); have n3_ := Aside0.mk ((by rw [hg]; exact (below_size u5_0) : w.heap.size ≤ gb196)); have n4_ := Aside0.mk ((by rw [hg]; exact (below_size u5_0) : w.heap.size ≤ gb196)); have n5_ := Aside0.mk ((by rw [hg]; exact Nat.ne_of_lt (blk_lt (g := gb194) (o := .cells #[.slice (some ad195) l0_0.length c0_0] 29 (0, 0)) u5_1) : gb194 ≠ gb196)); have n6_ := Aside0.mk ((by rw [hg]; exact Nat.ne_of_gt (blk_lt (g := gb194) (o := .cells #[.slice (some ad195) l0_0.length c0_0] 29 (0, 0)) u5_1) : gb196 ≠ gb194)); clear BK194; clear HB; have BK194 := n0_; have HB := n1_; have BK196 := n2_; have GW196 := n3_; have GE196 := n4_; have NB194_196 := n5_; have NB196_194 := n6_; clear n0_ n1_ n2_ n3_ n4_ n5_ n6_; clear hb hbox hg; have hnb14 := NB196_194.out; have hnc14 := NB194_196.out; have hcz15_0 : w13.cell? ⟨gb196, 0, none⟩ = some (.int .u64 0) := (blk_cell BK196.out 0).trans rfl; have hcz15_1 : w13.cell? ⟨gb196, 1, none⟩ = some (.int .u64 0) := (blk_cell BK196.out 1).trans rfl; have hcz15_2 : w13.cell? ⟨gb196, 2, none⟩ = some (.int .u64 0) := (blk_cell BK196.out 2).trans rfl; have hcz15_3 : w13.cell? ⟨gb196, 3, none⟩ = some (.int .u64 0) := (blk_cell BK196.out 3).trans rfl; have hcz15_4 : w13.cell? ⟨gb196, 4, none⟩ = some (.int .i64 0) := (blk_cell BK196.out 4).trans rfl; have hfz15_0 := blk_frozen BK196.out 0; have hfz15_1 := blk_frozen BK196.out 1; have hfz15_2 := blk_frozen BK196.out 2; have hfz15_3 := blk_frozen BK196.out 3; have hfz15_4 := blk_frozen BK196.out 4)) | go_quiet (fail))
                      go_ret
                      exact ⟨by first | rfl | (simp [errW_none, errW_some] <;> rfl) | (simp only [← hji9]; first | rfl | (simp [errW_none, errW_some] <;> rfl)) | (simp [*, errW_none, errW_some] <;> rfl), by repeat (first | (with_reducible first | exact HB.out | apply below_alloc | apply pw_below_drewN | apply below_drew1 | refine below_set ?_ GE194.out | refine below_set ?_ GE196.out) | exact HB.out)⟩
                    · rw [if_neg c12] at H
                      have c12b0 : decide (0 < (IntKind.u64.wrap (((((rd_T53 l0_0 x12_1).f1) + ((rd_T53 l0_0 x12_1).f2)) / 18446744073709551616) + (((ji9) + ((rd_T53 l0_0 x12_1).f3)) / 18446744073709551616)))) = false := decide_eq_false c12
                      clear c12
                      by_cases c16 : ((rd_T53 l0_0 x12_1).f4) < 0
                      · rw [if_pos c16] at H
                        have c16b0 : decide (((rd_T53 l0_0 x12_1).f4) < 0) = true := decide_eq_true c16
                        clear c16
                        obtain rfl := Option.some.inj H
                        have p195 : 0 ≤ (x12_1 : Int) := of_decide_eq_true u5_2
                        have q195 : x12_1 < (l0_0.length : Int) := of_decide_eq_true u5_2
                        obtain ⟨ad195, e195, hx195_0, hx195_1, hx195_2, hx195_3, hx195_4⟩ := at_T53 HR0_0.out x12_1 p195 q195
                        cases e195
                        replace hx195_0 := (HB.out.cell (World.block_lt_of_cell? w _ hx195_0)).trans hx195_0
                        replace hx195_1 := (HB.out.cell (World.block_lt_of_cell? w _ hx195_1)).trans hx195_1
                        replace hx195_2 := (HB.out.cell (World.block_lt_of_cell? w _ hx195_2)).trans hx195_2
                        replace hx195_3 := (HB.out.cell (World.block_lt_of_cell? w _ hx195_3)).trans hx195_3
                        replace hx195_4 := (HB.out.cell (World.block_lt_of_cell? w _ hx195_4)).trans hx195_4
                        replace p195 := eq_true p195
                        replace q195 := eq_true q195
                        go_wp2_with (first | (first | ((with_reducible refine gate_dst (N := 4) rfl ?_); refine box_event ?hg (N := 4) ?hd (cs := #[.int .u64 0, .int .u64 0, .int .u64 0, .int .u64 0, .int .i64 0]) (t := 53) ?hr ?_; (case hd => rfl); (case hg => rfl); (case hr => first | (go_simp; done) | (go_simp; rfl)); intro gb196 hg w17 hbox hb; have n0_ := Aside0.mk (blk_below (g := gb194) (o := .cells #[.slice (some ad195) l0_0.length c0_0] 29 (0, 0)) u5_1 hb); have n1_ := Aside0.mk (below_step u5_0 hb); have n2_ := Aside0.mk (hbox); have n3_ := Aside0.mk ((by rw [hg]; exact (below_size u5_0) : w.heap.size ≤ gb196)); have n4_ := Aside0.mk ((by rw [hg]; exact (below_size u5_0) : w.heap.size ≤ gb196)); have n5_ := Aside0.mk ((by rw [hg]; exact Nat.ne_of_lt (blk_lt (g := gb194) (o := .cells #[.slice (some ad195) l0_0.length c0_0] 29 (0, 0)) u5_1) : gb194 ≠ gb196)); have n6_ := Aside0.mk ((by rw [hg]; exact Nat.ne_of_gt (blk_lt (g := gb194) (o := .cells #[.slice (some ad195) l0_0.length c0_0] 29 (0, 0)) u5_1) : gb196 ≠ gb194)); clear BK194; clear HB; have BK194 := n0_; have HB := n1_; have BK196 := n2_; have GW196 := n3_; have GE196 := n4_; have NB194_196 := n5_; have NB196_194 := n6_; clear n0_ n1_ n2_ n3_ n4_ n5_ n6_; clear hb hbox hg; have hnb18 := NB196_194.out; have hnc18 := NB194_196.out; have hcz19_0 : w17.cell? ⟨gb196, 0, none⟩ = some (.int .u64 0) := (blk_cell BK196.out 0).trans rfl; have hcz19_1 : w17.cell? ⟨gb196, 1, none⟩ = some (.int .u64 0) := (blk_cell BK196.out 1).trans rfl; have hcz19_2 : w17.cell? ⟨gb196, 2, none⟩ = some (.int .u64 0) := (blk_cell BK196.out 2).trans rfl; have hcz19_3 : w17.cell? ⟨gb196, 3, none⟩ = some (.int .u64 0) := (blk_cell BK196.out 3).trans rfl; have hcz19_4 : w17.cell? ⟨gb196, 4, none⟩ = some (.int .i64 0) := (blk_cell BK196.out 4).trans rfl; have hfz19_0 := blk_frozen BK196.out 0; have hfz19_1 := blk_frozen BK196.out 1; have hfz19_2 := blk_frozen BK196.out 2; have hfz19_3 := blk_frozen BK196.out 3; have hfz19_4 := blk_frozen BK196.out 4)) | go_quiet (fail))
                        go_ret
                        exact ⟨by first | rfl | (simp [errW_none, errW_some] <;> rfl) | (simp only [← hji9]; first | rfl | (simp [errW_none, errW_some] <;> rfl)) | (simp [*, errW_none, errW_some] <;> rfl), by repeat (first | (with_reducible first | exact HB.out | apply below_alloc | apply pw_below_drewN | apply below_drew1 | refine below_set ?_ GE194.out | refine below_set ?_ GE196.out) | exact HB.out)⟩
                      · rw [if_neg c16] at H
                        have c16b0 : decide (((rd_T53 l0_0 x12_1).f4) < 0) = false := decide_eq_false c16
                        clear c16
                        by_cases c20 : ((rd_T53 l0_0 x12_1).f4) = 0
                        · rw [if_pos c20] at H
                          have c20b0 : (((rd_T53 l0_0 x12_1).f4) == 0) = true := beq_iff_eq.mpr c20
                          have c20b1 : (((rd_T53 l0_0 x12_1).f4) != 0) = false := bne_eq_false_iff_eq.mpr c20
                          clear c20
                          by_cases c21 : ((rd_T53 l0_0 x12_1).f2) = 0
                          · rw [if_pos c21] at H
                            have c21b0 : (((rd_T53 l0_0 x12_1).f2) == 0) = true := beq_iff_eq.mpr c21
                            have c21b1 : (((rd_T53 l0_0 x12_1).f2) != 0) = false := bne_eq_false_iff_eq.mpr c21
                            clear c21
                            by_cases c22 : ((rd_T53 l0_0 x12_1).f3) = 0
                            · rw [if_pos c22] at H
                              have c22b0 : (((rd_T53 l0_0 x12_1).f3) == 0) = true := beq_iff_eq.mpr c22
                              have c22b1 : (((rd_T53 l0_0 x12_1).f3) != 0) = false := bne_eq_false_iff_eq.mpr c22
                              clear c22
                              by_cases c23 : x12_1 > 0
                              · rw [if_pos c23] at H
                                have c23b0 : decide (0 < x12_1) = true := decide_eq_true c23
                                clear c23
                                obtain ⟨ji24, hji24⟩ : ∃ j_ : Int, (wrap64 (x12_1 - 1)) = j_ := ⟨_, rfl⟩
                                replace H : (if 0 ≤ (ji24) then (if (ji24) < (l0_0.length : Int) then (if ((rd_T53 l0_0 (ji24)).f0) ≥ ((rd_T53 l0_0 x12_1).f0) then (some false) else (impl_isBook.l0 k1 l0_0 (l0_0.length : Int) (wrap64 (x12_1 + 1)) l0_0)) else (none)) else (none)) = some r := by first | (rw [hji24] at H; exact H) | (simp only [hji24] at H ⊢; exact H)
                                have hji24w : (IntKind.i64.wrap (x12_1 - 1)) = ji24 := (i64_w _).trans hji24
                                by_cases c25 : 0 ≤ (ji24)
                                · rw [if_pos c25] at H
                                  have c25b0 : decide (0 ≤ (ji24)) = true := decide_eq_true c25
                                  clear c25
                                  by_cases c26 : (ji24) < (l0_0.length : Int)
                                  · rw [if_pos c26] at H
                                    have c26b0 : decide ((ji24) < (l0_0.length : Int)) = true := decide_eq_true c26
                                    clear c26
                                    by_cases c27 : ((rd_T53 l0_0 (ji24)).f0) ≥ ((rd_T53 l0_0 x12_1).f0)
                                    · rw [if_pos c27] at H
                                      have c27b0 : decide (((rd_T53 l0_0 x12_1).f0) ≤ ((rd_T53 l0_0 (ji24)).f0)) = true := decide_eq_true c27
                                      clear c27
                                      obtain rfl := Option.some.inj H
                                      have p195 : 0 ≤ (x12_1 : Int) := of_decide_eq_true u5_2
                                      have q195 : x12_1 < (l0_0.length : Int) := of_decide_eq_true u5_2
                                      obtain ⟨ad195, e195, hx195_0, hx195_1, hx195_2, hx195_3, hx195_4⟩ := at_T53 HR0_0.out x12_1 p195 q195
                                      cases e195
                                      replace hx195_0 := (HB.out.cell (World.block_lt_of_cell? w _ hx195_0)).trans hx195_0
                                      replace hx195_1 := (HB.out.cell (World.block_lt_of_cell? w _ hx195_1)).trans hx195_1
                                      replace hx195_2 := (HB.out.cell (World.block_lt_of_cell? w _ hx195_2)).trans hx195_2
                                      replace hx195_3 := (HB.out.cell (World.block_lt_of_cell? w _ hx195_3)).trans hx195_3
                                      replace hx195_4 := (HB.out.cell (World.block_lt_of_cell? w _ hx195_4)).trans hx195_4
                                      replace p195 := eq_true p195
                                      replace q195 := eq_true q195
                                      go_wp2_with (first | (first | ((with_reducible refine gate_dst (N := 4) rfl ?_); refine box_event ?hg (N := 4) ?hd (cs := #[.int .u64 0, .int .u64 0, .int .u64 0, .int .u64 0, .int .i64 0]) (t := 53) ?hr ?_; (case hd => rfl); (case hg => rfl); (case hr => first | (go_simp; done) | (go_simp; rfl)); intro gb196 hg w28 hbox hb; have n0_ := Aside0.mk (blk_below (g := gb194) (o := .cells #[.slice (some ad195) l0_0.length c0_0] 29 (0, 0)) u5_1 hb); have n1_ := Aside0.mk (below_step u5_0 hb); have n2_ := Aside0.mk (hbox); have n3_ := Aside0.mk ((by rw [hg]; exact (below_size u5_0) : w.heap.size ≤ gb196)); have n4_ := Aside0.mk ((by rw [hg]; exact (below_size u5_0) : w.heap.size ≤ gb196)); have n5_ := Aside0.mk ((by rw [hg]; exact Nat.ne_of_lt (blk_lt (g := gb194) (o := .cells #[.slice (some ad195) l0_0.length c0_0] 29 (0, 0)) u5_1) : gb194 ≠ gb196)); have n6_ := Aside0.mk ((by rw [hg]; exact Nat.ne_of_gt (blk_lt (g := gb194) (o := .cells #[.slice (some ad195) l0_0.length c0_0] 29 (0, 0)) u5_1) : gb196 ≠ gb194)); clear BK194; clear HB; have BK194 := n0_; have HB := n1_; have BK196 := n2_; have GW196 := n3_; have GE196 := n4_; have NB194_196 := n5_; have NB196_194 := n6_; clear n0_ n1_ n2_ n3_ n4_ n5_ n6_; clear hb hbox hg; have hnb29 := NB196_194.out; have hnc29 := NB194_196.out; have hcz30_0 : w28.cell? ⟨gb196, 0, none⟩ = some (.int .u64 0) := (blk_cell BK196.out 0).trans rfl; have hcz30_1 : w28.cell? ⟨gb196, 1, none⟩ = some (.int .u64 0) := (blk_cell BK196.out 1).trans rfl; have hcz30_2 : w28.cell? ⟨gb196, 2, none⟩ = some (.int .u64 0) := (blk_cell BK196.out 2).trans rfl; have hcz30_3 : w28.cell? ⟨gb196, 3, none⟩ = some (.int .u64 0) := (blk_cell BK196.out 3).trans rfl; have hcz30_4 : w28.cell? ⟨gb196, 4, none⟩ = some (.int .i64 0) := (blk_cell BK196.out 4).trans rfl; have hfz30_0 := blk_frozen BK196.out 0; have hfz30_1 := blk_frozen BK196.out 1; have hfz30_2 := blk_frozen BK196.out 2; have hfz30_3 := blk_frozen BK196.out 3; have hfz30_4 := blk_frozen BK196.out 4; have hcz31_0 : w28.cell? ⟨gb194, 0, none⟩ = some (.slice (some ad195) l0_0.length c0_0) := (blk_cell BK194.out 0).trans rfl; have hfz31_0 := blk_frozen BK194.out 0; have p197 : 0 ≤ ((ji24) : Int) := of_decide_eq_true u5_2; have q197 : (ji24) < (l0_0.length : Int) := of_decide_eq_true u5_2; obtain ⟨ad197, e197, hx197_0, hx197_1, hx197_2, hx197_3, hx197_4⟩ := at_T53 HR0_0.out (ji24) p197 q197; obtain rfl : ad195 = ad197 := (by injection e197); have hn197_0 : ad195.block ≠ gb196 := Nat.ne_of_lt (Nat.lt_of_lt_of_le u5_14 GW196.out); have hn197_1 : ad195.block ≠ gb196 := Nat.ne_of_lt (Nat.lt_of_lt_of_le u5_14 GW196.out); have hn197_2 : ad195.block ≠ gb196 := Nat.ne_of_lt (Nat.lt_of_lt_of_le u5_14 GW196.out); have hn197_3 : ad195.block ≠ gb196 := Nat.ne_of_lt (Nat.lt_of_lt_of_le u5_14 GW196.out); have hn197_4 : ad195.block ≠ gb196 := Nat.ne_of_lt (Nat.lt_of_lt_of_le u5_14 GW196.out); replace hx197_0 := (HB.out.cell (World.block_lt_of_cell? w _ hx197_0)).trans hx197_0; replace hx197_1 := (HB.out.cell (World.block_lt_of_cell? w _ hx197_1)).trans hx197_1; replace hx197_2 := (HB.out.cell (World.block_lt_of_cell? w _ hx197_2)).trans hx197_2; replace hx197_3 := (HB.out.cell (World.block_lt_of_cell? w _ hx197_3)).trans hx197_3; replace hx197_4 := (HB.out.cell (World.block_lt_of_cell? w _ hx197_4)).trans hx197_4; replace hx197_0 := (cell_far (p := ⟨gb196, 0, none⟩) u5_3 (.int .u64 ((rd_T53 l0_0 x12_1).f0))).trans hx197_0; replace hx197_1 := (cell_far (p := ⟨gb196, 0, none⟩) u5_3 (.int .u64 ((rd_T53 l0_0 x12_1).f0))).trans hx197_1; replace hx197_2 := (cell_far (p := ⟨gb196, 0, none⟩) u5_3 (.int .u64 ((rd_T53 l0_0 x12_1).f0))).trans hx197_2; replace hx197_3 := (cell_far (p := ⟨gb196, 0, none⟩) u5_3 (.int .u64 ((rd_T53 l0_0 x12_1).f0))).trans hx197_3; replace hx197_4 := (cell_far (p := ⟨gb196, 0, none⟩) u5_3 (.int .u64 ((rd_T53 l0_0 x12_1).f0))).trans hx197_4; replace hx197_0 := (cell_far (p := ⟨gb196, 1, none⟩) u5_4 (.int .u64 ((rd_T53 l0_0 x12_1).f1))).trans hx197_0; replace hx197_1 := (cell_far (p := ⟨gb196, 1, none⟩) u5_4 (.int .u64 ((rd_T53 l0_0 x12_1).f1))).trans hx197_1; replace hx197_2 := (cell_far (p := ⟨gb196, 1, none⟩) u5_4 (.int .u64 ((rd_T53 l0_0 x12_1).f1))).trans hx197_2; replace hx197_3 := (cell_far (p := ⟨gb196, 1, none⟩) u5_4 (.int .u64 ((rd_T53 l0_0 x12_1).f1))).trans hx197_3; replace hx197_4 := (cell_far (p := ⟨gb196, 1, none⟩) u5_4 (.int .u64 ((rd_T53 l0_0 x12_1).f1))).trans hx197_4; replace hx197_0 := (cell_far (p := ⟨gb196, 2, none⟩) u5_5 (.int .u64 ((rd_T53 l0_0 x12_1).f2))).trans hx197_0; replace hx197_1 := (cell_far (p := ⟨gb196, 2, none⟩) u5_5 (.int .u64 ((rd_T53 l0_0 x12_1).f2))).trans hx197_1; replace hx197_2 := (cell_far (p := ⟨gb196, 2, none⟩) u5_5 (.int .u64 ((rd_T53 l0_0 x12_1).f2))).trans hx197_2; replace hx197_3 := (cell_far (p := ⟨gb196, 2, none⟩) u5_5 (.int .u64 ((rd_T53 l0_0 x12_1).f2))).trans hx197_3; replace hx197_4 := (cell_far (p := ⟨gb196, 2, none⟩) u5_5 (.int .u64 ((rd_T53 l0_0 x12_1).f2))).trans hx197_4; replace hx197_0 := (cell_far (p := ⟨gb196, 3, none⟩) u5_6 (.int .u64 ((rd_T53 l0_0 x12_1).f3))).trans hx197_0; replace hx197_1 := (cell_far (p := ⟨gb196, 3, none⟩) u5_6 (.int .u64 ((rd_T53 l0_0 x12_1).f3))).trans hx197_1; replace hx197_2 := (cell_far (p := ⟨gb196, 3, none⟩) u5_6 (.int .u64 ((rd_T53 l0_0 x12_1).f3))).trans hx197_2; replace hx197_3 := (cell_far (p := ⟨gb196, 3, none⟩) u5_6 (.int .u64 ((rd_T53 l0_0 x12_1).f3))).trans hx197_3; replace hx197_4 := (cell_far (p := ⟨gb196, 3, none⟩) u5_6 (.int .u64 ((rd_T53 l0_0 x12_1).f3))).trans hx197_4; replace hx197_0 := (cell_far (p := ⟨gb196, 4, none⟩) u5_7 (.int .i64 ((rd_T53 l0_0 x12_1).f4))).trans hx197_0; replace hx197_1 := (cell_far (p := ⟨gb196, 4, none⟩) u5_7 (.int .i64 ((rd_T53 l0_0 x12_1).f4))).trans hx197_1; replace hx197_2 := (cell_far (p := ⟨gb196, 4, none⟩) u5_7 (.int .i64 ((rd_T53 l0_0 x12_1).f4))).trans hx197_2; replace hx197_3 := (cell_far (p := ⟨gb196, 4, none⟩) u5_7 (.int .i64 ((rd_T53 l0_0 x12_1).f4))).trans hx197_3; replace hx197_4 := (cell_far (p := ⟨gb196, 4, none⟩) u5_7 (.int .i64 ((rd_T53 l0_0 x12_1).f4))).trans hx197_4; (try have hch_ := fun (n_ : Nat) => (show (((((((w28.drewN n_).setCell ⟨gb196, 0, none⟩ (.int .u64 ((rd_T53 l0_0 x12_1).f0))).setCell ⟨gb196, 1, none⟩ (.int .u64 ((rd_T53 l0_0 x12_1).f1))).setCell ⟨gb196, 2, none⟩ (.int .u64 ((rd_T53 l0_0 x12_1).f2))).setCell ⟨gb196, 3, none⟩ (.int .u64 ((rd_T53 l0_0 x12_1).f3))).setCell ⟨gb196, 4, none⟩ (.int .i64 ((rd_T53 l0_0 x12_1).f4)))) = World.drewN ((((((w28.setCell ⟨gb196, 0, none⟩ (.int .u64 ((rd_T53 l0_0 x12_1).f0))).setCell ⟨gb196, 1, none⟩ (.int .u64 ((rd_T53 l0_0 x12_1).f1))).setCell ⟨gb196, 2, none⟩ (.int .u64 ((rd_T53 l0_0 x12_1).f2))).setCell ⟨gb196, 3, none⟩ (.int .u64 ((rd_T53 l0_0 x12_1).f3))).setCell ⟨gb196, 4, none⟩ (.int .i64 ((rd_T53 l0_0 x12_1).f4)))) n_ from by simp only [Go.Proofs.Ytdbfjakhkclggaa.Slc.setCell_drewN])); (try have hy197_0 := fun (n_ : Nat) => Go.Proofs.Ytdbfjakhkclggaa.Slc.cell_of (hch_ n_) hx197_0); (try have hy197_1 := fun (n_ : Nat) => Go.Proofs.Ytdbfjakhkclggaa.Slc.cell_of (hch_ n_) hx197_1); (try have hy197_2 := fun (n_ : Nat) => Go.Proofs.Ytdbfjakhkclggaa.Slc.cell_of (hch_ n_) hx197_2); (try have hy197_3 := fun (n_ : Nat) => Go.Proofs.Ytdbfjakhkclggaa.Slc.cell_of (hch_ n_) hx197_3); (try have hy197_4 := fun (n_ : Nat) => Go.Proofs.Ytdbfjakhkclggaa.Slc.cell_of (hch_ n_) hx197_4); clear hn197_0; clear hn197_1; clear hn197_2; clear hn197_3; clear hn197_4; replace p197 := eq_true p197; replace q197 := eq_true q197)) | go_quiet (fail))
                                      go_ret
                                      exact ⟨by first | rfl | (simp [errW_none, errW_some] <;> rfl) | (simp only [← hji9, ← hji24]; first | rfl | (simp [errW_none, errW_some] <;> rfl)) | (simp [*, errW_none, errW_some] <;> rfl), by repeat (first | (with_reducible first | exact HB.out | apply below_alloc | apply pw_below_drewN | apply below_drew1 | refine below_set ?_ GE194.out | refine below_set ?_ GE196.out) | exact HB.out)⟩
                                    · rw [if_neg c27] at H
                                      have c27b0 : decide (((rd_T53 l0_0 x12_1).f0) ≤ ((rd_T53 l0_0 (ji24)).f0)) = false := decide_eq_false c27
                                      clear c27
                                      have H' := Aside0.mk H
                                      clear H
                                      have p195 : 0 ≤ (x12_1 : Int) := of_decide_eq_true u5_2
                                      have q195 : x12_1 < (l0_0.length : Int) := of_decide_eq_true u5_2
                                      obtain ⟨ad195, e195, hx195_0, hx195_1, hx195_2, hx195_3, hx195_4⟩ := at_T53 HR0_0.out x12_1 p195 q195
                                      cases e195
                                      replace hx195_0 := (HB.out.cell (World.block_lt_of_cell? w _ hx195_0)).trans hx195_0
                                      replace hx195_1 := (HB.out.cell (World.block_lt_of_cell? w _ hx195_1)).trans hx195_1
                                      replace hx195_2 := (HB.out.cell (World.block_lt_of_cell? w _ hx195_2)).trans hx195_2
                                      replace hx195_3 := (HB.out.cell (World.block_lt_of_cell? w _ hx195_3)).trans hx195_3
                                      replace hx195_4 := (HB.out.cell (World.block_lt_of_cell? w _ hx195_4)).trans hx195_4
                                      replace p195 := eq_true p195
                                      replace q195 := eq_true q195
                                      go_wp2_with (first | (first | ((with_reducible refine gate_dst (N := 4) rfl ?_); refine box_event ?hg (N := 4) ?hd (cs := #[.int .u64 0, .int .u64 0, .int .u64 0, .int .u64 0, .int .i64 0]) (t := 53) ?hr ?_; (case hd => rfl); (case hg => rfl); (case hr => first | (go_simp; done) | (go_simp; rfl)); intro gb196 hg w32 hbox hb; have n0_ := Aside0.mk (blk_below (g := gb194) (o := .cells #[.slice (some ad195) l0_0.length c0_0] 29 (0, 0)) u5_1 hb); have n1_ := Aside0.mk (below_step u5_0 hb); have n2_ := Aside0.mk (hbox); have n3_ := Aside0.mk ((by rw [hg]; exact (below_size u5_0) : w.heap.size ≤ gb196)); have n4_ := Aside0.mk ((by rw [hg]; exact (below_size u5_0) : w.heap.size ≤ gb196)); have n5_ := Aside0.mk ((by rw [hg]; exact Nat.ne_of_lt (blk_lt (g := gb194) (o := .cells #[.slice (some ad195) l0_0.length c0_0] 29 (0, 0)) u5_1) : gb194 ≠ gb196)); have n6_ := Aside0.mk ((by rw [hg]; exact Nat.ne_of_gt (blk_lt (g := gb194) (o := .cells #[.slice (some ad195) l0_0.length c0_0] 29 (0, 0)) u5_1) : gb196 ≠ gb194)); clear BK194; clear HB; have BK194 := n0_; have HB := n1_; have BK196 := n2_; have GW196 := n3_; have GE196 := n4_; have NB194_196 := n5_; have NB196_194 := n6_; clear n0_ n1_ n2_ n3_ n4_ n5_ n6_; clear hb hbox hg; have hnb33 := NB196_194.out; have hnc33 := NB194_196.out; have hcz34_0 : w32.cell? ⟨gb196, 0, none⟩ = some (.int .u64 0) := (blk_cell BK196.out 0).trans rfl; have hcz34_1 : w32.cell? ⟨gb196, 1, none⟩ = some (.int .u64 0) := (blk_cell BK196.out 1).trans rfl; have hcz34_2 : w32.cell? ⟨gb196, 2, none⟩ = some (.int .u64 0) := (blk_cell BK196.out 2).trans rfl; have hcz34_3 : w32.cell? ⟨gb196, 3, none⟩ = some (.int .u64 0) := (blk_cell BK196.out 3).trans rfl; have hcz34_4 : w32.cell? ⟨gb196, 4, none⟩ = some (.int .i64 0) := (blk_cell BK196.out 4).trans rfl; have hfz34_0 := blk_frozen BK196.out 0; have hfz34_1 := blk_frozen BK196.out 1; have hfz34_2 := blk_frozen BK196.out 2; have hfz34_3 := blk_frozen BK196.out 3; have hfz34_4 := blk_frozen BK196.out 4; have hcz35_0 : w32.cell? ⟨gb194, 0, none⟩ = some (.slice (some ad195) l0_0.length c0_0) := (blk_cell BK194.out 0).trans rfl; have hfz35_0 := blk_frozen BK194.out 0; have p197 : 0 ≤ ((ji24) : Int) := of_decide_eq_true u5_2; have q197 : (ji24) < (l0_0.length : Int) := of_decide_eq_true u5_2; obtain ⟨ad197, e197, hx197_0, hx197_1, hx197_2, hx197_3, hx197_4⟩ := at_T53 HR0_0.out (ji24) p197 q197; obtain rfl : ad195 = ad197 := (by injection e197); have hn197_0 : ad195.block ≠ gb196 := Nat.ne_of_lt (Nat.lt_of_lt_of_le u5_14 GW196.out); have hn197_1 : ad195.block ≠ gb196 := Nat.ne_of_lt (Nat.lt_of_lt_of_le u5_14 GW196.out); have hn197_2 : ad195.block ≠ gb196 := Nat.ne_of_lt (Nat.lt_of_lt_of_le u5_14 GW196.out); have hn197_3 : ad195.block ≠ gb196 := Nat.ne_of_lt (Nat.lt_of_lt_of_le u5_14 GW196.out); have hn197_4 : ad195.block ≠ gb196 := Nat.ne_of_lt (Nat.lt_of_lt_of_le u5_14 GW196.out); replace hx197_0 := (HB.out.cell (World.block_lt_of_cell? w _ hx197_0)).trans hx197_0; replace hx197_1 := (HB.out.cell (World.block_lt_of_cell? w _ hx197_1)).trans hx197_1; replace hx197_2 := (HB.out.cell (World.block_lt_of_cell? w _ hx197_2)).trans hx197_2; replace hx197_3 := (HB.out.cell (World.block_lt_of_cell? w _ hx197_3)).trans hx197_3; replace hx197_4 := (HB.out.cell (World.block_lt_of_cell? w _ hx197_4)).trans hx197_4; replace hx197_0 := (cell_far (p := ⟨gb196, 0, none⟩) u5_3 (.int .u64 ((rd_T53 l0_0 x12_1).f0))).trans hx197_0; replace hx197_1 := (cell_far (p := ⟨gb196, 0, none⟩) u5_3 (.int .u64 ((rd_T53 l0_0 x12_1).f0))).trans hx197_1; replace hx197_2 := (cell_far (p := ⟨gb196, 0, none⟩) u5_3 (.int .u64 ((rd_T53 l0_0 x12_1).f0))).trans hx197_2; replace hx197_3 := (cell_far (p := ⟨gb196, 0, none⟩) u5_3 (.int .u64 ((rd_T53 l0_0 x12_1).f0))).trans hx197_3; replace hx197_4 := (cell_far (p := ⟨gb196, 0, none⟩) u5_3 (.int .u64 ((rd_T53 l0_0 x12_1).f0))).trans hx197_4; replace hx197_0 := (cell_far (p := ⟨gb196, 1, none⟩) u5_4 (.int .u64 ((rd_T53 l0_0 x12_1).f1))).trans hx197_0; replace hx197_1 := (cell_far (p := ⟨gb196, 1, none⟩) u5_4 (.int .u64 ((rd_T53 l0_0 x12_1).f1))).trans hx197_1; replace hx197_2 := (cell_far (p := ⟨gb196, 1, none⟩) u5_4 (.int .u64 ((rd_T53 l0_0 x12_1).f1))).trans hx197_2; replace hx197_3 := (cell_far (p := ⟨gb196, 1, none⟩) u5_4 (.int .u64 ((rd_T53 l0_0 x12_1).f1))).trans hx197_3; replace hx197_4 := (cell_far (p := ⟨gb196, 1, none⟩) u5_4 (.int .u64 ((rd_T53 l0_0 x12_1).f1))).trans hx197_4; replace hx197_0 := (cell_far (p := ⟨gb196, 2, none⟩) u5_5 (.int .u64 ((rd_T53 l0_0 x12_1).f2))).trans hx197_0; replace hx197_1 := (cell_far (p := ⟨gb196, 2, none⟩) u5_5 (.int .u64 ((rd_T53 l0_0 x12_1).f2))).trans hx197_1; replace hx197_2 := (cell_far (p := ⟨gb196, 2, none⟩) u5_5 (.int .u64 ((rd_T53 l0_0 x12_1).f2))).trans hx197_2; replace hx197_3 := (cell_far (p := ⟨gb196, 2, none⟩) u5_5 (.int .u64 ((rd_T53 l0_0 x12_1).f2))).trans hx197_3; replace hx197_4 := (cell_far (p := ⟨gb196, 2, none⟩) u5_5 (.int .u64 ((rd_T53 l0_0 x12_1).f2))).trans hx197_4; replace hx197_0 := (cell_far (p := ⟨gb196, 3, none⟩) u5_6 (.int .u64 ((rd_T53 l0_0 x12_1).f3))).trans hx197_0; replace hx197_1 := (cell_far (p := ⟨gb196, 3, none⟩) u5_6 (.int .u64 ((rd_T53 l0_0 x12_1).f3))).trans hx197_1; replace hx197_2 := (cell_far (p := ⟨gb196, 3, none⟩) u5_6 (.int .u64 ((rd_T53 l0_0 x12_1).f3))).trans hx197_2; replace hx197_3 := (cell_far (p := ⟨gb196, 3, none⟩) u5_6 (.int .u64 ((rd_T53 l0_0 x12_1).f3))).trans hx197_3; replace hx197_4 := (cell_far (p := ⟨gb196, 3, none⟩) u5_6 (.int .u64 ((rd_T53 l0_0 x12_1).f3))).trans hx197_4; replace hx197_0 := (cell_far (p := ⟨gb196, 4, none⟩) u5_7 (.int .i64 ((rd_T53 l0_0 x12_1).f4))).trans hx197_0; replace hx197_1 := (cell_far (p := ⟨gb196, 4, none⟩) u5_7 (.int .i64 ((rd_T53 l0_0 x12_1).f4))).trans hx197_1; replace hx197_2 := (cell_far (p := ⟨gb196, 4, none⟩) u5_7 (.int .i64 ((rd_T53 l0_0 x12_1).f4))).trans hx197_2; replace hx197_3 := (cell_far (p := ⟨gb196, 4, none⟩) u5_7 (.int .i64 ((rd_T53 l0_0 x12_1).f4))).trans hx197_3; replace hx197_4 := (cell_far (p := ⟨gb196, 4, none⟩) u5_7 (.int .i64 ((rd_T53 l0_0 x12_1).f4))).trans hx197_4; (try have hch_ := fun (n_ : Nat) => (show (((((((w32.drewN n_).setCell ⟨gb196, 0, none⟩ (.int .u64 ((rd_T53 l0_0 x12_1).f0))).setCell ⟨gb196, 1, none⟩ (.int .u64 ((rd_T53 l0_0 x12_1).f1))).setCell ⟨gb196, 2, none⟩ (.int .u64 ((rd_T53 l0_0 x12_1).f2))).setCell ⟨gb196, 3, none⟩ (.int .u64 ((rd_T53 l0_0 x12_1).f3))).setCell ⟨gb196, 4, none⟩ (.int .i64 ((rd_T53 l0_0 x12_1).f4)))) = World.drewN ((((((w32.setCell ⟨gb196, 0, none⟩ (.int .u64 ((rd_T53 l0_0 x12_1).f0))).setCell ⟨gb196, 1, none⟩ (.int .u64 ((rd_T53 l0_0 x12_1).f1))).setCell ⟨gb196, 2, none⟩ (.int .u64 ((rd_T53 l0_0 x12_1).f2))).setCell ⟨gb196, 3, none⟩ (.int .u64 ((rd_T53 l0_0 x12_1).f3))).setCell ⟨gb196, 4, none⟩ (.int .i64 ((rd_T53 l0_0 x12_1).f4)))) n_ from by simp only [Go.Proofs.Ytdbfjakhkclggaa.Slc.setCell_drewN])); (try have hy197_0 := fun (n_ : Nat) => Go.Proofs.Ytdbfjakhkclggaa.Slc.cell_of (hch_ n_) hx197_0); (try have hy197_1 := fun (n_ : Nat) => Go.Proofs.Ytdbfjakhkclggaa.Slc.cell_of (hch_ n_) hx197_1); (try have hy197_2 := fun (n_ : Nat) => Go.Proofs.Ytdbfjakhkclggaa.Slc.cell_of (hch_ n_) hx197_2); (try have hy197_3 := fun (n_ : Nat) => Go.Proofs.Ytdbfjakhkclggaa.Slc.cell_of (hch_ n_) hx197_3); (try have hy197_4 := fun (n_ : Nat) => Go.Proofs.Ytdbfjakhkclggaa.Slc.cell_of (hch_ n_) hx197_4); clear hn197_0; clear hn197_1; clear hn197_2; clear hn197_3; clear hn197_4; replace p197 := eq_true p197; replace q197 := eq_true q197)) | go_quiet (fail))
                                      go_roundg k1
                                      case measure => have := HK1.out; omega
                                      case rel => exact ⟨(wrap64 (x12_1 + 1)), u5_19, H', ⟨by have := HK1.out; omega⟩, ⟨by (with_reducible repeat (first | refine blk_drewN ?_ _ | refine blk_drew ?_ | refine blk_alloc ?_ _)); refine blk_far ?_ NB194_196.out _; (with_reducible repeat (first | refine blk_drewN ?_ _ | refine blk_drew ?_ | refine blk_alloc ?_ _)); refine blk_far ?_ NB194_196.out _; (with_reducible repeat (first | refine blk_drewN ?_ _ | refine blk_drew ?_ | refine blk_alloc ?_ _)); refine blk_far ?_ NB194_196.out _; (with_reducible repeat (first | refine blk_drewN ?_ _ | refine blk_drew ?_ | refine blk_alloc ?_ _)); refine blk_far ?_ NB194_196.out _; (with_reducible repeat (first | refine blk_drewN ?_ _ | refine blk_drew ?_ | refine blk_alloc ?_ _)); refine blk_far ?_ NB194_196.out _; (with_reducible repeat (first | refine blk_drewN ?_ _ | refine blk_drew ?_ | refine blk_alloc ?_ _)); exact BK194.out⟩, ⟨by repeat (first | (with_reducible first | exact HB.out | apply below_alloc | apply pw_below_drewN | apply below_drew1 | refine below_set ?_ GE194.out | refine below_set ?_ GE196.out) | exact HB.out)⟩⟩
                                  · rw [if_neg c26] at H
                                    exact absurd H (by simp)
                                · rw [if_neg c25] at H
                                  exact absurd H (by simp)
                              · rw [if_neg c23] at H
                                have c23b0 : decide (0 < x12_1) = false := decide_eq_false c23
                                clear c23
                                have H' := Aside0.mk H
                                clear H
                                have p195 : 0 ≤ (x12_1 : Int) := of_decide_eq_true u5_2
                                have q195 : x12_1 < (l0_0.length : Int) := of_decide_eq_true u5_2
                                obtain ⟨ad195, e195, hx195_0, hx195_1, hx195_2, hx195_3, hx195_4⟩ := at_T53 HR0_0.out x12_1 p195 q195
                                cases e195
                                replace hx195_0 := (HB.out.cell (World.block_lt_of_cell? w _ hx195_0)).trans hx195_0
                                replace hx195_1 := (HB.out.cell (World.block_lt_of_cell? w _ hx195_1)).trans hx195_1
                                replace hx195_2 := (HB.out.cell (World.block_lt_of_cell? w _ hx195_2)).trans hx195_2
                                replace hx195_3 := (HB.out.cell (World.block_lt_of_cell? w _ hx195_3)).trans hx195_3
                                replace hx195_4 := (HB.out.cell (World.block_lt_of_cell? w _ hx195_4)).trans hx195_4
                                replace p195 := eq_true p195
                                replace q195 := eq_true q195
                                go_wp2_with (first | (first | ((with_reducible refine gate_dst (N := 4) rfl ?_); refine box_event ?hg (N := 4) ?hd (cs := #[.int .u64 0, .int .u64 0, .int .u64 0, .int .u64 0, .int .i64 0]) (t := 53) ?hr ?_; (case hd => rfl); (case hg => rfl); (case hr => first | (go_simp; done) | (go_simp; rfl)); intro gb196 hg w36 hbox hb; have n0_ := Aside0.mk (blk_below (g := gb194) (o := .cells #[.slice (some ad195) l0_0.length c0_0] 29 (0, 0)) u5_1 hb); have n1_ := Aside0.mk (below_step u5_0 hb); have n2_ := Aside0.mk (hbox); have n3_ := Aside0.mk ((by rw [hg]; exact (below_size u5_0) : w.heap.size ≤ gb196)); have n4_ := Aside0.mk ((by rw [hg]; exact (below_size u5_0) : w.heap.size ≤ gb196)); have n5_ := Aside0.mk ((by rw [hg]; exact Nat.ne_of_lt (blk_lt (g := gb194) (o := .cells #[.slice (some ad195) l0_0.length c0_0] 29 (0, 0)) u5_1) : gb194 ≠ gb196)); have n6_ := Aside0.mk ((by rw [hg]; exact Nat.ne_of_gt (blk_lt (g := gb194) (o := .cells #[.slice (some ad195) l0_0.length c0_0] 29 (0, 0)) u5_1) : gb196 ≠ gb194)); clear BK194; clear HB; have BK194 := n0_; have HB := n1_; have BK196 := n2_; have GW196 := n3_; have GE196 := n4_; have NB194_196 := n5_; have NB196_194 := n6_; clear n0_ n1_ n2_ n3_ n4_ n5_ n6_; clear hb hbox hg; have hnb37 := NB196_194.out; have hnc37 := NB194_196.out; have hcz38_0 : w36.cell? ⟨gb196, 0, none⟩ = some (.int .u64 0) := (blk_cell BK196.out 0).trans rfl; have hcz38_1 : w36.cell? ⟨gb196, 1, none⟩ = some (.int .u64 0) := (blk_cell BK196.out 1).trans rfl; have hcz38_2 : w36.cell? ⟨gb196, 2, none⟩ = some (.int .u64 0) := (blk_cell BK196.out 2).trans rfl; have hcz38_3 : w36.cell? ⟨gb196, 3, none⟩ = some (.int .u64 0) := (blk_cell BK196.out 3).trans rfl; have hcz38_4 : w36.cell? ⟨gb196, 4, none⟩ = some (.int .i64 0) := (blk_cell BK196.out 4).trans rfl; have hfz38_0 := blk_frozen BK196.out 0; have hfz38_1 := blk_frozen BK196.out 1; have hfz38_2 := blk_frozen BK196.out 2; have hfz38_3 := blk_frozen BK196.out 3; have hfz38_4 := blk_frozen BK196.out 4)) | go_quiet (fail))
                                go_roundg k1
                                case measure => have := HK1.out; omega
                                case rel => exact ⟨(wrap64 (x12_1 + 1)), u5_19, H', ⟨by have := HK1.out; omega⟩, ⟨by (with_reducible repeat (first | refine blk_drewN ?_ _ | refine blk_drew ?_ | refine blk_alloc ?_ _)); refine blk_far ?_ NB194_196.out _; (with_reducible repeat (first | refine blk_drewN ?_ _ | refine blk_drew ?_ | refine blk_alloc ?_ _)); refine blk_far ?_ NB194_196.out _; (with_reducible repeat (first | refine blk_drewN ?_ _ | refine blk_drew ?_ | refine blk_alloc ?_ _)); refine blk_far ?_ NB194_196.out _; (with_reducible repeat (first | refine blk_drewN ?_ _ | refine blk_drew ?_ | refine blk_alloc ?_ _)); refine blk_far ?_ NB194_196.out _; (with_reducible repeat (first | refine blk_drewN ?_ _ | refine blk_drew ?_ | refine blk_alloc ?_ _)); refine blk_far ?_ NB194_196.out _; (with_reducible repeat (first | refine blk_drewN ?_ _ | refine blk_drew ?_ | refine blk_alloc ?_ _)); exact BK194.out⟩, ⟨by repeat (first | (with_reducible first | exact HB.out | apply below_alloc | apply pw_below_drewN | apply below_drew1 | refine below_set ?_ GE194.out | refine below_set ?_ GE196.out) | exact HB.out)⟩⟩
                            · rw [if_neg c22] at H
                              have c22b0 : (((rd_T53 l0_0 x12_1).f3) == 0) = false := beq_eq_false_iff_ne.mpr c22
                              have c22b1 : (((rd_T53 l0_0 x12_1).f3) != 0) = true := bne_iff_ne.mpr c22
                              obtain rfl := Option.some.inj H
                              have p195 : 0 ≤ (x12_1 : Int) := of_decide_eq_true u5_2
                              have q195 : x12_1 < (l0_0.length : Int) := of_decide_eq_true u5_2
                              obtain ⟨ad195, e195, hx195_0, hx195_1, hx195_2, hx195_3, hx195_4⟩ := at_T53 HR0_0.out x12_1 p195 q195
                              cases e195
                              replace hx195_0 := (HB.out.cell (World.block_lt_of_cell? w _ hx195_0)).trans hx195_0
                              replace hx195_1 := (HB.out.cell (World.block_lt_of_cell? w _ hx195_1)).trans hx195_1
                              replace hx195_2 := (HB.out.cell (World.block_lt_of_cell? w _ hx195_2)).trans hx195_2
                              replace hx195_3 := (HB.out.cell (World.block_lt_of_cell? w _ hx195_3)).trans hx195_3
                              replace hx195_4 := (HB.out.cell (World.block_lt_of_cell? w _ hx195_4)).trans hx195_4
                              replace p195 := eq_true p195
                              replace q195 := eq_true q195
                              go_wp2_with (first | (first | ((with_reducible refine gate_dst (N := 4) rfl ?_); refine box_event ?hg (N := 4) ?hd (cs := #[.int .u64 0, .int .u64 0, .int .u64 0, .int .u64 0, .int .i64 0]) (t := 53) ?hr ?_; (case hd => rfl); (case hg => rfl); (case hr => first | (go_simp; done) | (go_simp; rfl)); intro gb196 hg w39 hbox hb; have n0_ := Aside0.mk (blk_below (g := gb194) (o := .cells #[.slice (some ad195) l0_0.length c0_0] 29 (0, 0)) u5_1 hb); have n1_ := Aside0.mk (below_step u5_0 hb); have n2_ := Aside0.mk (hbox); have n3_ := Aside0.mk ((by rw [hg]; exact (below_size u5_0) : w.heap.size ≤ gb196)); have n4_ := Aside0.mk ((by rw [hg]; exact (below_size u5_0) : w.heap.size ≤ gb196)); have n5_ := Aside0.mk ((by rw [hg]; exact Nat.ne_of_lt (blk_lt (g := gb194) (o := .cells #[.slice (some ad195) l0_0.length c0_0] 29 (0, 0)) u5_1) : gb194 ≠ gb196)); have n6_ := Aside0.mk ((by rw [hg]; exact Nat.ne_of_gt (blk_lt (g := gb194) (o := .cells #[.slice (some ad195) l0_0.length c0_0] 29 (0, 0)) u5_1) : gb196 ≠ gb194)); clear BK194; clear HB; have BK194 := n0_; have HB := n1_; have BK196 := n2_; have GW196 := n3_; have GE196 := n4_; have NB194_196 := n5_; have NB196_194 := n6_; clear n0_ n1_ n2_ n3_ n4_ n5_ n6_; clear hb hbox hg; have hnb40 := NB196_194.out; have hnc40 := NB194_196.out; have hcz41_0 : w39.cell? ⟨gb196, 0, none⟩ = some (.int .u64 0) := (blk_cell BK196.out 0).trans rfl; have hcz41_1 : w39.cell? ⟨gb196, 1, none⟩ = some (.int .u64 0) := (blk_cell BK196.out 1).trans rfl; have hcz41_2 : w39.cell? ⟨gb196, 2, none⟩ = some (.int .u64 0) := (blk_cell BK196.out 2).trans rfl; have hcz41_3 : w39.cell? ⟨gb196, 3, none⟩ = some (.int .u64 0) := (blk_cell BK196.out 3).trans rfl; have hcz41_4 : w39.cell? ⟨gb196, 4, none⟩ = some (.int .i64 0) := (blk_cell BK196.out 4).trans rfl; have hfz41_0 := blk_frozen BK196.out 0; have hfz41_1 := blk_frozen BK196.out 1; have hfz41_2 := blk_frozen BK196.out 2; have hfz41_3 := blk_frozen BK196.out 3; have hfz41_4 := blk_frozen BK196.out 4)) | go_quiet (fail))
                              go_ret
                              exact ⟨by first | rfl | (simp [errW_none, errW_some] <;> rfl) | (simp only [← hji9]; first | rfl | (simp [errW_none, errW_some] <;> rfl)) | (simp [*, errW_none, errW_some] <;> rfl), by repeat (first | (with_reducible first | exact HB.out | apply below_alloc | apply pw_below_drewN | apply below_drew1 | refine below_set ?_ GE194.out | refine below_set ?_ GE196.out) | exact HB.out)⟩
                          · rw [if_neg c21] at H
                            have c21b0 : (((rd_T53 l0_0 x12_1).f2) == 0) = false := beq_eq_false_iff_ne.mpr c21
                            have c21b1 : (((rd_T53 l0_0 x12_1).f2) != 0) = true := bne_iff_ne.mpr c21
                            obtain rfl := Option.some.inj H
                            have p195 : 0 ≤ (x12_1 : Int) := of_decide_eq_true u5_2
                            have q195 : x12_1 < (l0_0.length : Int) := of_decide_eq_true u5_2
                            obtain ⟨ad195, e195, hx195_0, hx195_1, hx195_2, hx195_3, hx195_4⟩ := at_T53 HR0_0.out x12_1 p195 q195
                            cases e195
                            replace hx195_0 := (HB.out.cell (World.block_lt_of_cell? w _ hx195_0)).trans hx195_0
                            replace hx195_1 := (HB.out.cell (World.block_lt_of_cell? w _ hx195_1)).trans hx195_1
                            replace hx195_2 := (HB.out.cell (World.block_lt_of_cell? w _ hx195_2)).trans hx195_2
                            replace hx195_3 := (HB.out.cell (World.block_lt_of_cell? w _ hx195_3)).trans hx195_3
                            replace hx195_4 := (HB.out.cell (World.block_lt_of_cell? w _ hx195_4)).trans hx195_4
                            replace p195 := eq_true p195
                            replace q195 := eq_true q195
                            go_wp2_with (first | (first | ((with_reducible refine gate_dst (N := 4) rfl ?_); refine box_event ?hg (N := 4) ?hd (cs := #[.int .u64 0, .int .u64 0, .int .u64 0, .int .u64 0, .int .i64 0]) (t := 53) ?hr ?_; (case hd => rfl); (case hg => rfl); (case hr => first | (go_simp; done) | (go_simp; rfl)); intro gb196 hg w42 hbox hb; have n0_ := Aside0.mk (blk_below (g := gb194) (o := .cells #[.slice (some ad195) l0_0.length c0_0] 29 (0, 0)) u5_1 hb); have n1_ := Aside0.mk (below_step u5_0 hb); have n2_ := Aside0.mk (hbox); have n3_ := Aside0.mk ((by rw [hg]; exact (below_size u5_0) : w.heap.size ≤ gb196)); have n4_ := Aside0.mk ((by rw [hg]; exact (below_size u5_0) : w.heap.size ≤ gb196)); have n5_ := Aside0.mk ((by rw [hg]; exact Nat.ne_of_lt (blk_lt (g := gb194) (o := .cells #[.slice (some ad195) l0_0.length c0_0] 29 (0, 0)) u5_1) : gb194 ≠ gb196)); have n6_ := Aside0.mk ((by rw [hg]; exact Nat.ne_of_gt (blk_lt (g := gb194) (o := .cells #[.slice (some ad195) l0_0.length c0_0] 29 (0, 0)) u5_1) : gb196 ≠ gb194)); clear BK194; clear HB; have BK194 := n0_; have HB := n1_; have BK196 := n2_; have GW196 := n3_; have GE196 := n4_; have NB194_196 := n5_; have NB196_194 := n6_; clear n0_ n1_ n2_ n3_ n4_ n5_ n6_; clear hb hbox hg; have hnb43 := NB196_194.out; have hnc43 := NB194_196.out; have hcz44_0 : w42.cell? ⟨gb196, 0, none⟩ = some (.int .u64 0) := (blk_cell BK196.out 0).trans rfl; have hcz44_1 : w42.cell? ⟨gb196, 1, none⟩ = some (.int .u64 0) := (blk_cell BK196.out 1).trans rfl; have hcz44_2 : w42.cell? ⟨gb196, 2, none⟩ = some (.int .u64 0) := (blk_cell BK196.out 2).trans rfl; have hcz44_3 : w42.cell? ⟨gb196, 3, none⟩ = some (.int .u64 0) := (blk_cell BK196.out 3).trans rfl; have hcz44_4 : w42.cell? ⟨gb196, 4, none⟩ = some (.int .i64 0) := (blk_cell BK196.out 4).trans rfl; have hfz44_0 := blk_frozen BK196.out 0; have hfz44_1 := blk_frozen BK196.out 1; have hfz44_2 := blk_frozen BK196.out 2; have hfz44_3 := blk_frozen BK196.out 3; have hfz44_4 := blk_frozen BK196.out 4)) | go_quiet (fail))
                            go_ret
                            exact ⟨by first | rfl | (simp [errW_none, errW_some] <;> rfl) | (simp only [← hji9]; first | rfl | (simp [errW_none, errW_some] <;> rfl)) | (simp [*, errW_none, errW_some] <;> rfl), by repeat (first | (with_reducible first | exact HB.out | apply below_alloc | apply pw_below_drewN | apply below_drew1 | refine below_set ?_ GE194.out | refine below_set ?_ GE196.out) | exact HB.out)⟩
                        · rw [if_neg c20] at H
                          have c20b0 : (((rd_T53 l0_0 x12_1).f4) == 0) = false := beq_eq_false_iff_ne.mpr c20
                          have c20b1 : (((rd_T53 l0_0 x12_1).f4) != 0) = true := bne_iff_ne.mpr c20
                          by_cases c45 : x12_1 > 0
                          · rw [if_pos c45] at H
                            have c45b0 : decide (0 < x12_1) = true := decide_eq_true c45
                            clear c45
                            obtain ⟨ji46, hji46⟩ : ∃ j_ : Int, (wrap64 (x12_1 - 1)) = j_ := ⟨_, rfl⟩
                            replace H : (if 0 ≤ (ji46) then (if (ji46) < (l0_0.length : Int) then (if ((rd_T53 l0_0 (ji46)).f0) ≥ ((rd_T53 l0_0 x12_1).f0) then (some false) else (impl_isBook.l0 k1 l0_0 (l0_0.length : Int) (wrap64 (x12_1 + 1)) l0_0)) else (none)) else (none)) = some r := by first | (rw [hji46] at H; exact H) | (simp only [hji46] at H ⊢; exact H)
                            have hji46w : (IntKind.i64.wrap (x12_1 - 1)) = ji46 := (i64_w _).trans hji46
                            by_cases c47 : 0 ≤ (ji46)
                            · rw [if_pos c47] at H
                              have c47b0 : decide (0 ≤ (ji46)) = true := decide_eq_true c47
                              clear c47
                              by_cases c48 : (ji46) < (l0_0.length : Int)
                              · rw [if_pos c48] at H
                                have c48b0 : decide ((ji46) < (l0_0.length : Int)) = true := decide_eq_true c48
                                clear c48
                                by_cases c49 : ((rd_T53 l0_0 (ji46)).f0) ≥ ((rd_T53 l0_0 x12_1).f0)
                                · rw [if_pos c49] at H
                                  have c49b0 : decide (((rd_T53 l0_0 x12_1).f0) ≤ ((rd_T53 l0_0 (ji46)).f0)) = true := decide_eq_true c49
                                  clear c49
                                  obtain rfl := Option.some.inj H
                                  have p195 : 0 ≤ (x12_1 : Int) := of_decide_eq_true u5_2
                                  have q195 : x12_1 < (l0_0.length : Int) := of_decide_eq_true u5_2
                                  obtain ⟨ad195, e195, hx195_0, hx195_1, hx195_2, hx195_3, hx195_4⟩ := at_T53 HR0_0.out x12_1 p195 q195
                                  cases e195
                                  replace hx195_0 := (HB.out.cell (World.block_lt_of_cell? w _ hx195_0)).trans hx195_0
                                  replace hx195_1 := (HB.out.cell (World.block_lt_of_cell? w _ hx195_1)).trans hx195_1
                                  replace hx195_2 := (HB.out.cell (World.block_lt_of_cell? w _ hx195_2)).trans hx195_2
                                  replace hx195_3 := (HB.out.cell (World.block_lt_of_cell? w _ hx195_3)).trans hx195_3
                                  replace hx195_4 := (HB.out.cell (World.block_lt_of_cell? w _ hx195_4)).trans hx195_4
                                  replace p195 := eq_true p195
                                  replace q195 := eq_true q195
                                  go_wp2_with (first | (first | ((with_reducible refine gate_dst (N := 4) rfl ?_); refine box_event ?hg (N := 4) ?hd (cs := #[.int .u64 0, .int .u64 0, .int .u64 0, .int .u64 0, .int .i64 0]) (t := 53) ?hr ?_; (case hd => rfl); (case hg => rfl); (case hr => first | (go_simp; done) | (go_simp; rfl)); intro gb196 hg w50 hbox hb; have n0_ := Aside0.mk (blk_below (g := gb194) (o := .cells #[.slice (some ad195) l0_0.length c0_0] 29 (0, 0)) u5_1 hb); have n1_ := Aside0.mk (below_step u5_0 hb); have n2_ := Aside0.mk (hbox); have n3_ := Aside0.mk ((by rw [hg]; exact (below_size u5_0) : w.heap.size ≤ gb196)); have n4_ := Aside0.mk ((by rw [hg]; exact (below_size u5_0) : w.heap.size ≤ gb196)); have n5_ := Aside0.mk ((by rw [hg]; exact Nat.ne_of_lt (blk_lt (g := gb194) (o := .cells #[.slice (some ad195) l0_0.length c0_0] 29 (0, 0)) u5_1) : gb194 ≠ gb196)); have n6_ := Aside0.mk ((by rw [hg]; exact Nat.ne_of_gt (blk_lt (g := gb194) (o := .cells #[.slice (some ad195) l0_0.length c0_0] 29 (0, 0)) u5_1) : gb196 ≠ gb194)); clear BK194; clear HB; have BK194 := n0_; have HB := n1_; have BK196 := n2_; have GW196 := n3_; have GE196 := n4_; have NB194_196 := n5_; have NB196_194 := n6_; clear n0_ n1_ n2_ n3_ n4_ n5_ n6_; clear hb hbox hg; have hnb51 := NB196_194.out; have hnc51 := NB194_196.out; have hcz52_0 : w50.cell? ⟨gb196, 0, none⟩ = some (.int .u64 0) := (blk_cell BK196.out 0).trans rfl; have hcz52_1 : w50.cell? ⟨gb196, 1, none⟩ = some (.int .u64 0) := (blk_cell BK196.out 1).trans rfl; have hcz52_2 : w50.cell? ⟨gb196, 2, none⟩ = some (.int .u64 0) := (blk_cell BK196.out 2).trans rfl; have hcz52_3 : w50.cell? ⟨gb196, 3, none⟩ = some (.int .u64 0) := (blk_cell BK196.out 3).trans rfl; have hcz52_4 : w50.cell? ⟨gb196, 4, none⟩ = some (.int .i64 0) := (blk_cell BK196.out 4).trans rfl; have hfz52_0 := blk_frozen BK196.out 0; have hfz52_1 := blk_frozen BK196.out 1; have hfz52_2 := blk_frozen BK196.out 2; have hfz52_3 := blk_frozen BK196.out 3; have hfz52_4 := blk_frozen BK196.out 4; have hcz53_0 : w50.cell? ⟨gb194, 0, none⟩ = some (.slice (some ad195) l0_0.length c0_0) := (blk_cell BK194.out 0).trans rfl; have hfz53_0 := blk_frozen BK194.out 0; have p198 : 0 ≤ ((ji46) : Int) := of_decide_eq_true u5_2; have q198 : (ji46) < (l0_0.length : Int) := of_decide_eq_true u5_2; obtain ⟨ad198, e198, hx198_0, hx198_1, hx198_2, hx198_3, hx198_4⟩ := at_T53 HR0_0.out (ji46) p198 q198; obtain rfl : ad195 = ad198 := (by injection e198); have hn198_0 : ad195.block ≠ gb196 := Nat.ne_of_lt (Nat.lt_of_lt_of_le u5_15 GW196.out); have hn198_1 : ad195.block ≠ gb196 := Nat.ne_of_lt (Nat.lt_of_lt_of_le u5_15 GW196.out); have hn198_2 : ad195.block ≠ gb196 := Nat.ne_of_lt (Nat.lt_of_lt_of_le u5_15 GW196.out); have hn198_3 : ad195.block ≠ gb196 := Nat.ne_of_lt (Nat.lt_of_lt_of_le u5_15 GW196.out); have hn198_4 : ad195.block ≠ gb196 := Nat.ne_of_lt (Nat.lt_of_lt_of_le u5_15 GW196.out); replace hx198_0 := (HB.out.cell (World.block_lt_of_cell? w _ hx198_0)).trans hx198_0; replace hx198_1 := (HB.out.cell (World.block_lt_of_cell? w _ hx198_1)).trans hx198_1; replace hx198_2 := (HB.out.cell (World.block_lt_of_cell? w _ hx198_2)).trans hx198_2; replace hx198_3 := (HB.out.cell (World.block_lt_of_cell? w _ hx198_3)).trans hx198_3; replace hx198_4 := (HB.out.cell (World.block_lt_of_cell? w _ hx198_4)).trans hx198_4; replace hx198_0 := (cell_far (p := ⟨gb196, 0, none⟩) u5_8 (.int .u64 ((rd_T53 l0_0 x12_1).f0))).trans hx198_0; replace hx198_1 := (cell_far (p := ⟨gb196, 0, none⟩) u5_8 (.int .u64 ((rd_T53 l0_0 x12_1).f0))).trans hx198_1; replace hx198_2 := (cell_far (p := ⟨gb196, 0, none⟩) u5_8 (.int .u64 ((rd_T53 l0_0 x12_1).f0))).trans hx198_2; replace hx198_3 := (cell_far (p := ⟨gb196, 0, none⟩) u5_8 (.int .u64 ((rd_T53 l0_0 x12_1).f0))).trans hx198_3; replace hx198_4 := (cell_far (p := ⟨gb196, 0, none⟩) u5_8 (.int .u64 ((rd_T53 l0_0 x12_1).f0))).trans hx198_4; replace hx198_0 := (cell_far (p := ⟨gb196, 1, none⟩) u5_9 (.int .u64 ((rd_T53 l0_0 x12_1).f1))).trans hx198_0; replace hx198_1 := (cell_far (p := ⟨gb196, 1, none⟩) u5_9 (.int .u64 ((rd_T53 l0_0 x12_1).f1))).trans hx198_1; replace hx198_2 := (cell_far (p := ⟨gb196, 1, none⟩) u5_9 (.int .u64 ((rd_T53 l0_0 x12_1).f1))).trans hx198_2; replace hx198_3 := (cell_far (p := ⟨gb196, 1, none⟩) u5_9 (.int .u64 ((rd_T53 l0_0 x12_1).f1))).trans hx198_3; replace hx198_4 := (cell_far (p := ⟨gb196, 1, none⟩) u5_9 (.int .u64 ((rd_T53 l0_0 x12_1).f1))).trans hx198_4; replace hx198_0 := (cell_far (p := ⟨gb196, 2, none⟩) u5_10 (.int .u64 ((rd_T53 l0_0 x12_1).f2))).trans hx198_0; replace hx198_1 := (cell_far (p := ⟨gb196, 2, none⟩) u5_10 (.int .u64 ((rd_T53 l0_0 x12_1).f2))).trans hx198_1; replace hx198_2 := (cell_far (p := ⟨gb196, 2, none⟩) u5_10 (.int .u64 ((rd_T53 l0_0 x12_1).f2))).trans hx198_2; replace hx198_3 := (cell_far (p := ⟨gb196, 2, none⟩) u5_10 (.int .u64 ((rd_T53 l0_0 x12_1).f2))).trans hx198_3; replace hx198_4 := (cell_far (p := ⟨gb196, 2, none⟩) u5_10 (.int .u64 ((rd_T53 l0_0 x12_1).f2))).trans hx198_4; replace hx198_0 := (cell_far (p := ⟨gb196, 3, none⟩) u5_11 (.int .u64 ((rd_T53 l0_0 x12_1).f3))).trans hx198_0; replace hx198_1 := (cell_far (p := ⟨gb196, 3, none⟩) u5_11 (.int .u64 ((rd_T53 l0_0 x12_1).f3))).trans hx198_1; replace hx198_2 := (cell_far (p := ⟨gb196, 3, none⟩) u5_11 (.int .u64 ((rd_T53 l0_0 x12_1).f3))).trans hx198_2; replace hx198_3 := (cell_far (p := ⟨gb196, 3, none⟩) u5_11 (.int .u64 ((rd_T53 l0_0 x12_1).f3))).trans hx198_3; replace hx198_4 := (cell_far (p := ⟨gb196, 3, none⟩) u5_11 (.int .u64 ((rd_T53 l0_0 x12_1).f3))).trans hx198_4; replace hx198_0 := (cell_far (p := ⟨gb196, 4, none⟩) u5_12 (.int .i64 ((rd_T53 l0_0 x12_1).f4))).trans hx198_0; replace hx198_1 := (cell_far (p := ⟨gb196, 4, none⟩) u5_12 (.int .i64 ((rd_T53 l0_0 x12_1).f4))).trans hx198_1; replace hx198_2 := (cell_far (p := ⟨gb196, 4, none⟩) u5_12 (.int .i64 ((rd_T53 l0_0 x12_1).f4))).trans hx198_2; replace hx198_3 := (cell_far (p := ⟨gb196, 4, none⟩) u5_12 (.int .i64 ((rd_T53 l0_0 x12_1).f4))).trans hx198_3; replace hx198_4 := (cell_far (p := ⟨gb196, 4, none⟩) u5_12 (.int .i64 ((rd_T53 l0_0 x12_1).f4))).trans hx198_4; (try have hch_ := fun (n_ : Nat) => (show (((((((w50.drewN n_).setCell ⟨gb196, 0, none⟩ (.int .u64 ((rd_T53 l0_0 x12_1).f0))).setCell ⟨gb196, 1, none⟩ (.int .u64 ((rd_T53 l0_0 x12_1).f1))).setCell ⟨gb196, 2, none⟩ (.int .u64 ((rd_T53 l0_0 x12_1).f2))).setCell ⟨gb196, 3, none⟩ (.int .u64 ((rd_T53 l0_0 x12_1).f3))).setCell ⟨gb196, 4, none⟩ (.int .i64 ((rd_T53 l0_0 x12_1).f4)))) = World.drewN ((((((w50.setCell ⟨gb196, 0, none⟩ (.int .u64 ((rd_T53 l0_0 x12_1).f0))).setCell ⟨gb196, 1, none⟩ (.int .u64 ((rd_T53 l0_0 x12_1).f1))).setCell ⟨gb196, 2, none⟩ (.int .u64 ((rd_T53 l0_0 x12_1).f2))).setCell ⟨gb196, 3, none⟩ (.int .u64 ((rd_T53 l0_0 x12_1).f3))).setCell ⟨gb196, 4, none⟩ (.int .i64 ((rd_T53 l0_0 x12_1).f4)))) n_ from by simp only [Go.Proofs.Ytdbfjakhkclggaa.Slc.setCell_drewN])); (try have hy198_0 := fun (n_ : Nat) => Go.Proofs.Ytdbfjakhkclggaa.Slc.cell_of (hch_ n_) hx198_0); (try have hy198_1 := fun (n_ : Nat) => Go.Proofs.Ytdbfjakhkclggaa.Slc.cell_of (hch_ n_) hx198_1); (try have hy198_2 := fun (n_ : Nat) => Go.Proofs.Ytdbfjakhkclggaa.Slc.cell_of (hch_ n_) hx198_2); (try have hy198_3 := fun (n_ : Nat) => Go.Proofs.Ytdbfjakhkclggaa.Slc.cell_of (hch_ n_) hx198_3); (try have hy198_4 := fun (n_ : Nat) => Go.Proofs.Ytdbfjakhkclggaa.Slc.cell_of (hch_ n_) hx198_4); clear hn198_0; clear hn198_1; clear hn198_2; clear hn198_3; clear hn198_4; replace p198 := eq_true p198; replace q198 := eq_true q198)) | go_quiet (fail))
                                  go_ret
                                  exact ⟨by first | rfl | (simp [errW_none, errW_some] <;> rfl) | (simp only [← hji9, ← hji46]; first | rfl | (simp [errW_none, errW_some] <;> rfl)) | (simp [*, errW_none, errW_some] <;> rfl), by repeat (first | (with_reducible first | exact HB.out | apply below_alloc | apply pw_below_drewN | apply below_drew1 | refine below_set ?_ GE194.out | refine below_set ?_ GE196.out) | exact HB.out)⟩
                                · rw [if_neg c49] at H
                                  have c49b0 : decide (((rd_T53 l0_0 x12_1).f0) ≤ ((rd_T53 l0_0 (ji46)).f0)) = false := decide_eq_false c49
                                  clear c49
                                  have H' := Aside0.mk H
                                  clear H
                                  have p195 : 0 ≤ (x12_1 : Int) := of_decide_eq_true u5_2
                                  have q195 : x12_1 < (l0_0.length : Int) := of_decide_eq_true u5_2
                                  obtain ⟨ad195, e195, hx195_0, hx195_1, hx195_2, hx195_3, hx195_4⟩ := at_T53 HR0_0.out x12_1 p195 q195
                                  cases e195
                                  replace hx195_0 := (HB.out.cell (World.block_lt_of_cell? w _ hx195_0)).trans hx195_0
                                  replace hx195_1 := (HB.out.cell (World.block_lt_of_cell? w _ hx195_1)).trans hx195_1
                                  replace hx195_2 := (HB.out.cell (World.block_lt_of_cell? w _ hx195_2)).trans hx195_2
                                  replace hx195_3 := (HB.out.cell (World.block_lt_of_cell? w _ hx195_3)).trans hx195_3
                                  replace hx195_4 := (HB.out.cell (World.block_lt_of_cell? w _ hx195_4)).trans hx195_4
                                  replace p195 := eq_true p195
                                  replace q195 := eq_true q195
                                  go_wp2_with (first | (first | ((with_reducible refine gate_dst (N := 4) rfl ?_); refine box_event ?hg (N := 4) ?hd (cs := #[.int .u64 0, .int .u64 0, .int .u64 0, .int .u64 0, .int .i64 0]) (t := 53) ?hr ?_; (case hd => rfl); (case hg => rfl); (case hr => first | (go_simp; done) | (go_simp; rfl)); intro gb196 hg w54 hbox hb; have n0_ := Aside0.mk (blk_below (g := gb194) (o := .cells #[.slice (some ad195) l0_0.length c0_0] 29 (0, 0)) u5_1 hb); have n1_ := Aside0.mk (below_step u5_0 hb); have n2_ := Aside0.mk (hbox); have n3_ := Aside0.mk ((by rw [hg]; exact (below_size u5_0) : w.heap.size ≤ gb196)); have n4_ := Aside0.mk ((by rw [hg]; exact (below_size u5_0) : w.heap.size ≤ gb196)); have n5_ := Aside0.mk ((by rw [hg]; exact Nat.ne_of_lt (blk_lt (g := gb194) (o := .cells #[.slice (some ad195) l0_0.length c0_0] 29 (0, 0)) u5_1) : gb194 ≠ gb196)); have n6_ := Aside0.mk ((by rw [hg]; exact Nat.ne_of_gt (blk_lt (g := gb194) (o := .cells #[.slice (some ad195) l0_0.length c0_0] 29 (0, 0)) u5_1) : gb196 ≠ gb194)); clear BK194; clear HB; have BK194 := n0_; have HB := n1_; have BK196 := n2_; have GW196 := n3_; have GE196 := n4_; have NB194_196 := n5_; have NB196_194 := n6_; clear n0_ n1_ n2_ n3_ n4_ n5_ n6_; clear hb hbox hg; have hnb55 := NB196_194.out; have hnc55 := NB194_196.out; have hcz56_0 : w54.cell? ⟨gb196, 0, none⟩ = some (.int .u64 0) := (blk_cell BK196.out 0).trans rfl; have hcz56_1 : w54.cell? ⟨gb196, 1, none⟩ = some (.int .u64 0) := (blk_cell BK196.out 1).trans rfl; have hcz56_2 : w54.cell? ⟨gb196, 2, none⟩ = some (.int .u64 0) := (blk_cell BK196.out 2).trans rfl; have hcz56_3 : w54.cell? ⟨gb196, 3, none⟩ = some (.int .u64 0) := (blk_cell BK196.out 3).trans rfl; have hcz56_4 : w54.cell? ⟨gb196, 4, none⟩ = some (.int .i64 0) := (blk_cell BK196.out 4).trans rfl; have hfz56_0 := blk_frozen BK196.out 0; have hfz56_1 := blk_frozen BK196.out 1; have hfz56_2 := blk_frozen BK196.out 2; have hfz56_3 := blk_frozen BK196.out 3; have hfz56_4 := blk_frozen BK196.out 4; have hcz57_0 : w54.cell? ⟨gb194, 0, none⟩ = some (.slice (some ad195) l0_0.length c0_0) := (blk_cell BK194.out 0).trans rfl; have hfz57_0 := blk_frozen BK194.out 0; have p198 : 0 ≤ ((ji46) : Int) := of_decide_eq_true u5_2; have q198 : (ji46) < (l0_0.length : Int) := of_decide_eq_true u5_2; obtain ⟨ad198, e198, hx198_0, hx198_1, hx198_2, hx198_3, hx198_4⟩ := at_T53 HR0_0.out (ji46) p198 q198; obtain rfl : ad195 = ad198 := (by injection e198); have hn198_0 : ad195.block ≠ gb196 := Nat.ne_of_lt (Nat.lt_of_lt_of_le u5_15 GW196.out); have hn198_1 : ad195.block ≠ gb196 := Nat.ne_of_lt (Nat.lt_of_lt_of_le u5_15 GW196.out); have hn198_2 : ad195.block ≠ gb196 := Nat.ne_of_lt (Nat.lt_of_lt_of_le u5_15 GW196.out); have hn198_3 : ad195.block ≠ gb196 := Nat.ne_of_lt (Nat.lt_of_lt_of_le u5_15 GW196.out); have hn198_4 : ad195.block ≠ gb196 := Nat.ne_of_lt (Nat.lt_of_lt_of_le u5_15 GW196.out); replace hx198_0 := (HB.out.cell (World.block_lt_of_cell? w _ hx198_0)).trans hx198_0; replace hx198_1 := (HB.out.cell (World.block_lt_of_cell? w _ hx198_1)).trans hx198_1; replace hx198_2 := (HB.out.cell (World.block_lt_of_cell? w _ hx198_2)).trans hx198_2; replace hx198_3 := (HB.out.cell (World.block_lt_of_cell? w _ hx198_3)).trans hx198_3; replace hx198_4 := (HB.out.cell (World.block_lt_of_cell? w _ hx198_4)).trans hx198_4; replace hx198_0 := (cell_far (p := ⟨gb196, 0, none⟩) u5_8 (.int .u64 ((rd_T53 l0_0 x12_1).f0))).trans hx198_0; replace hx198_1 := (cell_far (p := ⟨gb196, 0, none⟩) u5_8 (.int .u64 ((rd_T53 l0_0 x12_1).f0))).trans hx198_1; replace hx198_2 := (cell_far (p := ⟨gb196, 0, none⟩) u5_8 (.int .u64 ((rd_T53 l0_0 x12_1).f0))).trans hx198_2; replace hx198_3 := (cell_far (p := ⟨gb196, 0, none⟩) u5_8 (.int .u64 ((rd_T53 l0_0 x12_1).f0))).trans hx198_3; replace hx198_4 := (cell_far (p := ⟨gb196, 0, none⟩) u5_8 (.int .u64 ((rd_T53 l0_0 x12_1).f0))).trans hx198_4; replace hx198_0 := (cell_far (p := ⟨gb196, 1, none⟩) u5_9 (.int .u64 ((rd_T53 l0_0 x12_1).f1))).trans hx198_0; replace hx198_1 := (cell_far (p := ⟨gb196, 1, none⟩) u5_9 (.int .u64 ((rd_T53 l0_0 x12_1).f1))).trans hx198_1; replace hx198_2 := (cell_far (p := ⟨gb196, 1, none⟩) u5_9 (.int .u64 ((rd_T53 l0_0 x12_1).f1))).trans hx198_2; replace hx198_3 := (cell_far (p := ⟨gb196, 1, none⟩) u5_9 (.int .u64 ((rd_T53 l0_0 x12_1).f1))).trans hx198_3; replace hx198_4 := (cell_far (p := ⟨gb196, 1, none⟩) u5_9 (.int .u64 ((rd_T53 l0_0 x12_1).f1))).trans hx198_4; replace hx198_0 := (cell_far (p := ⟨gb196, 2, none⟩) u5_10 (.int .u64 ((rd_T53 l0_0 x12_1).f2))).trans hx198_0; replace hx198_1 := (cell_far (p := ⟨gb196, 2, none⟩) u5_10 (.int .u64 ((rd_T53 l0_0 x12_1).f2))).trans hx198_1; replace hx198_2 := (cell_far (p := ⟨gb196, 2, none⟩) u5_10 (.int .u64 ((rd_T53 l0_0 x12_1).f2))).trans hx198_2; replace hx198_3 := (cell_far (p := ⟨gb196, 2, none⟩) u5_10 (.int .u64 ((rd_T53 l0_0 x12_1).f2))).trans hx198_3; replace hx198_4 := (cell_far (p := ⟨gb196, 2, none⟩) u5_10 (.int .u64 ((rd_T53 l0_0 x12_1).f2))).trans hx198_4; replace hx198_0 := (cell_far (p := ⟨gb196, 3, none⟩) u5_11 (.int .u64 ((rd_T53 l0_0 x12_1).f3))).trans hx198_0; replace hx198_1 := (cell_far (p := ⟨gb196, 3, none⟩) u5_11 (.int .u64 ((rd_T53 l0_0 x12_1).f3))).trans hx198_1; replace hx198_2 := (cell_far (p := ⟨gb196, 3, none⟩) u5_11 (.int .u64 ((rd_T53 l0_0 x12_1).f3))).trans hx198_2; replace hx198_3 := (cell_far (p := ⟨gb196, 3, none⟩) u5_11 (.int .u64 ((rd_T53 l0_0 x12_1).f3))).trans hx198_3; replace hx198_4 := (cell_far (p := ⟨gb196, 3, none⟩) u5_11 (.int .u64 ((rd_T53 l0_0 x12_1).f3))).trans hx198_4; replace hx198_0 := (cell_far (p := ⟨gb196, 4, none⟩) u5_12 (.int .i64 ((rd_T53 l0_0 x12_1).f4))).trans hx198_0; replace hx198_1 := (cell_far (p := ⟨gb196, 4, none⟩) u5_12 (.int .i64 ((rd_T53 l0_0 x12_1).f4))).trans hx198_1; replace hx198_2 := (cell_far (p := ⟨gb196, 4, none⟩) u5_12 (.int .i64 ((rd_T53 l0_0 x12_1).f4))).trans hx198_2; replace hx198_3 := (cell_far (p := ⟨gb196, 4, none⟩) u5_12 (.int .i64 ((rd_T53 l0_0 x12_1).f4))).trans hx198_3; replace hx198_4 := (cell_far (p := ⟨gb196, 4, none⟩) u5_12 (.int .i64 ((rd_T53 l0_0 x12_1).f4))).trans hx198_4; (try have hch_ := fun (n_ : Nat) => (show (((((((w54.drewN n_).setCell ⟨gb196, 0, none⟩ (.int .u64 ((rd_T53 l0_0 x12_1).f0))).setCell ⟨gb196, 1, none⟩ (.int .u64 ((rd_T53 l0_0 x12_1).f1))).setCell ⟨gb196, 2, none⟩ (.int .u64 ((rd_T53 l0_0 x12_1).f2))).setCell ⟨gb196, 3, none⟩ (.int .u64 ((rd_T53 l0_0 x12_1).f3))).setCell ⟨gb196, 4, none⟩ (.int .i64 ((rd_T53 l0_0 x12_1).f4)))) = World.drewN ((((((w54.setCell ⟨gb196, 0, none⟩ (.int .u64 ((rd_T53 l0_0 x12_1).f0))).setCell ⟨gb196, 1, none⟩ (.int .u64 ((rd_T53 l0_0 x12_1).f1))).setCell ⟨gb196, 2, none⟩ (.int .u64 ((rd_T53 l0_0 x12_1).f2))).setCell ⟨gb196, 3, none⟩ (.int .u64 ((rd_T53 l0_0 x12_1).f3))).setCell ⟨gb196, 4, none⟩ (.int .i64 ((rd_T53 l0_0 x12_1).f4)))) n_ from by simp only [Go.Proofs.Ytdbfjakhkclggaa.Slc.setCell_drewN])); (try have hy198_0 := fun (n_ : Nat) => Go.Proofs.Ytdbfjakhkclggaa.Slc.cell_of (hch_ n_) hx198_0); (try have hy198_1 := fun (n_ : Nat) => Go.Proofs.Ytdbfjakhkclggaa.Slc.cell_of (hch_ n_) hx198_1); (try have hy198_2 := fun (n_ : Nat) => Go.Proofs.Ytdbfjakhkclggaa.Slc.cell_of (hch_ n_) hx198_2); (try have hy198_3 := fun (n_ : Nat) => Go.Proofs.Ytdbfjakhkclggaa.Slc.cell_of (hch_ n_) hx198_3); (try have hy198_4 := fun (n_ : Nat) => Go.Proofs.Ytdbfjakhkclggaa.Slc.cell_of (hch_ n_) hx198_4); clear hn198_0; clear hn198_1; clear hn198_2; clear hn198_3; clear hn198_4; replace p198 := eq_true p198; replace q198 := eq_true q198)) | go_quiet (fail))
                                  go_roundg k1
                                  case measure => have := HK1.out; omega
                                  case rel => exact ⟨(wrap64 (x12_1 + 1)), u5_19, H', ⟨by have := HK1.out; omega⟩, ⟨by (with_reducible repeat (first | refine blk_drewN ?_ _ | refine blk_drew ?_ | refine blk_alloc ?_ _)); refine blk_far ?_ NB194_196.out _; (with_reducible repeat (first | refine blk_drewN ?_ _ | refine blk_drew ?_ | refine blk_alloc ?_ _)); refine blk_far ?_ NB194_196.out _; (with_reducible repeat (first | refine blk_drewN ?_ _ | refine blk_drew ?_ | refine blk_alloc ?_ _)); refine blk_far ?_ NB194_196.out _; (with_reducible repeat (first | refine blk_drewN ?_ _ | refine blk_drew ?_ | refine blk_alloc ?_ _)); refine blk_far ?_ NB194_196.out _; (with_reducible repeat (first | refine blk_drewN ?_ _ | refine blk_drew ?_ | refine blk_alloc ?_ _)); refine blk_far ?_ NB194_196.out _; (with_reducible repeat (first | refine blk_drewN ?_ _ | refine blk_drew ?_ | refine blk_alloc ?_ _)); exact BK194.out⟩, ⟨by repeat (first | (with_reducible first | exact HB.out | apply below_alloc | apply pw_below_drewN | apply below_drew1 | refine below_set ?_ GE194.out | refine below_set ?_ GE196.out) | exact HB.out)⟩⟩
                              · rw [if_neg c48] at H
                                exact absurd H (by simp)
                            · rw [if_neg c47] at H
                              exact absurd H (by simp)
                          · rw [if_neg c45] at H
                            have c45b0 : decide (0 < x12_1) = false := decide_eq_false c45
                            clear c45
                            have H' := Aside0.mk H
                            clear H
                            have p195 : 0 ≤ (x12_1 : Int) := of_decide_eq_true u5_2
                            have q195 : x12_1 < (l0_0.length : Int) := of_decide_eq_true u5_2
                            obtain ⟨ad195, e195, hx195_0, hx195_1, hx195_2, hx195_3, hx195_4⟩ := at_T53 HR0_0.out x12_1 p195 q195
                            cases e195
                            replace hx195_0 := (HB.out.cell (World.block_lt_of_cell? w _ hx195_0)).trans hx195_0
                            replace hx195_1 := (HB.out.cell (World.block_lt_of_cell? w _ hx195_1)).trans hx195_1
                            replace hx195_2 := (HB.out.cell (World.block_lt_of_cell? w _ hx195_2)).trans hx195_2
                            replace hx195_3 := (HB.out.cell (World.block_lt_of_cell? w _ hx195_3)).trans hx195_3
                            replace hx195_4 := (HB.out.cell (World.block_lt_of_cell? w _ hx195_4)).trans hx195_4
                            replace p195 := eq_true p195
                            replace q195 := eq_true q195
                            go_wp2_with (first | (first | ((with_reducible refine gate_dst (N := 4) rfl ?_); refine box_event ?hg (N := 4) ?hd (cs := #[.int .u64 0, .int .u64 0, .int .u64 0, .int .u64 0, .int .i64 0]) (t := 53) ?hr ?_; (case hd => rfl); (case hg => rfl); (case hr => first | (go_simp; done) | (go_simp; rfl)); intro gb196 hg w58 hbox hb; have n0_ := Aside0.mk (blk_below (g := gb194) (o := .cells #[.slice (some ad195) l0_0.length c0_0] 29 (0, 0)) u5_1 hb); have n1_ := Aside0.mk (below_step u5_0 hb); have n2_ := Aside0.mk (hbox); have n3_ := Aside0.mk ((by rw [hg]; exact (below_size u5_0) : w.heap.size ≤ gb196)); have n4_ := Aside0.mk ((by rw [hg]; exact (below_size u5_0) : w.heap.size ≤ gb196)); have n5_ := Aside0.mk ((by rw [hg]; exact Nat.ne_of_lt (blk_lt (g := gb194) (o := .cells #[.slice (some ad195) l0_0.length c0_0] 29 (0, 0)) u5_1) : gb194 ≠ gb196)); have n6_ := Aside0.mk ((by rw [hg]; exact Nat.ne_of_gt (blk_lt (g := gb194) (o := .cells #[.slice (some ad195) l0_0.length c0_0] 29 (0, 0)) u5_1) : gb196 ≠ gb194)); clear BK194; clear HB; have BK194 := n0_; have HB := n1_; have BK196 := n2_; have GW196 := n3_; have GE196 := n4_; have NB194_196 := n5_; have NB196_194 := n6_; clear n0_ n1_ n2_ n3_ n4_ n5_ n6_; clear hb hbox hg; have hnb59 := NB196_194.out; have hnc59 := NB194_196.out; have hcz60_0 : w58.cell? ⟨gb196, 0, none⟩ = some (.int .u64 0) := (blk_cell BK196.out 0).trans rfl; have hcz60_1 : w58.cell? ⟨gb196, 1, none⟩ = some (.int .u64 0) := (blk_cell BK196.out 1).trans rfl; have hcz60_2 : w58.cell? ⟨gb196, 2, none⟩ = some (.int .u64 0) := (blk_cell BK196.out 2).trans rfl; have hcz60_3 : w58.cell? ⟨gb196, 3, none⟩ = some (.int .u64 0) := (blk_cell BK196.out 3).trans rfl; have hcz60_4 : w58.cell? ⟨gb196, 4, none⟩ = some (.int .i64 0) := (blk_cell BK196.out 4).trans rfl; have hfz60_0 := blk_frozen BK196.out 0; have hfz60_1 := blk_frozen BK196.out 1; have hfz60_2 := blk_frozen BK196.out 2; have hfz60_3 := blk_frozen BK196.out 3; have hfz60_4 := blk_frozen BK196.out 4)) | go_quiet (fail))
                            go_roundg k1
                            case measure => have := HK1.out; omega
                            case rel => exact ⟨(wrap64 (x12_1 + 1)), u5_19, H', ⟨by have := HK1.out; omega⟩, ⟨by (with_reducible repeat (first | refine blk_drewN ?_ _ | refine blk_drew ?_ | refine blk_alloc ?_ _)); refine blk_far ?_ NB194_196.out _; (with_reducible repeat (first | refine blk_drewN ?_ _ | refine blk_drew ?_ | refine blk_alloc ?_ _)); refine blk_far ?_ NB194_196.out _; (with_reducible repeat (first | refine blk_drewN ?_ _ | refine blk_drew ?_ | refine blk_alloc ?_ _)); refine blk_far ?_ NB194_196.out _; (with_reducible repeat (first | refine blk_drewN ?_ _ | refine blk_drew ?_ | refine blk_alloc ?_ _)); refine blk_far ?_ NB194_196.out _; (with_reducible repeat (first | refine blk_drewN ?_ _ | refine blk_drew ?_ | refine blk_alloc ?_ _)); refine blk_far ?_ NB194_196.out _; (with_reducible repeat (first | refine blk_drewN ?_ _ | refine blk_drew ?_ | refine blk_alloc ?_ _)); exact BK194.out⟩, ⟨by repeat (first | (with_reducible first | exact HB.out | apply below_alloc | apply pw_below_drewN | apply below_drew1 | refine below_set ?_ GE194.out | refine below_set ?_ GE196.out) | exact HB.out)⟩⟩
                  · rw [if_neg c11] at H
                    exact absurd H (by simp)
                · rw [if_neg c10] at H
                  exact absurd H (by simp)
              · rw [if_neg c8] at H
                exact absurd H (by simp)
            · rw [if_neg c7] at H
              exact absurd H (by simp)
          · rw [if_neg c6] at H
            exact absurd H (by simp)
        · rw [if_neg c5] at H
          exact absurd H (by simp)
      · rw [if_neg c4] at H
        have c4b0 : decide (x12_1 < (l0_0.length : Int)) = false := decide_eq_false c4
        clear c4
        obtain rfl := Option.some.inj H
        have hcz61_0 : wr.cell? ⟨gb194, 0, none⟩ = some (.slice A0_0 l0_0.length c0_0) := (blk_cell BK194.out 0).trans rfl
        have hfz61_0 := blk_frozen BK194.out 0
        go_wp2
        repeat (go_quiet (fail); try go_wp2)
        go_ret
        exact ⟨by first | rfl | (simp [errW_none, errW_some] <;> rfl) | (simp [*, errW_none, errW_some] <;> rfl), by repeat (first | (with_reducible first | exact HB.out | apply below_alloc | apply pw_below_drewN | apply below_drew1 | refine below_set ?_ GE194.out) | exact HB.out)⟩

/-! ### impl_copyBook: function 56 -/
def impl_copyBook.f (l0_0 : List (S53)) : Option ((List (S53))) := (some (([] : List (S53)) : List (S53))).bind fun y201 => (if y201.length + l0_0.length < 3518437208883 then (some (y201 ++ l0_0)) else (none))
set_option maxHeartbeats 8000000 in
set_option maxRecDepth 100000 in
theorem impl_copyBook.calls (A0_0 : Option Addr) (c0_0 : Nat) (l0_0 : List (S53)) (r : List (S53)) (w : World) (hr0_0 : Kd.C k53 w A0_0 l0_0.length l0_0) (hc0_0 : l0_0.length ≤ c0_0) (h : impl_copyBook.f l0_0 = some r) :
    Calls Try.prog 56 #[.agg #[.slice A0_0 l0_0.length c0_0]] w fun e w' => ∃ v0_ : Value, e = .returned (.agg #[v0_]) ∧ Kd.R k53 53 w' w.heap.size (fun _ => True) v0_ r ∧ Below w.heap.size w w' := by
  have hu29 := Try.underlying29
  have HR0_0 := Aside0.mk hr0_0
  have HC0_0 := Aside0.mk hc0_0
  clear hr0_0 hc0_0
  have HB := Aside0.mk (Below.refl w.heap.size w)
  have H : ((some (([] : List (S53)) : List (S53))).bind fun y201 => (if y201.length + l0_0.length < 3518437208883 then (some (y201 ++ l0_0)) else (none))) = some r := h
  clear h
  obtain ⟨y201, hy201⟩ : ∃ y_ : List (S53), y_ = (([] : List (S53))) := ⟨_, rfl⟩
  replace H : (if y201.length + l0_0.length < 3518437208883 then (some (y201 ++ l0_0)) else (none)) = some r := by first | (rw [hy201]; with_reducible exact H) | (have H2_ := (Option.bind_some _ _).symm.trans H; rw [hy201]; with_reducible exact H2_) | (have H2_ := (Option.bind_some _ _).symm.trans H; with_reducible exact H2_) | with_reducible exact H | (rw [hy201]; exact H) | exact H
  have Ny201 := Aside0.mk hy201
  clear hy201
  by_cases c2 : y201.length + l0_0.length < 3518437208883
  · rw [if_pos c2] at H
    have LMc2 := Aside0.mk c2
    clear c2
    obtain ⟨y204, hy204⟩ : ∃ y_ : List (S53), y_ = (y201 ++ l0_0) := ⟨_, rfl⟩
    replace H : (some y204) = some r := by first | (rw [hy204]; with_reducible exact H) | (have H2_ := (Option.bind_some _ _).symm.trans H; rw [hy204]; with_reducible exact H2_) | (have H2_ := (Option.bind_some _ _).symm.trans H; with_reducible exact H2_) | with_reducible exact H | (rw [hy204]; exact H) | exact H
    have Ny204 := Aside0.mk hy204
    clear hy204
    obtain rfl := Option.some.inj H
    go_enter Try.func56, Try.ntmps56
    go_wp2_with (first | ((with_reducible refine gate_dst (N := 1) rfl ?_); refine box_event ?hg (N := 1) ?hd (cs := #[.slice A0_0 l0_0.length c0_0]) (t := 29) ?hr ?_; (case hd => rfl); (case hg => rfl); (case hr => first | (go_simp; done) | (go_simp; rfl)); intro gb199 hg w3 hbox hb; have n0_ := Aside0.mk (below_step u5_13 hb); have n1_ := Aside0.mk (hbox); have n2_ := Aside0.mk ((by rw [hg]; exact (below_size u5_13) : w.heap.size ≤ gb199)); have n3_ := Aside0.mk ((by rw [hg]; exact (below_size u5_13) : w.heap.size ≤ gb199)); clear HB; have HB := n0_; have BK199 := n1_; have GW199 := n2_; have GE199 := n3_; clear n0_ n1_ n2_ n3_; clear hb hbox hg) | ((with_reducible refine gate_dst (N := 2) rfl ?_); refine box_event ?hg (N := 2) ?hd (cs := #[.slice none 0 0]) (t := 29) ?hr ?_; (case hd => rfl); (case hg => rfl); (case hr => first | (go_simp; done) | (go_simp; rfl)); intro gb200 hg w4 hbox hb; have n0_ := Aside0.mk (blk_below (g := gb199) (o := .cells #[.slice A0_0 l0_0.length c0_0] 29 (0, 0)) u5_17 hb); have n1_ := Aside0.mk (below_step u5_18 hb); have n2_ := Aside0.mk (hbox); have n3_ := Aside0.mk ((by rw [hg]; exact (below_size u5_18) : w.heap.size ≤ gb200)); have n4_ := Aside0.mk ((by rw [hg]; exact (below_size u5_18) : w.heap.size ≤ gb200)); have n5_ := Aside0.mk ((by rw [hg]; exact Nat.ne_of_lt (blk_lt (g := gb199) (o := .cells #[.slice A0_0 l0_0.length c0_0] 29 (0, 0)) u5_17) : gb199 ≠ gb200)); have n6_ := Aside0.mk ((by rw [hg]; exact Nat.ne_of_gt (blk_lt (g := gb199) (o := .cells #[.slice A0_0 l0_0.length c0_0] 29 (0, 0)) u5_17) : gb200 ≠ gb199)); clear BK199; clear HB; have BK199 := n0_; have HB := n1_; have BK200 := n2_; have GW200 := n3_; have GE200 := n4_; have NB199_200 := n5_; have NB200_199 := n6_; clear n0_ n1_ n2_ n3_ n4_ n5_ n6_; clear hb hbox hg) | ((with_reducible refine gate_dst (N := 3) rfl ?_); refine Kd.R_lit k53 _ 53 ?hg (N := 3) ?hd (xs := ([] : List (S53))) (inner := []) (ok := fun _ => True) (okp := fun _ => True) ?hr ?hp (fun _ hk => hk) trivial (Below.refl _ _) (Nat.le_refl _) (by simp) ?_; (case hd => rfl); (case hg => rfl); (case hr => first | (go_simp; done) | (go_simp; rfl)); (case hp => exact (Reps.none _ _)); intro v202 w5 ho6 hb hg_ hnew_; clear hg_ hnew_; (first | rw [← Ny201.out] at ho6 | (simp only [Int.reduceToNat] at ho6; rw [← Ny201.out] at ho6)); have n0_ := Aside0.mk (Kd.R_lower ho6 (below_size u5_16)); have n1_ := Aside0.mk (blk_below (g := gb199) (o := .cells #[.slice A0_0 l0_0.length c0_0] 29 (0, 0)) u5_17 hb); have n2_ := Aside0.mk (blk_below (g := gb200) (o := .cells #[.slice none 0 0] 29 (0, 0)) u5_20 hb); have n3_ := Aside0.mk (below_step u5_16 hb); clear BK199; clear BK200; clear HB; have HO203 := n0_; have BK199 := n1_; have BK200 := n2_; have HB := n3_; clear n0_ n1_ n2_ n3_; clear hb ho6; have hnb7 := NB199_200.out; have hnc7 := NB200_199.out; have hcz8_0 : w5.cell? ⟨gb199, 0, none⟩ = some (.slice A0_0 l0_0.length c0_0) := (blk_cell BK199.out 0).trans rfl; have hfz8_0 := blk_frozen BK199.out 0) | ((with_reducible refine gate_builtin (b := .append) (xs := #[.tmp 3, .tmp 5]) rfl ?_); at_builtin; refine Kd.R_append_rows k53 (w0 := w) w.heap.size rfl (.tmp 3) (.tmp 5) 27 53 (.agg #[(.int .u64 0), (.int .u64 0), (.int .u64 0), (.int .u64 0), (.int .i64 0)]) 40 rfl Try.underlying27 info53 rfl (by decide) (by omega) v202 y201 l0_0 _ _ _ (fun _ => True) (fun _ => False) rfl rfl ?aO ?aR (fun _ _ h => h) (fun _ h => h.elim) ?aF ?aB ?aS ?aL ?_; (case aR => repeat (first | exact (Kd.C_below HR0_0.out HB.out) | (with_reducible refine Kd.C_alloc ?_ _) | (with_reducible refine Kd.C_drewN ?_ _) | (with_reducible refine Kd.C_drew ?_))); (case aB => exact u5_16); (case aF => exact (fun _ _ => trivial)); (case aO => exact (by (with_reducible repeat (first | apply Kd.R_alloc | apply Kd.R_drewN | apply Kd.R_drew)); exact HO203.out)); (case aS => exact (below_size u5_16)); (case aL => have := LMc2.out; omega); intro v205 w9 ho hb hg hat; rw [← Ny204.out] at ho; have n0_ := Aside0.mk (blk_grown (g := gb199) (o := .cells #[.slice A0_0 l0_0.length c0_0] 29 (0, 0)) u5_17 hg (Kd.R_ne HO203.out BK199.out (by decide))); have n1_ := Aside0.mk (blk_grown (g := gb200) (o := .cells #[.slice none 0 0] 29 (0, 0)) u5_20 hg (Kd.R_ne HO203.out BK200.out (by decide))); have n2_ := Aside0.mk (hb); have n3_ := Aside0.mk (ho); clear BK199; clear BK200; clear HB; clear HO203; have BK199 := n0_; have BK200 := n1_; have HB := n2_; have HO206 := n3_; clear n0_ n1_ n2_ n3_; clear ho hb hg hat; obtain ⟨Ao10, co10, eo10⟩ := Kd.R_slice HO206.out; subst eo10; have hcz11_0 : w9.cell? ⟨gb200, 0, none⟩ = some (.slice none 0 0) := (blk_cell BK200.out 0).trans rfl; have hfz11_0 := blk_frozen BK200.out 0))
    refine bodyPost_ret (results_cell_row rfl _ _ gb200 29 #[.slice Ao10 y204.length co10] (0, 0) _ rfl (by (with_reducible repeat (first | refine blk_drewN ?_ _ | refine blk_drew ?_ | refine blk_alloc ?_ _)); refine blk_put (cs := #[.slice none 0 0]) ?_ 0 _ rfl; (with_reducible repeat (first | refine blk_drewN ?_ _ | refine blk_drew ?_ | refine blk_alloc ?_ _)); exact BK200.out) Try.underlying29 rfl (by kernel_rfl)) rfl ?_
    exact ⟨_, by first | rfl | (simp [errW_none, errW_some] <;> rfl) | (simp [*, errW_none, errW_some] <;> rfl), by (with_reducible repeat (first | apply Kd.R_alloc | apply Kd.R_drewN | apply Kd.R_drew)); exact Kd.R_mono (Kd.R_far (p := ⟨gb200, 0, none⟩) (Kd.R_types HO206.out BK200.out (by decide)) (fun _ hk => hk.2) (.slice Ao10 y204.length co10)) (fun _ hk => trivial), by repeat (first | (with_reducible first | exact HB.out | apply below_alloc | apply pw_below_drewN | apply below_drew1 | refine below_set ?_ GE199.out | refine below_set ?_ GE200.out) | exact HB.out)⟩
  · rw [if_neg c2] at H
    exact absurd H (by simp)

/-! ### impl_accountOf: function 57 -/
def impl_accountOf.l0 : Nat → Int → Int → List (S53) → Option (Int × Bool)
  | 0, _, _, _ => none
  | k + 1, x1, x6, x208000 => if x6 < (x208000.length : Int) then (if 0 ≤ x6 then (if ((rd_T53 x208000 x6).f0) < x1 then (impl_accountOf.l0 k x1 (wrap64 (x6 + 1)) x208000) else (some (x6, (((rd_T53 x208000 x6).f0) == x1)))) else (none)) else (some (x6, false))
def impl_accountOf.f (k : Nat) (l0_0 : List (S53)) (a1 : Int) : Option (Int × Bool) := impl_accountOf.l0 k a1 0 l0_0
theorem impl_accountOf.mono_l : ∀ k, (∀ y0 y1 y2, LeO (impl_accountOf.l0 k y0 y1 y2) (impl_accountOf.l0 (k + 1) y0 y1 y2))
  | 0 => fun _ _ _ r h => by simp [impl_accountOf.l0] at h
  | k + 1 => by
    have ih0 := impl_accountOf.mono_l k
    · intro y0 y1 y2
      unfold impl_accountOf.l0
      repeat' first
      | (with_reducible exact ih0 _ _ _)
      | (with_reducible exact LeO.refl _)
      | (with_reducible exact LeO.none _)
      | (with_reducible refine LeO.ite ?_ ?_)
      | (with_reducible refine LeO.bind ?_ (fun _ => ?_))
      | exact ih0 _ _ _
      | exact LeO.none _
      | refine LeO.ite ?_ ?_
      | refine LeO.bind ?_ (fun _ => ?_)
theorem impl_accountOf.mono : ∀ a0 a1 k, LeO (impl_accountOf.f k a0 a1) (impl_accountOf.f (k + 1) a0 a1) := by
  intro a0 a1 k
  have ih0 := impl_accountOf.mono_l k
  unfold impl_accountOf.f
  repeat' first
      | (with_reducible exact ih0 _ _ _)
      | (with_reducible exact LeO.refl _)
      | (with_reducible exact LeO.none _)
      | (with_reducible refine LeO.ite ?_ ?_)
      | (with_reducible refine LeO.bind ?_ (fun _ => ?_))
      | exact ih0 _ _ _
      | exact LeO.none _
      | refine LeO.ite ?_ ?_
      | refine LeO.bind ?_ (fun _ => ?_)
set_option maxHeartbeats 8000000 in
set_option maxRecDepth 100000 in
theorem impl_accountOf.calls (k : Nat) (A0_0 : Option Addr) (c0_0 : Nat) (l0_0 : List (S53)) (a1 : Int) (r1 : Int) (r2 : Bool) (w : World) (hr0_0 : Kd.C k53 w A0_0 l0_0.length l0_0) (hc0_0 : l0_0.length ≤ c0_0) (h : impl_accountOf.f k l0_0 a1 = some (r1, r2)) :
    Calls Try.prog 57 #[.agg #[.slice A0_0 l0_0.length c0_0], .int .u64 a1] w fun e w' => e = .returned (.tuple #[.int .i64 r1, .bool r2]) ∧ Below w.heap.size w w' := by
  have hu29 := Try.underlying29
  have HR0_0 := Aside0.mk hr0_0
  have HC0_0 := Aside0.mk hc0_0
  clear hr0_0 hc0_0
  have HB := Aside0.mk (Below.refl w.heap.size w)
  have H : (impl_accountOf.l0 k a1 0 l0_0) = some (r1, r2) := h
  clear h
  have H' := Aside0.mk H
  clear H
  go_enter Try.func57, Try.ntmps57
  go_wp2_with (first | (first | ((with_reducible refine gate_dst (N := 2) rfl ?_); refine box_event ?hg (N := 2) ?hd (cs := #[.slice A0_0 l0_0.length c0_0]) (t := 29) ?hr ?_; (case hd => rfl); (case hg => rfl); (case hr => first | (go_simp; done) | (go_simp; rfl)); intro gb207 hg w3 hbox hb; have n0_ := Aside0.mk (below_step u5_13 hb); have n1_ := Aside0.mk (hbox); have n2_ := Aside0.mk ((by rw [hg]; exact (below_size u5_13) : w.heap.size ≤ gb207)); have n3_ := Aside0.mk ((by rw [hg]; exact (below_size u5_13) : w.heap.size ≤ gb207)); clear HB; have HB := n0_; have BK207 := n1_; have GW207 := n2_; have GE207 := n3_; clear n0_ n1_ n2_ n3_; clear hb hbox hg)) | go_quiet (fail))
  go_loopg [6] k (fun kq v6 w' => ∃ (x6_1 : Int), v6 = .int .i64 x6_1 ∧ Aside0 (impl_accountOf.l0 kq a1 x6_1 l0_0 = some (r1, r2)) ∧ Aside0 (kq ≤ k) ∧ Aside0 (w'.heap[gb207]? = some (.cells #[(.slice A0_0 l0_0.length c0_0)] 29 (0, 0))) ∧ Aside0 (Below w.heap.size w w'))
  case atStart => exact ⟨(0), u5_19, H', ⟨Nat.le_refl _⟩, ⟨by (with_reducible repeat (first | refine blk_drewN ?_ _ | refine blk_drew ?_ | refine blk_alloc ?_ _)); exact BK207.out⟩, ⟨by repeat (first | (with_reducible first | exact HB.out | apply below_alloc | apply pw_below_drewN | apply below_drew1 | refine below_set ?_ GE207.out) | exact HB.out)⟩⟩
  case round =>
    clear H'
    try clear p2
    obtain ⟨x6_1, rfl, HA, HK1, BK207, HB⟩ := hrel
    cases gk with
    | zero => exact absurd HA.out (by simp [impl_accountOf.l0])
    | succ k1 =>
      have H := HA.out
      clear HA
      simp only [impl_accountOf.l0] at H
      by_cases c4 : x6_1 < (l0_0.length : Int)
      · rw [if_pos c4] at H
        have c4b0 : decide (x6_1 < (l0_0.length : Int)) = true := decide_eq_true c4
        clear c4
        by_cases c5 : 0 ≤ x6_1
        · rw [if_pos c5] at H
          have c5b0 : decide (0 ≤ x6_1) = true := decide_eq_true c5
          clear c5
          by_cases c6 : ((rd_T53 l0_0 x6_1).f0) < a1
          · rw [if_pos c6] at H
            have c6b0 : decide (((rd_T53 l0_0 x6_1).f0) < a1) = true := decide_eq_true c6
            clear c6
            have H' := Aside0.mk H
            clear H
            have hcz7_0 : wr.cell? ⟨gb207, 0, none⟩ = some (.slice A0_0 l0_0.length c0_0) := (blk_cell BK207.out 0).trans rfl
            have hfz7_0 := blk_frozen BK207.out 0
            have p208 : 0 ≤ (x6_1 : Int) := of_decide_eq_true u5_2
            have q208 : x6_1 < (l0_0.length : Int) := of_decide_eq_true u5_2
            obtain ⟨ad208, e208, hx208_0, hx208_1, hx208_2, hx208_3, hx208_4⟩ := at_T53 HR0_0.out x6_1 p208 q208
            cases e208
            replace hx208_0 := (HB.out.cell (World.block_lt_of_cell? w _ hx208_0)).trans hx208_0
            replace hx208_1 := (HB.out.cell (World.block_lt_of_cell? w _ hx208_1)).trans hx208_1
            replace hx208_2 := (HB.out.cell (World.block_lt_of_cell? w _ hx208_2)).trans hx208_2
            replace hx208_3 := (HB.out.cell (World.block_lt_of_cell? w _ hx208_3)).trans hx208_3
            replace hx208_4 := (HB.out.cell (World.block_lt_of_cell? w _ hx208_4)).trans hx208_4
            replace p208 := eq_true p208
            replace q208 := eq_true q208
            go_wp2
            repeat (go_quiet (fail); try go_wp2)
            go_roundg k1
            case measure => have := HK1.out; omega
            case rel => exact ⟨(wrap64 (x6_1 + 1)), u5_19, H', ⟨by have := HK1.out; omega⟩, ⟨by (with_reducible repeat (first | refine blk_drewN ?_ _ | refine blk_drew ?_ | refine blk_alloc ?_ _)); exact BK207.out⟩, ⟨by repeat (first | (with_reducible first | exact HB.out | apply below_alloc | apply pw_below_drewN | apply below_drew1 | refine below_set ?_ GE207.out) | exact HB.out)⟩⟩
          · rw [if_neg c6] at H
            have c6b0 : decide (((rd_T53 l0_0 x6_1).f0) < a1) = false := decide_eq_false c6
            clear c6
            simp only [Option.some.injEq, Prod.mk.injEq] at H
            obtain ⟨rfl, rfl⟩ := H
            have hcz8_0 : wr.cell? ⟨gb207, 0, none⟩ = some (.slice A0_0 l0_0.length c0_0) := (blk_cell BK207.out 0).trans rfl
            have hfz8_0 := blk_frozen BK207.out 0
            have p208 : 0 ≤ (x6_1 : Int) := of_decide_eq_true u5_2
            have q208 : x6_1 < (l0_0.length : Int) := of_decide_eq_true u5_2
            obtain ⟨ad208, e208, hx208_0, hx208_1, hx208_2, hx208_3, hx208_4⟩ := at_T53 HR0_0.out x6_1 p208 q208
            cases e208
            replace hx208_0 := (HB.out.cell (World.block_lt_of_cell? w _ hx208_0)).trans hx208_0
            replace hx208_1 := (HB.out.cell (World.block_lt_of_cell? w _ hx208_1)).trans hx208_1
            replace hx208_2 := (HB.out.cell (World.block_lt_of_cell? w _ hx208_2)).trans hx208_2
            replace hx208_3 := (HB.out.cell (World.block_lt_of_cell? w _ hx208_3)).trans hx208_3
            replace hx208_4 := (HB.out.cell (World.block_lt_of_cell? w _ hx208_4)).trans hx208_4
            replace p208 := eq_true p208
            replace q208 := eq_true q208
            have p209 : 0 ≤ (x6_1 : Int) := of_decide_eq_true u5_2
            have q209 : x6_1 < (l0_0.length : Int) := of_decide_eq_true u5_2
            obtain ⟨ad209, e209, hx209_0, hx209_1, hx209_2, hx209_3, hx209_4⟩ := at_T53 HR0_0.out x6_1 p209 q209
            obtain rfl : ad208 = ad209 := (by injection e209)
            replace hx209_0 := (HB.out.cell (World.block_lt_of_cell? w _ hx209_0)).trans hx209_0
            replace hx209_1 := (HB.out.cell (World.block_lt_of_cell? w _ hx209_1)).trans hx209_1
            replace hx209_2 := (HB.out.cell (World.block_lt_of_cell? w _ hx209_2)).trans hx209_2
            replace hx209_3 := (HB.out.cell (World.block_lt_of_cell? w _ hx209_3)).trans hx209_3
            replace hx209_4 := (HB.out.cell (World.block_lt_of_cell? w _ hx209_4)).trans hx209_4
            replace p209 := eq_true p209
            replace q209 := eq_true q209
            go_wp2
            repeat (go_quiet (fail); try go_wp2)
            go_ret2
            exact ⟨by first | rfl | (simp [errW_none, errW_some] <;> rfl) | (simp [*, errW_none, errW_some] <;> rfl), by repeat (first | (with_reducible first | exact HB.out | apply below_alloc | apply pw_below_drewN | apply below_drew1 | refine below_set ?_ GE207.out) | exact HB.out)⟩
        · rw [if_neg c5] at H
          exact absurd H (by simp)
      · rw [if_neg c4] at H
        have c4b0 : decide (x6_1 < (l0_0.length : Int)) = false := decide_eq_false c4
        clear c4
        simp only [Option.some.injEq, Prod.mk.injEq] at H
        obtain ⟨rfl, rfl⟩ := H
        have hcz9_0 : wr.cell? ⟨gb207, 0, none⟩ = some (.slice A0_0 l0_0.length c0_0) := (blk_cell BK207.out 0).trans rfl
        have hfz9_0 := blk_frozen BK207.out 0
        go_wp2
        repeat (go_quiet (fail); try go_wp2)
        go_ret2
        exact ⟨by first | rfl | (simp [errW_none, errW_some] <;> rfl) | (simp [*, errW_none, errW_some] <;> rfl), by repeat (first | (with_reducible first | exact HB.out | apply below_alloc | apply pw_below_drewN | apply below_drew1 | refine below_set ?_ GE207.out) | exact HB.out)⟩

end Go.Proofs.Ytdbfjakhkclggaa.QFnExactMoveMoney
