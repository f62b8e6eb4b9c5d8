-- Printed by the session's own program wip/prx.py.
import Derived.Test.YtdbfjakhkclggaaQFnExactLockDebitx0
namespace Go.Proofs.Ytdbfjakhkclggaa.QFnExactLockDebit
open Go.RowKit Go.Proofs.YtdbfjakhkclggaaW.PrintWords Go.Proofs.YtdbfjakhkclggaaW.PrintLast Go.Proofs.YtdbfjakhkclggaaW.PrintMore
attribute [local go_sem] max2_int min2_int max_two min_two max_three min_three max_four min_four Go.Proofs.Ytdbfjakhkclggaa.Set.isSome_setCell Go.Proofs.Ytdbfjakhkclggaa.Add.add64   -- for this text's walks alone
set_option linter.unusedVariables false
set_option linter.unusedSimpArgs false

-- squeezed
theorem u3_0 {P : Prop} (h : P := by first | (rw [add_block]; exact hn148_0) | (show (Addr.add _ _).block ≠ _; rw [add_block]; exact hn148_0) | exact hn148_0) : P := h
theorem u3_1 {P : Prop} (h : P := by first | (rw [add_block]; exact hn148_1) | (show (Addr.add _ _).block ≠ _; rw [add_block]; exact hn148_1) | exact hn148_1) : P := h
theorem u3_2 {P : Prop} (h : P := by first | (rw [add_block]; exact hn148_2) | (show (Addr.add _ _).block ≠ _; rw [add_block]; exact hn148_2) | exact hn148_2) : P := h
theorem u3_3 {P : Prop} (h : P := by first | (rw [add_block]; exact hn148_3) | (show (Addr.add _ _).block ≠ _; rw [add_block]; exact hn148_3) | exact hn148_3) : P := h
theorem u3_4 {P : Prop} (h : P := by first | (rw [add_block]; exact hn148_4) | (show (Addr.add _ _).block ≠ _; rw [add_block]; exact hn148_4) | exact hn148_4) : P := h
theorem u3_5 {P : Prop} (h : P := by have := World.block_lt_of_cell? _ _ hx148_0; first | rwa [add_block] at this | exact this) : P := h
theorem u3_6 {P : Prop} (h : P := by repeat (first | (with_reducible first | exact HB.out | apply below_alloc | apply pw_below_drewN | apply below_drew1 | refine below_set ?_ GE145.out) | exact HB.out)) : P := h
theorem u3_7 {P : Prop} (h : P := by (with_reducible repeat (first | refine blk_drewN ?_ _ | refine blk_drew ?_ | refine blk_alloc ?_ _)); exact BK145.out) : P := h
theorem u3_8 {P : Prop} (h : P := by repeat (first | (with_reducible first | exact HB.out | apply below_alloc | apply pw_below_drewN | apply below_drew1) | exact HB.out)) : P := h
theorem u3_9 {P : Prop} (h : P := by first | (with_reducible assumption) | assumption) : P := h
theorem u3_10 {P : Prop} (h : P := by first | rfl | (simp; done) | (simp [*]; done)) : P := h
/-! ### spec_BookOk: function 18 -/
mutual
def spec_BookOk.l0 : Nat → Int → List (S53) → Option (Bool)
  | 0, _, _ => none
  | k + 1, x3, x146000 => if x3 < (x146000.length : Int) then (if 0 ≤ x3 then (if x3 > 0 then (if 0 ≤ (wrap64 (x3 - 1)) then (if (wrap64 (x3 - 1)) < (x146000.length : Int) then (if ((rd_T53 x146000 (wrap64 (x3 - 1))).f0) ≥ ((rd_T53 x146000 x3).f0) then (spec_BookOk.j1 k x3 true x146000 ((rd_T53 x146000 x3).f0) ((rd_T53 x146000 x3).f1) ((rd_T53 x146000 x3).f2) ((rd_T53 x146000 x3).f3) ((rd_T53 x146000 x3).f4)) else (if ((rd_T53 x146000 x3).f4) < 0 then (spec_BookOk.j1 k x3 true x146000 ((rd_T53 x146000 x3).f0) ((rd_T53 x146000 x3).f1) ((rd_T53 x146000 x3).f2) ((rd_T53 x146000 x3).f3) ((rd_T53 x146000 x3).f4)) else (if ((rd_T53 x146000 x3).f4) = 0 then (if ((rd_T53 x146000 x3).f2) = 0 then (spec_BookOk.j1 k x3 (((rd_T53 x146000 x3).f3) != 0) x146000 ((rd_T53 x146000 x3).f0) ((rd_T53 x146000 x3).f1) ((rd_T53 x146000 x3).f2) ((rd_T53 x146000 x3).f3) ((rd_T53 x146000 x3).f4)) else (spec_BookOk.j1 k x3 true x146000 ((rd_T53 x146000 x3).f0) ((rd_T53 x146000 x3).f1) ((rd_T53 x146000 x3).f2) ((rd_T53 x146000 x3).f3) ((rd_T53 x146000 x3).f4))) else (spec_BookOk.j1 k x3 false x146000 ((rd_T53 x146000 x3).f0) ((rd_T53 x146000 x3).f1) ((rd_T53 x146000 x3).f2) ((rd_T53 x146000 x3).f3) ((rd_T53 x146000 x3).f4))))) else (none)) else (none)) else (if ((rd_T53 x146000 x3).f4) < 0 then (spec_BookOk.j1 k x3 true x146000 ((rd_T53 x146000 x3).f0) ((rd_T53 x146000 x3).f1) ((rd_T53 x146000 x3).f2) ((rd_T53 x146000 x3).f3) ((rd_T53 x146000 x3).f4)) else (if ((rd_T53 x146000 x3).f4) = 0 then (if ((rd_T53 x146000 x3).f2) = 0 then (spec_BookOk.j1 k x3 (((rd_T53 x146000 x3).f3) != 0) x146000 ((rd_T53 x146000 x3).f0) ((rd_T53 x146000 x3).f1) ((rd_T53 x146000 x3).f2) ((rd_T53 x146000 x3).f3) ((rd_T53 x146000 x3).f4)) else (spec_BookOk.j1 k x3 true x146000 ((rd_T53 x146000 x3).f0) ((rd_T53 x146000 x3).f1) ((rd_T53 x146000 x3).f2) ((rd_T53 x146000 x3).f3) ((rd_T53 x146000 x3).f4))) else (spec_BookOk.j1 k x3 false x146000 ((rd_T53 x146000 x3).f0) ((rd_T53 x146000 x3).f1) ((rd_T53 x146000 x3).f2) ((rd_T53 x146000 x3).f3) ((rd_T53 x146000 x3).f4))))) else (none)) else (some true)
def spec_BookOk.j1 : Nat → Int → Bool → List (S53) → Int → Int → Int → Int → Int → Option (Bool)
  | 0, _, _, _, _, _, _, _, _ => none
  | k + 1, x3, x54, x146000, x148000, x148001, x148002, x148003, x148004 => if x54 = true then (some false) else (if x148002 > (IntKind.u64.wrap (18446744073709551615 - x148001)) then (some false) else (if x148003 > (IntKind.u64.wrap ((IntKind.u64.wrap (18446744073709551615 - x148001)) - x148002)) then (some false) else (spec_BookOk.l0 k (wrap64 (x3 + 1)) x146000)))
end
def spec_BookOk.f (k : Nat) (l0_0 : List (S53)) : Option (Bool) := if (l0_0.length : Int) > 40 then (some false) else (spec_BookOk.l0 k 0 l0_0)
theorem spec_BookOk.mono_l : ∀ k, (∀ y0 y1, LeO (spec_BookOk.l0 k y0 y1) (spec_BookOk.l0 (k + 1) y0 y1)) ∧ (∀ y0 y1 y2 y3 y4 y5 y6 y7, LeO (spec_BookOk.j1 k y0 y1 y2 y3 y4 y5 y6 y7) (spec_BookOk.j1 (k + 1) y0 y1 y2 y3 y4 y5 y6 y7))
  | 0 => ⟨fun _ _ r h => by simp [spec_BookOk.l0] at h, fun _ _ _ _ _ _ _ _ r h => by simp [spec_BookOk.j1] at h⟩
  | k + 1 => by
    obtain ⟨ih0, ih1⟩ := spec_BookOk.mono_l k
    refine ⟨?_, ?_⟩
    · intro y0 y1
      unfold spec_BookOk.l0
      repeat' first
      | (with_reducible exact ih0 _ _)
      | (with_reducible exact ih1 _ _ _ _ _ _ _ _)
      | (with_reducible exact LeO.refl _)
      | (with_reducible exact LeO.none _)
      | (with_reducible refine LeO.ite ?_ ?_)
      | (with_reducible refine LeO.bind ?_ (fun _ => ?_))
      | exact ih0 _ _
      | exact ih1 _ _ _ _ _ _ _ _
      | exact LeO.none _
      | refine LeO.ite ?_ ?_
      | refine LeO.bind ?_ (fun _ => ?_)
    · intro y0 y1 y2 y3 y4 y5 y6 y7
      unfold spec_BookOk.j1
      repeat' first
      | (with_reducible exact ih0 _ _)
      | (with_reducible exact ih1 _ _ _ _ _ _ _ _)
      | (with_reducible exact LeO.refl _)
      | (with_reducible exact LeO.none _)
      | (with_reducible refine LeO.ite ?_ ?_)
      | (with_reducible refine LeO.bind ?_ (fun _ => ?_))
      | exact ih0 _ _
      | exact ih1 _ _ _ _ _ _ _ _
      | exact LeO.none _
      | refine LeO.ite ?_ ?_
      | refine LeO.bind ?_ (fun _ => ?_)
theorem spec_BookOk.mono : ∀ a0 k, LeO (spec_BookOk.f k a0) (spec_BookOk.f (k + 1) a0) := by
  intro a0 k
  obtain ⟨ih0, ih1⟩ := spec_BookOk.mono_l k
  unfold spec_BookOk.f
  repeat' first
      | (with_reducible exact ih0 _ _)
      | (with_reducible exact ih1 _ _ _ _ _ _ _ _)
      | (with_reducible exact LeO.refl _)
      | (with_reducible exact LeO.none _)
      | (with_reducible refine LeO.ite ?_ ?_)
      | (with_reducible refine LeO.bind ?_ (fun _ => ?_))
      | exact ih0 _ _
      | exact ih1 _ _ _ _ _ _ _ _
      | exact LeO.none _
      | refine LeO.ite ?_ ?_
      | refine LeO.bind ?_ (fun _ => ?_)
set_option maxHeartbeats 8000000 in
set_option maxRecDepth 100000 in
theorem spec_BookOk.calls (k : Nat) (A0_0 : Option Addr) (c0_0 : Nat) (l0_0 : List (S53)) (r : Bool) (w : World) (hr0_0 : Kd.C k53 w A0_0 l0_0.length l0_0) (hc0_0 : l0_0.length ≤ c0_0) (h : spec_BookOk.f k l0_0 = some r) :
    Calls Try.prog 18 #[.agg #[.slice A0_0 l0_0.length c0_0]] w fun e w' => e = .returned (.bool r) ∧ Below w.heap.size w w' := by
  have hu29 := Try.underlying29
  have hu53 := Try.underlying53
  have HR0_0 := Aside0.mk hr0_0
  have HC0_0 := Aside0.mk hc0_0
  clear hr0_0 hc0_0
  have HB := Aside0.mk (Below.refl w.heap.size w)
  have H : (if (l0_0.length : Int) > 40 then (some false) else (spec_BookOk.l0 k 0 l0_0)) = some r := h
  clear h
  by_cases c2 : (l0_0.length : Int) > 40
  · rw [if_pos c2] at H
    have c2b0 : decide (40 < (l0_0.length : Int)) = true := decide_eq_true c2
    have c2b1 : decide (40 < l0_0.length) = true := decide_eq_true (by omega)
    clear c2
    obtain rfl := Option.some.inj H
    go_enter Try.func18, Try.ntmps18
    go_wp2_with (first | (first | ((with_reducible refine gate_dst (N := 1) rfl ?_); refine box_event ?hg (N := 1) ?hd (cs := #[.slice A0_0 l0_0.length c0_0]) (t := 29) ?hr ?_; (case hd => rfl); (case hg => rfl); (case hr => first | (go_simp; done) | (go_simp; rfl)); intro gb145 hg w3 hbox hb; have n0_ := Aside0.mk (below_step u3_8 hb); have n1_ := Aside0.mk (hbox); have n2_ := Aside0.mk ((by rw [hg]; exact (below_size u3_8) : w.heap.size ≤ gb145)); have n3_ := Aside0.mk ((by rw [hg]; exact (below_size u3_8) : w.heap.size ≤ gb145)); clear HB; have HB := n0_; have BK145 := n1_; have GW145 := n2_; have GE145 := n3_; clear n0_ n1_ n2_ n3_; clear hb hbox hg; have hcz4_0 : w3.cell? ⟨gb145, 0, none⟩ = some (.slice A0_0 l0_0.length c0_0) := (blk_cell BK145.out 0).trans rfl; have hfz4_0 := blk_frozen BK145.out 0)) | go_quiet (fail))
    go_ret
    exact ⟨by first | rfl | (simp [errW_none, errW_some] <;> rfl) | (simp [*, errW_none, errW_some] <;> rfl), by repeat (first | (with_reducible first | exact HB.out | apply below_alloc | apply pw_below_drewN | apply below_drew1 | refine below_set ?_ GE145.out) | exact HB.out)⟩
  · rw [if_neg c2] at H
    have c2b0 : decide (40 < (l0_0.length : Int)) = false := decide_eq_false c2
    have c2b1 : decide (40 < l0_0.length) = false := decide_eq_false (by omega)
    clear c2
    have H' := Aside0.mk H
    clear H
    go_enter Try.func18, Try.ntmps18
    go_wp2_with (first | (first | ((with_reducible refine gate_dst (N := 1) rfl ?_); refine box_event ?hg (N := 1) ?hd (cs := #[.slice A0_0 l0_0.length c0_0]) (t := 29) ?hr ?_; (case hd => rfl); (case hg => rfl); (case hr => first | (go_simp; done) | (go_simp; rfl)); intro gb145 hg w5 hbox hb; have n0_ := Aside0.mk (below_step u3_8 hb); have n1_ := Aside0.mk (hbox); have n2_ := Aside0.mk ((by rw [hg]; exact (below_size u3_8) : w.heap.size ≤ gb145)); have n3_ := Aside0.mk ((by rw [hg]; exact (below_size u3_8) : w.heap.size ≤ gb145)); clear HB; have HB := n0_; have BK145 := n1_; have GW145 := n2_; have GE145 := n3_; clear n0_ n1_ n2_ n3_; clear hb hbox hg; have hcz6_0 : w5.cell? ⟨gb145, 0, none⟩ = some (.slice A0_0 l0_0.length c0_0) := (blk_cell BK145.out 0).trans rfl; have hfz6_0 := blk_frozen BK145.out 0)) | go_quiet (fail))
    go_loopg [3] k (fun kq v3 w' => ∃ (x3_1 : Int), v3 = .int .i64 x3_1 ∧ Aside0 (spec_BookOk.l0 kq x3_1 l0_0 = some r) ∧ Aside0 (kq ≤ k) ∧ Aside0 (w'.heap[gb145]? = some (.cells #[(.slice A0_0 l0_0.length c0_0)] 29 (0, 0))) ∧ Aside0 (Below w.heap.size w w'))
    case atStart => exact ⟨(0), u3_10, H', ⟨Nat.le_refl _⟩, ⟨by (with_reducible repeat (first | refine blk_drewN ?_ _ | refine blk_drew ?_ | refine blk_alloc ?_ _)); exact BK145.out⟩, ⟨by repeat (first | (with_reducible first | exact HB.out | apply below_alloc | apply pw_below_drewN | apply below_drew1 | refine below_set ?_ GE145.out) | exact HB.out)⟩⟩
    case round =>
      clear H'
      try clear c1
      try clear c2
      try clear c2b0
      try clear c2b1
      try clear p2
      try clear hcz4_0
      try clear hcz6_0
      try clear hfz4_0
      try clear hfz6_0
      obtain ⟨x3_1, rfl, HA, HK1, BK145, HB⟩ := hrel
      cases gk with
      | zero => exact absurd HA.out (by simp [spec_BookOk.l0])
      | succ k1 =>
        have H := HA.out
        clear HA
        simp only [spec_BookOk.l0] at H
        by_cases c7 : x3_1 < (l0_0.length : Int)
        · rw [if_pos c7] at H
          have c7b0 : decide (x3_1 < (l0_0.length : Int)) = true := decide_eq_true c7
          clear c7
          by_cases c8 : 0 ≤ x3_1
          · rw [if_pos c8] at H
            have c8b0 : decide (0 ≤ x3_1) = true := decide_eq_true c8
            clear c8
            have HC9 := Aside0.mk H
            clear H
            have hcz10_0 : wr.cell? ⟨gb145, 0, none⟩ = some (.slice A0_0 l0_0.length c0_0) := (blk_cell BK145.out 0).trans rfl
            have hfz10_0 := blk_frozen BK145.out 0
            have p146 : 0 ≤ (x3_1 : Int) := of_decide_eq_true u3_9
            have q146 : x3_1 < (l0_0.length : Int) := of_decide_eq_true u3_9
            obtain ⟨ad146, e146, hx146_0, hx146_1, hx146_2, hx146_3, hx146_4⟩ := at_T53 HR0_0.out x3_1 p146 q146
            cases e146
            replace hx146_0 := (HB.out.cell (World.block_lt_of_cell? w _ hx146_0)).trans hx146_0
            replace hx146_1 := (HB.out.cell (World.block_lt_of_cell? w _ hx146_1)).trans hx146_1
            replace hx146_2 := (HB.out.cell (World.block_lt_of_cell? w _ hx146_2)).trans hx146_2
            replace hx146_3 := (HB.out.cell (World.block_lt_of_cell? w _ hx146_3)).trans hx146_3
            replace hx146_4 := (HB.out.cell (World.block_lt_of_cell? w _ hx146_4)).trans hx146_4
            replace p146 := eq_true p146
            replace q146 := eq_true q146
            go_upto_region 7 with (first | ((with_reducible refine gate_dst (N := 4) rfl ?_); refine box_event ?hg (N := 4) ?hd (cs := #[.int .u64 0, .int .u64 0, .int .u64 0, .int .u64 0, .int .i64 0]) (t := 53) ?hr ?_; (case hd => rfl); (case hg => rfl); (case hr => first | (go_simp; done) | (go_simp; rfl)); intro gb147 hg w11 hbox hb; have n0_ := Aside0.mk (blk_below (g := gb145) (o := .cells #[.slice (some ad146) l0_0.length c0_0] 29 (0, 0)) u3_7 hb); have n1_ := Aside0.mk (below_step u3_6 hb); have n2_ := Aside0.mk (hbox); have n3_ := Aside0.mk ((by rw [hg]; exact (below_size u3_6) : w.heap.size ≤ gb147)); have n4_ := Aside0.mk ((by rw [hg]; exact (below_size u3_6) : w.heap.size ≤ gb147)); have n5_ := Aside0.mk ((by rw [hg]; exact Nat.ne_of_lt (blk_lt (g := gb145) (o := .cells #[.slice (some ad146) l0_0.length c0_0] 29 (0, 0)) u3_7) : gb145 ≠ gb147)); have n6_ := Aside0.mk ((by rw [hg]; exact Nat.ne_of_gt (blk_lt (g := gb145) (o := .cells #[.slice (some ad146) l0_0.length c0_0] 29 (0, 0)) u3_7) : gb147 ≠ gb145)); clear BK145; clear HB; have BK145 := n0_; have HB := n1_; have BK147 := n2_; have GW147 := n3_; have GE147 := n4_; have NB145_147 := n5_; have NB147_145 := n6_; clear n0_ n1_ n2_ n3_ n4_ n5_ n6_; clear hb hbox hg; have hnb12 := NB147_145.out; have hnc12 := NB145_147.out; have hcz13_0 : w11.cell? ⟨gb147, 0, none⟩ = some (.int .u64 0) := (blk_cell BK147.out 0).trans rfl; have hcz13_1 : w11.cell? ⟨gb147, 1, none⟩ = some (.int .u64 0) := (blk_cell BK147.out 1).trans rfl; have hcz13_2 : w11.cell? ⟨gb147, 2, none⟩ = some (.int .u64 0) := (blk_cell BK147.out 2).trans rfl; have hcz13_3 : w11.cell? ⟨gb147, 3, none⟩ = some (.int .u64 0) := (blk_cell BK147.out 3).trans rfl; have hcz13_4 : w11.cell? ⟨gb147, 4, none⟩ = some (.int .i64 0) := (blk_cell BK147.out 4).trans rfl; have hfz13_0 := blk_frozen BK147.out 0; have hfz13_1 := blk_frozen BK147.out 1; have hfz13_2 := blk_frozen BK147.out 2; have hfz13_3 := blk_frozen BK147.out 3; have hfz13_4 := blk_frozen BK147.out 4))
            repeat (go_quiet (first | ((with_reducible refine gate_dst (N := 4) rfl ?_); refine box_event ?hg (N := 4) ?hd (cs := #[.int .u64 0, .int .u64 0, .int .u64 0, .int .u64 0, .int .i64 0]) (t := 53) ?hr ?_; (case hd => rfl); (case hg => rfl); (case hr => first | (go_simp; done) | (go_simp; rfl)); intro gb147 hg w11 hbox hb; have n0_ := Aside0.mk (blk_below (g := gb145) (o := .cells #[.slice (some ad146) l0_0.length c0_0] 29 (0, 0)) u3_7 hb); have n1_ := Aside0.mk (below_step u3_6 hb); have n2_ := Aside0.mk (hbox); have n3_ := Aside0.mk ((by rw [hg]; exact (below_size u3_6) : w.heap.size ≤ gb147)); have n4_ := Aside0.mk ((by rw [hg]; exact (below_size u3_6) : w.heap.size ≤ gb147)); have n5_ := Aside0.mk ((by rw [hg]; exact Nat.ne_of_lt (blk_lt (g := gb145) (o := .cells #[.slice (some ad146) l0_0.length c0_0] 29 (0, 0)) u3_7) : gb145 ≠ gb147)); have n6_ := Aside0.mk ((by rw [hg]; exact Nat.ne_of_gt (blk_lt (g := gb145) (o := .cells #[.slice (some ad146) l0_0.length c0_0] 29 (0, 0)) u3_7) : gb147 ≠ gb145)); clear BK145; clear HB; have BK145 := n0_; have HB := n1_; have BK147 := n2_; have GW147 := n3_; have GE147 := n4_; have NB145_147 := n5_; have NB147_145 := n6_; clear n0_ n1_ n2_ n3_ n4_ n5_ n6_; clear hb hbox hg; have hnb12 := NB147_145.out; have hnc12 := NB145_147.out; have hcz13_0 : w11.cell? ⟨gb147, 0, none⟩ = some (.int .u64 0) := (blk_cell BK147.out 0).trans rfl; have hcz13_1 : w11.cell? ⟨gb147, 1, none⟩ = some (.int .u64 0) := (blk_cell BK147.out 1).trans rfl; have hcz13_2 : w11.cell? ⟨gb147, 2, none⟩ = some (.int .u64 0) := (blk_cell BK147.out 2).trans rfl; have hcz13_3 : w11.cell? ⟨gb147, 3, none⟩ = some (.int .u64 0) := (blk_cell BK147.out 3).trans rfl; have hcz13_4 : w11.cell? ⟨gb147, 4, none⟩ = some (.int .i64 0) := (blk_cell BK147.out 4).trans rfl; have hfz13_0 := blk_frozen BK147.out 0; have hfz13_1 := blk_frozen BK147.out 1; have hfz13_2 := blk_frozen BK147.out 2; have hfz13_3 := blk_frozen BK147.out 3; have hfz13_4 := blk_frozen BK147.out 4)); go_upto_region 7 with (first | ((with_reducible refine gate_dst (N := 4) rfl ?_); refine box_event ?hg (N := 4) ?hd (cs := #[.int .u64 0, .int .u64 0, .int .u64 0, .int .u64 0, .int .i64 0]) (t := 53) ?hr ?_; (case hd => rfl); (case hg => rfl); (case hr => first | (go_simp; done) | (go_simp; rfl)); intro gb147 hg w11 hbox hb; have n0_ := Aside0.mk (blk_below (g := gb145) (o := .cells #[.slice (some ad146) l0_0.length c0_0] 29 (0, 0)) u3_7 hb); have n1_ := Aside0.mk (below_step u3_6 hb); have n2_ := Aside0.mk (hbox); have n3_ := Aside0.mk ((by rw [hg]; exact (below_size u3_6) : w.heap.size ≤ gb147)); have n4_ := Aside0.mk ((by rw [hg]; exact (below_size u3_6) : w.heap.size ≤ gb147)); have n5_ := Aside0.mk ((by rw [hg]; exact Nat.ne_of_lt (blk_lt (g := gb145) (o := .cells #[.slice (some ad146) l0_0.length c0_0] 29 (0, 0)) u3_7) : gb145 ≠ gb147)); have n6_ := Aside0.mk ((by rw [hg]; exact Nat.ne_of_gt (blk_lt (g := gb145) (o := .cells #[.slice (some ad146) l0_0.length c0_0] 29 (0, 0)) u3_7) : gb147 ≠ gb145)); clear BK145; clear HB; have BK145 := n0_; have HB := n1_; have BK147 := n2_; have GW147 := n3_; have GE147 := n4_; have NB145_147 := n5_; have NB147_145 := n6_; clear n0_ n1_ n2_ n3_ n4_ n5_ n6_; clear hb hbox hg; have hnb12 := NB147_145.out; have hnc12 := NB145_147.out; have hcz13_0 : w11.cell? ⟨gb147, 0, none⟩ = some (.int .u64 0) := (blk_cell BK147.out 0).trans rfl; have hcz13_1 : w11.cell? ⟨gb147, 1, none⟩ = some (.int .u64 0) := (blk_cell BK147.out 1).trans rfl; have hcz13_2 : w11.cell? ⟨gb147, 2, none⟩ = some (.int .u64 0) := (blk_cell BK147.out 2).trans rfl; have hcz13_3 : w11.cell? ⟨gb147, 3, none⟩ = some (.int .u64 0) := (blk_cell BK147.out 3).trans rfl; have hcz13_4 : w11.cell? ⟨gb147, 4, none⟩ = some (.int .i64 0) := (blk_cell BK147.out 4).trans rfl; have hfz13_0 := blk_frozen BK147.out 0; have hfz13_1 := blk_frozen BK147.out 1; have hfz13_2 := blk_frozen BK147.out 2; have hfz13_3 := blk_frozen BK147.out 3; have hfz13_4 := blk_frozen BK147.out 4)))
            (try simp only [Act.put, List.setIfInBounds_toArray, List.set_cons_zero, List.set_cons_succ])
            go_cut [54] (fun v54 wc => ∃ (kq : Nat) (x54_8 : Bool), v54 = .bool x54_8 ∧ Aside0 (spec_BookOk.j1 kq x3_1 x54_8 l0_0 ((rd_T53 l0_0 x3_1).f0) ((rd_T53 l0_0 x3_1).f1) ((rd_T53 l0_0 x3_1).f2) ((rd_T53 l0_0 x3_1).f3) ((rd_T53 l0_0 x3_1).f4) = some r) ∧ Aside0 (kq ≤ k1) ∧ Aside0 (wc.heap[gb145]? = some (.cells #[(.slice (some ad146) l0_0.length c0_0)] 29 (0, 0))) ∧ Aside0 (wc.heap[gb147]? = some (.cells #[.int .u64 ((rd_T53 l0_0 x3_1).f0), .int .u64 ((rd_T53 l0_0 x3_1).f1), .int .u64 ((rd_T53 l0_0 x3_1).f2), .int .u64 ((rd_T53 l0_0 x3_1).f3), .int .i64 ((rd_T53 l0_0 x3_1).f4)] 53 (0, 0))) ∧ Aside0 (Below w.heap.size w wc))
            case first =>
              have H := HC9.out
              clear HC9
              by_cases c14 : x3_1 > 0
              · rw [if_pos c14] at H
                have c14b0 : decide (0 < x3_1) = true := decide_eq_true c14
                clear c14
                (first | rw [c14b0] | (simp only [i64_w, i32_w]; rw [c14b0]) | skip)
                obtain ⟨ji15, hji15⟩ : ∃ j_ : Int, (wrap64 (x3_1 - 1)) = j_ := ⟨_, rfl⟩
                replace H : (if 0 ≤ (ji15) then (if (ji15) < (l0_0.length : Int) then (if ((rd_T53 l0_0 (ji15)).f0) ≥ ((rd_T53 l0_0 x3_1).f0) then (spec_BookOk.j1 k1 x3_1 true l0_0 ((rd_T53 l0_0 x3_1).f0) ((rd_T53 l0_0 x3_1).f1) ((rd_T53 l0_0 x3_1).f2) ((rd_T53 l0_0 x3_1).f3) ((rd_T53 l0_0 x3_1).f4)) else (if ((rd_T53 l0_0 x3_1).f4) < 0 then (spec_BookOk.j1 k1 x3_1 true l0_0 ((rd_T53 l0_0 x3_1).f0) ((rd_T53 l0_0 x3_1).f1) ((rd_T53 l0_0 x3_1).f2) ((rd_T53 l0_0 x3_1).f3) ((rd_T53 l0_0 x3_1).f4)) else (if ((rd_T53 l0_0 x3_1).f4) = 0 then (if ((rd_T53 l0_0 x3_1).f2) = 0 then (spec_BookOk.j1 k1 x3_1 (((rd_T53 l0_0 x3_1).f3) != 0) l0_0 ((rd_T53 l0_0 x3_1).f0) ((rd_T53 l0_0 x3_1).f1) ((rd_T53 l0_0 x3_1).f2) ((rd_T53 l0_0 x3_1).f3) ((rd_T53 l0_0 x3_1).f4)) else (spec_BookOk.j1 k1 x3_1 true l0_0 ((rd_T53 l0_0 x3_1).f0) ((rd_T53 l0_0 x3_1).f1) ((rd_T53 l0_0 x3_1).f2) ((rd_T53 l0_0 x3_1).f3) ((rd_T53 l0_0 x3_1).f4))) else (spec_BookOk.j1 k1 x3_1 false l0_0 ((rd_T53 l0_0 x3_1).f0) ((rd_T53 l0_0 x3_1).f1) ((rd_T53 l0_0 x3_1).f2) ((rd_T53 l0_0 x3_1).f3) ((rd_T53 l0_0 x3_1).f4))))) else (none)) else (none)) = some r := by first | (rw [hji15] at H; exact H) | (simp only [hji15] at H ⊢; exact H)
                have hji15w : (IntKind.i64.wrap (x3_1 - 1)) = ji15 := (i64_w _).trans hji15
                by_cases c16 : 0 ≤ (ji15)
                · rw [if_pos c16] at H
                  have c16b0 : decide (0 ≤ (ji15)) = true := decide_eq_true c16
                  clear c16
                  by_cases c17 : (ji15) < (l0_0.length : Int)
                  · rw [if_pos c17] at H
                    have c17b0 : decide ((ji15) < (l0_0.length : Int)) = true := decide_eq_true c17
                    clear c17
                    by_cases c18 : ((rd_T53 l0_0 (ji15)).f0) ≥ ((rd_T53 l0_0 x3_1).f0)
                    · rw [if_pos c18] at H
                      have c18b0 : decide (((rd_T53 l0_0 x3_1).f0) ≤ ((rd_T53 l0_0 (ji15)).f0)) = true := decide_eq_true c18
                      clear c18
                      have H' := Aside0.mk H
                      clear H
                      have hnb19 := NB145_147.out
                      have hnc19 := NB147_145.out
                      have hcz20_0 : w11.cell? ⟨gb145, 0, none⟩ = some (.slice (some ad146) l0_0.length c0_0) := (blk_cell BK145.out 0).trans rfl
                      have hfz20_0 := blk_frozen BK145.out 0
                      have p148 : 0 ≤ ((ji15) : Int) := of_decide_eq_true u3_9
                      have q148 : (ji15) < (l0_0.length : Int) := of_decide_eq_true u3_9
                      obtain ⟨ad148, e148, hx148_0, hx148_1, hx148_2, hx148_3, hx148_4⟩ := at_T53 HR0_0.out (ji15) p148 q148
                      obtain rfl : ad146 = ad148 := (by injection e148)
                      have hn148_0 : ad146.block ≠ gb147 := Nat.ne_of_lt (Nat.lt_of_lt_of_le u3_5 GW147.out)
                      have hn148_1 : ad146.block ≠ gb147 := Nat.ne_of_lt (Nat.lt_of_lt_of_le u3_5 GW147.out)
                      have hn148_2 : ad146.block ≠ gb147 := Nat.ne_of_lt (Nat.lt_of_lt_of_le u3_5 GW147.out)
                      have hn148_3 : ad146.block ≠ gb147 := Nat.ne_of_lt (Nat.lt_of_lt_of_le u3_5 GW147.out)
                      have hn148_4 : ad146.block ≠ gb147 := Nat.ne_of_lt (Nat.lt_of_lt_of_le u3_5 GW147.out)
                      replace hx148_0 := (HB.out.cell (World.block_lt_of_cell? w _ hx148_0)).trans hx148_0
                      replace hx148_1 := (HB.out.cell (World.block_lt_of_cell? w _ hx148_1)).trans hx148_1
                      replace hx148_2 := (HB.out.cell (World.block_lt_of_cell? w _ hx148_2)).trans hx148_2
                      replace hx148_3 := (HB.out.cell (World.block_lt_of_cell? w _ hx148_3)).trans hx148_3
                      replace hx148_4 := (HB.out.cell (World.block_lt_of_cell? w _ hx148_4)).trans hx148_4
                      replace hx148_0 := (cell_far (p := ⟨gb147, 0, none⟩) u3_0 (.int .u64 ((rd_T53 l0_0 x3_1).f0))).trans hx148_0
                      replace hx148_1 := (cell_far (p := ⟨gb147, 0, none⟩) u3_0 (.int .u64 ((rd_T53 l0_0 x3_1).f0))).trans hx148_1
                      replace hx148_2 := (cell_far (p := ⟨gb147, 0, none⟩) u3_0 (.int .u64 ((rd_T53 l0_0 x3_1).f0))).trans hx148_2
                      replace hx148_3 := (cell_far (p := ⟨gb147, 0, none⟩) u3_0 (.int .u64 ((rd_T53 l0_0 x3_1).f0))).trans hx148_3
                      replace hx148_4 := (cell_far (p := ⟨gb147, 0, none⟩) u3_0 (.int .u64 ((rd_T53 l0_0 x3_1).f0))).trans hx148_4
                      replace hx148_0 := (cell_far (p := ⟨gb147, 1, none⟩) u3_1 (.int .u64 ((rd_T53 l0_0 x3_1).f1))).trans hx148_0
                      replace hx148_1 := (cell_far (p := ⟨gb147, 1, none⟩) u3_1 (.int .u64 ((rd_T53 l0_0 x3_1).f1))).trans hx148_1
                      replace hx148_2 := (cell_far (p := ⟨gb147, 1, none⟩) u3_1 (.int .u64 ((rd_T53 l0_0 x3_1).f1))).trans hx148_2
                      replace hx148_3 := (cell_far (p := ⟨gb147, 1, none⟩) u3_1 (.int .u64 ((rd_T53 l0_0 x3_1).f1))).trans hx148_3
                      replace hx148_4 := (cell_far (p := ⟨gb147, 1, none⟩) u3_1 (.int .u64 ((rd_T53 l0_0 x3_1).f1))).trans hx148_4
                      replace hx148_0 := (cell_far (p := ⟨gb147, 2, none⟩) u3_2 (.int .u64 ((rd_T53 l0_0 x3_1).f2))).trans hx148_0
                      replace hx148_1 := (cell_far (p := ⟨gb147, 2, none⟩) u3_2 (.int .u64 ((rd_T53 l0_0 x3_1).f2))).trans hx148_1
                      replace hx148_2 := (cell_far (p := ⟨gb147, 2, none⟩) u3_2 (.int .u64 ((rd_T53 l0_0 x3_1).f2))).trans hx148_2
                      replace hx148_3 := (cell_far (p := ⟨gb147, 2, none⟩) u3_2 (.int .u64 ((rd_T53 l0_0 x3_1).f2))).trans hx148_3
                      replace hx148_4 := (cell_far (p := ⟨gb147, 2, none⟩) u3_2 (.int .u64 ((rd_T53 l0_0 x3_1).f2))).trans hx148_4
                      replace hx148_0 := (cell_far (p := ⟨gb147, 3, none⟩) u3_3 (.int .u64 ((rd_T53 l0_0 x3_1).f3))).trans hx148_0
                      replace hx148_1 := (cell_far (p := ⟨gb147, 3, none⟩) u3_3 (.int .u64 ((rd_T53 l0_0 x3_1).f3))).trans hx148_1
                      replace hx148_2 := (cell_far (p := ⟨gb147, 3, none⟩) u3_3 (.int .u64 ((rd_T53 l0_0 x3_1).f3))).trans hx148_2
                      replace hx148_3 := (cell_far (p := ⟨gb147, 3, none⟩) u3_3 (.int .u64 ((rd_T53 l0_0 x3_1).f3))).trans hx148_3
                      replace hx148_4 := (cell_far (p := ⟨gb147, 3, none⟩) u3_3 (.int .u64 ((rd_T53 l0_0 x3_1).f3))).trans hx148_4
                      replace hx148_0 := (cell_far (p := ⟨gb147, 4, none⟩) u3_4 (.int .i64 ((rd_T53 l0_0 x3_1).f4))).trans hx148_0
                      replace hx148_1 := (cell_far (p := ⟨gb147, 4, none⟩) u3_4 (.int .i64 ((rd_T53 l0_0 x3_1).f4))).trans hx148_1
                      replace hx148_2 := (cell_far (p := ⟨gb147, 4, none⟩) u3_4 (.int .i64 ((rd_T53 l0_0 x3_1).f4))).trans hx148_2
                      replace hx148_3 := (cell_far (p := ⟨gb147, 4, none⟩) u3_4 (.int .i64 ((rd_T53 l0_0 x3_1).f4))).trans hx148_3
                      replace hx148_4 := (cell_far (p := ⟨gb147, 4, none⟩) u3_4 (.int .i64 ((rd_T53 l0_0 x3_1).f4))).trans hx148_4
                      (try have hch_ := fun (n_ : Nat) => (show (((((((w11.drewN n_).setCell ⟨gb147, 0, none⟩ (.int .u64 ((rd_T53 l0_0 x3_1).f0))).setCell ⟨gb147, 1, none⟩ (.int .u64 ((rd_T53 l0_0 x3_1).f1))).setCell ⟨gb147, 2, none⟩ (.int .u64 ((rd_T53 l0_0 x3_1).f2))).setCell ⟨gb147, 3, none⟩ (.int .u64 ((rd_T53 l0_0 x3_1).f3))).setCell ⟨gb147, 4, none⟩ (.int .i64 ((rd_T53 l0_0 x3_1).f4)))) = World.drewN ((((((w11.setCell ⟨gb147, 0, none⟩ (.int .u64 ((rd_T53 l0_0 x3_1).f0))).setCell ⟨gb147, 1, none⟩ (.int .u64 ((rd_T53 l0_0 x3_1).f1))).setCell ⟨gb147, 2, none⟩ (.int .u64 ((rd_T53 l0_0 x3_1).f2))).setCell ⟨gb147, 3, none⟩ (.int .u64 ((rd_T53 l0_0 x3_1).f3))).setCell ⟨gb147, 4, none⟩ (.int .i64 ((rd_T53 l0_0 x3_1).f4)))) n_ from by simp only [Go.Proofs.Ytdbfjakhkclggaa.Slc.setCell_drewN])); (try have hy148_0 := fun (n_ : Nat) => Go.Proofs.Ytdbfjakhkclggaa.Slc.cell_of (hch_ n_) hx148_0)
                      (try have hy148_1 := fun (n_ : Nat) => Go.Proofs.Ytdbfjakhkclggaa.Slc.cell_of (hch_ n_) hx148_1)
                      (try have hy148_2 := fun (n_ : Nat) => Go.Proofs.Ytdbfjakhkclggaa.Slc.cell_of (hch_ n_) hx148_2)
                      (try have hy148_3 := fun (n_ : Nat) => Go.Proofs.Ytdbfjakhkclggaa.Slc.cell_of (hch_ n_) hx148_3)
                      (try have hy148_4 := fun (n_ : Nat) => Go.Proofs.Ytdbfjakhkclggaa.Slc.cell_of (hch_ n_) hx148_4)
                      clear hn148_0
                      clear hn148_1
                      clear hn148_2
                      clear hn148_3
                      clear hn148_4
                      replace p148 := eq_true p148
                      replace q148 := eq_true q148
                      have hcz21_0 : w11.cell? ⟨gb147, 0, none⟩ = some (.int .u64 0) := (blk_cell BK147.out 0).trans rfl
                      have hcz21_1 : w11.cell? ⟨gb147, 1, none⟩ = some (.int .u64 0) := (blk_cell BK147.out 1).trans rfl
                      have hcz21_2 : w11.cell? ⟨gb147, 2, none⟩ = some (.int .u64 0) := (blk_cell BK147.out 2).trans rfl
                      have hcz21_3 : w11.cell? ⟨gb147, 3, none⟩ = some (.int .u64 0) := (blk_cell BK147.out 3).trans rfl
                      have hcz21_4 : w11.cell? ⟨gb147, 4, none⟩ = some (.int .i64 0) := (blk_cell BK147.out 4).trans rfl
                      have hfz21_0 := blk_frozen BK147.out 0
                      have hfz21_1 := blk_frozen BK147.out 1
                      have hfz21_2 := blk_frozen BK147.out 2
                      have hfz21_3 := blk_frozen BK147.out 3
                      have hfz21_4 := blk_frozen BK147.out 4
                      go_wp2
                      repeat (go_quiet (fail); try go_wp2)
                      go_meet
                      case rel => exact ⟨_, (true), u3_10, H', ⟨by have := HK1.out; first | omega | exact Nat.le_refl _⟩, ⟨by (with_reducible repeat (first | refine blk_drewN ?_ _ | refine blk_drew ?_ | refine blk_alloc ?_ _)); refine blk_far ?_ NB145_147.out _; (with_reducible repeat (first | refine blk_drewN ?_ _ | refine blk_drew ?_ | refine blk_alloc ?_ _)); refine blk_far ?_ NB145_147.out _; (with_reducible repeat (first | refine blk_drewN ?_ _ | refine blk_drew ?_ | refine blk_alloc ?_ _)); refine blk_far ?_ NB145_147.out _; (with_reducible repeat (first | refine blk_drewN ?_ _ | refine blk_drew ?_ | refine blk_alloc ?_ _)); refine blk_far ?_ NB145_147.out _; (with_reducible repeat (first | refine blk_drewN ?_ _ | refine blk_drew ?_ | refine blk_alloc ?_ _)); refine blk_far ?_ NB145_147.out _; (with_reducible repeat (first | refine blk_drewN ?_ _ | refine blk_drew ?_ | refine blk_alloc ?_ _)); exact BK145.out⟩, ⟨by (with_reducible repeat (first | refine blk_drewN ?_ _ | refine blk_drew ?_ | refine blk_alloc ?_ _)); refine blk_put (cs := #[.int .u64 ((rd_T53 l0_0 x3_1).f0), .int .u64 ((rd_T53 l0_0 x3_1).f1), .int .u64 ((rd_T53 l0_0 x3_1).f2), .int .u64 ((rd_T53 l0_0 x3_1).f3), .int .i64 0]) ?_ 4 _ rfl; (with_reducible repeat (first | refine blk_drewN ?_ _ | refine blk_drew ?_ | refine blk_alloc ?_ _)); refine blk_put (cs := #[.int .u64 ((rd_T53 l0_0 x3_1).f0), .int .u64 ((rd_T53 l0_0 x3_1).f1), .int .u64 ((rd_T53 l0_0 x3_1).f2), .int .u64 0, .int .i64 0]) ?_ 3 _ rfl; (with_reducible repeat (first | refine blk_drewN ?_ _ | refine blk_drew ?_ | refine blk_alloc ?_ _)); refine blk_put (cs := #[.int .u64 ((rd_T53 l0_0 x3_1).f0), .int .u64 ((rd_T53 l0_0 x3_1).f1), .int .u64 0, .int .u64 0, .int .i64 0]) ?_ 2 _ rfl; (with_reducible repeat (first | refine blk_drewN ?_ _ | refine blk_drew ?_ | refine blk_alloc ?_ _)); refine blk_put (cs := #[.int .u64 ((rd_T53 l0_0 x3_1).f0), .int .u64 0, .int .u64 0, .int .u64 0, .int .i64 0]) ?_ 1 _ rfl; (with_reducible repeat (first | refine blk_drewN ?_ _ | refine blk_drew ?_ | refine blk_alloc ?_ _)); refine blk_put (cs := #[.int .u64 0, .int .u64 0, .int .u64 0, .int .u64 0, .int .i64 0]) ?_ 0 _ rfl; (with_reducible repeat (first | refine blk_drewN ?_ _ | refine blk_drew ?_ | refine blk_alloc ?_ _)); exact BK147.out⟩, ⟨by repeat (first | (with_reducible first | exact HB.out | apply below_alloc | apply pw_below_drewN | apply below_drew1 | refine below_set ?_ GE145.out | refine below_set ?_ GE147.out) | exact HB.out)⟩⟩
                    · rw [if_neg c18] at H
                      have c18b0 : decide (((rd_T53 l0_0 x3_1).f0) ≤ ((rd_T53 l0_0 (ji15)).f0)) = false := decide_eq_false c18
                      clear c18
                      by_cases c22 : ((rd_T53 l0_0 x3_1).f4) < 0
                      · rw [if_pos c22] at H
                        have c22b0 : decide (((rd_T53 l0_0 x3_1).f4) < 0) = true := decide_eq_true c22
                        clear c22
                        have H' := Aside0.mk H
                        clear H
                        have hnb23 := NB145_147.out
                        have hnc23 := NB147_145.out
                        have hcz24_0 : w11.cell? ⟨gb145, 0, none⟩ = some (.slice (some ad146) l0_0.length c0_0) := (blk_cell BK145.out 0).trans rfl
                        have hfz24_0 := blk_frozen BK145.out 0
                        have p148 : 0 ≤ ((ji15) : Int) := of_decide_eq_true u3_9
                        have q148 : (ji15) < (l0_0.length : Int) := of_decide_eq_true u3_9
                        obtain ⟨ad148, e148, hx148_0, hx148_1, hx148_2, hx148_3, hx148_4⟩ := at_T53 HR0_0.out (ji15) p148 q148
                        obtain rfl : ad146 = ad148 := (by injection e148)
                        have hn148_0 : ad146.block ≠ gb147 := Nat.ne_of_lt (Nat.lt_of_lt_of_le u3_5 GW147.out)
                        have hn148_1 : ad146.block ≠ gb147 := Nat.ne_of_lt (Nat.lt_of_lt_of_le u3_5 GW147.out)
                        have hn148_2 : ad146.block ≠ gb147 := Nat.ne_of_lt (Nat.lt_of_lt_of_le u3_5 GW147.out)
                        have hn148_3 : ad146.block ≠ gb147 := Nat.ne_of_lt (Nat.lt_of_lt_of_le u3_5 GW147.out)
                        have hn148_4 : ad146.block ≠ gb147 := Nat.ne_of_lt (Nat.lt_of_lt_of_le u3_5 GW147.out)
                        replace hx148_0 := (HB.out.cell (World.block_lt_of_cell? w _ hx148_0)).trans hx148_0
                        replace hx148_1 := (HB.out.cell (World.block_lt_of_cell? w _ hx148_1)).trans hx148_1
                        replace hx148_2 := (HB.out.cell (World.block_lt_of_cell? w _ hx148_2)).trans hx148_2
                        replace hx148_3 := (HB.out.cell (World.block_lt_of_cell? w _ hx148_3)).trans hx148_3
                        replace hx148_4 := (HB.out.cell (World.block_lt_of_cell? w _ hx148_4)).trans hx148_4
                        replace hx148_0 := (cell_far (p := ⟨gb147, 0, none⟩) u3_0 (.int .u64 ((rd_T53 l0_0 x3_1).f0))).trans hx148_0
                        replace hx148_1 := (cell_far (p := ⟨gb147, 0, none⟩) u3_0 (.int .u64 ((rd_T53 l0_0 x3_1).f0))).trans hx148_1
                        replace hx148_2 := (cell_far (p := ⟨gb147, 0, none⟩) u3_0 (.int .u64 ((rd_T53 l0_0 x3_1).f0))).trans hx148_2
                        replace hx148_3 := (cell_far (p := ⟨gb147, 0, none⟩) u3_0 (.int .u64 ((rd_T53 l0_0 x3_1).f0))).trans hx148_3
                        replace hx148_4 := (cell_far (p := ⟨gb147, 0, none⟩) u3_0 (.int .u64 ((rd_T53 l0_0 x3_1).f0))).trans hx148_4
                        replace hx148_0 := (cell_far (p := ⟨gb147, 1, none⟩) u3_1 (.int .u64 ((rd_T53 l0_0 x3_1).f1))).trans hx148_0
                        replace hx148_1 := (cell_far (p := ⟨gb147, 1, none⟩) u3_1 (.int .u64 ((rd_T53 l0_0 x3_1).f1))).trans hx148_1
                        replace hx148_2 := (cell_far (p := ⟨gb147, 1, none⟩) u3_1 (.int .u64 ((rd_T53 l0_0 x3_1).f1))).trans hx148_2
                        replace hx148_3 := (cell_far (p := ⟨gb147, 1, none⟩) u3_1 (.int .u64 ((rd_T53 l0_0 x3_1).f1))).trans hx148_3
                        replace hx148_4 := (cell_far (p := ⟨gb147, 1, none⟩) u3_1 (.int .u64 ((rd_T53 l0_0 x3_1).f1))).trans hx148_4
                        replace hx148_0 := (cell_far (p := ⟨gb147, 2, none⟩) u3_2 (.int .u64 ((rd_T53 l0_0 x3_1).f2))).trans hx148_0
                        replace hx148_1 := (cell_far (p := ⟨gb147, 2, none⟩) u3_2 (.int .u64 ((rd_T53 l0_0 x3_1).f2))).trans hx148_1
                        replace hx148_2 := (cell_far (p := ⟨gb147, 2, none⟩) u3_2 (.int .u64 ((rd_T53 l0_0 x3_1).f2))).trans hx148_2
                        replace hx148_3 := (cell_far (p := ⟨gb147, 2, none⟩) u3_2 (.int .u64 ((rd_T53 l0_0 x3_1).f2))).trans hx148_3
                        replace hx148_4 := (cell_far (p := ⟨gb147, 2, none⟩) u3_2 (.int .u64 ((rd_T53 l0_0 x3_1).f2))).trans hx148_4
                        replace hx148_0 := (cell_far (p := ⟨gb147, 3, none⟩) u3_3 (.int .u64 ((rd_T53 l0_0 x3_1).f3))).trans hx148_0
                        replace hx148_1 := (cell_far (p := ⟨gb147, 3, none⟩) u3_3 (.int .u64 ((rd_T53 l0_0 x3_1).f3))).trans hx148_1
                        replace hx148_2 := (cell_far (p := ⟨gb147, 3, none⟩) u3_3 (.int .u64 ((rd_T53 l0_0 x3_1).f3))).trans hx148_2
                        replace hx148_3 := (cell_far (p := ⟨gb147, 3, none⟩) u3_3 (.int .u64 ((rd_T53 l0_0 x3_1).f3))).trans hx148_3
                        replace hx148_4 := (cell_far (p := ⟨gb147, 3, none⟩) u3_3 (.int .u64 ((rd_T53 l0_0 x3_1).f3))).trans hx148_4
                        replace hx148_0 := (cell_far (p := ⟨gb147, 4, none⟩) u3_4 (.int .i64 ((rd_T53 l0_0 x3_1).f4))).trans hx148_0
                        replace hx148_1 := (cell_far (p := ⟨gb147, 4, none⟩) u3_4 (.int .i64 ((rd_T53 l0_0 x3_1).f4))).trans hx148_1
                        replace hx148_2 := (cell_far (p := ⟨gb147, 4, none⟩) u3_4 (.int .i64 ((rd_T53 l0_0 x3_1).f4))).trans hx148_2
                        replace hx148_3 := (cell_far (p := ⟨gb147, 4, none⟩) u3_4 (.int .i64 ((rd_T53 l0_0 x3_1).f4))).trans hx148_3
                        replace hx148_4 := (cell_far (p := ⟨gb147, 4, none⟩) u3_4 (.int .i64 ((rd_T53 l0_0 x3_1).f4))).trans hx148_4
                        (try have hch_ := fun (n_ : Nat) => (show (((((((w11.drewN n_).setCell ⟨gb147, 0, none⟩ (.int .u64 ((rd_T53 l0_0 x3_1).f0))).setCell ⟨gb147, 1, none⟩ (.int .u64 ((rd_T53 l0_0 x3_1).f1))).setCell ⟨gb147, 2, none⟩ (.int .u64 ((rd_T53 l0_0 x3_1).f2))).setCell ⟨gb147, 3, none⟩ (.int .u64 ((rd_T53 l0_0 x3_1).f3))).setCell ⟨gb147, 4, none⟩ (.int .i64 ((rd_T53 l0_0 x3_1).f4)))) = World.drewN ((((((w11.setCell ⟨gb147, 0, none⟩ (.int .u64 ((rd_T53 l0_0 x3_1).f0))).setCell ⟨gb147, 1, none⟩ (.int .u64 ((rd_T53 l0_0 x3_1).f1))).setCell ⟨gb147, 2, none⟩ (.int .u64 ((rd_T53 l0_0 x3_1).f2))).setCell ⟨gb147, 3, none⟩ (.int .u64 ((rd_T53 l0_0 x3_1).f3))).setCell ⟨gb147, 4, none⟩ (.int .i64 ((rd_T53 l0_0 x3_1).f4)))) n_ from by simp only [Go.Proofs.Ytdbfjakhkclggaa.Slc.setCell_drewN])); (try have hy148_0 := fun (n_ : Nat) => Go.Proofs.Ytdbfjakhkclggaa.Slc.cell_of (hch_ n_) hx148_0)
                        (try have hy148_1 := fun (n_ : Nat) => Go.Proofs.Ytdbfjakhkclggaa.Slc.cell_of (hch_ n_) hx148_1)
                        (try have hy148_2 := fun (n_ : Nat) => Go.Proofs.Ytdbfjakhkclggaa.Slc.cell_of (hch_ n_) hx148_2)
                        (try have hy148_3 := fun (n_ : Nat) => Go.Proofs.Ytdbfjakhkclggaa.Slc.cell_of (hch_ n_) hx148_3)
                        (try have hy148_4 := fun (n_ : Nat) => Go.Proofs.Ytdbfjakhkclggaa.Slc.cell_of (hch_ n_) hx148_4)
                        clear hn148_0
                        clear hn148_1
                        clear hn148_2
                        clear hn148_3
                        clear hn148_4
                        replace p148 := eq_true p148
                        replace q148 := eq_true q148
                        have hcz25_0 : w11.cell? ⟨gb147, 0, none⟩ = some (.int .u64 0) := (blk_cell BK147.out 0).trans rfl
                        have hcz25_1 : w11.cell? ⟨gb147, 1, none⟩ = some (.int .u64 0) := (blk_cell BK147.out 1).trans rfl
                        have hcz25_2 : w11.cell? ⟨gb147, 2, none⟩ = some (.int .u64 0) := (blk_cell BK147.out 2).trans rfl
                        have hcz25_3 : w11.cell? ⟨gb147, 3, none⟩ = some (.int .u64 0) := (blk_cell BK147.out 3).trans rfl
                        have hcz25_4 : w11.cell? ⟨gb147, 4, none⟩ = some (.int .i64 0) := (blk_cell BK147.out 4).trans rfl
                        have hfz25_0 := blk_frozen BK147.out 0
                        have hfz25_1 := blk_frozen BK147.out 1
                        have hfz25_2 := blk_frozen BK147.out 2
                        have hfz25_3 := blk_frozen BK147.out 3
                        have hfz25_4 := blk_frozen BK147.out 4
                        go_wp2
                        repeat (go_quiet (fail); try go_wp2)
                        go_meet
                        case rel => exact ⟨_, (true), u3_10, H', ⟨by have := HK1.out; first | omega | exact Nat.le_refl _⟩, ⟨by (with_reducible repeat (first | refine blk_drewN ?_ _ | refine blk_drew ?_ | refine blk_alloc ?_ _)); refine blk_far ?_ NB145_147.out _; (with_reducible repeat (first | refine blk_drewN ?_ _ | refine blk_drew ?_ | refine blk_alloc ?_ _)); refine blk_far ?_ NB145_147.out _; (with_reducible repeat (first | refine blk_drewN ?_ _ | refine blk_drew ?_ | refine blk_alloc ?_ _)); refine blk_far ?_ NB145_147.out _; (with_reducible repeat (first | refine blk_drewN ?_ _ | refine blk_drew ?_ | refine blk_alloc ?_ _)); refine blk_far ?_ NB145_147.out _; (with_reducible repeat (first | refine blk_drewN ?_ _ | refine blk_drew ?_ | refine blk_alloc ?_ _)); refine blk_far ?_ NB145_147.out _; (with_reducible repeat (first | refine blk_drewN ?_ _ | refine blk_drew ?_ | refine blk_alloc ?_ _)); exact BK145.out⟩, ⟨by (with_reducible repeat (first | refine blk_drewN ?_ _ | refine blk_drew ?_ | refine blk_alloc ?_ _)); refine blk_put (cs := #[.int .u64 ((rd_T53 l0_0 x3_1).f0), .int .u64 ((rd_T53 l0_0 x3_1).f1), .int .u64 ((rd_T53 l0_0 x3_1).f2), .int .u64 ((rd_T53 l0_0 x3_1).f3), .int .i64 0]) ?_ 4 _ rfl; (with_reducible repeat (first | refine blk_drewN ?_ _ | refine blk_drew ?_ | refine blk_alloc ?_ _)); refine blk_put (cs := #[.int .u64 ((rd_T53 l0_0 x3_1).f0), .int .u64 ((rd_T53 l0_0 x3_1).f1), .int .u64 ((rd_T53 l0_0 x3_1).f2), .int .u64 0, .int .i64 0]) ?_ 3 _ rfl; (with_reducible repeat (first | refine blk_drewN ?_ _ | refine blk_drew ?_ | refine blk_alloc ?_ _)); refine blk_put (cs := #[.int .u64 ((rd_T53 l0_0 x3_1).f0), .int .u64 ((rd_T53 l0_0 x3_1).f1), .int .u64 0, .int .u64 0, .int .i64 0]) ?_ 2 _ rfl; (with_reducible repeat (first | refine blk_drewN ?_ _ | refine blk_drew ?_ | refine blk_alloc ?_ _)); refine blk_put (cs := #[.int .u64 ((rd_T53 l0_0 x3_1).f0), .int .u64 0, .int .u64 0, .int .u64 0, .int .i64 0]) ?_ 1 _ rfl; (with_reducible repeat (first | refine blk_drewN ?_ _ | refine blk_drew ?_ | refine blk_alloc ?_ _)); refine blk_put (cs := #[.int .u64 0, .int .u64 0, .int .u64 0, .int .u64 0, .int .i64 0]) ?_ 0 _ rfl; (with_reducible repeat (first | refine blk_drewN ?_ _ | refine blk_drew ?_ | refine blk_alloc ?_ _)); exact BK147.out⟩, ⟨by repeat (first | (with_reducible first | exact HB.out | apply below_alloc | apply pw_below_drewN | apply below_drew1 | refine below_set ?_ GE145.out | refine below_set ?_ GE147.out) | exact HB.out)⟩⟩
                      · rw [if_neg c22] at H
                        have c22b0 : decide (((rd_T53 l0_0 x3_1).f4) < 0) = false := decide_eq_false c22
                        clear c22
                        by_cases c26 : ((rd_T53 l0_0 x3_1).f4) = 0
                        · rw [if_pos c26] at H
                          have c26b0 : (((rd_T53 l0_0 x3_1).f4) == 0) = true := beq_iff_eq.mpr c26
                          have c26b1 : (((rd_T53 l0_0 x3_1).f4) != 0) = false := bne_eq_false_iff_eq.mpr c26
                          clear c26
                          by_cases c27 : ((rd_T53 l0_0 x3_1).f2) = 0
                          · rw [if_pos c27] at H
                            have c27b0 : (((rd_T53 l0_0 x3_1).f2) == 0) = true := beq_iff_eq.mpr c27
                            have c27b1 : (((rd_T53 l0_0 x3_1).f2) != 0) = false := bne_eq_false_iff_eq.mpr c27
                            clear c27
                            have H' := Aside0.mk H
                            clear H
                            have hnb28 := NB145_147.out
                            have hnc28 := NB147_145.out
                            have hcz29_0 : w11.cell? ⟨gb145, 0, none⟩ = some (.slice (some ad146) l0_0.length c0_0) := (blk_cell BK145.out 0).trans rfl
                            have hfz29_0 := blk_frozen BK145.out 0
                            have p148 : 0 ≤ ((ji15) : Int) := of_decide_eq_true u3_9
                            have q148 : (ji15) < (l0_0.length : Int) := of_decide_eq_true u3_9
                            obtain ⟨ad148, e148, hx148_0, hx148_1, hx148_2, hx148_3, hx148_4⟩ := at_T53 HR0_0.out (ji15) p148 q148
                            obtain rfl : ad146 = ad148 := (by injection e148)
                            have hn148_0 : ad146.block ≠ gb147 := Nat.ne_of_lt (Nat.lt_of_lt_of_le u3_5 GW147.out)
                            have hn148_1 : ad146.block ≠ gb147 := Nat.ne_of_lt (Nat.lt_of_lt_of_le u3_5 GW147.out)
                            have hn148_2 : ad146.block ≠ gb147 := Nat.ne_of_lt (Nat.lt_of_lt_of_le u3_5 GW147.out)
                            have hn148_3 : ad146.block ≠ gb147 := Nat.ne_of_lt (Nat.lt_of_lt_of_le u3_5 GW147.out)
                            have hn148_4 : ad146.block ≠ gb147 := Nat.ne_of_lt (Nat.lt_of_lt_of_le u3_5 GW147.out)
                            replace hx148_0 := (HB.out.cell (World.block_lt_of_cell? w _ hx148_0)).trans hx148_0
                            replace hx148_1 := (HB.out.cell (World.block_lt_of_cell? w _ hx148_1)).trans hx148_1
                            replace hx148_2 := (HB.out.cell (World.block_lt_of_cell? w _ hx148_2)).trans hx148_2
                            replace hx148_3 := (HB.out.cell (World.block_lt_of_cell? w _ hx148_3)).trans hx148_3
                            replace hx148_4 := (HB.out.cell (World.block_lt_of_cell? w _ hx148_4)).trans hx148_4
                            replace hx148_0 := (cell_far (p := ⟨gb147, 0, none⟩) u3_0 (.int .u64 ((rd_T53 l0_0 x3_1).f0))).trans hx148_0
                            replace hx148_1 := (cell_far (p := ⟨gb147, 0, none⟩) u3_0 (.int .u64 ((rd_T53 l0_0 x3_1).f0))).trans hx148_1
                            replace hx148_2 := (cell_far (p := ⟨gb147, 0, none⟩) u3_0 (.int .u64 ((rd_T53 l0_0 x3_1).f0))).trans hx148_2
                            replace hx148_3 := (cell_far (p := ⟨gb147, 0, none⟩) u3_0 (.int .u64 ((rd_T53 l0_0 x3_1).f0))).trans hx148_3
                            replace hx148_4 := (cell_far (p := ⟨gb147, 0, none⟩) u3_0 (.int .u64 ((rd_T53 l0_0 x3_1).f0))).trans hx148_4
                            replace hx148_0 := (cell_far (p := ⟨gb147, 1, none⟩) u3_1 (.int .u64 ((rd_T53 l0_0 x3_1).f1))).trans hx148_0
                            replace hx148_1 := (cell_far (p := ⟨gb147, 1, none⟩) u3_1 (.int .u64 ((rd_T53 l0_0 x3_1).f1))).trans hx148_1
                            replace hx148_2 := (cell_far (p := ⟨gb147, 1, none⟩) u3_1 (.int .u64 ((rd_T53 l0_0 x3_1).f1))).trans hx148_2
                            replace hx148_3 := (cell_far (p := ⟨gb147, 1, none⟩) u3_1 (.int .u64 ((rd_T53 l0_0 x3_1).f1))).trans hx148_3
                            replace hx148_4 := (cell_far (p := ⟨gb147, 1, none⟩) u3_1 (.int .u64 ((rd_T53 l0_0 x3_1).f1))).trans hx148_4
                            replace hx148_0 := (cell_far (p := ⟨gb147, 2, none⟩) u3_2 (.int .u64 ((rd_T53 l0_0 x3_1).f2))).trans hx148_0
                            replace hx148_1 := (cell_far (p := ⟨gb147, 2, none⟩) u3_2 (.int .u64 ((rd_T53 l0_0 x3_1).f2))).trans hx148_1
                            replace hx148_2 := (cell_far (p := ⟨gb147, 2, none⟩) u3_2 (.int .u64 ((rd_T53 l0_0 x3_1).f2))).trans hx148_2
                            replace hx148_3 := (cell_far (p := ⟨gb147, 2, none⟩) u3_2 (.int .u64 ((rd_T53 l0_0 x3_1).f2))).trans hx148_3
                            replace hx148_4 := (cell_far (p := ⟨gb147, 2, none⟩) u3_2 (.int .u64 ((rd_T53 l0_0 x3_1).f2))).trans hx148_4
                            replace hx148_0 := (cell_far (p := ⟨gb147, 3, none⟩) u3_3 (.int .u64 ((rd_T53 l0_0 x3_1).f3))).trans hx148_0
                            replace hx148_1 := (cell_far (p := ⟨gb147, 3, none⟩) u3_3 (.int .u64 ((rd_T53 l0_0 x3_1).f3))).trans hx148_1
                            replace hx148_2 := (cell_far (p := ⟨gb147, 3, none⟩) u3_3 (.int .u64 ((rd_T53 l0_0 x3_1).f3))).trans hx148_2
                            replace hx148_3 := (cell_far (p := ⟨gb147, 3, none⟩) u3_3 (.int .u64 ((rd_T53 l0_0 x3_1).f3))).trans hx148_3
                            replace hx148_4 := (cell_far (p := ⟨gb147, 3, none⟩) u3_3 (.int .u64 ((rd_T53 l0_0 x3_1).f3))).trans hx148_4
                            replace hx148_0 := (cell_far (p := ⟨gb147, 4, none⟩) u3_4 (.int .i64 ((rd_T53 l0_0 x3_1).f4))).trans hx148_0
                            replace hx148_1 := (cell_far (p := ⟨gb147, 4, none⟩) u3_4 (.int .i64 ((rd_T53 l0_0 x3_1).f4))).trans hx148_1
                            replace hx148_2 := (cell_far (p := ⟨gb147, 4, none⟩) u3_4 (.int .i64 ((rd_T53 l0_0 x3_1).f4))).trans hx148_2
                            replace hx148_3 := (cell_far (p := ⟨gb147, 4, none⟩) u3_4 (.int .i64 ((rd_T53 l0_0 x3_1).f4))).trans hx148_3
                            replace hx148_4 := (cell_far (p := ⟨gb147, 4, none⟩) u3_4 (.int .i64 ((rd_T53 l0_0 x3_1).f4))).trans hx148_4
                            (try have hch_ := fun (n_ : Nat) => (show (((((((w11.drewN n_).setCell ⟨gb147, 0, none⟩ (.int .u64 ((rd_T53 l0_0 x3_1).f0))).setCell ⟨gb147, 1, none⟩ (.int .u64 ((rd_T53 l0_0 x3_1).f1))).setCell ⟨gb147, 2, none⟩ (.int .u64 ((rd_T53 l0_0 x3_1).f2))).setCell ⟨gb147, 3, none⟩ (.int .u64 ((rd_T53 l0_0 x3_1).f3))).setCell ⟨gb147, 4, none⟩ (.int .i64 ((rd_T53 l0_0 x3_1).f4)))) = World.drewN ((((((w11.setCell ⟨gb147, 0, none⟩ (.int .u64 ((rd_T53 l0_0 x3_1).f0))).setCell ⟨gb147, 1, none⟩ (.int .u64 ((rd_T53 l0_0 x3_1).f1))).setCell ⟨gb147, 2, none⟩ (.int .u64 ((rd_T53 l0_0 x3_1).f2))).setCell ⟨gb147, 3, none⟩ (.int .u64 ((rd_T53 l0_0 x3_1).f3))).setCell ⟨gb147, 4, none⟩ (.int .i64 ((rd_T53 l0_0 x3_1).f4)))) n_ from by simp only [Go.Proofs.Ytdbfjakhkclggaa.Slc.setCell_drewN])); (try have hy148_0 := fun (n_ : Nat) => Go.Proofs.Ytdbfjakhkclggaa.Slc.cell_of (hch_ n_) hx148_0)
                            (try have hy148_1 := fun (n_ : Nat) => Go.Proofs.Ytdbfjakhkclggaa.Slc.cell_of (hch_ n_) hx148_1)
                            (try have hy148_2 := fun (n_ : Nat) => Go.Proofs.Ytdbfjakhkclggaa.Slc.cell_of (hch_ n_) hx148_2)
                            (try have hy148_3 := fun (n_ : Nat) => Go.Proofs.Ytdbfjakhkclggaa.Slc.cell_of (hch_ n_) hx148_3)
                            (try have hy148_4 := fun (n_ : Nat) => Go.Proofs.Ytdbfjakhkclggaa.Slc.cell_of (hch_ n_) hx148_4)
                            clear hn148_0
                            clear hn148_1
                            clear hn148_2
                            clear hn148_3
                            clear hn148_4
                            replace p148 := eq_true p148
                            replace q148 := eq_true q148
                            have hcz30_0 : w11.cell? ⟨gb147, 0, none⟩ = some (.int .u64 0) := (blk_cell BK147.out 0).trans rfl
                            have hcz30_1 : w11.cell? ⟨gb147, 1, none⟩ = some (.int .u64 0) := (blk_cell BK147.out 1).trans rfl
                            have hcz30_2 : w11.cell? ⟨gb147, 2, none⟩ = some (.int .u64 0) := (blk_cell BK147.out 2).trans rfl
                            have hcz30_3 : w11.cell? ⟨gb147, 3, none⟩ = some (.int .u64 0) := (blk_cell BK147.out 3).trans rfl
                            have hcz30_4 : w11.cell? ⟨gb147, 4, none⟩ = some (.int .i64 0) := (blk_cell BK147.out 4).trans rfl
                            have hfz30_0 := blk_frozen BK147.out 0
                            have hfz30_1 := blk_frozen BK147.out 1
                            have hfz30_2 := blk_frozen BK147.out 2
                            have hfz30_3 := blk_frozen BK147.out 3
                            have hfz30_4 := blk_frozen BK147.out 4
                            go_wp2
                            repeat (go_quiet (fail); try go_wp2)
                            go_meet
                            case rel => exact ⟨_, ((((rd_T53 l0_0 x3_1).f3) != 0)), u3_10, H', ⟨by have := HK1.out; first | omega | exact Nat.le_refl _⟩, ⟨by (with_reducible repeat (first | refine blk_drewN ?_ _ | refine blk_drew ?_ | refine blk_alloc ?_ _)); refine blk_far ?_ NB145_147.out _; (with_reducible repeat (first | refine blk_drewN ?_ _ | refine blk_drew ?_ | refine blk_alloc ?_ _)); refine blk_far ?_ NB145_147.out _; (with_reducible repeat (first | refine blk_drewN ?_ _ | refine blk_drew ?_ | refine blk_alloc ?_ _)); refine blk_far ?_ NB145_147.out _; (with_reducible repeat (first | refine blk_drewN ?_ _ | refine blk_drew ?_ | refine blk_alloc ?_ _)); refine blk_far ?_ NB145_147.out _; (with_reducible repeat (first | refine blk_drewN ?_ _ | refine blk_drew ?_ | refine blk_alloc ?_ _)); refine blk_far ?_ NB145_147.out _; (with_reducible repeat (first | refine blk_drewN ?_ _ | refine blk_drew ?_ | refine blk_alloc ?_ _)); exact BK145.out⟩, ⟨by (with_reducible repeat (first | refine blk_drewN ?_ _ | refine blk_drew ?_ | refine blk_alloc ?_ _)); refine blk_put (cs := #[.int .u64 ((rd_T53 l0_0 x3_1).f0), .int .u64 ((rd_T53 l0_0 x3_1).f1), .int .u64 ((rd_T53 l0_0 x3_1).f2), .int .u64 ((rd_T53 l0_0 x3_1).f3), .int .i64 0]) ?_ 4 _ rfl; (with_reducible repeat (first | refine blk_drewN ?_ _ | refine blk_drew ?_ | refine blk_alloc ?_ _)); refine blk_put (cs := #[.int .u64 ((rd_T53 l0_0 x3_1).f0), .int .u64 ((rd_T53 l0_0 x3_1).f1), .int .u64 ((rd_T53 l0_0 x3_1).f2), .int .u64 0, .int .i64 0]) ?_ 3 _ rfl; (with_reducible repeat (first | refine blk_drewN ?_ _ | refine blk_drew ?_ | refine blk_alloc ?_ _)); refine blk_put (cs := #[.int .u64 ((rd_T53 l0_0 x3_1).f0), .int .u64 ((rd_T53 l0_0 x3_1).f1), .int .u64 0, .int .u64 0, .int .i64 0]) ?_ 2 _ rfl; (with_reducible repeat (first | refine blk_drewN ?_ _ | refine blk_drew ?_ | refine blk_alloc ?_ _)); refine blk_put (cs := #[.int .u64 ((rd_T53 l0_0 x3_1).f0), .int .u64 0, .int .u64 0, .int .u64 0, .int .i64 0]) ?_ 1 _ rfl; (with_reducible repeat (first | refine blk_drewN ?_ _ | refine blk_drew ?_ | refine blk_alloc ?_ _)); refine blk_put (cs := #[.int .u64 0, .int .u64 0, .int .u64 0, .int .u64 0, .int .i64 0]) ?_ 0 _ rfl; (with_reducible repeat (first | refine blk_drewN ?_ _ | refine blk_drew ?_ | refine blk_alloc ?_ _)); exact BK147.out⟩, ⟨by repeat (first | (with_reducible first | exact HB.out | apply below_alloc | apply pw_below_drewN | apply below_drew1 | refine below_set ?_ GE145.out | refine below_set ?_ GE147.out) | exact HB.out)⟩⟩
                          · rw [if_neg c27] at H
                            have c27b0 : (((rd_T53 l0_0 x3_1).f2) == 0) = false := beq_eq_false_iff_ne.mpr c27
                            have c27b1 : (((rd_T53 l0_0 x3_1).f2) != 0) = true := bne_iff_ne.mpr c27
                            have H' := Aside0.mk H
                            clear H
                            have hnb31 := NB145_147.out
                            have hnc31 := NB147_145.out
                            have hcz32_0 : w11.cell? ⟨gb145, 0, none⟩ = some (.slice (some ad146) l0_0.length c0_0) := (blk_cell BK145.out 0).trans rfl
                            have hfz32_0 := blk_frozen BK145.out 0
                            have p148 : 0 ≤ ((ji15) : Int) := of_decide_eq_true u3_9
                            have q148 : (ji15) < (l0_0.length : Int) := of_decide_eq_true u3_9
                            obtain ⟨ad148, e148, hx148_0, hx148_1, hx148_2, hx148_3, hx148_4⟩ := at_T53 HR0_0.out (ji15) p148 q148
                            obtain rfl : ad146 = ad148 := (by injection e148)
                            have hn148_0 : ad146.block ≠ gb147 := Nat.ne_of_lt (Nat.lt_of_lt_of_le u3_5 GW147.out)
                            have hn148_1 : ad146.block ≠ gb147 := Nat.ne_of_lt (Nat.lt_of_lt_of_le u3_5 GW147.out)
                            have hn148_2 : ad146.block ≠ gb147 := Nat.ne_of_lt (Nat.lt_of_lt_of_le u3_5 GW147.out)
                            have hn148_3 : ad146.block ≠ gb147 := Nat.ne_of_lt (Nat.lt_of_lt_of_le u3_5 GW147.out)
                            have hn148_4 : ad146.block ≠ gb147 := Nat.ne_of_lt (Nat.lt_of_lt_of_le u3_5 GW147.out)
                            replace hx148_0 := (HB.out.cell (World.block_lt_of_cell? w _ hx148_0)).trans hx148_0
                            replace hx148_1 := (HB.out.cell (World.block_lt_of_cell? w _ hx148_1)).trans hx148_1
                            replace hx148_2 := (HB.out.cell (World.block_lt_of_cell? w _ hx148_2)).trans hx148_2
                            replace hx148_3 := (HB.out.cell (World.block_lt_of_cell? w _ hx148_3)).trans hx148_3
                            replace hx148_4 := (HB.out.cell (World.block_lt_of_cell? w _ hx148_4)).trans hx148_4
                            replace hx148_0 := (cell_far (p := ⟨gb147, 0, none⟩) u3_0 (.int .u64 ((rd_T53 l0_0 x3_1).f0))).trans hx148_0
                            replace hx148_1 := (cell_far (p := ⟨gb147, 0, none⟩) u3_0 (.int .u64 ((rd_T53 l0_0 x3_1).f0))).trans hx148_1
                            replace hx148_2 := (cell_far (p := ⟨gb147, 0, none⟩) u3_0 (.int .u64 ((rd_T53 l0_0 x3_1).f0))).trans hx148_2
                            replace hx148_3 := (cell_far (p := ⟨gb147, 0, none⟩) u3_0 (.int .u64 ((rd_T53 l0_0 x3_1).f0))).trans hx148_3
                            replace hx148_4 := (cell_far (p := ⟨gb147, 0, none⟩) u3_0 (.int .u64 ((rd_T53 l0_0 x3_1).f0))).trans hx148_4
                            replace hx148_0 := (cell_far (p := ⟨gb147, 1, none⟩) u3_1 (.int .u64 ((rd_T53 l0_0 x3_1).f1))).trans hx148_0
                            replace hx148_1 := (cell_far (p := ⟨gb147, 1, none⟩) u3_1 (.int .u64 ((rd_T53 l0_0 x3_1).f1))).trans hx148_1
                            replace hx148_2 := (cell_far (p := ⟨gb147, 1, none⟩) u3_1 (.int .u64 ((rd_T53 l0_0 x3_1).f1))).trans hx148_2
                            replace hx148_3 := (cell_far (p := ⟨gb147, 1, none⟩) u3_1 (.int .u64 ((rd_T53 l0_0 x3_1).f1))).trans hx148_3
                            replace hx148_4 := (cell_far (p := ⟨gb147, 1, none⟩) u3_1 (.int .u64 ((rd_T53 l0_0 x3_1).f1))).trans hx148_4
                            replace hx148_0 := (cell_far (p := ⟨gb147, 2, none⟩) u3_2 (.int .u64 ((rd_T53 l0_0 x3_1).f2))).trans hx148_0
                            replace hx148_1 := (cell_far (p := ⟨gb147, 2, none⟩) u3_2 (.int .u64 ((rd_T53 l0_0 x3_1).f2))).trans hx148_1
                            replace hx148_2 := (cell_far (p := ⟨gb147, 2, none⟩) u3_2 (.int .u64 ((rd_T53 l0_0 x3_1).f2))).trans hx148_2
                            replace hx148_3 := (cell_far (p := ⟨gb147, 2, none⟩) u3_2 (.int .u64 ((rd_T53 l0_0 x3_1).f2))).trans hx148_3
                            replace hx148_4 := (cell_far (p := ⟨gb147, 2, none⟩) u3_2 (.int .u64 ((rd_T53 l0_0 x3_1).f2))).trans hx148_4
                            replace hx148_0 := (cell_far (p := ⟨gb147, 3, none⟩) u3_3 (.int .u64 ((rd_T53 l0_0 x3_1).f3))).trans hx148_0
                            replace hx148_1 := (cell_far (p := ⟨gb147, 3, none⟩) u3_3 (.int .u64 ((rd_T53 l0_0 x3_1).f3))).trans hx148_1
                            replace hx148_2 := (cell_far (p := ⟨gb147, 3, none⟩) u3_3 (.int .u64 ((rd_T53 l0_0 x3_1).f3))).trans hx148_2
                            replace hx148_3 := (cell_far (p := ⟨gb147, 3, none⟩) u3_3 (.int .u64 ((rd_T53 l0_0 x3_1).f3))).trans hx148_3
                            replace hx148_4 := (cell_far (p := ⟨gb147, 3, none⟩) u3_3 (.int .u64 ((rd_T53 l0_0 x3_1).f3))).trans hx148_4
                            replace hx148_0 := (cell_far (p := ⟨gb147, 4, none⟩) u3_4 (.int .i64 ((rd_T53 l0_0 x3_1).f4))).trans hx148_0
                            replace hx148_1 := (cell_far (p := ⟨gb147, 4, none⟩) u3_4 (.int .i64 ((rd_T53 l0_0 x3_1).f4))).trans hx148_1
                            replace hx148_2 := (cell_far (p := ⟨gb147, 4, none⟩) u3_4 (.int .i64 ((rd_T53 l0_0 x3_1).f4))).trans hx148_2
                            replace hx148_3 := (cell_far (p := ⟨gb147, 4, none⟩) u3_4 (.int .i64 ((rd_T53 l0_0 x3_1).f4))).trans hx148_3
                            replace hx148_4 := (cell_far (p := ⟨gb147, 4, none⟩) u3_4 (.int .i64 ((rd_T53 l0_0 x3_1).f4))).trans hx148_4
                            (try have hch_ := fun (n_ : Nat) => (show (((((((w11.drewN n_).setCell ⟨gb147, 0, none⟩ (.int .u64 ((rd_T53 l0_0 x3_1).f0))).setCell ⟨gb147, 1, none⟩ (.int .u64 ((rd_T53 l0_0 x3_1).f1))).setCell ⟨gb147, 2, none⟩ (.int .u64 ((rd_T53 l0_0 x3_1).f2))).setCell ⟨gb147, 3, none⟩ (.int .u64 ((rd_T53 l0_0 x3_1).f3))).setCell ⟨gb147, 4, none⟩ (.int .i64 ((rd_T53 l0_0 x3_1).f4)))) = World.drewN ((((((w11.setCell ⟨gb147, 0, none⟩ (.int .u64 ((rd_T53 l0_0 x3_1).f0))).setCell ⟨gb147, 1, none⟩ (.int .u64 ((rd_T53 l0_0 x3_1).f1))).setCell ⟨gb147, 2, none⟩ (.int .u64 ((rd_T53 l0_0 x3_1).f2))).setCell ⟨gb147, 3, none⟩ (.int .u64 ((rd_T53 l0_0 x3_1).f3))).setCell ⟨gb147, 4, none⟩ (.int .i64 ((rd_T53 l0_0 x3_1).f4)))) n_ from by simp only [Go.Proofs.Ytdbfjakhkclggaa.Slc.setCell_drewN])); (try have hy148_0 := fun (n_ : Nat) => Go.Proofs.Ytdbfjakhkclggaa.Slc.cell_of (hch_ n_) hx148_0)
                            (try have hy148_1 := fun (n_ : Nat) => Go.Proofs.Ytdbfjakhkclggaa.Slc.cell_of (hch_ n_) hx148_1)
                            (try have hy148_2 := fun (n_ : Nat) => Go.Proofs.Ytdbfjakhkclggaa.Slc.cell_of (hch_ n_) hx148_2)
                            (try have hy148_3 := fun (n_ : Nat) => Go.Proofs.Ytdbfjakhkclggaa.Slc.cell_of (hch_ n_) hx148_3)
                            (try have hy148_4 := fun (n_ : Nat) => Go.Proofs.Ytdbfjakhkclggaa.Slc.cell_of (hch_ n_) hx148_4)
                            clear hn148_0
                            clear hn148_1
                            clear hn148_2
                            clear hn148_3
                            clear hn148_4
                            replace p148 := eq_true p148
                            replace q148 := eq_true q148
                            have hcz33_0 : w11.cell? ⟨gb147, 0, none⟩ = some (.int .u64 0) := (blk_cell BK147.out 0).trans rfl
                            have hcz33_1 : w11.cell? ⟨gb147, 1, none⟩ = some (.int .u64 0) := (blk_cell BK147.out 1).trans rfl
                            have hcz33_2 : w11.cell? ⟨gb147, 2, none⟩ = some (.int .u64 0) := (blk_cell BK147.out 2).trans rfl
                            have hcz33_3 : w11.cell? ⟨gb147, 3, none⟩ = some (.int .u64 0) := (blk_cell BK147.out 3).trans rfl
                            have hcz33_4 : w11.cell? ⟨gb147, 4, none⟩ = some (.int .i64 0) := (blk_cell BK147.out 4).trans rfl
                            have hfz33_0 := blk_frozen BK147.out 0
                            have hfz33_1 := blk_frozen BK147.out 1
                            have hfz33_2 := blk_frozen BK147.out 2
                            have hfz33_3 := blk_frozen BK147.out 3
                            have hfz33_4 := blk_frozen BK147.out 4
                            go_wp2
                            repeat (go_quiet (fail); try go_wp2)
                            go_meet
                            case rel => exact ⟨_, (true), u3_10, H', ⟨by have := HK1.out; first | omega | exact Nat.le_refl _⟩, ⟨by (with_reducible repeat (first | refine blk_drewN ?_ _ | refine blk_drew ?_ | refine blk_alloc ?_ _)); refine blk_far ?_ NB145_147.out _; (with_reducible repeat (first | refine blk_drewN ?_ _ | refine blk_drew ?_ | refine blk_alloc ?_ _)); refine blk_far ?_ NB145_147.out _; (with_reducible repeat (first | refine blk_drewN ?_ _ | refine blk_drew ?_ | refine blk_alloc ?_ _)); refine blk_far ?_ NB145_147.out _; (with_reducible repeat (first | refine blk_drewN ?_ _ | refine blk_drew ?_ | refine blk_alloc ?_ _)); refine blk_far ?_ NB145_147.out _; (with_reducible repeat (first | refine blk_drewN ?_ _ | refine blk_drew ?_ | refine blk_alloc ?_ _)); refine blk_far ?_ NB145_147.out _; (with_reducible repeat (first | refine blk_drewN ?_ _ | refine blk_drew ?_ | refine blk_alloc ?_ _)); exact BK145.out⟩, ⟨by (with_reducible repeat (first | refine blk_drewN ?_ _ | refine blk_drew ?_ | refine blk_alloc ?_ _)); refine blk_put (cs := #[.int .u64 ((rd_T53 l0_0 x3_1).f0), .int .u64 ((rd_T53 l0_0 x3_1).f1), .int .u64 ((rd_T53 l0_0 x3_1).f2), .int .u64 ((rd_T53 l0_0 x3_1).f3), .int .i64 0]) ?_ 4 _ rfl; (with_reducible repeat (first | refine blk_drewN ?_ _ | refine blk_drew ?_ | refine blk_alloc ?_ _)); refine blk_put (cs := #[.int .u64 ((rd_T53 l0_0 x3_1).f0), .int .u64 ((rd_T53 l0_0 x3_1).f1), .int .u64 ((rd_T53 l0_0 x3_1).f2), .int .u64 0, .int .i64 0]) ?_ 3 _ rfl; (with_reducible repeat (first | refine blk_drewN ?_ _ | refine blk_drew ?_ | refine blk_alloc ?_ _)); refine blk_put (cs := #[.int .u64 ((rd_T53 l0_0 x3_1).f0), .int .u64 ((rd_T53 l0_0 x3_1).f1), .int .u64 0, .int .u64 0, .int .i64 0]) ?_ 2 _ rfl; (with_reducible repeat (first | refine blk_drewN ?_ _ | refine blk_drew ?_ | refine blk_alloc ?_ _)); refine blk_put (cs := #[.int .u64 ((rd_T53 l0_0 x3_1).f0), .int .u64 0, .int .u64 0, .int .u64 0, .int .i64 0]) ?_ 1 _ rfl; (with_reducible repeat (first | refine blk_drewN ?_ _ | refine blk_drew ?_ | refine blk_alloc ?_ _)); refine blk_put (cs := #[.int .u64 0, .int .u64 0, .int .u64 0, .int .u64 0, .int .i64 0]) ?_ 0 _ rfl; (with_reducible repeat (first | refine blk_drewN ?_ _ | refine blk_drew ?_ | refine blk_alloc ?_ _)); exact BK147.out⟩, ⟨by repeat (first | (with_reducible first | exact HB.out | apply below_alloc | apply pw_below_drewN | apply below_drew1 | refine below_set ?_ GE145.out | refine below_set ?_ GE147.out) | exact HB.out)⟩⟩
                        · rw [if_neg c26] at H
                          have c26b0 : (((rd_T53 l0_0 x3_1).f4) == 0) = false := beq_eq_false_iff_ne.mpr c26
                          have c26b1 : (((rd_T53 l0_0 x3_1).f4) != 0) = true := bne_iff_ne.mpr c26
                          have H' := Aside0.mk H
                          clear H
                          have hnb34 := NB145_147.out
                          have hnc34 := NB147_145.out
                          have hcz35_0 : w11.cell? ⟨gb145, 0, none⟩ = some (.slice (some ad146) l0_0.length c0_0) := (blk_cell BK145.out 0).trans rfl
                          have hfz35_0 := blk_frozen BK145.out 0
                          have p148 : 0 ≤ ((ji15) : Int) := of_decide_eq_true u3_9
                          have q148 : (ji15) < (l0_0.length : Int) := of_decide_eq_true u3_9
                          obtain ⟨ad148, e148, hx148_0, hx148_1, hx148_2, hx148_3, hx148_4⟩ := at_T53 HR0_0.out (ji15) p148 q148
                          obtain rfl : ad146 = ad148 := (by injection e148)
                          have hn148_0 : ad146.block ≠ gb147 := Nat.ne_of_lt (Nat.lt_of_lt_of_le u3_5 GW147.out)
                          have hn148_1 : ad146.block ≠ gb147 := Nat.ne_of_lt (Nat.lt_of_lt_of_le u3_5 GW147.out)
                          have hn148_2 : ad146.block ≠ gb147 := Nat.ne_of_lt (Nat.lt_of_lt_of_le u3_5 GW147.out)
                          have hn148_3 : ad146.block ≠ gb147 := Nat.ne_of_lt (Nat.lt_of_lt_of_le u3_5 GW147.out)
                          have hn148_4 : ad146.block ≠ gb147 := Nat.ne_of_lt (Nat.lt_of_lt_of_le u3_5 GW147.out)
                          replace hx148_0 := (HB.out.cell (World.block_lt_of_cell? w _ hx148_0)).trans hx148_0
                          replace hx148_1 := (HB.out.cell (World.block_lt_of_cell? w _ hx148_1)).trans hx148_1
                          replace hx148_2 := (HB.out.cell (World.block_lt_of_cell? w _ hx148_2)).trans hx148_2
                          replace hx148_3 := (HB.out.cell (World.block_lt_of_cell? w _ hx148_3)).trans hx148_3
                          replace hx148_4 := (HB.out.cell (World.block_lt_of_cell? w _ hx148_4)).trans hx148_4
                          replace hx148_0 := (cell_far (p := ⟨gb147, 0, none⟩) u3_0 (.int .u64 ((rd_T53 l0_0 x3_1).f0))).trans hx148_0
                          replace hx148_1 := (cell_far (p := ⟨gb147, 0, none⟩) u3_0 (.int .u64 ((rd_T53 l0_0 x3_1).f0))).trans hx148_1
                          replace hx148_2 := (cell_far (p := ⟨gb147, 0, none⟩) u3_0 (.int .u64 ((rd_T53 l0_0 x3_1).f0))).trans hx148_2
                          replace hx148_3 := (cell_far (p := ⟨gb147, 0, none⟩) u3_0 (.int .u64 ((rd_T53 l0_0 x3_1).f0))).trans hx148_3
                          replace hx148_4 := (cell_far (p := ⟨gb147, 0, none⟩) u3_0 (.int .u64 ((rd_T53 l0_0 x3_1).f0))).trans hx148_4
                          replace hx148_0 := (cell_far (p := ⟨gb147, 1, none⟩) u3_1 (.int .u64 ((rd_T53 l0_0 x3_1).f1))).trans hx148_0
                          replace hx148_1 := (cell_far (p := ⟨gb147, 1, none⟩) u3_1 (.int .u64 ((rd_T53 l0_0 x3_1).f1))).trans hx148_1
                          replace hx148_2 := (cell_far (p := ⟨gb147, 1, none⟩) u3_1 (.int .u64 ((rd_T53 l0_0 x3_1).f1))).trans hx148_2
                          replace hx148_3 := (cell_far (p := ⟨gb147, 1, none⟩) u3_1 (.int .u64 ((rd_T53 l0_0 x3_1).f1))).trans hx148_3
                          replace hx148_4 := (cell_far (p := ⟨gb147, 1, none⟩) u3_1 (.int .u64 ((rd_T53 l0_0 x3_1).f1))).trans hx148_4
                          replace hx148_0 := (cell_far (p := ⟨gb147, 2, none⟩) u3_2 (.int .u64 ((rd_T53 l0_0 x3_1).f2))).trans hx148_0
                          replace hx148_1 := (cell_far (p := ⟨gb147, 2, none⟩) u3_2 (.int .u64 ((rd_T53 l0_0 x3_1).f2))).trans hx148_1
                          replace hx148_2 := (cell_far (p := ⟨gb147, 2, none⟩) u3_2 (.int .u64 ((rd_T53 l0_0 x3_1).f2))).trans hx148_2
                          replace hx148_3 := (cell_far (p := ⟨gb147, 2, none⟩) u3_2 (.int .u64 ((rd_T53 l0_0 x3_1).f2))).trans hx148_3
                          replace hx148_4 := (cell_far (p := ⟨gb147, 2, none⟩) u3_2 (.int .u64 ((rd_T53 l0_0 x3_1).f2))).trans hx148_4
                          replace hx148_0 := (cell_far (p := ⟨gb147, 3, none⟩) u3_3 (.int .u64 ((rd_T53 l0_0 x3_1).f3))).trans hx148_0
                          replace hx148_1 := (cell_far (p := ⟨gb147, 3, none⟩) u3_3 (.int .u64 ((rd_T53 l0_0 x3_1).f3))).trans hx148_1
                          replace hx148_2 := (cell_far (p := ⟨gb147, 3, none⟩) u3_3 (.int .u64 ((rd_T53 l0_0 x3_1).f3))).trans hx148_2
                          replace hx148_3 := (cell_far (p := ⟨gb147, 3, none⟩) u3_3 (.int .u64 ((rd_T53 l0_0 x3_1).f3))).trans hx148_3
                          replace hx148_4 := (cell_far (p := ⟨gb147, 3, none⟩) u3_3 (.int .u64 ((rd_T53 l0_0 x3_1).f3))).trans hx148_4
                          replace hx148_0 := (cell_far (p := ⟨gb147, 4, none⟩) u3_4 (.int .i64 ((rd_T53 l0_0 x3_1).f4))).trans hx148_0
                          replace hx148_1 := (cell_far (p := ⟨gb147, 4, none⟩) u3_4 (.int .i64 ((rd_T53 l0_0 x3_1).f4))).trans hx148_1
                          replace hx148_2 := (cell_far (p := ⟨gb147, 4, none⟩) u3_4 (.int .i64 ((rd_T53 l0_0 x3_1).f4))).trans hx148_2
                          replace hx148_3 := (cell_far (p := ⟨gb147, 4, none⟩) u3_4 (.int .i64 ((rd_T53 l0_0 x3_1).f4))).trans hx148_3
                          replace hx148_4 := (cell_far (p := ⟨gb147, 4, none⟩) u3_4 (.int .i64 ((rd_T53 l0_0 x3_1).f4))).trans hx148_4
                          (try have hch_ := fun (n_ : Nat) => (show (((((((w11.drewN n_).setCell ⟨gb147, 0, none⟩ (.int .u64 ((rd_T53 l0_0 x3_1).f0))).setCell ⟨gb147, 1, none⟩ (.int .u64 ((rd_T53 l0_0 x3_1).f1))).setCell ⟨gb147, 2, none⟩ (.int .u64 ((rd_T53 l0_0 x3_1).f2))).setCell ⟨gb147, 3, none⟩ (.int .u64 ((rd_T53 l0_0 x3_1).f3))).setCell ⟨gb147, 4, none⟩ (.int .i64 ((rd_T53 l0_0 x3_1).f4)))) = World.drewN ((((((w11.setCell ⟨gb147, 0, none⟩ (.int .u64 ((rd_T53 l0_0 x3_1).f0))).setCell ⟨gb147, 1, none⟩ (.int .u64 ((rd_T53 l0_0 x3_1).f1))).setCell ⟨gb147, 2, none⟩ (.int .u64 ((rd_T53 l0_0 x3_1).f2))).setCell ⟨gb147, 3, none⟩ (.int .u64 ((rd_T53 l0_0 x3_1).f3))).setCell ⟨gb147, 4, none⟩ (.int .i64 ((rd_T53 l0_0 x3_1).f4)))) n_ from by simp only [Go.Proofs.Ytdbfjakhkclggaa.Slc.setCell_drewN])); (try have hy148_0 := fun (n_ : Nat) => Go.Proofs.Ytdbfjakhkclggaa.Slc.cell_of (hch_ n_) hx148_0)
                          (try have hy148_1 := fun (n_ : Nat) => Go.Proofs.Ytdbfjakhkclggaa.Slc.cell_of (hch_ n_) hx148_1)
                          (try have hy148_2 := fun (n_ : Nat) => Go.Proofs.Ytdbfjakhkclggaa.Slc.cell_of (hch_ n_) hx148_2)
                          (try have hy148_3 := fun (n_ : Nat) => Go.Proofs.Ytdbfjakhkclggaa.Slc.cell_of (hch_ n_) hx148_3)
                          (try have hy148_4 := fun (n_ : Nat) => Go.Proofs.Ytdbfjakhkclggaa.Slc.cell_of (hch_ n_) hx148_4)
                          clear hn148_0
                          clear hn148_1
                          clear hn148_2
                          clear hn148_3
                          clear hn148_4
                          replace p148 := eq_true p148
                          replace q148 := eq_true q148
                          have hcz36_0 : w11.cell? ⟨gb147, 0, none⟩ = some (.int .u64 0) := (blk_cell BK147.out 0).trans rfl
                          have hcz36_1 : w11.cell? ⟨gb147, 1, none⟩ = some (.int .u64 0) := (blk_cell BK147.out 1).trans rfl
                          have hcz36_2 : w11.cell? ⟨gb147, 2, none⟩ = some (.int .u64 0) := (blk_cell BK147.out 2).trans rfl
                          have hcz36_3 : w11.cell? ⟨gb147, 3, none⟩ = some (.int .u64 0) := (blk_cell BK147.out 3).trans rfl
                          have hcz36_4 : w11.cell? ⟨gb147, 4, none⟩ = some (.int .i64 0) := (blk_cell BK147.out 4).trans rfl
                          have hfz36_0 := blk_frozen BK147.out 0
                          have hfz36_1 := blk_frozen BK147.out 1
                          have hfz36_2 := blk_frozen BK147.out 2
                          have hfz36_3 := blk_frozen BK147.out 3
                          have hfz36_4 := blk_frozen BK147.out 4
                          go_wp2
                          repeat (go_quiet (fail); try go_wp2)
                          go_meet
                          case rel => exact ⟨_, (false), u3_10, H', ⟨by have := HK1.out; first | omega | exact Nat.le_refl _⟩, ⟨by (with_reducible repeat (first | refine blk_drewN ?_ _ | refine blk_drew ?_ | refine blk_alloc ?_ _)); refine blk_far ?_ NB145_147.out _; (with_reducible repeat (first | refine blk_drewN ?_ _ | refine blk_drew ?_ | refine blk_alloc ?_ _)); refine blk_far ?_ NB145_147.out _; (with_reducible repeat (first | refine blk_drewN ?_ _ | refine blk_drew ?_ | refine blk_alloc ?_ _)); refine blk_far ?_ NB145_147.out _; (with_reducible repeat (first | refine blk_drewN ?_ _ | refine blk_drew ?_ | refine blk_alloc ?_ _)); refine blk_far ?_ NB145_147.out _; (with_reducible repeat (first | refine blk_drewN ?_ _ | refine blk_drew ?_ | refine blk_alloc ?_ _)); refine blk_far ?_ NB145_147.out _; (with_reducible repeat (first | refine blk_drewN ?_ _ | refine blk_drew ?_ | refine blk_alloc ?_ _)); exact BK145.out⟩, ⟨by (with_reducible repeat (first | refine blk_drewN ?_ _ | refine blk_drew ?_ | refine blk_alloc ?_ _)); refine blk_put (cs := #[.int .u64 ((rd_T53 l0_0 x3_1).f0), .int .u64 ((rd_T53 l0_0 x3_1).f1), .int .u64 ((rd_T53 l0_0 x3_1).f2), .int .u64 ((rd_T53 l0_0 x3_1).f3), .int .i64 0]) ?_ 4 _ rfl; (with_reducible repeat (first | refine blk_drewN ?_ _ | refine blk_drew ?_ | refine blk_alloc ?_ _)); refine blk_put (cs := #[.int .u64 ((rd_T53 l0_0 x3_1).f0), .int .u64 ((rd_T53 l0_0 x3_1).f1), .int .u64 ((rd_T53 l0_0 x3_1).f2), .int .u64 0, .int .i64 0]) ?_ 3 _ rfl; (with_reducible repeat (first | refine blk_drewN ?_ _ | refine blk_drew ?_ | refine blk_alloc ?_ _)); refine blk_put (cs := #[.int .u64 ((rd_T53 l0_0 x3_1).f0), .int .u64 ((rd_T53 l0_0 x3_1).f1), .int .u64 0, .int .u64 0, .int .i64 0]) ?_ 2 _ rfl; (with_reducible repeat (first | refine blk_drewN ?_ _ | refine blk_drew ?_ | refine blk_alloc ?_ _)); refine blk_put (cs := #[.int .u64 ((rd_T53 l0_0 x3_1).f0), .int .u64 0, .int .u64 0, .int .u64 0, .int .i64 0]) ?_ 1 _ rfl; (with_reducible repeat (first | refine blk_drewN ?_ _ | refine blk_drew ?_ | refine blk_alloc ?_ _)); refine blk_put (cs := #[.int .u64 0, .int .u64 0, .int .u64 0, .int .u64 0, .int .i64 0]) ?_ 0 _ rfl; (with_reducible repeat (first | refine blk_drewN ?_ _ | refine blk_drew ?_ | refine blk_alloc ?_ _)); exact BK147.out⟩, ⟨by repeat (first | (with_reducible first | exact HB.out | apply below_alloc | apply pw_below_drewN | apply below_drew1 | refine below_set ?_ GE145.out | refine below_set ?_ GE147.out) | exact HB.out)⟩⟩
                  · rw [if_neg c17] at H
                    exact absurd H (by simp)
                · rw [if_neg c16] at H
                  exact absurd H (by simp)
              · rw [if_neg c14] at H
                have c14b0 : decide (0 < x3_1) = false := decide_eq_false c14
                clear c14
                (first | rw [c14b0] | (simp only [i64_w, i32_w]; rw [c14b0]) | skip)
                by_cases c37 : ((rd_T53 l0_0 x3_1).f4) < 0
                · rw [if_pos c37] at H
                  have c37b0 : decide (((rd_T53 l0_0 x3_1).f4) < 0) = true := decide_eq_true c37
                  clear c37
                  have H' := Aside0.mk H
                  clear H
                  have hnb38 := NB147_145.out
                  have hnc38 := NB145_147.out
                  have hcz39_0 : w11.cell? ⟨gb147, 0, none⟩ = some (.int .u64 0) := (blk_cell BK147.out 0).trans rfl
                  have hcz39_1 : w11.cell? ⟨gb147, 1, none⟩ = some (.int .u64 0) := (blk_cell BK147.out 1).trans rfl
                  have hcz39_2 : w11.cell? ⟨gb147, 2, none⟩ = some (.int .u64 0) := (blk_cell BK147.out 2).trans rfl
                  have hcz39_3 : w11.cell? ⟨gb147, 3, none⟩ = some (.int .u64 0) := (blk_cell BK147.out 3).trans rfl
                  have hcz39_4 : w11.cell? ⟨gb147, 4, none⟩ = some (.int .i64 0) := (blk_cell BK147.out 4).trans rfl
                  have hfz39_0 := blk_frozen BK147.out 0
                  have hfz39_1 := blk_frozen BK147.out 1
                  have hfz39_2 := blk_frozen BK147.out 2
                  have hfz39_3 := blk_frozen BK147.out 3
                  have hfz39_4 := blk_frozen BK147.out 4
                  go_wp2
                  repeat (go_quiet (fail); try go_wp2)
                  go_meet
                  case rel => exact ⟨_, (true), u3_10, H', ⟨by have := HK1.out; first | omega | exact Nat.le_refl _⟩, ⟨by (with_reducible repeat (first | refine blk_drewN ?_ _ | refine blk_drew ?_ | refine blk_alloc ?_ _)); refine blk_far ?_ NB145_147.out _; (with_reducible repeat (first | refine blk_drewN ?_ _ | refine blk_drew ?_ | refine blk_alloc ?_ _)); refine blk_far ?_ NB145_147.out _; (with_reducible repeat (first | refine blk_drewN ?_ _ | refine blk_drew ?_ | refine blk_alloc ?_ _)); refine blk_far ?_ NB145_147.out _; (with_reducible repeat (first | refine blk_drewN ?_ _ | refine blk_drew ?_ | refine blk_alloc ?_ _)); refine blk_far ?_ NB145_147.out _; (with_reducible repeat (first | refine blk_drewN ?_ _ | refine blk_drew ?_ | refine blk_alloc ?_ _)); refine blk_far ?_ NB145_147.out _; (with_reducible repeat (first | refine blk_drewN ?_ _ | refine blk_drew ?_ | refine blk_alloc ?_ _)); exact BK145.out⟩, ⟨by (with_reducible repeat (first | refine blk_drewN ?_ _ | refine blk_drew ?_ | refine blk_alloc ?_ _)); refine blk_put (cs := #[.int .u64 ((rd_T53 l0_0 x3_1).f0), .int .u64 ((rd_T53 l0_0 x3_1).f1), .int .u64 ((rd_T53 l0_0 x3_1).f2), .int .u64 ((rd_T53 l0_0 x3_1).f3), .int .i64 0]) ?_ 4 _ rfl; (with_reducible repeat (first | refine blk_drewN ?_ _ | refine blk_drew ?_ | refine blk_alloc ?_ _)); refine blk_put (cs := #[.int .u64 ((rd_T53 l0_0 x3_1).f0), .int .u64 ((rd_T53 l0_0 x3_1).f1), .int .u64 ((rd_T53 l0_0 x3_1).f2), .int .u64 0, .int .i64 0]) ?_ 3 _ rfl; (with_reducible repeat (first | refine blk_drewN ?_ _ | refine blk_drew ?_ | refine blk_alloc ?_ _)); refine blk_put (cs := #[.int .u64 ((rd_T53 l0_0 x3_1).f0), .int .u64 ((rd_T53 l0_0 x3_1).f1), .int .u64 0, .int .u64 0, .int .i64 0]) ?_ 2 _ rfl; (with_reducible repeat (first | refine blk_drewN ?_ _ | refine blk_drew ?_ | refine blk_alloc ?_ _)); refine blk_put (cs := #[.int .u64 ((rd_T53 l0_0 x3_1).f0), .int .u64 0, .int .u64 0, .int .u64 0, .int .i64 0]) ?_ 1 _ rfl; (with_reducible repeat (first | refine blk_drewN ?_ _ | refine blk_drew ?_ | refine blk_alloc ?_ _)); refine blk_put (cs := #[.int .u64 0, .int .u64 0, .int .u64 0, .int .u64 0, .int .i64 0]) ?_ 0 _ rfl; (with_reducible repeat (first | refine blk_drewN ?_ _ | refine blk_drew ?_ | refine blk_alloc ?_ _)); exact BK147.out⟩, ⟨by repeat (first | (with_reducible first | exact HB.out | apply below_alloc | apply pw_below_drewN | apply below_drew1 | refine below_set ?_ GE145.out | refine below_set ?_ GE147.out) | exact HB.out)⟩⟩
                · rw [if_neg c37] at H
                  have c37b0 : decide (((rd_T53 l0_0 x3_1).f4) < 0) = false := decide_eq_false c37
                  clear c37
                  by_cases c40 : ((rd_T53 l0_0 x3_1).f4) = 0
                  · rw [if_pos c40] at H
                    have c40b0 : (((rd_T53 l0_0 x3_1).f4) == 0) = true := beq_iff_eq.mpr c40
                    have c40b1 : (((rd_T53 l0_0 x3_1).f4) != 0) = false := bne_eq_false_iff_eq.mpr c40
                    clear c40
                    by_cases c41 : ((rd_T53 l0_0 x3_1).f2) = 0
                    · rw [if_pos c41] at H
                      have c41b0 : (((rd_T53 l0_0 x3_1).f2) == 0) = true := beq_iff_eq.mpr c41
                      have c41b1 : (((rd_T53 l0_0 x3_1).f2) != 0) = false := bne_eq_false_iff_eq.mpr c41
                      clear c41
                      have H' := Aside0.mk H
                      clear H
                      have hnb42 := NB147_145.out
                      have hnc42 := NB145_147.out
                      have hcz43_0 : w11.cell? ⟨gb147, 0, none⟩ = some (.int .u64 0) := (blk_cell BK147.out 0).trans rfl
                      have hcz43_1 : w11.cell? ⟨gb147, 1, none⟩ = some (.int .u64 0) := (blk_cell BK147.out 1).trans rfl
                      have hcz43_2 : w11.cell? ⟨gb147, 2, none⟩ = some (.int .u64 0) := (blk_cell BK147.out 2).trans rfl
                      have hcz43_3 : w11.cell? ⟨gb147, 3, none⟩ = some (.int .u64 0) := (blk_cell BK147.out 3).trans rfl
                      have hcz43_4 : w11.cell? ⟨gb147, 4, none⟩ = some (.int .i64 0) := (blk_cell BK147.out 4).trans rfl
                      have hfz43_0 := blk_frozen BK147.out 0
                      have hfz43_1 := blk_frozen BK147.out 1
                      have hfz43_2 := blk_frozen BK147.out 2
                      have hfz43_3 := blk_frozen BK147.out 3
                      have hfz43_4 := blk_frozen BK147.out 4
                      go_wp2
                      repeat (go_quiet (fail); try go_wp2)
                      go_meet
                      case rel => exact ⟨_, ((((rd_T53 l0_0 x3_1).f3) != 0)), u3_10, H', ⟨by have := HK1.out; first | omega | exact Nat.le_refl _⟩, ⟨by (with_reducible repeat (first | refine blk_drewN ?_ _ | refine blk_drew ?_ | refine blk_alloc ?_ _)); refine blk_far ?_ NB145_147.out _; (with_reducible repeat (first | refine blk_drewN ?_ _ | refine blk_drew ?_ | refine blk_alloc ?_ _)); refine blk_far ?_ NB145_147.out _; (with_reducible repeat (first | refine blk_drewN ?_ _ | refine blk_drew ?_ | refine blk_alloc ?_ _)); refine blk_far ?_ NB145_147.out _; (with_reducible repeat (first | refine blk_drewN ?_ _ | refine blk_drew ?_ | refine blk_alloc ?_ _)); refine blk_far ?_ NB145_147.out _; (with_reducible repeat (first | refine blk_drewN ?_ _ | refine blk_drew ?_ | refine blk_alloc ?_ _)); refine blk_far ?_ NB145_147.out _; (with_reducible repeat (first | refine blk_drewN ?_ _ | refine blk_drew ?_ | refine blk_alloc ?_ _)); exact BK145.out⟩, ⟨by (with_reducible repeat (first | refine blk_drewN ?_ _ | refine blk_drew ?_ | refine blk_alloc ?_ _)); refine blk_put (cs := #[.int .u64 ((rd_T53 l0_0 x3_1).f0), .int .u64 ((rd_T53 l0_0 x3_1).f1), .int .u64 ((rd_T53 l0_0 x3_1).f2), .int .u64 ((rd_T53 l0_0 x3_1).f3), .int .i64 0]) ?_ 4 _ rfl; (with_reducible repeat (first | refine blk_drewN ?_ _ | refine blk_drew ?_ | refine blk_alloc ?_ _)); refine blk_put (cs := #[.int .u64 ((rd_T53 l0_0 x3_1).f0), .int .u64 ((rd_T53 l0_0 x3_1).f1), .int .u64 ((rd_T53 l0_0 x3_1).f2), .int .u64 0, .int .i64 0]) ?_ 3 _ rfl; (with_reducible repeat (first | refine blk_drewN ?_ _ | refine blk_drew ?_ | refine blk_alloc ?_ _)); refine blk_put (cs := #[.int .u64 ((rd_T53 l0_0 x3_1).f0), .int .u64 ((rd_T53 l0_0 x3_1).f1), .int .u64 0, .int .u64 0, .int .i64 0]) ?_ 2 _ rfl; (with_reducible repeat (first | refine blk_drewN ?_ _ | refine blk_drew ?_ | refine blk_alloc ?_ _)); refine blk_put (cs := #[.int .u64 ((rd_T53 l0_0 x3_1).f0), .int .u64 0, .int .u64 0, .int .u64 0, .int .i64 0]) ?_ 1 _ rfl; (with_reducible repeat (first | refine blk_drewN ?_ _ | refine blk_drew ?_ | refine blk_alloc ?_ _)); refine blk_put (cs := #[.int .u64 0, .int .u64 0, .int .u64 0, .int .u64 0, .int .i64 0]) ?_ 0 _ rfl; (with_reducible repeat (first | refine blk_drewN ?_ _ | refine blk_drew ?_ | refine blk_alloc ?_ _)); exact BK147.out⟩, ⟨by repeat (first | (with_reducible first | exact HB.out | apply below_alloc | apply pw_below_drewN | apply below_drew1 | refine below_set ?_ GE145.out | refine below_set ?_ GE147.out) | exact HB.out)⟩⟩
                    · rw [if_neg c41] at H
                      have c41b0 : (((rd_T53 l0_0 x3_1).f2) == 0) = false := beq_eq_false_iff_ne.mpr c41
                      have c41b1 : (((rd_T53 l0_0 x3_1).f2) != 0) = true := bne_iff_ne.mpr c41
                      have H' := Aside0.mk H
                      clear H
                      have hnb44 := NB147_145.out
                      have hnc44 := NB145_147.out
                      have hcz45_0 : w11.cell? ⟨gb147, 0, none⟩ = some (.int .u64 0) := (blk_cell BK147.out 0).trans rfl
                      have hcz45_1 : w11.cell? ⟨gb147, 1, none⟩ = some (.int .u64 0) := (blk_cell BK147.out 1).trans rfl
                      have hcz45_2 : w11.cell? ⟨gb147, 2, none⟩ = some (.int .u64 0) := (blk_cell BK147.out 2).trans rfl
                      have hcz45_3 : w11.cell? ⟨gb147, 3, none⟩ = some (.int .u64 0) := (blk_cell BK147.out 3).trans rfl
                      have hcz45_4 : w11.cell? ⟨gb147, 4, none⟩ = some (.int .i64 0) := (blk_cell BK147.out 4).trans rfl
                      have hfz45_0 := blk_frozen BK147.out 0
                      have hfz45_1 := blk_frozen BK147.out 1
                      have hfz45_2 := blk_frozen BK147.out 2
                      have hfz45_3 := blk_frozen BK147.out 3
                      have hfz45_4 := blk_frozen BK147.out 4
                      go_wp2
                      repeat (go_quiet (fail); try go_wp2)
                      go_meet
                      case rel => exact ⟨_, (true), u3_10, H', ⟨by have := HK1.out; first | omega | exact Nat.le_refl _⟩, ⟨by (with_reducible repeat (first | refine blk_drewN ?_ _ | refine blk_drew ?_ | refine blk_alloc ?_ _)); refine blk_far ?_ NB145_147.out _; (with_reducible repeat (first | refine blk_drewN ?_ _ | refine blk_drew ?_ | refine blk_alloc ?_ _)); refine blk_far ?_ NB145_147.out _; (with_reducible repeat (first | refine blk_drewN ?_ _ | refine blk_drew ?_ | refine blk_alloc ?_ _)); refine blk_far ?_ NB145_147.out _; (with_reducible repeat (first | refine blk_drewN ?_ _ | refine blk_drew ?_ | refine blk_alloc ?_ _)); refine blk_far ?_ NB145_147.out _; (with_reducible repeat (first | refine blk_drewN ?_ _ | refine blk_drew ?_ | refine blk_alloc ?_ _)); refine blk_far ?_ NB145_147.out _; (with_reducible repeat (first | refine blk_drewN ?_ _ | refine blk_drew ?_ | refine blk_alloc ?_ _)); exact BK145.out⟩, ⟨by (with_reducible repeat (first | refine blk_drewN ?_ _ | refine blk_drew ?_ | refine blk_alloc ?_ _)); refine blk_put (cs := #[.int .u64 ((rd_T53 l0_0 x3_1).f0), .int .u64 ((rd_T53 l0_0 x3_1).f1), .int .u64 ((rd_T53 l0_0 x3_1).f2), .int .u64 ((rd_T53 l0_0 x3_1).f3), .int .i64 0]) ?_ 4 _ rfl; (with_reducible repeat (first | refine blk_drewN ?_ _ | refine blk_drew ?_ | refine blk_alloc ?_ _)); refine blk_put (cs := #[.int .u64 ((rd_T53 l0_0 x3_1).f0), .int .u64 ((rd_T53 l0_0 x3_1).f1), .int .u64 ((rd_T53 l0_0 x3_1).f2), .int .u64 0, .int .i64 0]) ?_ 3 _ rfl; (with_reducible repeat (first | refine blk_drewN ?_ _ | refine blk_drew ?_ | refine blk_alloc ?_ _)); refine blk_put (cs := #[.int .u64 ((rd_T53 l0_0 x3_1).f0), .int .u64 ((rd_T53 l0_0 x3_1).f1), .int .u64 0, .int .u64 0, .int .i64 0]) ?_ 2 _ rfl; (with_reducible repeat (first | refine blk_drewN ?_ _ | refine blk_drew ?_ | refine blk_alloc ?_ _)); refine blk_put (cs := #[.int .u64 ((rd_T53 l0_0 x3_1).f0), .int .u64 0, .int .u64 0, .int .u64 0, .int .i64 0]) ?_ 1 _ rfl; (with_reducible repeat (first | refine blk_drewN ?_ _ | refine blk_drew ?_ | refine blk_alloc ?_ _)); refine blk_put (cs := #[.int .u64 0, .int .u64 0, .int .u64 0, .int .u64 0, .int .i64 0]) ?_ 0 _ rfl; (with_reducible repeat (first | refine blk_drewN ?_ _ | refine blk_drew ?_ | refine blk_alloc ?_ _)); exact BK147.out⟩, ⟨by repeat (first | (with_reducible first | exact HB.out | apply below_alloc | apply pw_below_drewN | apply below_drew1 | refine below_set ?_ GE145.out | refine below_set ?_ GE147.out) | exact HB.out)⟩⟩
                  · rw [if_neg c40] at H
                    have c40b0 : (((rd_T53 l0_0 x3_1).f4) == 0) = false := beq_eq_false_iff_ne.mpr c40
                    have c40b1 : (((rd_T53 l0_0 x3_1).f4) != 0) = true := bne_iff_ne.mpr c40
                    have H' := Aside0.mk H
                    clear H
                    have hnb46 := NB147_145.out
                    have hnc46 := NB145_147.out
                    have hcz47_0 : w11.cell? ⟨gb147, 0, none⟩ = some (.int .u64 0) := (blk_cell BK147.out 0).trans rfl
                    have hcz47_1 : w11.cell? ⟨gb147, 1, none⟩ = some (.int .u64 0) := (blk_cell BK147.out 1).trans rfl
                    have hcz47_2 : w11.cell? ⟨gb147, 2, none⟩ = some (.int .u64 0) := (blk_cell BK147.out 2).trans rfl
                    have hcz47_3 : w11.cell? ⟨gb147, 3, none⟩ = some (.int .u64 0) := (blk_cell BK147.out 3).trans rfl
                    have hcz47_4 : w11.cell? ⟨gb147, 4, none⟩ = some (.int .i64 0) := (blk_cell BK147.out 4).trans rfl
                    have hfz47_0 := blk_frozen BK147.out 0
                    have hfz47_1 := blk_frozen BK147.out 1
                    have hfz47_2 := blk_frozen BK147.out 2
                    have hfz47_3 := blk_frozen BK147.out 3
                    have hfz47_4 := blk_frozen BK147.out 4
                    go_wp2
                    repeat (go_quiet (fail); try go_wp2)
                    go_meet
                    case rel => exact ⟨_, (false), u3_10, H', ⟨by have := HK1.out; first | omega | exact Nat.le_refl _⟩, ⟨by (with_reducible repeat (first | refine blk_drewN ?_ _ | refine blk_drew ?_ | refine blk_alloc ?_ _)); refine blk_far ?_ NB145_147.out _; (with_reducible repeat (first | refine blk_drewN ?_ _ | refine blk_drew ?_ | refine blk_alloc ?_ _)); refine blk_far ?_ NB145_147.out _; (with_reducible repeat (first | refine blk_drewN ?_ _ | refine blk_drew ?_ | refine blk_alloc ?_ _)); refine blk_far ?_ NB145_147.out _; (with_reducible repeat (first | refine blk_drewN ?_ _ | refine blk_drew ?_ | refine blk_alloc ?_ _)); refine blk_far ?_ NB145_147.out _; (with_reducible repeat (first | refine blk_drewN ?_ _ | refine blk_drew ?_ | refine blk_alloc ?_ _)); refine blk_far ?_ NB145_147.out _; (with_reducible repeat (first | refine blk_drewN ?_ _ | refine blk_drew ?_ | refine blk_alloc ?_ _)); exact BK145.out⟩, ⟨by (with_reducible repeat (first | refine blk_drewN ?_ _ | refine blk_drew ?_ | refine blk_alloc ?_ _)); refine blk_put (cs := #[.int .u64 ((rd_T53 l0_0 x3_1).f0), .int .u64 ((rd_T53 l0_0 x3_1).f1), .int .u64 ((rd_T53 l0_0 x3_1).f2), .int .u64 ((rd_T53 l0_0 x3_1).f3), .int .i64 0]) ?_ 4 _ rfl; (with_reducible repeat (first | refine blk_drewN ?_ _ | refine blk_drew ?_ | refine blk_alloc ?_ _)); refine blk_put (cs := #[.int .u64 ((rd_T53 l0_0 x3_1).f0), .int .u64 ((rd_T53 l0_0 x3_1).f1), .int .u64 ((rd_T53 l0_0 x3_1).f2), .int .u64 0, .int .i64 0]) ?_ 3 _ rfl; (with_reducible repeat (first | refine blk_drewN ?_ _ | refine blk_drew ?_ | refine blk_alloc ?_ _)); refine blk_put (cs := #[.int .u64 ((rd_T53 l0_0 x3_1).f0), .int .u64 ((rd_T53 l0_0 x3_1).f1), .int .u64 0, .int .u64 0, .int .i64 0]) ?_ 2 _ rfl; (with_reducible repeat (first | refine blk_drewN ?_ _ | refine blk_drew ?_ | refine blk_alloc ?_ _)); refine blk_put (cs := #[.int .u64 ((rd_T53 l0_0 x3_1).f0), .int .u64 0, .int .u64 0, .int .u64 0, .int .i64 0]) ?_ 1 _ rfl; (with_reducible repeat (first | refine blk_drewN ?_ _ | refine blk_drew ?_ | refine blk_alloc ?_ _)); refine blk_put (cs := #[.int .u64 0, .int .u64 0, .int .u64 0, .int .u64 0, .int .i64 0]) ?_ 0 _ rfl; (with_reducible repeat (first | refine blk_drewN ?_ _ | refine blk_drew ?_ | refine blk_alloc ?_ _)); exact BK147.out⟩, ⟨by repeat (first | (with_reducible first | exact HB.out | apply below_alloc | apply pw_below_drewN | apply below_drew1 | refine below_set ?_ GE145.out | refine below_set ?_ GE147.out) | exact HB.out)⟩⟩
            case rest =>
              clear HC9
              try clear c1
              try clear p1
              try clear q1
              try clear hx1
              try clear c2
              try clear c2b0
              try clear c2b1
              try clear p2
              try clear c3
              try clear c4
              try clear p6
              try clear c7
              try clear c7b0
              try clear c8
              try clear c8b0
              try clear c12
              try clear c14
              try clear c14b0
              try clear p14
              try clear q14
              try clear hx14
              try clear c16
              try clear c16b0
              try clear c17
              try clear c17b0
              try clear c18
              try clear c18b0
              try clear c19
              try clear c22
              try clear c22b0
              try clear c23
              try clear c26
              try clear c26b0
              try clear c26b1
              try clear c27
              try clear c27b0
              try clear c27b1
              try clear c28
              try clear c31
              try clear c34
              try clear c37
              try clear c37b0
              try clear c38
              try clear c40
              try clear c40b0
              try clear c40b1
              try clear c41
              try clear c41b0
              try clear c41b1
              try clear c42
              try clear c44
              try clear c46
              try clear hcz10_0
              try clear hcz13_0
              try clear hcz13_1
              try clear hcz13_2
              try clear hcz13_3
              try clear hcz13_4
              try clear hcz20_0
              try clear hcz21_0
              try clear hcz21_1
              try clear hcz21_2
              try clear hcz21_3
              try clear hcz21_4
              try clear hcz24_0
              try clear hcz25_0
              try clear hcz25_1
              try clear hcz25_2
              try clear hcz25_3
              try clear hcz25_4
              try clear hcz29_0
              try clear hcz30_0
              try clear hcz30_1
              try clear hcz30_2
              try clear hcz30_3
              try clear hcz30_4
              try clear hcz32_0
              try clear hcz33_0
              try clear hcz33_1
              try clear hcz33_2
              try clear hcz33_3
              try clear hcz33_4
              try clear hcz35_0
              try clear hcz36_0
              try clear hcz36_1
              try clear hcz36_2
              try clear hcz36_3
              try clear hcz36_4
              try clear hcz39_0
              try clear hcz39_1
              try clear hcz39_2
              try clear hcz39_3
              try clear hcz39_4
              try clear hcz43_0
              try clear hcz43_1
              try clear hcz43_2
              try clear hcz43_3
              try clear hcz43_4
              try clear hcz45_0
              try clear hcz45_1
              try clear hcz45_2
              try clear hcz45_3
              try clear hcz45_4
              try clear hcz47_0
              try clear hcz47_1
              try clear hcz47_2
              try clear hcz47_3
              try clear hcz47_4
              try clear hcz4_0
              try clear hcz6_0
              try clear hfz10_0
              try clear hfz13_0
              try clear hfz13_1
              try clear hfz13_2
              try clear hfz13_3
              try clear hfz13_4
              try clear hfz20_0
              try clear hfz21_0
              try clear hfz21_1
              try clear hfz21_2
              try clear hfz21_3
              try clear hfz21_4
              try clear hfz24_0
              try clear hfz25_0
              try clear hfz25_1
              try clear hfz25_2
              try clear hfz25_3
              try clear hfz25_4
              try clear hfz29_0
              try clear hfz30_0
              try clear hfz30_1
              try clear hfz30_2
              try clear hfz30_3
              try clear hfz30_4
              try clear hfz32_0
              try clear hfz33_0
              try clear hfz33_1
              try clear hfz33_2
              try clear hfz33_3
              try clear hfz33_4
              try clear hfz35_0
              try clear hfz36_0
              try clear hfz36_1
              try clear hfz36_2
              try clear hfz36_3
              try clear hfz36_4
              try clear hfz39_0
              try clear hfz39_1
              try clear hfz39_2
              try clear hfz39_3
              try clear hfz39_4
              try clear hfz43_0
              try clear hfz43_1
              try clear hfz43_2
              try clear hfz43_3
              try clear hfz43_4
              try clear hfz45_0
              try clear hfz45_1
              try clear hfz45_2
              try clear hfz45_3
              try clear hfz45_4
              try clear hfz47_0
              try clear hfz47_1
              try clear hfz47_2
              try clear hfz47_3
              try clear hfz47_4
              try clear hfz4_0
              try clear hfz6_0
              try clear hx146_0
              try clear hx146_1
              try clear hx146_2
              try clear hx146_3
              try clear hx146_4
              try clear hx148_0
              try clear hx148_1
              try clear hx148_2
              try clear hx148_3
              try clear hx148_4
              try clear p146
              try clear p148
              try clear p2
              try clear q146
              try clear q148
              obtain ⟨kq, x54_8, rfl, HA, HJ8, BK145, BK147, HB⟩ := hcut
              cases kq with
              | zero => exact absurd HA.out (by simp [spec_BookOk.j1])
              | succ kj8 =>
                have H := HA.out
                clear HA
                simp only [spec_BookOk.j1] at H
                by_cases c48 : x54_8 = true
                · subst c48
                  have H1 : (some false) = some r := by rw [if_pos rfl] at H; exact H
                  clear H
                  have H := H1
                  clear H1
                  obtain rfl := Option.some.inj H
                  go_wp2
                  repeat (go_quiet (fail); try go_wp2)
                  go_ret
                  exact ⟨by first | rfl | (simp [errW_none, errW_some] <;> rfl) | (simp [*, errW_none, errW_some] <;> rfl), by repeat (first | (with_reducible first | exact HB.out | apply below_alloc | apply pw_below_drewN | apply below_drew1 | refine below_set ?_ GE145.out | refine below_set ?_ GE147.out) | exact HB.out)⟩
                · replace c48 := Bool.eq_false_iff.mpr c48
                  subst c48
                  have H1 : (if ((rd_T53 l0_0 x3_1).f2) > (IntKind.u64.wrap (18446744073709551615 - ((rd_T53 l0_0 x3_1).f1))) then (some false) else (if ((rd_T53 l0_0 x3_1).f3) > (IntKind.u64.wrap ((IntKind.u64.wrap (18446744073709551615 - ((rd_T53 l0_0 x3_1).f1))) - ((rd_T53 l0_0 x3_1).f2))) then (some false) else (spec_BookOk.l0 kj8 (wrap64 (x3_1 + 1)) l0_0))) = some r := by rw [if_neg (show ¬ (false = true) by decide)] at H; exact H
                  clear H
                  have H := H1
                  clear H1
                  by_cases c49 : ((rd_T53 l0_0 x3_1).f2) > (IntKind.u64.wrap (18446744073709551615 - ((rd_T53 l0_0 x3_1).f1)))
                  · rw [if_pos c49] at H
                    have c49b0 : decide ((IntKind.u64.wrap (18446744073709551615 - ((rd_T53 l0_0 x3_1).f1))) < ((rd_T53 l0_0 x3_1).f2)) = true := decide_eq_true c49
                    clear c49
                    obtain rfl := Option.some.inj H
                    have hnb50 := NB147_145.out
                    have hnc50 := NB145_147.out
                    have hcz51_0 : wc.cell? ⟨gb147, 0, none⟩ = some (.int .u64 ((rd_T53 l0_0 x3_1).f0)) := (blk_cell BK147.out 0).trans rfl
                    have hcz51_1 : wc.cell? ⟨gb147, 1, none⟩ = some (.int .u64 ((rd_T53 l0_0 x3_1).f1)) := (blk_cell BK147.out 1).trans rfl
                    have hcz51_2 : wc.cell? ⟨gb147, 2, none⟩ = some (.int .u64 ((rd_T53 l0_0 x3_1).f2)) := (blk_cell BK147.out 2).trans rfl
                    have hcz51_3 : wc.cell? ⟨gb147, 3, none⟩ = some (.int .u64 ((rd_T53 l0_0 x3_1).f3)) := (blk_cell BK147.out 3).trans rfl
                    have hcz51_4 : wc.cell? ⟨gb147, 4, none⟩ = some (.int .i64 ((rd_T53 l0_0 x3_1).f4)) := (blk_cell BK147.out 4).trans rfl
                    have hfz51_0 := blk_frozen BK147.out 0
                    have hfz51_1 := blk_frozen BK147.out 1
                    have hfz51_2 := blk_frozen BK147.out 2
                    have hfz51_3 := blk_frozen BK147.out 3
                    have hfz51_4 := blk_frozen BK147.out 4
                    go_wp2
                    repeat (go_quiet (fail); try go_wp2)
                    go_ret
                    exact ⟨by first | rfl | (simp [errW_none, errW_some] <;> rfl) | (simp [*, errW_none, errW_some] <;> rfl), by repeat (first | (with_reducible first | exact HB.out | apply below_alloc | apply pw_below_drewN | apply below_drew1 | refine below_set ?_ GE145.out | refine below_set ?_ GE147.out) | exact HB.out)⟩
                  · rw [if_neg c49] at H
                    have c49b0 : decide ((IntKind.u64.wrap (18446744073709551615 - ((rd_T53 l0_0 x3_1).f1))) < ((rd_T53 l0_0 x3_1).f2)) = false := decide_eq_false c49
                    clear c49
                    by_cases c52 : ((rd_T53 l0_0 x3_1).f3) > (IntKind.u64.wrap ((IntKind.u64.wrap (18446744073709551615 - ((rd_T53 l0_0 x3_1).f1))) - ((rd_T53 l0_0 x3_1).f2)))
                    · rw [if_pos c52] at H
                      have c52b0 : decide ((IntKind.u64.wrap ((IntKind.u64.wrap (18446744073709551615 - ((rd_T53 l0_0 x3_1).f1))) - ((rd_T53 l0_0 x3_1).f2))) < ((rd_T53 l0_0 x3_1).f3)) = true := decide_eq_true c52
                      clear c52
                      obtain rfl := Option.some.inj H
                      have hnb53 := NB147_145.out
                      have hnc53 := NB145_147.out
                      have hcz54_0 : wc.cell? ⟨gb147, 0, none⟩ = some (.int .u64 ((rd_T53 l0_0 x3_1).f0)) := (blk_cell BK147.out 0).trans rfl
                      have hcz54_1 : wc.cell? ⟨gb147, 1, none⟩ = some (.int .u64 ((rd_T53 l0_0 x3_1).f1)) := (blk_cell BK147.out 1).trans rfl
                      have hcz54_2 : wc.cell? ⟨gb147, 2, none⟩ = some (.int .u64 ((rd_T53 l0_0 x3_1).f2)) := (blk_cell BK147.out 2).trans rfl
                      have hcz54_3 : wc.cell? ⟨gb147, 3, none⟩ = some (.int .u64 ((rd_T53 l0_0 x3_1).f3)) := (blk_cell BK147.out 3).trans rfl
                      have hcz54_4 : wc.cell? ⟨gb147, 4, none⟩ = some (.int .i64 ((rd_T53 l0_0 x3_1).f4)) := (blk_cell BK147.out 4).trans rfl
                      have hfz54_0 := blk_frozen BK147.out 0
                      have hfz54_1 := blk_frozen BK147.out 1
                      have hfz54_2 := blk_frozen BK147.out 2
                      have hfz54_3 := blk_frozen BK147.out 3
                      have hfz54_4 := blk_frozen BK147.out 4
                      go_wp2
                      repeat (go_quiet (fail); try go_wp2)
                      go_ret
                      exact ⟨by first | rfl | (simp [errW_none, errW_some] <;> rfl) | (simp [*, errW_none, errW_some] <;> rfl), by repeat (first | (with_reducible first | exact HB.out | apply below_alloc | apply pw_below_drewN | apply below_drew1 | refine below_set ?_ GE145.out | refine below_set ?_ GE147.out) | exact HB.out)⟩
                    · rw [if_neg c52] at H
                      have c52b0 : decide ((IntKind.u64.wrap ((IntKind.u64.wrap (18446744073709551615 - ((rd_T53 l0_0 x3_1).f1))) - ((rd_T53 l0_0 x3_1).f2))) < ((rd_T53 l0_0 x3_1).f3)) = false := decide_eq_false c52
                      clear c52
                      have H' := Aside0.mk H
                      clear H
                      have hnb55 := NB147_145.out
                      have hnc55 := NB145_147.out
                      have hcz56_0 : wc.cell? ⟨gb147, 0, none⟩ = some (.int .u64 ((rd_T53 l0_0 x3_1).f0)) := (blk_cell BK147.out 0).trans rfl
                      have hcz56_1 : wc.cell? ⟨gb147, 1, none⟩ = some (.int .u64 ((rd_T53 l0_0 x3_1).f1)) := (blk_cell BK147.out 1).trans rfl
                      have hcz56_2 : wc.cell? ⟨gb147, 2, none⟩ = some (.int .u64 ((rd_T53 l0_0 x3_1).f2)) := (blk_cell BK147.out 2).trans rfl
                      have hcz56_3 : wc.cell? ⟨gb147, 3, none⟩ = some (.int .u64 ((rd_T53 l0_0 x3_1).f3)) := (blk_cell BK147.out 3).trans rfl
                      have hcz56_4 : wc.cell? ⟨gb147, 4, none⟩ = some (.int .i64 ((rd_T53 l0_0 x3_1).f4)) := (blk_cell BK147.out 4).trans rfl
                      have hfz56_0 := blk_frozen BK147.out 0
                      have hfz56_1 := blk_frozen BK147.out 1
                      have hfz56_2 := blk_frozen BK147.out 2
                      have hfz56_3 := blk_frozen BK147.out 3
                      have hfz56_4 := blk_frozen BK147.out 4
                      go_wp2
                      repeat (go_quiet (fail); try go_wp2)
                      go_roundg kj8
                      case measure => have := HK1.out; have := HJ8.out; omega
                      case rel => exact ⟨(wrap64 (x3_1 + 1)), u3_10, H', ⟨by have := HK1.out; have := HJ8.out; omega⟩, ⟨by (with_reducible repeat (first | refine blk_drewN ?_ _ | refine blk_drew ?_ | refine blk_alloc ?_ _)); exact BK145.out⟩, ⟨by repeat (first | (with_reducible first | exact HB.out | apply below_alloc | apply pw_below_drewN | apply below_drew1 | refine below_set ?_ GE145.out | refine below_set ?_ GE147.out) | exact HB.out)⟩⟩
          · rw [if_neg c8] at H
            exact absurd H (by simp)
        · rw [if_neg c7] at H
          have c7b0 : decide (x3_1 < (l0_0.length : Int)) = false := decide_eq_false c7
          clear c7
          obtain rfl := Option.some.inj H
          have hcz57_0 : wr.cell? ⟨gb145, 0, none⟩ = some (.slice A0_0 l0_0.length c0_0) := (blk_cell BK145.out 0).trans rfl
          have hfz57_0 := blk_frozen BK145.out 0
          go_wp2
          repeat (go_quiet (fail); try go_wp2)
          go_ret
          exact ⟨by first | rfl | (simp [errW_none, errW_some] <;> rfl) | (simp [*, errW_none, errW_some] <;> rfl), by repeat (first | (with_reducible first | exact HB.out | apply below_alloc | apply pw_below_drewN | apply below_drew1 | refine below_set ?_ GE145.out) | exact HB.out)⟩

end Go.Proofs.Ytdbfjakhkclggaa.QFnExactLockDebit
