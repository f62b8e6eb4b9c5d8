-- Printed by the session's own program wip/prx.py.
import Derived.Test.YtdbfjakhkclggaaQFnHoldsx0
namespace Go.Proofs.Ytdbfjakhkclggaa.QFnHolds
open Go.RowKit Go.Proofs.YtdbfjakhkclggaaW.PrintWords Go.Proofs.YtdbfjakhkclggaaW.PrintLast Go.Proofs.YtdbfjakhkclggaaW.PrintMore
attribute [local go_sem] max2_int min2_int max_two min_two max_three min_three max_four min_four Go.Proofs.Ytdbfjakhkclggaa.Set.isSome_setCell Go.Proofs.Ytdbfjakhkclggaa.Add.add64   -- for this text's walks alone
set_option linter.unusedVariables false
set_option linter.unusedSimpArgs false

-- squeezed
theorem u3_0 {P : Prop} (h : P := by (with_reducible repeat (first | refine blk_drewN ?_ _ | refine blk_drew ?_ | refine blk_alloc ?_ _)); refine blk_put (cs := #[.int .u64 ((rd_T53 l0_0 x3_1).f0), .int .u64 ((rd_T53 l0_0 x3_1).f1), .int .u64 ((rd_T53 l0_0 x3_1).f2), .int .u64 ((rd_T53 l0_0 x3_1).f3), .int .i64 0]) ?_ 4 _ rfl; (with_reducible repeat (first | refine blk_drewN ?_ _ | refine blk_drew ?_ | refine blk_alloc ?_ _)); refine blk_put (cs := #[.int .u64 ((rd_T53 l0_0 x3_1).f0), .int .u64 ((rd_T53 l0_0 x3_1).f1), .int .u64 ((rd_T53 l0_0 x3_1).f2), .int .u64 0, .int .i64 0]) ?_ 3 _ rfl; (with_reducible repeat (first | refine blk_drewN ?_ _ | refine blk_drew ?_ | refine blk_alloc ?_ _)); refine blk_put (cs := #[.int .u64 ((rd_T53 l0_0 x3_1).f0), .int .u64 ((rd_T53 l0_0 x3_1).f1), .int .u64 0, .int .u64 0, .int .i64 0]) ?_ 2 _ rfl; (with_reducible repeat (first | refine blk_drewN ?_ _ | refine blk_drew ?_ | refine blk_alloc ?_ _)); refine blk_put (cs := #[.int .u64 ((rd_T53 l0_0 x3_1).f0), .int .u64 0, .int .u64 0, .int .u64 0, .int .i64 0]) ?_ 1 _ rfl; (with_reducible repeat (first | refine blk_drewN ?_ _ | refine blk_drew ?_ | refine blk_alloc ?_ _)); refine blk_put (cs := #[.int .u64 0, .int .u64 0, .int .u64 0, .int .u64 0, .int .i64 0]) ?_ 0 _ rfl; (with_reducible repeat (first | refine blk_drewN ?_ _ | refine blk_drew ?_ | refine blk_alloc ?_ _)); exact BK110.out) : P := h
theorem u3_1 {P : Prop} (h : P := by (with_reducible repeat (first | refine blk_drewN ?_ _ | refine blk_drew ?_ | refine blk_alloc ?_ _)); refine blk_far ?_ NB108_110.out _; (with_reducible repeat (first | refine blk_drewN ?_ _ | refine blk_drew ?_ | refine blk_alloc ?_ _)); refine blk_far ?_ NB108_110.out _; (with_reducible repeat (first | refine blk_drewN ?_ _ | refine blk_drew ?_ | refine blk_alloc ?_ _)); refine blk_far ?_ NB108_110.out _; (with_reducible repeat (first | refine blk_drewN ?_ _ | refine blk_drew ?_ | refine blk_alloc ?_ _)); refine blk_far ?_ NB108_110.out _; (with_reducible repeat (first | refine blk_drewN ?_ _ | refine blk_drew ?_ | refine blk_alloc ?_ _)); refine blk_far ?_ NB108_110.out _; (with_reducible repeat (first | refine blk_drewN ?_ _ | refine blk_drew ?_ | refine blk_alloc ?_ _)); exact BK108.out) : P := h
theorem u3_2 {P : Prop} (h : P := by first | (rw [add_block]; exact hn111_0) | (show (Addr.add _ _).block ≠ _; rw [add_block]; exact hn111_0) | exact hn111_0) : P := h
theorem u3_3 {P : Prop} (h : P := by first | (rw [add_block]; exact hn111_1) | (show (Addr.add _ _).block ≠ _; rw [add_block]; exact hn111_1) | exact hn111_1) : P := h
theorem u3_4 {P : Prop} (h : P := by first | (rw [add_block]; exact hn111_2) | (show (Addr.add _ _).block ≠ _; rw [add_block]; exact hn111_2) | exact hn111_2) : P := h
theorem u3_5 {P : Prop} (h : P := by first | (rw [add_block]; exact hn111_3) | (show (Addr.add _ _).block ≠ _; rw [add_block]; exact hn111_3) | exact hn111_3) : P := h
theorem u3_6 {P : Prop} (h : P := by first | (rw [add_block]; exact hn111_4) | (show (Addr.add _ _).block ≠ _; rw [add_block]; exact hn111_4) | exact hn111_4) : P := h
theorem u3_7 {P : Prop} (h : P := by repeat (first | (with_reducible first | exact HB.out | apply below_alloc | apply pw_below_drewN | apply below_drew1 | refine below_set ?_ GE108.out | refine below_set ?_ GE110.out) | exact HB.out)) : P := h
theorem u3_8 {P : Prop} (h : P := by have := World.block_lt_of_cell? _ _ hx111_0; first | rwa [add_block] at this | exact this) : P := h
theorem u3_9 {P : Prop} (h : P := by repeat (first | (with_reducible first | exact HB.out | apply below_alloc | apply pw_below_drewN | apply below_drew1 | refine below_set ?_ GE108.out) | exact HB.out)) : P := h
theorem u3_10 {P : Prop} (h : P := by (with_reducible repeat (first | refine blk_drewN ?_ _ | refine blk_drew ?_ | refine blk_alloc ?_ _)); exact BK108.out) : P := h
theorem u3_11 {P : Prop} (h : P := by repeat (first | (with_reducible first | exact HB.out | apply below_alloc | apply pw_below_drewN | apply below_drew1) | exact HB.out)) : P := h
theorem u3_12 {P : Prop} (h : P := by first | (with_reducible assumption) | assumption) : P := h
theorem u3_13 {P : Prop} (h : P := by first | rfl | (simp; done) | (simp [*]; done)) : P := h
theorem u3_14 {P : Prop} (h : P := by have := HK1.out; first | omega | exact Nat.le_refl _) : P := h
/-! ### spec_BookOk: function 18 -/
mutual
def spec_BookOk.l0 : Nat → Int → List (S53) → Option (Bool)
  | 0, _, _ => none
  | k + 1, x3, x109000 => if x3 < (x109000.length : Int) then (if 0 ≤ x3 then (if x3 > 0 then (if 0 ≤ (wrap64 (x3 - 1)) then (if (wrap64 (x3 - 1)) < (x109000.length : Int) then (if ((rd_T53 x109000 (wrap64 (x3 - 1))).f0) ≥ ((rd_T53 x109000 x3).f0) then (spec_BookOk.j1 k x3 true x109000 ((rd_T53 x109000 x3).f0) ((rd_T53 x109000 x3).f1) ((rd_T53 x109000 x3).f2) ((rd_T53 x109000 x3).f3) ((rd_T53 x109000 x3).f4)) else (if ((rd_T53 x109000 x3).f4) < 0 then (spec_BookOk.j1 k x3 true x109000 ((rd_T53 x109000 x3).f0) ((rd_T53 x109000 x3).f1) ((rd_T53 x109000 x3).f2) ((rd_T53 x109000 x3).f3) ((rd_T53 x109000 x3).f4)) else (if ((rd_T53 x109000 x3).f4) = 0 then (if ((rd_T53 x109000 x3).f2) = 0 then (spec_BookOk.j1 k x3 (((rd_T53 x109000 x3).f3) != 0) x109000 ((rd_T53 x109000 x3).f0) ((rd_T53 x109000 x3).f1) ((rd_T53 x109000 x3).f2) ((rd_T53 x109000 x3).f3) ((rd_T53 x109000 x3).f4)) else (spec_BookOk.j1 k x3 true x109000 ((rd_T53 x109000 x3).f0) ((rd_T53 x109000 x3).f1) ((rd_T53 x109000 x3).f2) ((rd_T53 x109000 x3).f3) ((rd_T53 x109000 x3).f4))) else (spec_BookOk.j1 k x3 false x109000 ((rd_T53 x109000 x3).f0) ((rd_T53 x109000 x3).f1) ((rd_T53 x109000 x3).f2) ((rd_T53 x109000 x3).f3) ((rd_T53 x109000 x3).f4))))) else (none)) else (none)) else (if ((rd_T53 x109000 x3).f4) < 0 then (spec_BookOk.j1 k x3 true x109000 ((rd_T53 x109000 x3).f0) ((rd_T53 x109000 x3).f1) ((rd_T53 x109000 x3).f2) ((rd_T53 x109000 x3).f3) ((rd_T53 x109000 x3).f4)) else (if ((rd_T53 x109000 x3).f4) = 0 then (if ((rd_T53 x109000 x3).f2) = 0 then (spec_BookOk.j1 k x3 (((rd_T53 x109000 x3).f3) != 0) x109000 ((rd_T53 x109000 x3).f0) ((rd_T53 x109000 x3).f1) ((rd_T53 x109000 x3).f2) ((rd_T53 x109000 x3).f3) ((rd_T53 x109000 x3).f4)) else (spec_BookOk.j1 k x3 true x109000 ((rd_T53 x109000 x3).f0) ((rd_T53 x109000 x3).f1) ((rd_T53 x109000 x3).f2) ((rd_T53 x109000 x3).f3) ((rd_T53 x109000 x3).f4))) else (spec_BookOk.j1 k x3 false x109000 ((rd_T53 x109000 x3).f0) ((rd_T53 x109000 x3).f1) ((rd_T53 x109000 x3).f2) ((rd_T53 x109000 x3).f3) ((rd_T53 x109000 x3).f4))))) else (none)) else (some true)
def spec_BookOk.j1 : Nat → Int → Bool → List (S53) → Int → Int → Int → Int → Int → Option (Bool)
  | 0, _, _, _, _, _, _, _, _ => none
  | k + 1, x3, x54, x109000, x111000, x111001, x111002, x111003, x111004 => if x54 = true then (some false) else (if x111002 > (IntKind.u64.wrap (18446744073709551615 - x111001)) then (some false) else (if x111003 > (IntKind.u64.wrap ((IntKind.u64.wrap (18446744073709551615 - x111001)) - x111002)) then (some false) else (spec_BookOk.l0 k (wrap64 (x3 + 1)) x109000)))
end
def spec_BookOk.f (k : Nat) (l0_0 : List (S53)) : Option (Bool) := if (l0_0.length : Int) > 40 then (some false) else (spec_BookOk.l0 k 0 l0_0)
theorem spec_BookOk.mono_l : ∀ k, (∀ y0 y1, LeO (spec_BookOk.l0 k y0 y1) (spec_BookOk.l0 (k + 1) y0 y1)) ∧ (∀ y0 y1 y2 y3 y4 y5 y6 y7, LeO (spec_BookOk.j1 k y0 y1 y2 y3 y4 y5 y6 y7) (spec_BookOk.j1 (k + 1) y0 y1 y2 y3 y4 y5 y6 y7))
  | 0 => ⟨fun _ _ r h => by simp [spec_BookOk.l0] at h, fun _ _ _ _ _ _ _ _ r h => by simp [spec_BookOk.j1] at h⟩
  | k + 1 => by
    obtain ⟨ih0, ih1⟩ := spec_BookOk.mono_l k
    refine ⟨?_, ?_⟩
    · intro y0 y1
      unfold spec_BookOk.l0
      repeat' first
      | (with_reducible exact ih0 _ _)
      | (with_reducible exact ih1 _ _ _ _ _ _ _ _)
      | (with_reducible exact LeO.refl _)
      | (with_reducible exact LeO.none _)
      | (with_reducible refine LeO.ite ?_ ?_)
      | (with_reducible refine LeO.bind ?_ (fun _ => ?_))
      | exact ih0 _ _
      | exact ih1 _ _ _ _ _ _ _ _
      | exact LeO.none _
      | refine LeO.ite ?_ ?_
      | refine LeO.bind ?_ (fun _ => ?_)
    · intro y0 y1 y2 y3 y4 y5 y6 y7
      unfold spec_BookOk.j1
      repeat' first
      | (with_reducible exact ih0 _ _)
      | (with_reducible exact ih1 _ _ _ _ _ _ _ _)
      | (with_reducible exact LeO.refl _)
      | (with_reducible exact LeO.none _)
      | (with_reducible refine LeO.ite ?_ ?_)
      | (with_reducible refine LeO.bind ?_ (fun _ => ?_))
      | exact ih0 _ _
      | exact ih1 _ _ _ _ _ _ _ _
      | exact LeO.none _
      | refine LeO.ite ?_ ?_
      | refine LeO.bind ?_ (fun _ => ?_)
theorem spec_BookOk.mono : ∀ a0 k, LeO (spec_BookOk.f k a0) (spec_BookOk.f (k + 1) a0) := by
  intro a0 k
  obtain ⟨ih0, ih1⟩ := spec_BookOk.mono_l k
  unfold spec_BookOk.f
  repeat' first
      | (with_reducible exact ih0 _ _)
      | (with_reducible exact ih1 _ _ _ _ _ _ _ _)
      | (with_reducible exact LeO.refl _)
      | (with_reducible exact LeO.none _)
      | (with_reducible refine LeO.ite ?_ ?_)
      | (with_reducible refine LeO.bind ?_ (fun _ => ?_))
      | exact ih0 _ _
      | exact ih1 _ _ _ _ _ _ _ _
      | exact LeO.none _
      | refine LeO.ite ?_ ?_
      | refine LeO.bind ?_ (fun _ => ?_)
set_option maxHeartbeats 8000000 in
set_option maxRecDepth 100000 in
theorem spec_BookOk.calls (k : Nat) (A0_0 : Option Addr) (c0_0 : Nat) (l0_0 : List (S53)) (r : Bool) (w : World) (hr0_0 : Kd.C k53 w A0_0 l0_0.length l0_0) (hc0_0 : l0_0.length ≤ c0_0) (h : spec_BookOk.f k l0_0 = some r) :
    Calls Try.prog 18 #[.agg #[.slice A0_0 l0_0.length c0_0]] w fun e w' => e = .returned (.bool r) ∧ Below w.heap.size w w' := by
  have hu29 := Try.underlying29
  have hu53 := Try.underlying53
  have HR0_0 := Aside0.mk hr0_0
  have HC0_0 := Aside0.mk hc0_0
  clear hr0_0 hc0_0
  have HB := Aside0.mk (Below.refl w.heap.size w)
  have H : (if (l0_0.length : Int) > 40 then (some false) else (spec_BookOk.l0 k 0 l0_0)) = some r := h
  clear h
  have H9 := Aside0.mk H
  clear H
  go_enter Try.func18, Try.ntmps18
  go_upto_if 8 with (first | ((with_reducible refine gate_dst (N := 1) rfl ?_); refine box_event ?hg (N := 1) ?hd (cs := #[.slice A0_0 l0_0.length c0_0]) (t := 29) ?hr ?_; (case hd => rfl); (case hg => rfl); (case hr => first | (go_simp; done) | (go_simp; rfl)); intro gb108 hg w2 hbox hb; have n0_ := Aside0.mk (below_step u3_11 hb); have n1_ := Aside0.mk (hbox); have n2_ := Aside0.mk ((by rw [hg]; exact (below_size u3_11) : w.heap.size ≤ gb108)); have n3_ := Aside0.mk ((by rw [hg]; exact (below_size u3_11) : w.heap.size ≤ gb108)); clear HB; have HB := n0_; have BK108 := n1_; have GW108 := n2_; have GE108 := n3_; clear n0_ n1_ n2_ n3_; clear hb hbox hg; have hcz3_0 : w2.cell? ⟨gb108, 0, none⟩ = some (.slice A0_0 l0_0.length c0_0) := (blk_cell BK108.out 0).trans rfl; have hfz3_0 := blk_frozen BK108.out 0))
  repeat (go_quiet (first | ((with_reducible refine gate_dst (N := 1) rfl ?_); refine box_event ?hg (N := 1) ?hd (cs := #[.slice A0_0 l0_0.length c0_0]) (t := 29) ?hr ?_; (case hd => rfl); (case hg => rfl); (case hr => first | (go_simp; done) | (go_simp; rfl)); intro gb108 hg w2 hbox hb; have n0_ := Aside0.mk (below_step u3_11 hb); have n1_ := Aside0.mk (hbox); have n2_ := Aside0.mk ((by rw [hg]; exact (below_size u3_11) : w.heap.size ≤ gb108)); have n3_ := Aside0.mk ((by rw [hg]; exact (below_size u3_11) : w.heap.size ≤ gb108)); clear HB; have HB := n0_; have BK108 := n1_; have GW108 := n2_; have GE108 := n3_; clear n0_ n1_ n2_ n3_; clear hb hbox hg; have hcz3_0 : w2.cell? ⟨gb108, 0, none⟩ = some (.slice A0_0 l0_0.length c0_0) := (blk_cell BK108.out 0).trans rfl; have hfz3_0 := blk_frozen BK108.out 0)); go_upto_if 8 with (first | ((with_reducible refine gate_dst (N := 1) rfl ?_); refine box_event ?hg (N := 1) ?hd (cs := #[.slice A0_0 l0_0.length c0_0]) (t := 29) ?hr ?_; (case hd => rfl); (case hg => rfl); (case hr => first | (go_simp; done) | (go_simp; rfl)); intro gb108 hg w2 hbox hb; have n0_ := Aside0.mk (below_step u3_11 hb); have n1_ := Aside0.mk (hbox); have n2_ := Aside0.mk ((by rw [hg]; exact (below_size u3_11) : w.heap.size ≤ gb108)); have n3_ := Aside0.mk ((by rw [hg]; exact (below_size u3_11) : w.heap.size ≤ gb108)); clear HB; have HB := n0_; have BK108 := n1_; have GW108 := n2_; have GE108 := n3_; clear n0_ n1_ n2_ n3_; clear hb hbox hg; have hcz3_0 : w2.cell? ⟨gb108, 0, none⟩ = some (.slice A0_0 l0_0.length c0_0) := (blk_cell BK108.out 0).trans rfl; have hfz3_0 := blk_frozen BK108.out 0)))
  have H := H9.out
  clear H9
  by_cases c4 : (l0_0.length : Int) > 40
  · rw [if_pos c4] at H
    have c4b0 : decide (40 < (l0_0.length : Int)) = true := decide_eq_true c4
    have c4b1 : decide (40 < l0_0.length) = true := decide_eq_true (by omega)
    clear c4
    (first | rw [c4b0] | (simp only [i64_w, i32_w]; rw [c4b0]) | skip)
    obtain rfl := Option.some.inj H
    go_wp2
    repeat (go_quiet (fail); try go_wp2)
    go_ret
    exact ⟨by first | rfl | (simp [errW_none, errW_some] <;> rfl) | (simp [*, errW_none, errW_some] <;> rfl), u3_9⟩
  rw [if_neg c4] at H
  have c4b0 : decide (40 < (l0_0.length : Int)) = false := decide_eq_false c4
  have c4b1 : decide (40 < l0_0.length) = false := decide_eq_false (by omega)
  clear c4
  (first | rw [c4b0] | (simp only [i64_w, i32_w]; rw [c4b0]) | skip)
  have H' := Aside0.mk H
  clear H
  go_wp2
  repeat (go_quiet (fail); try go_wp2)
  go_loopg [3] k (fun kq v3 w' => ∃ (x3_1 : Int), v3 = .int .i64 x3_1 ∧ Aside0 (spec_BookOk.l0 kq x3_1 l0_0 = some r) ∧ Aside0 (kq ≤ k) ∧ Aside0 (w'.heap[gb108]? = some (.cells #[(.slice A0_0 l0_0.length c0_0)] 29 (0, 0))) ∧ Aside0 (Below w.heap.size w w'))
  case atStart => exact ⟨(0), u3_13, H', ⟨Nat.le_refl _⟩, ⟨u3_10⟩, ⟨u3_9⟩⟩
  clear H'
  try clear c1
  try clear p2
  try clear c4
  try clear c4b0
  try clear c4b1
  try clear hcz3_0
  try clear hfz3_0
  obtain ⟨x3_1, rfl, HA, HK1, BK108, HB⟩ := hrel
  cases gk with
  | zero => exact absurd HA.out (by simp [spec_BookOk.l0])
  | succ k1 =>
    have H := HA.out
    clear HA
    simp only [spec_BookOk.l0] at H
    by_cases c5 : x3_1 < (l0_0.length : Int)
    rotate_left
    · rw [if_neg c5] at H
      have c5b0 : decide (x3_1 < (l0_0.length : Int)) = false := decide_eq_false c5
      clear c5
      obtain rfl := Option.some.inj H
      have hcz55_0 : wr.cell? ⟨gb108, 0, none⟩ = some (.slice A0_0 l0_0.length c0_0) := (blk_cell BK108.out 0).trans rfl
      have hfz55_0 := blk_frozen BK108.out 0
      go_wp2
      repeat (go_quiet (fail); try go_wp2)
      go_ret
      exact ⟨by first | rfl | (simp [errW_none, errW_some] <;> rfl) | (simp [*, errW_none, errW_some] <;> rfl), u3_9⟩
    rw [if_pos c5] at H
    have c5b0 : decide (x3_1 < (l0_0.length : Int)) = true := decide_eq_true c5
    clear c5
    by_cases c6 : 0 ≤ x3_1
    rotate_left
    · rw [if_neg c6] at H
      exact absurd H (by simp)
    rw [if_pos c6] at H
    have c6b0 : decide (0 ≤ x3_1) = true := decide_eq_true c6
    clear c6
    have HC7 := Aside0.mk H
    clear H
    have hcz8_0 : wr.cell? ⟨gb108, 0, none⟩ = some (.slice A0_0 l0_0.length c0_0) := (blk_cell BK108.out 0).trans rfl
    have hfz8_0 := blk_frozen BK108.out 0
    have p109 : 0 ≤ (x3_1 : Int) := of_decide_eq_true u3_12
    have q109 : x3_1 < (l0_0.length : Int) := of_decide_eq_true u3_12
    obtain ⟨ad109, e109, hx109_0, hx109_1, hx109_2, hx109_3, hx109_4⟩ := at_T53 HR0_0.out x3_1 p109 q109
    cases e109
    replace hx109_0 := (HB.out.cell (World.block_lt_of_cell? w _ hx109_0)).trans hx109_0
    replace hx109_1 := (HB.out.cell (World.block_lt_of_cell? w _ hx109_1)).trans hx109_1
    replace hx109_2 := (HB.out.cell (World.block_lt_of_cell? w _ hx109_2)).trans hx109_2
    replace hx109_3 := (HB.out.cell (World.block_lt_of_cell? w _ hx109_3)).trans hx109_3
    replace hx109_4 := (HB.out.cell (World.block_lt_of_cell? w _ hx109_4)).trans hx109_4
    replace p109 := eq_true p109
    replace q109 := eq_true q109
    go_upto_region 7 with (first | ((with_reducible refine gate_dst (N := 4) rfl ?_); refine box_event ?hg (N := 4) ?hd (cs := #[.int .u64 0, .int .u64 0, .int .u64 0, .int .u64 0, .int .i64 0]) (t := 53) ?hr ?_; (case hd => rfl); (case hg => rfl); (case hr => first | (go_simp; done) | (go_simp; rfl)); intro gb110 hg w9 hbox hb; have n0_ := Aside0.mk (blk_below (g := gb108) (o := .cells #[.slice (some ad109) l0_0.length c0_0] 29 (0, 0)) u3_10 hb); have n1_ := Aside0.mk (below_step u3_9 hb); have n2_ := Aside0.mk (hbox); have n3_ := Aside0.mk ((by rw [hg]; exact (below_size u3_9) : w.heap.size ≤ gb110)); have n4_ := Aside0.mk ((by rw [hg]; exact (below_size u3_9) : w.heap.size ≤ gb110)); have n5_ := Aside0.mk ((by rw [hg]; exact Nat.ne_of_lt (blk_lt (g := gb108) (o := .cells #[.slice (some ad109) l0_0.length c0_0] 29 (0, 0)) u3_10) : gb108 ≠ gb110)); have n6_ := Aside0.mk ((by rw [hg]; exact Nat.ne_of_gt (blk_lt (g := gb108) (o := .cells #[.slice (some ad109) l0_0.length c0_0] 29 (0, 0)) u3_10) : gb110 ≠ gb108)); clear BK108; clear HB; have BK108 := n0_; have HB := n1_; have BK110 := n2_; have GW110 := n3_; have GE110 := n4_; have NB108_110 := n5_; have NB110_108 := n6_; clear n0_ n1_ n2_ n3_ n4_ n5_ n6_; clear hb hbox hg; have hnb10 := NB110_108.out; have hnc10 := NB108_110.out; have hcz11_0 : w9.cell? ⟨gb110, 0, none⟩ = some (.int .u64 0) := (blk_cell BK110.out 0).trans rfl; have hcz11_1 : w9.cell? ⟨gb110, 1, none⟩ = some (.int .u64 0) := (blk_cell BK110.out 1).trans rfl; have hcz11_2 : w9.cell? ⟨gb110, 2, none⟩ = some (.int .u64 0) := (blk_cell BK110.out 2).trans rfl; have hcz11_3 : w9.cell? ⟨gb110, 3, none⟩ = some (.int .u64 0) := (blk_cell BK110.out 3).trans rfl; have hcz11_4 : w9.cell? ⟨gb110, 4, none⟩ = some (.int .i64 0) := (blk_cell BK110.out 4).trans rfl; have hfz11_0 := blk_frozen BK110.out 0; have hfz11_1 := blk_frozen BK110.out 1; have hfz11_2 := blk_frozen BK110.out 2; have hfz11_3 := blk_frozen BK110.out 3; have hfz11_4 := blk_frozen BK110.out 4))
    repeat (go_quiet (first | ((with_reducible refine gate_dst (N := 4) rfl ?_); refine box_event ?hg (N := 4) ?hd (cs := #[.int .u64 0, .int .u64 0, .int .u64 0, .int .u64 0, .int .i64 0]) (t := 53) ?hr ?_; (case hd => rfl); (case hg => rfl); (case hr => first | (go_simp; done) | (go_simp; rfl)); intro gb110 hg w9 hbox hb; have n0_ := Aside0.mk (blk_below (g := gb108) (o := .cells #[.slice (some ad109) l0_0.length c0_0] 29 (0, 0)) u3_10 hb); have n1_ := Aside0.mk (below_step u3_9 hb); have n2_ := Aside0.mk (hbox); have n3_ := Aside0.mk ((by rw [hg]; exact (below_size u3_9) : w.heap.size ≤ gb110)); have n4_ := Aside0.mk ((by rw [hg]; exact (below_size u3_9) : w.heap.size ≤ gb110)); have n5_ := Aside0.mk ((by rw [hg]; exact Nat.ne_of_lt (blk_lt (g := gb108) (o := .cells #[.slice (some ad109) l0_0.length c0_0] 29 (0, 0)) u3_10) : gb108 ≠ gb110)); have n6_ := Aside0.mk ((by rw [hg]; exact Nat.ne_of_gt (blk_lt (g := gb108) (o := .cells #[.slice (some ad109) l0_0.length c0_0] 29 (0, 0)) u3_10) : gb110 ≠ gb108)); clear BK108; clear HB; have BK108 := n0_; have HB := n1_; have BK110 := n2_; have GW110 := n3_; have GE110 := n4_; have NB108_110 := n5_; have NB110_108 := n6_; clear n0_ n1_ n2_ n3_ n4_ n5_ n6_; clear hb hbox hg; have hnb10 := NB110_108.out; have hnc10 := NB108_110.out; have hcz11_0 : w9.cell? ⟨gb110, 0, none⟩ = some (.int .u64 0) := (blk_cell BK110.out 0).trans rfl; have hcz11_1 : w9.cell? ⟨gb110, 1, none⟩ = some (.int .u64 0) := (blk_cell BK110.out 1).trans rfl; have hcz11_2 : w9.cell? ⟨gb110, 2, none⟩ = some (.int .u64 0) := (blk_cell BK110.out 2).trans rfl; have hcz11_3 : w9.cell? ⟨gb110, 3, none⟩ = some (.int .u64 0) := (blk_cell BK110.out 3).trans rfl; have hcz11_4 : w9.cell? ⟨gb110, 4, none⟩ = some (.int .i64 0) := (blk_cell BK110.out 4).trans rfl; have hfz11_0 := blk_frozen BK110.out 0; have hfz11_1 := blk_frozen BK110.out 1; have hfz11_2 := blk_frozen BK110.out 2; have hfz11_3 := blk_frozen BK110.out 3; have hfz11_4 := blk_frozen BK110.out 4)); go_upto_region 7 with (first | ((with_reducible refine gate_dst (N := 4) rfl ?_); refine box_event ?hg (N := 4) ?hd (cs := #[.int .u64 0, .int .u64 0, .int .u64 0, .int .u64 0, .int .i64 0]) (t := 53) ?hr ?_; (case hd => rfl); (case hg => rfl); (case hr => first | (go_simp; done) | (go_simp; rfl)); intro gb110 hg w9 hbox hb; have n0_ := Aside0.mk (blk_below (g := gb108) (o := .cells #[.slice (some ad109) l0_0.length c0_0] 29 (0, 0)) u3_10 hb); have n1_ := Aside0.mk (below_step u3_9 hb); have n2_ := Aside0.mk (hbox); have n3_ := Aside0.mk ((by rw [hg]; exact (below_size u3_9) : w.heap.size ≤ gb110)); have n4_ := Aside0.mk ((by rw [hg]; exact (below_size u3_9) : w.heap.size ≤ gb110)); have n5_ := Aside0.mk ((by rw [hg]; exact Nat.ne_of_lt (blk_lt (g := gb108) (o := .cells #[.slice (some ad109) l0_0.length c0_0] 29 (0, 0)) u3_10) : gb108 ≠ gb110)); have n6_ := Aside0.mk ((by rw [hg]; exact Nat.ne_of_gt (blk_lt (g := gb108) (o := .cells #[.slice (some ad109) l0_0.length c0_0] 29 (0, 0)) u3_10) : gb110 ≠ gb108)); clear BK108; clear HB; have BK108 := n0_; have HB := n1_; have BK110 := n2_; have GW110 := n3_; have GE110 := n4_; have NB108_110 := n5_; have NB110_108 := n6_; clear n0_ n1_ n2_ n3_ n4_ n5_ n6_; clear hb hbox hg; have hnb10 := NB110_108.out; have hnc10 := NB108_110.out; have hcz11_0 : w9.cell? ⟨gb110, 0, none⟩ = some (.int .u64 0) := (blk_cell BK110.out 0).trans rfl; have hcz11_1 : w9.cell? ⟨gb110, 1, none⟩ = some (.int .u64 0) := (blk_cell BK110.out 1).trans rfl; have hcz11_2 : w9.cell? ⟨gb110, 2, none⟩ = some (.int .u64 0) := (blk_cell BK110.out 2).trans rfl; have hcz11_3 : w9.cell? ⟨gb110, 3, none⟩ = some (.int .u64 0) := (blk_cell BK110.out 3).trans rfl; have hcz11_4 : w9.cell? ⟨gb110, 4, none⟩ = some (.int .i64 0) := (blk_cell BK110.out 4).trans rfl; have hfz11_0 := blk_frozen BK110.out 0; have hfz11_1 := blk_frozen BK110.out 1; have hfz11_2 := blk_frozen BK110.out 2; have hfz11_3 := blk_frozen BK110.out 3; have hfz11_4 := blk_frozen BK110.out 4)))
    (try simp only [Act.put, List.setIfInBounds_toArray, List.set_cons_zero, List.set_cons_succ])
    go_cut [54] (fun v54 wc => ∃ (kq : Nat) (x54_6 : Bool), v54 = .bool x54_6 ∧ Aside0 (spec_BookOk.j1 kq x3_1 x54_6 l0_0 ((rd_T53 l0_0 x3_1).f0) ((rd_T53 l0_0 x3_1).f1) ((rd_T53 l0_0 x3_1).f2) ((rd_T53 l0_0 x3_1).f3) ((rd_T53 l0_0 x3_1).f4) = some r) ∧ Aside0 (kq ≤ k1) ∧ Aside0 (wc.heap[gb108]? = some (.cells #[(.slice (some ad109) l0_0.length c0_0)] 29 (0, 0))) ∧ Aside0 (wc.heap[gb110]? = some (.cells #[.int .u64 ((rd_T53 l0_0 x3_1).f0), .int .u64 ((rd_T53 l0_0 x3_1).f1), .int .u64 ((rd_T53 l0_0 x3_1).f2), .int .u64 ((rd_T53 l0_0 x3_1).f3), .int .i64 ((rd_T53 l0_0 x3_1).f4)] 53 (0, 0))) ∧ Aside0 (Below w.heap.size w wc))
    case first =>
      have H := HC7.out
      clear HC7
      by_cases c12 : x3_1 > 0
      rotate_left
      · rw [if_neg c12] at H
        have c12b0 : decide (0 < x3_1) = false := decide_eq_false c12
        clear c12
        (first | rw [c12b0] | (simp only [i64_w, i32_w]; rw [c12b0]) | skip)
        by_cases c35 : ((rd_T53 l0_0 x3_1).f4) < 0
        · rw [if_pos c35] at H
          have c35b0 : decide (((rd_T53 l0_0 x3_1).f4) < 0) = true := decide_eq_true c35
          clear c35
          have H' := Aside0.mk H
          clear H
          have hnb36 := NB110_108.out
          have hnc36 := NB108_110.out
          have hcz37_0 : w9.cell? ⟨gb110, 0, none⟩ = some (.int .u64 0) := (blk_cell BK110.out 0).trans rfl
          have hcz37_1 : w9.cell? ⟨gb110, 1, none⟩ = some (.int .u64 0) := (blk_cell BK110.out 1).trans rfl
          have hcz37_2 : w9.cell? ⟨gb110, 2, none⟩ = some (.int .u64 0) := (blk_cell BK110.out 2).trans rfl
          have hcz37_3 : w9.cell? ⟨gb110, 3, none⟩ = some (.int .u64 0) := (blk_cell BK110.out 3).trans rfl
          have hcz37_4 : w9.cell? ⟨gb110, 4, none⟩ = some (.int .i64 0) := (blk_cell BK110.out 4).trans rfl
          have hfz37_0 := blk_frozen BK110.out 0
          have hfz37_1 := blk_frozen BK110.out 1
          have hfz37_2 := blk_frozen BK110.out 2
          have hfz37_3 := blk_frozen BK110.out 3
          have hfz37_4 := blk_frozen BK110.out 4
          go_wp2
          repeat (go_quiet (fail); try go_wp2)
          go_meet
          case rel => exact ⟨_, (true), u3_13, H', ⟨u3_14⟩, ⟨u3_1⟩, ⟨u3_0⟩, ⟨u3_7⟩⟩
        rw [if_neg c35] at H
        have c35b0 : decide (((rd_T53 l0_0 x3_1).f4) < 0) = false := decide_eq_false c35
        clear c35
        by_cases c38 : ((rd_T53 l0_0 x3_1).f4) = 0
        rotate_left
        · rw [if_neg c38] at H
          have c38b0 : (((rd_T53 l0_0 x3_1).f4) == 0) = false := beq_eq_false_iff_ne.mpr c38
          have c38b1 : (((rd_T53 l0_0 x3_1).f4) != 0) = true := bne_iff_ne.mpr c38
          have H' := Aside0.mk H
          clear H
          have hnb44 := NB110_108.out
          have hnc44 := NB108_110.out
          have hcz45_0 : w9.cell? ⟨gb110, 0, none⟩ = some (.int .u64 0) := (blk_cell BK110.out 0).trans rfl
          have hcz45_1 : w9.cell? ⟨gb110, 1, none⟩ = some (.int .u64 0) := (blk_cell BK110.out 1).trans rfl
          have hcz45_2 : w9.cell? ⟨gb110, 2, none⟩ = some (.int .u64 0) := (blk_cell BK110.out 2).trans rfl
          have hcz45_3 : w9.cell? ⟨gb110, 3, none⟩ = some (.int .u64 0) := (blk_cell BK110.out 3).trans rfl
          have hcz45_4 : w9.cell? ⟨gb110, 4, none⟩ = some (.int .i64 0) := (blk_cell BK110.out 4).trans rfl
          have hfz45_0 := blk_frozen BK110.out 0
          have hfz45_1 := blk_frozen BK110.out 1
          have hfz45_2 := blk_frozen BK110.out 2
          have hfz45_3 := blk_frozen BK110.out 3
          have hfz45_4 := blk_frozen BK110.out 4
          go_wp2
          repeat (go_quiet (fail); try go_wp2)
          go_meet
          case rel => exact ⟨_, (false), u3_13, H', ⟨u3_14⟩, ⟨u3_1⟩, ⟨u3_0⟩, ⟨u3_7⟩⟩
        rw [if_pos c38] at H
        have c38b0 : (((rd_T53 l0_0 x3_1).f4) == 0) = true := beq_iff_eq.mpr c38
        have c38b1 : (((rd_T53 l0_0 x3_1).f4) != 0) = false := bne_eq_false_iff_eq.mpr c38
        clear c38
        by_cases c39 : ((rd_T53 l0_0 x3_1).f2) = 0
        rotate_left
        · rw [if_neg c39] at H
          have c39b0 : (((rd_T53 l0_0 x3_1).f2) == 0) = false := beq_eq_false_iff_ne.mpr c39
          have c39b1 : (((rd_T53 l0_0 x3_1).f2) != 0) = true := bne_iff_ne.mpr c39
          have H' := Aside0.mk H
          clear H
          have hnb42 := NB110_108.out
          have hnc42 := NB108_110.out
          have hcz43_0 : w9.cell? ⟨gb110, 0, none⟩ = some (.int .u64 0) := (blk_cell BK110.out 0).trans rfl
          have hcz43_1 : w9.cell? ⟨gb110, 1, none⟩ = some (.int .u64 0) := (blk_cell BK110.out 1).trans rfl
          have hcz43_2 : w9.cell? ⟨gb110, 2, none⟩ = some (.int .u64 0) := (blk_cell BK110.out 2).trans rfl
          have hcz43_3 : w9.cell? ⟨gb110, 3, none⟩ = some (.int .u64 0) := (blk_cell BK110.out 3).trans rfl
          have hcz43_4 : w9.cell? ⟨gb110, 4, none⟩ = some (.int .i64 0) := (blk_cell BK110.out 4).trans rfl
          have hfz43_0 := blk_frozen BK110.out 0
          have hfz43_1 := blk_frozen BK110.out 1
          have hfz43_2 := blk_frozen BK110.out 2
          have hfz43_3 := blk_frozen BK110.out 3
          have hfz43_4 := blk_frozen BK110.out 4
          go_wp2
          repeat (go_quiet (fail); try go_wp2)
          go_meet
          case rel => exact ⟨_, (true), u3_13, H', ⟨u3_14⟩, ⟨u3_1⟩, ⟨u3_0⟩, ⟨u3_7⟩⟩
        rw [if_pos c39] at H
        have c39b0 : (((rd_T53 l0_0 x3_1).f2) == 0) = true := beq_iff_eq.mpr c39
        have c39b1 : (((rd_T53 l0_0 x3_1).f2) != 0) = false := bne_eq_false_iff_eq.mpr c39
        clear c39
        have H' := Aside0.mk H
        clear H
        have hnb40 := NB110_108.out
        have hnc40 := NB108_110.out
        have hcz41_0 : w9.cell? ⟨gb110, 0, none⟩ = some (.int .u64 0) := (blk_cell BK110.out 0).trans rfl
        have hcz41_1 : w9.cell? ⟨gb110, 1, none⟩ = some (.int .u64 0) := (blk_cell BK110.out 1).trans rfl
        have hcz41_2 : w9.cell? ⟨gb110, 2, none⟩ = some (.int .u64 0) := (blk_cell BK110.out 2).trans rfl
        have hcz41_3 : w9.cell? ⟨gb110, 3, none⟩ = some (.int .u64 0) := (blk_cell BK110.out 3).trans rfl
        have hcz41_4 : w9.cell? ⟨gb110, 4, none⟩ = some (.int .i64 0) := (blk_cell BK110.out 4).trans rfl
        have hfz41_0 := blk_frozen BK110.out 0
        have hfz41_1 := blk_frozen BK110.out 1
        have hfz41_2 := blk_frozen BK110.out 2
        have hfz41_3 := blk_frozen BK110.out 3
        have hfz41_4 := blk_frozen BK110.out 4
        go_wp2
        repeat (go_quiet (fail); try go_wp2)
        go_meet
        case rel => exact ⟨_, ((((rd_T53 l0_0 x3_1).f3) != 0)), u3_13, H', ⟨u3_14⟩, ⟨u3_1⟩, ⟨u3_0⟩, ⟨u3_7⟩⟩
      rw [if_pos c12] at H
      have c12b0 : decide (0 < x3_1) = true := decide_eq_true c12
      clear c12
      (first | rw [c12b0] | (simp only [i64_w, i32_w]; rw [c12b0]) | skip)
      obtain ⟨ji13, hji13⟩ : ∃ j_ : Int, (wrap64 (x3_1 - 1)) = j_ := ⟨_, rfl⟩
      replace H : (if 0 ≤ (ji13) then (if (ji13) < (l0_0.length : Int) then (if ((rd_T53 l0_0 (ji13)).f0) ≥ ((rd_T53 l0_0 x3_1).f0) then (spec_BookOk.j1 k1 x3_1 true l0_0 ((rd_T53 l0_0 x3_1).f0) ((rd_T53 l0_0 x3_1).f1) ((rd_T53 l0_0 x3_1).f2) ((rd_T53 l0_0 x3_1).f3) ((rd_T53 l0_0 x3_1).f4)) else (if ((rd_T53 l0_0 x3_1).f4) < 0 then (spec_BookOk.j1 k1 x3_1 true l0_0 ((rd_T53 l0_0 x3_1).f0) ((rd_T53 l0_0 x3_1).f1) ((rd_T53 l0_0 x3_1).f2) ((rd_T53 l0_0 x3_1).f3) ((rd_T53 l0_0 x3_1).f4)) else (if ((rd_T53 l0_0 x3_1).f4) = 0 then (if ((rd_T53 l0_0 x3_1).f2) = 0 then (spec_BookOk.j1 k1 x3_1 (((rd_T53 l0_0 x3_1).f3) != 0) l0_0 ((rd_T53 l0_0 x3_1).f0) ((rd_T53 l0_0 x3_1).f1) ((rd_T53 l0_0 x3_1).f2) ((rd_T53 l0_0 x3_1).f3) ((rd_T53 l0_0 x3_1).f4)) else (spec_BookOk.j1 k1 x3_1 true l0_0 ((rd_T53 l0_0 x3_1).f0) ((rd_T53 l0_0 x3_1).f1) ((rd_T53 l0_0 x3_1).f2) ((rd_T53 l0_0 x3_1).f3) ((rd_T53 l0_0 x3_1).f4))) else (spec_BookOk.j1 k1 x3_1 false l0_0 ((rd_T53 l0_0 x3_1).f0) ((rd_T53 l0_0 x3_1).f1) ((rd_T53 l0_0 x3_1).f2) ((rd_T53 l0_0 x3_1).f3) ((rd_T53 l0_0 x3_1).f4))))) else (none)) else (none)) = some r := by first | (rw [hji13] at H; exact H) | (simp only [hji13] at H ⊢; exact H)
      have hji13w : (IntKind.i64.wrap (x3_1 - 1)) = ji13 := (i64_w _).trans hji13
      by_cases c14 : 0 ≤ (ji13)
      rotate_left
      · rw [if_neg c14] at H
        exact absurd H (by simp)
      rw [if_pos c14] at H
      have c14b0 : decide (0 ≤ (ji13)) = true := decide_eq_true c14
      clear c14
      by_cases c15 : (ji13) < (l0_0.length : Int)
      rotate_left
      · rw [if_neg c15] at H
        exact absurd H (by simp)
      rw [if_pos c15] at H
      have c15b0 : decide ((ji13) < (l0_0.length : Int)) = true := decide_eq_true c15
      clear c15
      by_cases c16 : ((rd_T53 l0_0 (ji13)).f0) ≥ ((rd_T53 l0_0 x3_1).f0)
      · rw [if_pos c16] at H
        have c16b0 : decide (((rd_T53 l0_0 x3_1).f0) ≤ ((rd_T53 l0_0 (ji13)).f0)) = true := decide_eq_true c16
        clear c16
        have H' := Aside0.mk H
        clear H
        have hnb17 := NB108_110.out
        have hnc17 := NB110_108.out
        have hcz18_0 : w9.cell? ⟨gb108, 0, none⟩ = some (.slice (some ad109) l0_0.length c0_0) := (blk_cell BK108.out 0).trans rfl
        have hfz18_0 := blk_frozen BK108.out 0
        have p111 : 0 ≤ ((ji13) : Int) := of_decide_eq_true u3_12
        have q111 : (ji13) < (l0_0.length : Int) := of_decide_eq_true u3_12
        obtain ⟨ad111, e111, hx111_0, hx111_1, hx111_2, hx111_3, hx111_4⟩ := at_T53 HR0_0.out (ji13) p111 q111
        obtain rfl : ad109 = ad111 := (by injection e111)
        have hn111_0 : ad109.block ≠ gb110 := Nat.ne_of_lt (Nat.lt_of_lt_of_le u3_8 GW110.out)
        have hn111_1 : ad109.block ≠ gb110 := Nat.ne_of_lt (Nat.lt_of_lt_of_le u3_8 GW110.out)
        have hn111_2 : ad109.block ≠ gb110 := Nat.ne_of_lt (Nat.lt_of_lt_of_le u3_8 GW110.out)
        have hn111_3 : ad109.block ≠ gb110 := Nat.ne_of_lt (Nat.lt_of_lt_of_le u3_8 GW110.out)
        have hn111_4 : ad109.block ≠ gb110 := Nat.ne_of_lt (Nat.lt_of_lt_of_le u3_8 GW110.out)
        replace hx111_0 := (HB.out.cell (World.block_lt_of_cell? w _ hx111_0)).trans hx111_0
        replace hx111_1 := (HB.out.cell (World.block_lt_of_cell? w _ hx111_1)).trans hx111_1
        replace hx111_2 := (HB.out.cell (World.block_lt_of_cell? w _ hx111_2)).trans hx111_2
        replace hx111_3 := (HB.out.cell (World.block_lt_of_cell? w _ hx111_3)).trans hx111_3
        replace hx111_4 := (HB.out.cell (World.block_lt_of_cell? w _ hx111_4)).trans hx111_4
        replace hx111_0 := (cell_far (p := ⟨gb110, 0, none⟩) u3_2 (.int .u64 ((rd_T53 l0_0 x3_1).f0))).trans hx111_0
        replace hx111_1 := (cell_far (p := ⟨gb110, 0, none⟩) u3_2 (.int .u64 ((rd_T53 l0_0 x3_1).f0))).trans hx111_1
        replace hx111_2 := (cell_far (p := ⟨gb110, 0, none⟩) u3_2 (.int .u64 ((rd_T53 l0_0 x3_1).f0))).trans hx111_2
        replace hx111_3 := (cell_far (p := ⟨gb110, 0, none⟩) u3_2 (.int .u64 ((rd_T53 l0_0 x3_1).f0))).trans hx111_3
        replace hx111_4 := (cell_far (p := ⟨gb110, 0, none⟩) u3_2 (.int .u64 ((rd_T53 l0_0 x3_1).f0))).trans hx111_4
        replace hx111_0 := (cell_far (p := ⟨gb110, 1, none⟩) u3_3 (.int .u64 ((rd_T53 l0_0 x3_1).f1))).trans hx111_0
        replace hx111_1 := (cell_far (p := ⟨gb110, 1, none⟩) u3_3 (.int .u64 ((rd_T53 l0_0 x3_1).f1))).trans hx111_1
        replace hx111_2 := (cell_far (p := ⟨gb110, 1, none⟩) u3_3 (.int .u64 ((rd_T53 l0_0 x3_1).f1))).trans hx111_2
        replace hx111_3 := (cell_far (p := ⟨gb110, 1, none⟩) u3_3 (.int .u64 ((rd_T53 l0_0 x3_1).f1))).trans hx111_3
        replace hx111_4 := (cell_far (p := ⟨gb110, 1, none⟩) u3_3 (.int .u64 ((rd_T53 l0_0 x3_1).f1))).trans hx111_4
        replace hx111_0 := (cell_far (p := ⟨gb110, 2, none⟩) u3_4 (.int .u64 ((rd_T53 l0_0 x3_1).f2))).trans hx111_0
        replace hx111_1 := (cell_far (p := ⟨gb110, 2, none⟩) u3_4 (.int .u64 ((rd_T53 l0_0 x3_1).f2))).trans hx111_1
        replace hx111_2 := (cell_far (p := ⟨gb110, 2, none⟩) u3_4 (.int .u64 ((rd_T53 l0_0 x3_1).f2))).trans hx111_2
        replace hx111_3 := (cell_far (p := ⟨gb110, 2, none⟩) u3_4 (.int .u64 ((rd_T53 l0_0 x3_1).f2))).trans hx111_3
        replace hx111_4 := (cell_far (p := ⟨gb110, 2, none⟩) u3_4 (.int .u64 ((rd_T53 l0_0 x3_1).f2))).trans hx111_4
        replace hx111_0 := (cell_far (p := ⟨gb110, 3, none⟩) u3_5 (.int .u64 ((rd_T53 l0_0 x3_1).f3))).trans hx111_0
        replace hx111_1 := (cell_far (p := ⟨gb110, 3, none⟩) u3_5 (.int .u64 ((rd_T53 l0_0 x3_1).f3))).trans hx111_1
        replace hx111_2 := (cell_far (p := ⟨gb110, 3, none⟩) u3_5 (.int .u64 ((rd_T53 l0_0 x3_1).f3))).trans hx111_2
        replace hx111_3 := (cell_far (p := ⟨gb110, 3, none⟩) u3_5 (.int .u64 ((rd_T53 l0_0 x3_1).f3))).trans hx111_3
        replace hx111_4 := (cell_far (p := ⟨gb110, 3, none⟩) u3_5 (.int .u64 ((rd_T53 l0_0 x3_1).f3))).trans hx111_4
        replace hx111_0 := (cell_far (p := ⟨gb110, 4, none⟩) u3_6 (.int .i64 ((rd_T53 l0_0 x3_1).f4))).trans hx111_0
        replace hx111_1 := (cell_far (p := ⟨gb110, 4, none⟩) u3_6 (.int .i64 ((rd_T53 l0_0 x3_1).f4))).trans hx111_1
        replace hx111_2 := (cell_far (p := ⟨gb110, 4, none⟩) u3_6 (.int .i64 ((rd_T53 l0_0 x3_1).f4))).trans hx111_2
        replace hx111_3 := (cell_far (p := ⟨gb110, 4, none⟩) u3_6 (.int .i64 ((rd_T53 l0_0 x3_1).f4))).trans hx111_3
        replace hx111_4 := (cell_far (p := ⟨gb110, 4, none⟩) u3_6 (.int .i64 ((rd_T53 l0_0 x3_1).f4))).trans hx111_4
        (try have hch_ := fun (n_ : Nat) => (show (((((((w9.drewN n_).setCell ⟨gb110, 0, none⟩ (.int .u64 ((rd_T53 l0_0 x3_1).f0))).setCell ⟨gb110, 1, none⟩ (.int .u64 ((rd_T53 l0_0 x3_1).f1))).setCell ⟨gb110, 2, none⟩ (.int .u64 ((rd_T53 l0_0 x3_1).f2))).setCell ⟨gb110, 3, none⟩ (.int .u64 ((rd_T53 l0_0 x3_1).f3))).setCell ⟨gb110, 4, none⟩ (.int .i64 ((rd_T53 l0_0 x3_1).f4)))) = World.drewN ((((((w9.setCell ⟨gb110, 0, none⟩ (.int .u64 ((rd_T53 l0_0 x3_1).f0))).setCell ⟨gb110, 1, none⟩ (.int .u64 ((rd_T53 l0_0 x3_1).f1))).setCell ⟨gb110, 2, none⟩ (.int .u64 ((rd_T53 l0_0 x3_1).f2))).setCell ⟨gb110, 3, none⟩ (.int .u64 ((rd_T53 l0_0 x3_1).f3))).setCell ⟨gb110, 4, none⟩ (.int .i64 ((rd_T53 l0_0 x3_1).f4)))) n_ from by simp only [Go.Proofs.Ytdbfjakhkclggaa.Slc.setCell_drewN])); (try have hy111_0 := fun (n_ : Nat) => Go.Proofs.Ytdbfjakhkclggaa.Slc.cell_of (hch_ n_) hx111_0)
        (try have hy111_1 := fun (n_ : Nat) => Go.Proofs.Ytdbfjakhkclggaa.Slc.cell_of (hch_ n_) hx111_1)
        (try have hy111_2 := fun (n_ : Nat) => Go.Proofs.Ytdbfjakhkclggaa.Slc.cell_of (hch_ n_) hx111_2)
        (try have hy111_3 := fun (n_ : Nat) => Go.Proofs.Ytdbfjakhkclggaa.Slc.cell_of (hch_ n_) hx111_3)
        (try have hy111_4 := fun (n_ : Nat) => Go.Proofs.Ytdbfjakhkclggaa.Slc.cell_of (hch_ n_) hx111_4)
        clear hn111_0
        clear hn111_1
        clear hn111_2
        clear hn111_3
        clear hn111_4
        replace p111 := eq_true p111
        replace q111 := eq_true q111
        have hcz19_0 : w9.cell? ⟨gb110, 0, none⟩ = some (.int .u64 0) := (blk_cell BK110.out 0).trans rfl
        have hcz19_1 : w9.cell? ⟨gb110, 1, none⟩ = some (.int .u64 0) := (blk_cell BK110.out 1).trans rfl
        have hcz19_2 : w9.cell? ⟨gb110, 2, none⟩ = some (.int .u64 0) := (blk_cell BK110.out 2).trans rfl
        have hcz19_3 : w9.cell? ⟨gb110, 3, none⟩ = some (.int .u64 0) := (blk_cell BK110.out 3).trans rfl
        have hcz19_4 : w9.cell? ⟨gb110, 4, none⟩ = some (.int .i64 0) := (blk_cell BK110.out 4).trans rfl
        have hfz19_0 := blk_frozen BK110.out 0
        have hfz19_1 := blk_frozen BK110.out 1
        have hfz19_2 := blk_frozen BK110.out 2
        have hfz19_3 := blk_frozen BK110.out 3
        have hfz19_4 := blk_frozen BK110.out 4
        go_wp2
        repeat (go_quiet (fail); try go_wp2)
        go_meet
        case rel => exact ⟨_, (true), u3_13, H', ⟨u3_14⟩, ⟨u3_1⟩, ⟨u3_0⟩, ⟨u3_7⟩⟩
      rw [if_neg c16] at H
      have c16b0 : decide (((rd_T53 l0_0 x3_1).f0) ≤ ((rd_T53 l0_0 (ji13)).f0)) = false := decide_eq_false c16
      clear c16
      by_cases c20 : ((rd_T53 l0_0 x3_1).f4) < 0
      · rw [if_pos c20] at H
        have c20b0 : decide (((rd_T53 l0_0 x3_1).f4) < 0) = true := decide_eq_true c20
        clear c20
        have H' := Aside0.mk H
        clear H
        have hnb21 := NB108_110.out
        have hnc21 := NB110_108.out
        have hcz22_0 : w9.cell? ⟨gb108, 0, none⟩ = some (.slice (some ad109) l0_0.length c0_0) := (blk_cell BK108.out 0).trans rfl
        have hfz22_0 := blk_frozen BK108.out 0
        have p111 : 0 ≤ ((ji13) : Int) := of_decide_eq_true u3_12
        have q111 : (ji13) < (l0_0.length : Int) := of_decide_eq_true u3_12
        obtain ⟨ad111, e111, hx111_0, hx111_1, hx111_2, hx111_3, hx111_4⟩ := at_T53 HR0_0.out (ji13) p111 q111
        obtain rfl : ad109 = ad111 := (by injection e111)
        have hn111_0 : ad109.block ≠ gb110 := Nat.ne_of_lt (Nat.lt_of_lt_of_le u3_8 GW110.out)
        have hn111_1 : ad109.block ≠ gb110 := Nat.ne_of_lt (Nat.lt_of_lt_of_le u3_8 GW110.out)
        have hn111_2 : ad109.block ≠ gb110 := Nat.ne_of_lt (Nat.lt_of_lt_of_le u3_8 GW110.out)
        have hn111_3 : ad109.block ≠ gb110 := Nat.ne_of_lt (Nat.lt_of_lt_of_le u3_8 GW110.out)
        have hn111_4 : ad109.block ≠ gb110 := Nat.ne_of_lt (Nat.lt_of_lt_of_le u3_8 GW110.out)
        replace hx111_0 := (HB.out.cell (World.block_lt_of_cell? w _ hx111_0)).trans hx111_0
        replace hx111_1 := (HB.out.cell (World.block_lt_of_cell? w _ hx111_1)).trans hx111_1
        replace hx111_2 := (HB.out.cell (World.block_lt_of_cell? w _ hx111_2)).trans hx111_2
        replace hx111_3 := (HB.out.cell (World.block_lt_of_cell? w _ hx111_3)).trans hx111_3
        replace hx111_4 := (HB.out.cell (World.block_lt_of_cell? w _ hx111_4)).trans hx111_4
        replace hx111_0 := (cell_far (p := ⟨gb110, 0, none⟩) u3_2 (.int .u64 ((rd_T53 l0_0 x3_1).f0))).trans hx111_0
        replace hx111_1 := (cell_far (p := ⟨gb110, 0, none⟩) u3_2 (.int .u64 ((rd_T53 l0_0 x3_1).f0))).trans hx111_1
        replace hx111_2 := (cell_far (p := ⟨gb110, 0, none⟩) u3_2 (.int .u64 ((rd_T53 l0_0 x3_1).f0))).trans hx111_2
        replace hx111_3 := (cell_far (p := ⟨gb110, 0, none⟩) u3_2 (.int .u64 ((rd_T53 l0_0 x3_1).f0))).trans hx111_3
        replace hx111_4 := (cell_far (p := ⟨gb110, 0, none⟩) u3_2 (.int .u64 ((rd_T53 l0_0 x3_1).f0))).trans hx111_4
        replace hx111_0 := (cell_far (p := ⟨gb110, 1, none⟩) u3_3 (.int .u64 ((rd_T53 l0_0 x3_1).f1))).trans hx111_0
        replace hx111_1 := (cell_far (p := ⟨gb110, 1, none⟩) u3_3 (.int .u64 ((rd_T53 l0_0 x3_1).f1))).trans hx111_1
        replace hx111_2 := (cell_far (p := ⟨gb110, 1, none⟩) u3_3 (.int .u64 ((rd_T53 l0_0 x3_1).f1))).trans hx111_2
        replace hx111_3 := (cell_far (p := ⟨gb110, 1, none⟩) u3_3 (.int .u64 ((rd_T53 l0_0 x3_1).f1))).trans hx111_3
        replace hx111_4 := (cell_far (p := ⟨gb110, 1, none⟩) u3_3 (.int .u64 ((rd_T53 l0_0 x3_1).f1))).trans hx111_4
        replace hx111_0 := (cell_far (p := ⟨gb110, 2, none⟩) u3_4 (.int .u64 ((rd_T53 l0_0 x3_1).f2))).trans hx111_0
        replace hx111_1 := (cell_far (p := ⟨gb110, 2, none⟩) u3_4 (.int .u64 ((rd_T53 l0_0 x3_1).f2))).trans hx111_1
        replace hx111_2 := (cell_far (p := ⟨gb110, 2, none⟩) u3_4 (.int .u64 ((rd_T53 l0_0 x3_1).f2))).trans hx111_2
        replace hx111_3 := (cell_far (p := ⟨gb110, 2, none⟩) u3_4 (.int .u64 ((rd_T53 l0_0 x3_1).f2))).trans hx111_3
        replace hx111_4 := (cell_far (p := ⟨gb110, 2, none⟩) u3_4 (.int .u64 ((rd_T53 l0_0 x3_1).f2))).trans hx111_4
        replace hx111_0 := (cell_far (p := ⟨gb110, 3, none⟩) u3_5 (.int .u64 ((rd_T53 l0_0 x3_1).f3))).trans hx111_0
        replace hx111_1 := (cell_far (p := ⟨gb110, 3, none⟩) u3_5 (.int .u64 ((rd_T53 l0_0 x3_1).f3))).trans hx111_1
        replace hx111_2 := (cell_far (p := ⟨gb110, 3, none⟩) u3_5 (.int .u64 ((rd_T53 l0_0 x3_1).f3))).trans hx111_2
        replace hx111_3 := (cell_far (p := ⟨gb110, 3, none⟩) u3_5 (.int .u64 ((rd_T53 l0_0 x3_1).f3))).trans hx111_3
        replace hx111_4 := (cell_far (p := ⟨gb110, 3, none⟩) u3_5 (.int .u64 ((rd_T53 l0_0 x3_1).f3))).trans hx111_4
        replace hx111_0 := (cell_far (p := ⟨gb110, 4, none⟩) u3_6 (.int .i64 ((rd_T53 l0_0 x3_1).f4))).trans hx111_0
        replace hx111_1 := (cell_far (p := ⟨gb110, 4, none⟩) u3_6 (.int .i64 ((rd_T53 l0_0 x3_1).f4))).trans hx111_1
        replace hx111_2 := (cell_far (p := ⟨gb110, 4, none⟩) u3_6 (.int .i64 ((rd_T53 l0_0 x3_1).f4))).trans hx111_2
        replace hx111_3 := (cell_far (p := ⟨gb110, 4, none⟩) u3_6 (.int .i64 ((rd_T53 l0_0 x3_1).f4))).trans hx111_3
        replace hx111_4 := (cell_far (p := ⟨gb110, 4, none⟩) u3_6 (.int .i64 ((rd_T53 l0_0 x3_1).f4))).trans hx111_4
        (try have hch_ := fun (n_ : Nat) => (show (((((((w9.drewN n_).setCell ⟨gb110, 0, none⟩ (.int .u64 ((rd_T53 l0_0 x3_1).f0))).setCell ⟨gb110, 1, none⟩ (.int .u64 ((rd_T53 l0_0 x3_1).f1))).setCell ⟨gb110, 2, none⟩ (.int .u64 ((rd_T53 l0_0 x3_1).f2))).setCell ⟨gb110, 3, none⟩ (.int .u64 ((rd_T53 l0_0 x3_1).f3))).setCell ⟨gb110, 4, none⟩ (.int .i64 ((rd_T53 l0_0 x3_1).f4)))) = World.drewN ((((((w9.setCell ⟨gb110, 0, none⟩ (.int .u64 ((rd_T53 l0_0 x3_1).f0))).setCell ⟨gb110, 1, none⟩ (.int .u64 ((rd_T53 l0_0 x3_1).f1))).setCell ⟨gb110, 2, none⟩ (.int .u64 ((rd_T53 l0_0 x3_1).f2))).setCell ⟨gb110, 3, none⟩ (.int .u64 ((rd_T53 l0_0 x3_1).f3))).setCell ⟨gb110, 4, none⟩ (.int .i64 ((rd_T53 l0_0 x3_1).f4)))) n_ from by simp only [Go.Proofs.Ytdbfjakhkclggaa.Slc.setCell_drewN])); (try have hy111_0 := fun (n_ : Nat) => Go.Proofs.Ytdbfjakhkclggaa.Slc.cell_of (hch_ n_) hx111_0)
        (try have hy111_1 := fun (n_ : Nat) => Go.Proofs.Ytdbfjakhkclggaa.Slc.cell_of (hch_ n_) hx111_1)
        (try have hy111_2 := fun (n_ : Nat) => Go.Proofs.Ytdbfjakhkclggaa.Slc.cell_of (hch_ n_) hx111_2)
        (try have hy111_3 := fun (n_ : Nat) => Go.Proofs.Ytdbfjakhkclggaa.Slc.cell_of (hch_ n_) hx111_3)
        (try have hy111_4 := fun (n_ : Nat) => Go.Proofs.Ytdbfjakhkclggaa.Slc.cell_of (hch_ n_) hx111_4)
        clear hn111_0
        clear hn111_1
        clear hn111_2
        clear hn111_3
        clear hn111_4
        replace p111 := eq_true p111
        replace q111 := eq_true q111
        have hcz23_0 : w9.cell? ⟨gb110, 0, none⟩ = some (.int .u64 0) := (blk_cell BK110.out 0).trans rfl
        have hcz23_1 : w9.cell? ⟨gb110, 1, none⟩ = some (.int .u64 0) := (blk_cell BK110.out 1).trans rfl
        have hcz23_2 : w9.cell? ⟨gb110, 2, none⟩ = some (.int .u64 0) := (blk_cell BK110.out 2).trans rfl
        have hcz23_3 : w9.cell? ⟨gb110, 3, none⟩ = some (.int .u64 0) := (blk_cell BK110.out 3).trans rfl
        have hcz23_4 : w9.cell? ⟨gb110, 4, none⟩ = some (.int .i64 0) := (blk_cell BK110.out 4).trans rfl
        have hfz23_0 := blk_frozen BK110.out 0
        have hfz23_1 := blk_frozen BK110.out 1
        have hfz23_2 := blk_frozen BK110.out 2
        have hfz23_3 := blk_frozen BK110.out 3
        have hfz23_4 := blk_frozen BK110.out 4
        go_wp2
        repeat (go_quiet (fail); try go_wp2)
        go_meet
        case rel => exact ⟨_, (true), u3_13, H', ⟨u3_14⟩, ⟨u3_1⟩, ⟨u3_0⟩, ⟨u3_7⟩⟩
      rw [if_neg c20] at H
      have c20b0 : decide (((rd_T53 l0_0 x3_1).f4) < 0) = false := decide_eq_false c20
      clear c20
      by_cases c24 : ((rd_T53 l0_0 x3_1).f4) = 0
      rotate_left
      · rw [if_neg c24] at H
        have c24b0 : (((rd_T53 l0_0 x3_1).f4) == 0) = false := beq_eq_false_iff_ne.mpr c24
        have c24b1 : (((rd_T53 l0_0 x3_1).f4) != 0) = true := bne_iff_ne.mpr c24
        have H' := Aside0.mk H
        clear H
        have hnb32 := NB108_110.out
        have hnc32 := NB110_108.out
        have hcz33_0 : w9.cell? ⟨gb108, 0, none⟩ = some (.slice (some ad109) l0_0.length c0_0) := (blk_cell BK108.out 0).trans rfl
        have hfz33_0 := blk_frozen BK108.out 0
        have p111 : 0 ≤ ((ji13) : Int) := of_decide_eq_true u3_12
        have q111 : (ji13) < (l0_0.length : Int) := of_decide_eq_true u3_12
        obtain ⟨ad111, e111, hx111_0, hx111_1, hx111_2, hx111_3, hx111_4⟩ := at_T53 HR0_0.out (ji13) p111 q111
        obtain rfl : ad109 = ad111 := (by injection e111)
        have hn111_0 : ad109.block ≠ gb110 := Nat.ne_of_lt (Nat.lt_of_lt_of_le u3_8 GW110.out)
        have hn111_1 : ad109.block ≠ gb110 := Nat.ne_of_lt (Nat.lt_of_lt_of_le u3_8 GW110.out)
        have hn111_2 : ad109.block ≠ gb110 := Nat.ne_of_lt (Nat.lt_of_lt_of_le u3_8 GW110.out)
        have hn111_3 : ad109.block ≠ gb110 := Nat.ne_of_lt (Nat.lt_of_lt_of_le u3_8 GW110.out)
        have hn111_4 : ad109.block ≠ gb110 := Nat.ne_of_lt (Nat.lt_of_lt_of_le u3_8 GW110.out)
        replace hx111_0 := (HB.out.cell (World.block_lt_of_cell? w _ hx111_0)).trans hx111_0
        replace hx111_1 := (HB.out.cell (World.block_lt_of_cell? w _ hx111_1)).trans hx111_1
        replace hx111_2 := (HB.out.cell (World.block_lt_of_cell? w _ hx111_2)).trans hx111_2
        replace hx111_3 := (HB.out.cell (World.block_lt_of_cell? w _ hx111_3)).trans hx111_3
        replace hx111_4 := (HB.out.cell (World.block_lt_of_cell? w _ hx111_4)).trans hx111_4
        replace hx111_0 := (cell_far (p := ⟨gb110, 0, none⟩) u3_2 (.int .u64 ((rd_T53 l0_0 x3_1).f0))).trans hx111_0
        replace hx111_1 := (cell_far (p := ⟨gb110, 0, none⟩) u3_2 (.int .u64 ((rd_T53 l0_0 x3_1).f0))).trans hx111_1
        replace hx111_2 := (cell_far (p := ⟨gb110, 0, none⟩) u3_2 (.int .u64 ((rd_T53 l0_0 x3_1).f0))).trans hx111_2
        replace hx111_3 := (cell_far (p := ⟨gb110, 0, none⟩) u3_2 (.int .u64 ((rd_T53 l0_0 x3_1).f0))).trans hx111_3
        replace hx111_4 := (cell_far (p := ⟨gb110, 0, none⟩) u3_2 (.int .u64 ((rd_T53 l0_0 x3_1).f0))).trans hx111_4
        replace hx111_0 := (cell_far (p := ⟨gb110, 1, none⟩) u3_3 (.int .u64 ((rd_T53 l0_0 x3_1).f1))).trans hx111_0
        replace hx111_1 := (cell_far (p := ⟨gb110, 1, none⟩) u3_3 (.int .u64 ((rd_T53 l0_0 x3_1).f1))).trans hx111_1
        replace hx111_2 := (cell_far (p := ⟨gb110, 1, none⟩) u3_3 (.int .u64 ((rd_T53 l0_0 x3_1).f1))).trans hx111_2
        replace hx111_3 := (cell_far (p := ⟨gb110, 1, none⟩) u3_3 (.int .u64 ((rd_T53 l0_0 x3_1).f1))).trans hx111_3
        replace hx111_4 := (cell_far (p := ⟨gb110, 1, none⟩) u3_3 (.int .u64 ((rd_T53 l0_0 x3_1).f1))).trans hx111_4
        replace hx111_0 := (cell_far (p := ⟨gb110, 2, none⟩) u3_4 (.int .u64 ((rd_T53 l0_0 x3_1).f2))).trans hx111_0
        replace hx111_1 := (cell_far (p := ⟨gb110, 2, none⟩) u3_4 (.int .u64 ((rd_T53 l0_0 x3_1).f2))).trans hx111_1
        replace hx111_2 := (cell_far (p := ⟨gb110, 2, none⟩) u3_4 (.int .u64 ((rd_T53 l0_0 x3_1).f2))).trans hx111_2
        replace hx111_3 := (cell_far (p := ⟨gb110, 2, none⟩) u3_4 (.int .u64 ((rd_T53 l0_0 x3_1).f2))).trans hx111_3
        replace hx111_4 := (cell_far (p := ⟨gb110, 2, none⟩) u3_4 (.int .u64 ((rd_T53 l0_0 x3_1).f2))).trans hx111_4
        replace hx111_0 := (cell_far (p := ⟨gb110, 3, none⟩) u3_5 (.int .u64 ((rd_T53 l0_0 x3_1).f3))).trans hx111_0
        replace hx111_1 := (cell_far (p := ⟨gb110, 3, none⟩) u3_5 (.int .u64 ((rd_T53 l0_0 x3_1).f3))).trans hx111_1
        replace hx111_2 := (cell_far (p := ⟨gb110, 3, none⟩) u3_5 (.int .u64 ((rd_T53 l0_0 x3_1).f3))).trans hx111_2
        replace hx111_3 := (cell_far (p := ⟨gb110, 3, none⟩) u3_5 (.int .u64 ((rd_T53 l0_0 x3_1).f3))).trans hx111_3
        replace hx111_4 := (cell_far (p := ⟨gb110, 3, none⟩) u3_5 (.int .u64 ((rd_T53 l0_0 x3_1).f3))).trans hx111_4
        replace hx111_0 := (cell_far (p := ⟨gb110, 4, none⟩) u3_6 (.int .i64 ((rd_T53 l0_0 x3_1).f4))).trans hx111_0
        replace hx111_1 := (cell_far (p := ⟨gb110, 4, none⟩) u3_6 (.int .i64 ((rd_T53 l0_0 x3_1).f4))).trans hx111_1
        replace hx111_2 := (cell_far (p := ⟨gb110, 4, none⟩) u3_6 (.int .i64 ((rd_T53 l0_0 x3_1).f4))).trans hx111_2
        replace hx111_3 := (cell_far (p := ⟨gb110, 4, none⟩) u3_6 (.int .i64 ((rd_T53 l0_0 x3_1).f4))).trans hx111_3
        replace hx111_4 := (cell_far (p := ⟨gb110, 4, none⟩) u3_6 (.int .i64 ((rd_T53 l0_0 x3_1).f4))).trans hx111_4
        (try have hch_ := fun (n_ : Nat) => (show (((((((w9.drewN n_).setCell ⟨gb110, 0, none⟩ (.int .u64 ((rd_T53 l0_0 x3_1).f0))).setCell ⟨gb110, 1, none⟩ (.int .u64 ((rd_T53 l0_0 x3_1).f1))).setCell ⟨gb110, 2, none⟩ (.int .u64 ((rd_T53 l0_0 x3_1).f2))).setCell ⟨gb110, 3, none⟩ (.int .u64 ((rd_T53 l0_0 x3_1).f3))).setCell ⟨gb110, 4, none⟩ (.int .i64 ((rd_T53 l0_0 x3_1).f4)))) = World.drewN ((((((w9.setCell ⟨gb110, 0, none⟩ (.int .u64 ((rd_T53 l0_0 x3_1).f0))).setCell ⟨gb110, 1, none⟩ (.int .u64 ((rd_T53 l0_0 x3_1).f1))).setCell ⟨gb110, 2, none⟩ (.int .u64 ((rd_T53 l0_0 x3_1).f2))).setCell ⟨gb110, 3, none⟩ (.int .u64 ((rd_T53 l0_0 x3_1).f3))).setCell ⟨gb110, 4, none⟩ (.int .i64 ((rd_T53 l0_0 x3_1).f4)))) n_ from by simp only [Go.Proofs.Ytdbfjakhkclggaa.Slc.setCell_drewN])); (try have hy111_0 := fun (n_ : Nat) => Go.Proofs.Ytdbfjakhkclggaa.Slc.cell_of (hch_ n_) hx111_0)
        (try have hy111_1 := fun (n_ : Nat) => Go.Proofs.Ytdbfjakhkclggaa.Slc.cell_of (hch_ n_) hx111_1)
        (try have hy111_2 := fun (n_ : Nat) => Go.Proofs.Ytdbfjakhkclggaa.Slc.cell_of (hch_ n_) hx111_2)
        (try have hy111_3 := fun (n_ : Nat) => Go.Proofs.Ytdbfjakhkclggaa.Slc.cell_of (hch_ n_) hx111_3)
        (try have hy111_4 := fun (n_ : Nat) => Go.Proofs.Ytdbfjakhkclggaa.Slc.cell_of (hch_ n_) hx111_4)
        clear hn111_0
        clear hn111_1
        clear hn111_2
        clear hn111_3
        clear hn111_4
        replace p111 := eq_true p111
        replace q111 := eq_true q111
        have hcz34_0 : w9.cell? ⟨gb110, 0, none⟩ = some (.int .u64 0) := (blk_cell BK110.out 0).trans rfl
        have hcz34_1 : w9.cell? ⟨gb110, 1, none⟩ = some (.int .u64 0) := (blk_cell BK110.out 1).trans rfl
        have hcz34_2 : w9.cell? ⟨gb110, 2, none⟩ = some (.int .u64 0) := (blk_cell BK110.out 2).trans rfl
        have hcz34_3 : w9.cell? ⟨gb110, 3, none⟩ = some (.int .u64 0) := (blk_cell BK110.out 3).trans rfl
        have hcz34_4 : w9.cell? ⟨gb110, 4, none⟩ = some (.int .i64 0) := (blk_cell BK110.out 4).trans rfl
        have hfz34_0 := blk_frozen BK110.out 0
        have hfz34_1 := blk_frozen BK110.out 1
        have hfz34_2 := blk_frozen BK110.out 2
        have hfz34_3 := blk_frozen BK110.out 3
        have hfz34_4 := blk_frozen BK110.out 4
        go_wp2
        repeat (go_quiet (fail); try go_wp2)
        go_meet
        case rel => exact ⟨_, (false), u3_13, H', ⟨u3_14⟩, ⟨u3_1⟩, ⟨u3_0⟩, ⟨u3_7⟩⟩
      rw [if_pos c24] at H
      have c24b0 : (((rd_T53 l0_0 x3_1).f4) == 0) = true := beq_iff_eq.mpr c24
      have c24b1 : (((rd_T53 l0_0 x3_1).f4) != 0) = false := bne_eq_false_iff_eq.mpr c24
      clear c24
      by_cases c25 : ((rd_T53 l0_0 x3_1).f2) = 0
      rotate_left
      · rw [if_neg c25] at H
        have c25b0 : (((rd_T53 l0_0 x3_1).f2) == 0) = false := beq_eq_false_iff_ne.mpr c25
        have c25b1 : (((rd_T53 l0_0 x3_1).f2) != 0) = true := bne_iff_ne.mpr c25
        have H' := Aside0.mk H
        clear H
        have hnb29 := NB108_110.out
        have hnc29 := NB110_108.out
        have hcz30_0 : w9.cell? ⟨gb108, 0, none⟩ = some (.slice (some ad109) l0_0.length c0_0) := (blk_cell BK108.out 0).trans rfl
        have hfz30_0 := blk_frozen BK108.out 0
        have p111 : 0 ≤ ((ji13) : Int) := of_decide_eq_true u3_12
        have q111 : (ji13) < (l0_0.length : Int) := of_decide_eq_true u3_12
        obtain ⟨ad111, e111, hx111_0, hx111_1, hx111_2, hx111_3, hx111_4⟩ := at_T53 HR0_0.out (ji13) p111 q111
        obtain rfl : ad109 = ad111 := (by injection e111)
        have hn111_0 : ad109.block ≠ gb110 := Nat.ne_of_lt (Nat.lt_of_lt_of_le u3_8 GW110.out)
        have hn111_1 : ad109.block ≠ gb110 := Nat.ne_of_lt (Nat.lt_of_lt_of_le u3_8 GW110.out)
        have hn111_2 : ad109.block ≠ gb110 := Nat.ne_of_lt (Nat.lt_of_lt_of_le u3_8 GW110.out)
        have hn111_3 : ad109.block ≠ gb110 := Nat.ne_of_lt (Nat.lt_of_lt_of_le u3_8 GW110.out)
        have hn111_4 : ad109.block ≠ gb110 := Nat.ne_of_lt (Nat.lt_of_lt_of_le u3_8 GW110.out)
        replace hx111_0 := (HB.out.cell (World.block_lt_of_cell? w _ hx111_0)).trans hx111_0
        replace hx111_1 := (HB.out.cell (World.block_lt_of_cell? w _ hx111_1)).trans hx111_1
        replace hx111_2 := (HB.out.cell (World.block_lt_of_cell? w _ hx111_2)).trans hx111_2
        replace hx111_3 := (HB.out.cell (World.block_lt_of_cell? w _ hx111_3)).trans hx111_3
        replace hx111_4 := (HB.out.cell (World.block_lt_of_cell? w _ hx111_4)).trans hx111_4
        replace hx111_0 := (cell_far (p := ⟨gb110, 0, none⟩) u3_2 (.int .u64 ((rd_T53 l0_0 x3_1).f0))).trans hx111_0
        replace hx111_1 := (cell_far (p := ⟨gb110, 0, none⟩) u3_2 (.int .u64 ((rd_T53 l0_0 x3_1).f0))).trans hx111_1
        replace hx111_2 := (cell_far (p := ⟨gb110, 0, none⟩) u3_2 (.int .u64 ((rd_T53 l0_0 x3_1).f0))).trans hx111_2
        replace hx111_3 := (cell_far (p := ⟨gb110, 0, none⟩) u3_2 (.int .u64 ((rd_T53 l0_0 x3_1).f0))).trans hx111_3
        replace hx111_4 := (cell_far (p := ⟨gb110, 0, none⟩) u3_2 (.int .u64 ((rd_T53 l0_0 x3_1).f0))).trans hx111_4
        replace hx111_0 := (cell_far (p := ⟨gb110, 1, none⟩) u3_3 (.int .u64 ((rd_T53 l0_0 x3_1).f1))).trans hx111_0
        replace hx111_1 := (cell_far (p := ⟨gb110, 1, none⟩) u3_3 (.int .u64 ((rd_T53 l0_0 x3_1).f1))).trans hx111_1
        replace hx111_2 := (cell_far (p := ⟨gb110, 1, none⟩) u3_3 (.int .u64 ((rd_T53 l0_0 x3_1).f1))).trans hx111_2
        replace hx111_3 := (cell_far (p := ⟨gb110, 1, none⟩) u3_3 (.int .u64 ((rd_T53 l0_0 x3_1).f1))).trans hx111_3
        replace hx111_4 := (cell_far (p := ⟨gb110, 1, none⟩) u3_3 (.int .u64 ((rd_T53 l0_0 x3_1).f1))).trans hx111_4
        replace hx111_0 := (cell_far (p := ⟨gb110, 2, none⟩) u3_4 (.int .u64 ((rd_T53 l0_0 x3_1).f2))).trans hx111_0
        replace hx111_1 := (cell_far (p := ⟨gb110, 2, none⟩) u3_4 (.int .u64 ((rd_T53 l0_0 x3_1).f2))).trans hx111_1
        replace hx111_2 := (cell_far (p := ⟨gb110, 2, none⟩) u3_4 (.int .u64 ((rd_T53 l0_0 x3_1).f2))).trans hx111_2
        replace hx111_3 := (cell_far (p := ⟨gb110, 2, none⟩) u3_4 (.int .u64 ((rd_T53 l0_0 x3_1).f2))).trans hx111_3
        replace hx111_4 := (cell_far (p := ⟨gb110, 2, none⟩) u3_4 (.int .u64 ((rd_T53 l0_0 x3_1).f2))).trans hx111_4
        replace hx111_0 := (cell_far (p := ⟨gb110, 3, none⟩) u3_5 (.int .u64 ((rd_T53 l0_0 x3_1).f3))).trans hx111_0
        replace hx111_1 := (cell_far (p := ⟨gb110, 3, none⟩) u3_5 (.int .u64 ((rd_T53 l0_0 x3_1).f3))).trans hx111_1
        replace hx111_2 := (cell_far (p := ⟨gb110, 3, none⟩) u3_5 (.int .u64 ((rd_T53 l0_0 x3_1).f3))).trans hx111_2
        replace hx111_3 := (cell_far (p := ⟨gb110, 3, none⟩) u3_5 (.int .u64 ((rd_T53 l0_0 x3_1).f3))).trans hx111_3
        replace hx111_4 := (cell_far (p := ⟨gb110, 3, none⟩) u3_5 (.int .u64 ((rd_T53 l0_0 x3_1).f3))).trans hx111_4
        replace hx111_0 := (cell_far (p := ⟨gb110, 4, none⟩) u3_6 (.int .i64 ((rd_T53 l0_0 x3_1).f4))).trans hx111_0
        replace hx111_1 := (cell_far (p := ⟨gb110, 4, none⟩) u3_6 (.int .i64 ((rd_T53 l0_0 x3_1).f4))).trans hx111_1
        replace hx111_2 := (cell_far (p := ⟨gb110, 4, none⟩) u3_6 (.int .i64 ((rd_T53 l0_0 x3_1).f4))).trans hx111_2
        replace hx111_3 := (cell_far (p := ⟨gb110, 4, none⟩) u3_6 (.int .i64 ((rd_T53 l0_0 x3_1).f4))).trans hx111_3
        replace hx111_4 := (cell_far (p := ⟨gb110, 4, none⟩) u3_6 (.int .i64 ((rd_T53 l0_0 x3_1).f4))).trans hx111_4
        (try have hch_ := fun (n_ : Nat) => (show (((((((w9.drewN n_).setCell ⟨gb110, 0, none⟩ (.int .u64 ((rd_T53 l0_0 x3_1).f0))).setCell ⟨gb110, 1, none⟩ (.int .u64 ((rd_T53 l0_0 x3_1).f1))).setCell ⟨gb110, 2, none⟩ (.int .u64 ((rd_T53 l0_0 x3_1).f2))).setCell ⟨gb110, 3, none⟩ (.int .u64 ((rd_T53 l0_0 x3_1).f3))).setCell ⟨gb110, 4, none⟩ (.int .i64 ((rd_T53 l0_0 x3_1).f4)))) = World.drewN ((((((w9.setCell ⟨gb110, 0, none⟩ (.int .u64 ((rd_T53 l0_0 x3_1).f0))).setCell ⟨gb110, 1, none⟩ (.int .u64 ((rd_T53 l0_0 x3_1).f1))).setCell ⟨gb110, 2, none⟩ (.int .u64 ((rd_T53 l0_0 x3_1).f2))).setCell ⟨gb110, 3, none⟩ (.int .u64 ((rd_T53 l0_0 x3_1).f3))).setCell ⟨gb110, 4, none⟩ (.int .i64 ((rd_T53 l0_0 x3_1).f4)))) n_ from by simp only [Go.Proofs.Ytdbfjakhkclggaa.Slc.setCell_drewN])); (try have hy111_0 := fun (n_ : Nat) => Go.Proofs.Ytdbfjakhkclggaa.Slc.cell_of (hch_ n_) hx111_0)
        (try have hy111_1 := fun (n_ : Nat) => Go.Proofs.Ytdbfjakhkclggaa.Slc.cell_of (hch_ n_) hx111_1)
        (try have hy111_2 := fun (n_ : Nat) => Go.Proofs.Ytdbfjakhkclggaa.Slc.cell_of (hch_ n_) hx111_2)
        (try have hy111_3 := fun (n_ : Nat) => Go.Proofs.Ytdbfjakhkclggaa.Slc.cell_of (hch_ n_) hx111_3)
        (try have hy111_4 := fun (n_ : Nat) => Go.Proofs.Ytdbfjakhkclggaa.Slc.cell_of (hch_ n_) hx111_4)
        clear hn111_0
        clear hn111_1
        clear hn111_2
        clear hn111_3
        clear hn111_4
        replace p111 := eq_true p111
        replace q111 := eq_true q111
        have hcz31_0 : w9.cell? ⟨gb110, 0, none⟩ = some (.int .u64 0) := (blk_cell BK110.out 0).trans rfl
        have hcz31_1 : w9.cell? ⟨gb110, 1, none⟩ = some (.int .u64 0) := (blk_cell BK110.out 1).trans rfl
        have hcz31_2 : w9.cell? ⟨gb110, 2, none⟩ = some (.int .u64 0) := (blk_cell BK110.out 2).trans rfl
        have hcz31_3 : w9.cell? ⟨gb110, 3, none⟩ = some (.int .u64 0) := (blk_cell BK110.out 3).trans rfl
        have hcz31_4 : w9.cell? ⟨gb110, 4, none⟩ = some (.int .i64 0) := (blk_cell BK110.out 4).trans rfl
        have hfz31_0 := blk_frozen BK110.out 0
        have hfz31_1 := blk_frozen BK110.out 1
        have hfz31_2 := blk_frozen BK110.out 2
        have hfz31_3 := blk_frozen BK110.out 3
        have hfz31_4 := blk_frozen BK110.out 4
        go_wp2
        repeat (go_quiet (fail); try go_wp2)
        go_meet
        case rel => exact ⟨_, (true), u3_13, H', ⟨u3_14⟩, ⟨u3_1⟩, ⟨u3_0⟩, ⟨u3_7⟩⟩
      rw [if_pos c25] at H
      have c25b0 : (((rd_T53 l0_0 x3_1).f2) == 0) = true := beq_iff_eq.mpr c25
      have c25b1 : (((rd_T53 l0_0 x3_1).f2) != 0) = false := bne_eq_false_iff_eq.mpr c25
      clear c25
      have H' := Aside0.mk H
      clear H
      have hnb26 := NB108_110.out
      have hnc26 := NB110_108.out
      have hcz27_0 : w9.cell? ⟨gb108, 0, none⟩ = some (.slice (some ad109) l0_0.length c0_0) := (blk_cell BK108.out 0).trans rfl
      have hfz27_0 := blk_frozen BK108.out 0
      have p111 : 0 ≤ ((ji13) : Int) := of_decide_eq_true u3_12
      have q111 : (ji13) < (l0_0.length : Int) := of_decide_eq_true u3_12
      obtain ⟨ad111, e111, hx111_0, hx111_1, hx111_2, hx111_3, hx111_4⟩ := at_T53 HR0_0.out (ji13) p111 q111
      obtain rfl : ad109 = ad111 := (by injection e111)
      have hn111_0 : ad109.block ≠ gb110 := Nat.ne_of_lt (Nat.lt_of_lt_of_le u3_8 GW110.out)
      have hn111_1 : ad109.block ≠ gb110 := Nat.ne_of_lt (Nat.lt_of_lt_of_le u3_8 GW110.out)
      have hn111_2 : ad109.block ≠ gb110 := Nat.ne_of_lt (Nat.lt_of_lt_of_le u3_8 GW110.out)
      have hn111_3 : ad109.block ≠ gb110 := Nat.ne_of_lt (Nat.lt_of_lt_of_le u3_8 GW110.out)
      have hn111_4 : ad109.block ≠ gb110 := Nat.ne_of_lt (Nat.lt_of_lt_of_le u3_8 GW110.out)
      replace hx111_0 := (HB.out.cell (World.block_lt_of_cell? w _ hx111_0)).trans hx111_0
      replace hx111_1 := (HB.out.cell (World.block_lt_of_cell? w _ hx111_1)).trans hx111_1
      replace hx111_2 := (HB.out.cell (World.block_lt_of_cell? w _ hx111_2)).trans hx111_2
      replace hx111_3 := (HB.out.cell (World.block_lt_of_cell? w _ hx111_3)).trans hx111_3
      replace hx111_4 := (HB.out.cell (World.block_lt_of_cell? w _ hx111_4)).trans hx111_4
      replace hx111_0 := (cell_far (p := ⟨gb110, 0, none⟩) u3_2 (.int .u64 ((rd_T53 l0_0 x3_1).f0))).trans hx111_0
      replace hx111_1 := (cell_far (p := ⟨gb110, 0, none⟩) u3_2 (.int .u64 ((rd_T53 l0_0 x3_1).f0))).trans hx111_1
      replace hx111_2 := (cell_far (p := ⟨gb110, 0, none⟩) u3_2 (.int .u64 ((rd_T53 l0_0 x3_1).f0))).trans hx111_2
      replace hx111_3 := (cell_far (p := ⟨gb110, 0, none⟩) u3_2 (.int .u64 ((rd_T53 l0_0 x3_1).f0))).trans hx111_3
      replace hx111_4 := (cell_far (p := ⟨gb110, 0, none⟩) u3_2 (.int .u64 ((rd_T53 l0_0 x3_1).f0))).trans hx111_4
      replace hx111_0 := (cell_far (p := ⟨gb110, 1, none⟩) u3_3 (.int .u64 ((rd_T53 l0_0 x3_1).f1))).trans hx111_0
      replace hx111_1 := (cell_far (p := ⟨gb110, 1, none⟩) u3_3 (.int .u64 ((rd_T53 l0_0 x3_1).f1))).trans hx111_1
      replace hx111_2 := (cell_far (p := ⟨gb110, 1, none⟩) u3_3 (.int .u64 ((rd_T53 l0_0 x3_1).f1))).trans hx111_2
      replace hx111_3 := (cell_far (p := ⟨gb110, 1, none⟩) u3_3 (.int .u64 ((rd_T53 l0_0 x3_1).f1))).trans hx111_3
      replace hx111_4 := (cell_far (p := ⟨gb110, 1, none⟩) u3_3 (.int .u64 ((rd_T53 l0_0 x3_1).f1))).trans hx111_4
      replace hx111_0 := (cell_far (p := ⟨gb110, 2, none⟩) u3_4 (.int .u64 ((rd_T53 l0_0 x3_1).f2))).trans hx111_0
      replace hx111_1 := (cell_far (p := ⟨gb110, 2, none⟩) u3_4 (.int .u64 ((rd_T53 l0_0 x3_1).f2))).trans hx111_1
      replace hx111_2 := (cell_far (p := ⟨gb110, 2, none⟩) u3_4 (.int .u64 ((rd_T53 l0_0 x3_1).f2))).trans hx111_2
      replace hx111_3 := (cell_far (p := ⟨gb110, 2, none⟩) u3_4 (.int .u64 ((rd_T53 l0_0 x3_1).f2))).trans hx111_3
      replace hx111_4 := (cell_far (p := ⟨gb110, 2, none⟩) u3_4 (.int .u64 ((rd_T53 l0_0 x3_1).f2))).trans hx111_4
      replace hx111_0 := (cell_far (p := ⟨gb110, 3, none⟩) u3_5 (.int .u64 ((rd_T53 l0_0 x3_1).f3))).trans hx111_0
      replace hx111_1 := (cell_far (p := ⟨gb110, 3, none⟩) u3_5 (.int .u64 ((rd_T53 l0_0 x3_1).f3))).trans hx111_1
      replace hx111_2 := (cell_far (p := ⟨gb110, 3, none⟩) u3_5 (.int .u64 ((rd_T53 l0_0 x3_1).f3))).trans hx111_2
      replace hx111_3 := (cell_far (p := ⟨gb110, 3, none⟩) u3_5 (.int .u64 ((rd_T53 l0_0 x3_1).f3))).trans hx111_3
      replace hx111_4 := (cell_far (p := ⟨gb110, 3, none⟩) u3_5 (.int .u64 ((rd_T53 l0_0 x3_1).f3))).trans hx111_4
      replace hx111_0 := (cell_far (p := ⟨gb110, 4, none⟩) u3_6 (.int .i64 ((rd_T53 l0_0 x3_1).f4))).trans hx111_0
      replace hx111_1 := (cell_far (p := ⟨gb110, 4, none⟩) u3_6 (.int .i64 ((rd_T53 l0_0 x3_1).f4))).trans hx111_1
      replace hx111_2 := (cell_far (p := ⟨gb110, 4, none⟩) u3_6 (.int .i64 ((rd_T53 l0_0 x3_1).f4))).trans hx111_2
      replace hx111_3 := (cell_far (p := ⟨gb110, 4, none⟩) u3_6 (.int .i64 ((rd_T53 l0_0 x3_1).f4))).trans hx111_3
      replace hx111_4 := (cell_far (p := ⟨gb110, 4, none⟩) u3_6 (.int .i64 ((rd_T53 l0_0 x3_1).f4))).trans hx111_4
      (try have hch_ := fun (n_ : Nat) => (show (((((((w9.drewN n_).setCell ⟨gb110, 0, none⟩ (.int .u64 ((rd_T53 l0_0 x3_1).f0))).setCell ⟨gb110, 1, none⟩ (.int .u64 ((rd_T53 l0_0 x3_1).f1))).setCell ⟨gb110, 2, none⟩ (.int .u64 ((rd_T53 l0_0 x3_1).f2))).setCell ⟨gb110, 3, none⟩ (.int .u64 ((rd_T53 l0_0 x3_1).f3))).setCell ⟨gb110, 4, none⟩ (.int .i64 ((rd_T53 l0_0 x3_1).f4)))) = World.drewN ((((((w9.setCell ⟨gb110, 0, none⟩ (.int .u64 ((rd_T53 l0_0 x3_1).f0))).setCell ⟨gb110, 1, none⟩ (.int .u64 ((rd_T53 l0_0 x3_1).f1))).setCell ⟨gb110, 2, none⟩ (.int .u64 ((rd_T53 l0_0 x3_1).f2))).setCell ⟨gb110, 3, none⟩ (.int .u64 ((rd_T53 l0_0 x3_1).f3))).setCell ⟨gb110, 4, none⟩ (.int .i64 ((rd_T53 l0_0 x3_1).f4)))) n_ from by simp only [Go.Proofs.Ytdbfjakhkclggaa.Slc.setCell_drewN])); (try have hy111_0 := fun (n_ : Nat) => Go.Proofs.Ytdbfjakhkclggaa.Slc.cell_of (hch_ n_) hx111_0)
      (try have hy111_1 := fun (n_ : Nat) => Go.Proofs.Ytdbfjakhkclggaa.Slc.cell_of (hch_ n_) hx111_1)
      (try have hy111_2 := fun (n_ : Nat) => Go.Proofs.Ytdbfjakhkclggaa.Slc.cell_of (hch_ n_) hx111_2)
      (try have hy111_3 := fun (n_ : Nat) => Go.Proofs.Ytdbfjakhkclggaa.Slc.cell_of (hch_ n_) hx111_3)
      (try have hy111_4 := fun (n_ : Nat) => Go.Proofs.Ytdbfjakhkclggaa.Slc.cell_of (hch_ n_) hx111_4)
      clear hn111_0
      clear hn111_1
      clear hn111_2
      clear hn111_3
      clear hn111_4
      replace p111 := eq_true p111
      replace q111 := eq_true q111
      have hcz28_0 : w9.cell? ⟨gb110, 0, none⟩ = some (.int .u64 0) := (blk_cell BK110.out 0).trans rfl
      have hcz28_1 : w9.cell? ⟨gb110, 1, none⟩ = some (.int .u64 0) := (blk_cell BK110.out 1).trans rfl
      have hcz28_2 : w9.cell? ⟨gb110, 2, none⟩ = some (.int .u64 0) := (blk_cell BK110.out 2).trans rfl
      have hcz28_3 : w9.cell? ⟨gb110, 3, none⟩ = some (.int .u64 0) := (blk_cell BK110.out 3).trans rfl
      have hcz28_4 : w9.cell? ⟨gb110, 4, none⟩ = some (.int .i64 0) := (blk_cell BK110.out 4).trans rfl
      have hfz28_0 := blk_frozen BK110.out 0
      have hfz28_1 := blk_frozen BK110.out 1
      have hfz28_2 := blk_frozen BK110.out 2
      have hfz28_3 := blk_frozen BK110.out 3
      have hfz28_4 := blk_frozen BK110.out 4
      go_wp2
      repeat (go_quiet (fail); try go_wp2)
      go_meet
      case rel => exact ⟨_, ((((rd_T53 l0_0 x3_1).f3) != 0)), u3_13, H', ⟨u3_14⟩, ⟨u3_1⟩, ⟨u3_0⟩, ⟨u3_7⟩⟩
    clear HC7
    try clear c1
    try clear p1
    try clear q1
    try clear hx1
    try clear c2
    try clear p2
    try clear c3
    try clear c4
    try clear c4b0
    try clear c4b1
    try clear c5
    try clear c5b0
    try clear c6
    try clear c6b0
    try clear p6
    try clear c10
    try clear p10
    try clear q10
    try clear hx10
    try clear p11
    try clear q11
    try clear hx11
    try clear c12
    try clear c12b0
    try clear c14
    try clear c14b0
    try clear c15
    try clear c15b0
    try clear c16
    try clear c16b0
    try clear c17
    try clear c18
    try clear c20
    try clear c20b0
    try clear c21
    try clear c24
    try clear c24b0
    try clear c24b1
    try clear c25
    try clear c25b0
    try clear c25b1
    try clear c26
    try clear c29
    try clear c32
    try clear c35
    try clear c35b0
    try clear c36
    try clear c38
    try clear c38b0
    try clear c38b1
    try clear c39
    try clear c39b0
    try clear c39b1
    try clear c40
    try clear c42
    try clear c44
    try clear hcz11_0
    try clear hcz11_1
    try clear hcz11_2
    try clear hcz11_3
    try clear hcz11_4
    try clear hcz18_0
    try clear hcz19_0
    try clear hcz19_1
    try clear hcz19_2
    try clear hcz19_3
    try clear hcz19_4
    try clear hcz22_0
    try clear hcz23_0
    try clear hcz23_1
    try clear hcz23_2
    try clear hcz23_3
    try clear hcz23_4
    try clear hcz27_0
    try clear hcz28_0
    try clear hcz28_1
    try clear hcz28_2
    try clear hcz28_3
    try clear hcz28_4
    try clear hcz30_0
    try clear hcz31_0
    try clear hcz31_1
    try clear hcz31_2
    try clear hcz31_3
    try clear hcz31_4
    try clear hcz33_0
    try clear hcz34_0
    try clear hcz34_1
    try clear hcz34_2
    try clear hcz34_3
    try clear hcz34_4
    try clear hcz37_0
    try clear hcz37_1
    try clear hcz37_2
    try clear hcz37_3
    try clear hcz37_4
    try clear hcz3_0
    try clear hcz41_0
    try clear hcz41_1
    try clear hcz41_2
    try clear hcz41_3
    try clear hcz41_4
    try clear hcz43_0
    try clear hcz43_1
    try clear hcz43_2
    try clear hcz43_3
    try clear hcz43_4
    try clear hcz45_0
    try clear hcz45_1
    try clear hcz45_2
    try clear hcz45_3
    try clear hcz45_4
    try clear hcz8_0
    try clear hfz11_0
    try clear hfz11_1
    try clear hfz11_2
    try clear hfz11_3
    try clear hfz11_4
    try clear hfz18_0
    try clear hfz19_0
    try clear hfz19_1
    try clear hfz19_2
    try clear hfz19_3
    try clear hfz19_4
    try clear hfz22_0
    try clear hfz23_0
    try clear hfz23_1
    try clear hfz23_2
    try clear hfz23_3
    try clear hfz23_4
    try clear hfz27_0
    try clear hfz28_0
    try clear hfz28_1
    try clear hfz28_2
    try clear hfz28_3
    try clear hfz28_4
    try clear hfz30_0
    try clear hfz31_0
    try clear hfz31_1
    try clear hfz31_2
    try clear hfz31_3
    try clear hfz31_4
    try clear hfz33_0
    try clear hfz34_0
    try clear hfz34_1
    try clear hfz34_2
    try clear hfz34_3
    try clear hfz34_4
    try clear hfz37_0
    try clear hfz37_1
    try clear hfz37_2
    try clear hfz37_3
    try clear hfz37_4
    try clear hfz3_0
    try clear hfz41_0
    try clear hfz41_1
    try clear hfz41_2
    try clear hfz41_3
    try clear hfz41_4
    try clear hfz43_0
    try clear hfz43_1
    try clear hfz43_2
    try clear hfz43_3
    try clear hfz43_4
    try clear hfz45_0
    try clear hfz45_1
    try clear hfz45_2
    try clear hfz45_3
    try clear hfz45_4
    try clear hfz8_0
    try clear hx109_0
    try clear hx109_1
    try clear hx109_2
    try clear hx109_3
    try clear hx109_4
    try clear hx111_0
    try clear hx111_1
    try clear hx111_2
    try clear hx111_3
    try clear hx111_4
    try clear p109
    try clear p111
    try clear p2
    try clear q109
    try clear q111
    obtain ⟨kq, x54_6, rfl, HA, HJ6, BK108, BK110, HB⟩ := hcut
    cases kq with
    | zero => exact absurd HA.out (by simp [spec_BookOk.j1])
    | succ kj6 =>
      have H := HA.out
      clear HA
      simp only [spec_BookOk.j1] at H
      by_cases c46 : x54_6 = true
      · subst c46
        rw [if_pos rfl] at H
        obtain rfl := Option.some.inj H
        go_wp2
        repeat (go_quiet (fail); try go_wp2)
        go_ret
        exact ⟨by first | rfl | (simp [errW_none, errW_some] <;> rfl) | (simp [*, errW_none, errW_some] <;> rfl), u3_7⟩
      replace c46 := Bool.eq_false_iff.mpr c46
      subst c46
      rw [if_neg (show ¬ (false = true) by decide)] at H
      by_cases c47 : ((rd_T53 l0_0 x3_1).f2) > (IntKind.u64.wrap (18446744073709551615 - ((rd_T53 l0_0 x3_1).f1)))
      · rw [if_pos c47] at H
        have c47b0 : decide ((IntKind.u64.wrap (18446744073709551615 - ((rd_T53 l0_0 x3_1).f1))) < ((rd_T53 l0_0 x3_1).f2)) = true := decide_eq_true c47
        clear c47
        obtain rfl := Option.some.inj H
        have hnb48 := NB110_108.out
        have hnc48 := NB108_110.out
        have hcz49_0 : wc.cell? ⟨gb110, 0, none⟩ = some (.int .u64 ((rd_T53 l0_0 x3_1).f0)) := (blk_cell BK110.out 0).trans rfl
        have hcz49_1 : wc.cell? ⟨gb110, 1, none⟩ = some (.int .u64 ((rd_T53 l0_0 x3_1).f1)) := (blk_cell BK110.out 1).trans rfl
        have hcz49_2 : wc.cell? ⟨gb110, 2, none⟩ = some (.int .u64 ((rd_T53 l0_0 x3_1).f2)) := (blk_cell BK110.out 2).trans rfl
        have hcz49_3 : wc.cell? ⟨gb110, 3, none⟩ = some (.int .u64 ((rd_T53 l0_0 x3_1).f3)) := (blk_cell BK110.out 3).trans rfl
        have hcz49_4 : wc.cell? ⟨gb110, 4, none⟩ = some (.int .i64 ((rd_T53 l0_0 x3_1).f4)) := (blk_cell BK110.out 4).trans rfl
        have hfz49_0 := blk_frozen BK110.out 0
        have hfz49_1 := blk_frozen BK110.out 1
        have hfz49_2 := blk_frozen BK110.out 2
        have hfz49_3 := blk_frozen BK110.out 3
        have hfz49_4 := blk_frozen BK110.out 4
        go_wp2
        repeat (go_quiet (fail); try go_wp2)
        go_ret
        exact ⟨by first | rfl | (simp [errW_none, errW_some] <;> rfl) | (simp [*, errW_none, errW_some] <;> rfl), u3_7⟩
      rw [if_neg c47] at H
      have c47b0 : decide ((IntKind.u64.wrap (18446744073709551615 - ((rd_T53 l0_0 x3_1).f1))) < ((rd_T53 l0_0 x3_1).f2)) = false := decide_eq_false c47
      clear c47
      by_cases c50 : ((rd_T53 l0_0 x3_1).f3) > (IntKind.u64.wrap ((IntKind.u64.wrap (18446744073709551615 - ((rd_T53 l0_0 x3_1).f1))) - ((rd_T53 l0_0 x3_1).f2)))
      · rw [if_pos c50] at H
        have c50b0 : decide ((IntKind.u64.wrap ((IntKind.u64.wrap (18446744073709551615 - ((rd_T53 l0_0 x3_1).f1))) - ((rd_T53 l0_0 x3_1).f2))) < ((rd_T53 l0_0 x3_1).f3)) = true := decide_eq_true c50
        clear c50
        obtain rfl := Option.some.inj H
        have hnb51 := NB110_108.out
        have hnc51 := NB108_110.out
        have hcz52_0 : wc.cell? ⟨gb110, 0, none⟩ = some (.int .u64 ((rd_T53 l0_0 x3_1).f0)) := (blk_cell BK110.out 0).trans rfl
        have hcz52_1 : wc.cell? ⟨gb110, 1, none⟩ = some (.int .u64 ((rd_T53 l0_0 x3_1).f1)) := (blk_cell BK110.out 1).trans rfl
        have hcz52_2 : wc.cell? ⟨gb110, 2, none⟩ = some (.int .u64 ((rd_T53 l0_0 x3_1).f2)) := (blk_cell BK110.out 2).trans rfl
        have hcz52_3 : wc.cell? ⟨gb110, 3, none⟩ = some (.int .u64 ((rd_T53 l0_0 x3_1).f3)) := (blk_cell BK110.out 3).trans rfl
        have hcz52_4 : wc.cell? ⟨gb110, 4, none⟩ = some (.int .i64 ((rd_T53 l0_0 x3_1).f4)) := (blk_cell BK110.out 4).trans rfl
        have hfz52_0 := blk_frozen BK110.out 0
        have hfz52_1 := blk_frozen BK110.out 1
        have hfz52_2 := blk_frozen BK110.out 2
        have hfz52_3 := blk_frozen BK110.out 3
        have hfz52_4 := blk_frozen BK110.out 4
        go_wp2
        repeat (go_quiet (fail); try go_wp2)
        go_ret
        exact ⟨by first | rfl | (simp [errW_none, errW_some] <;> rfl) | (simp [*, errW_none, errW_some] <;> rfl), u3_7⟩
      rw [if_neg c50] at H
      have c50b0 : decide ((IntKind.u64.wrap ((IntKind.u64.wrap (18446744073709551615 - ((rd_T53 l0_0 x3_1).f1))) - ((rd_T53 l0_0 x3_1).f2))) < ((rd_T53 l0_0 x3_1).f3)) = false := decide_eq_false c50
      clear c50
      have H' := Aside0.mk H
      clear H
      have hnb53 := NB110_108.out
      have hnc53 := NB108_110.out
      have hcz54_0 : wc.cell? ⟨gb110, 0, none⟩ = some (.int .u64 ((rd_T53 l0_0 x3_1).f0)) := (blk_cell BK110.out 0).trans rfl
      have hcz54_1 : wc.cell? ⟨gb110, 1, none⟩ = some (.int .u64 ((rd_T53 l0_0 x3_1).f1)) := (blk_cell BK110.out 1).trans rfl
      have hcz54_2 : wc.cell? ⟨gb110, 2, none⟩ = some (.int .u64 ((rd_T53 l0_0 x3_1).f2)) := (blk_cell BK110.out 2).trans rfl
      have hcz54_3 : wc.cell? ⟨gb110, 3, none⟩ = some (.int .u64 ((rd_T53 l0_0 x3_1).f3)) := (blk_cell BK110.out 3).trans rfl
      have hcz54_4 : wc.cell? ⟨gb110, 4, none⟩ = some (.int .i64 ((rd_T53 l0_0 x3_1).f4)) := (blk_cell BK110.out 4).trans rfl
      have hfz54_0 := blk_frozen BK110.out 0
      have hfz54_1 := blk_frozen BK110.out 1
      have hfz54_2 := blk_frozen BK110.out 2
      have hfz54_3 := blk_frozen BK110.out 3
      have hfz54_4 := blk_frozen BK110.out 4
      go_wp2
      repeat (go_quiet (fail); try go_wp2)
      go_roundg kj6
      case measure => have := HK1.out; have := HJ6.out; omega
      case rel => exact ⟨(wrap64 (x3_1 + 1)), u3_13, H', ⟨(by have := HK1.out; have := HJ6.out; omega)⟩, ⟨u3_10⟩, ⟨u3_7⟩⟩

end Go.Proofs.Ytdbfjakhkclggaa.QFnHolds
