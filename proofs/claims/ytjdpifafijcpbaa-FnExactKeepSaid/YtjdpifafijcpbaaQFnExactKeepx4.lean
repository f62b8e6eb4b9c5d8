-- Printed by the session's own program wip/prx.py.
import Derived.Test.YtjdpifafijcpbaaQFnExactKeepx0
import Derived.Test.YtjdpifafijcpbaaQFnExactKeepx2
import Derived.Test.YtjdpifafijcpbaaQFnExactKeepx3
namespace Go.Proofs.Ytjdpifafijcpbaa.QFnExactKeep
open Go.RowKit Go.Proofs.YtjdpifafijcpbaaW.PrintWords Go.Proofs.YtjdpifafijcpbaaW.PrintLast Go.Proofs.YtjdpifafijcpbaaW.PrintMore
attribute [local go_sem] max2_int min2_int max_two min_two max_three min_three max_four min_four Go.Proofs.Ytjdpifafijcpbaa.Set.isSome_setCell   -- for this text's walks alone
set_option linter.unusedVariables false
set_option linter.unusedSimpArgs false

-- squeezed
theorem u4_0 {P : Prop} (h : P := by repeat (first | (with_reducible first | exact HB.out | apply below_alloc | apply pw_below_drewN | apply below_drew1 | refine below_set ?_ GE164.out) | exact HB.out)) : P := h
theorem u4_1 {P : Prop} (h : P := by (with_reducible repeat (first | refine blk_drewN ?_ _ | refine blk_drew ?_ | refine blk_alloc ?_ _)); exact BK164.out) : P := h
theorem u4_2 {P : Prop} (h : P := by repeat (first | (with_reducible first | exact HB.out | apply below_alloc | apply pw_below_drewN | apply below_drew1) | exact HB.out)) : P := h
theorem u4_3 {P : Prop} (h : P := by repeat (first | exact (Kd.C_below HR0_2.out HB.out) | (with_reducible refine Kd.C_alloc ?_ _) | (with_reducible refine Kd.C_drewN ?_ _) | (with_reducible refine Kd.C_drew ?_))) : P := h
theorem u4_4 {P : Prop} (h : P := by repeat (first | (with_reducible first | exact HB.out | apply below_alloc | apply pw_below_drewN | apply below_drew1 | refine below_set ?_ GE173.out | refine below_set ?_ GE174.out | refine below_set ?_ GE175.out) | exact HB.out)) : P := h
theorem u4_5 {P : Prop} (h : P := by (with_reducible repeat (first | refine blk_drewN ?_ _ | refine blk_drew ?_ | refine blk_alloc ?_ _)); exact BK173.out) : P := h
theorem u4_6 {P : Prop} (h : P := by repeat (first | (with_reducible first | exact HB.out | apply below_alloc | apply pw_below_drewN | apply below_drew1 | refine below_set ?_ GE160.out | refine below_set ?_ GE161.out) | exact HB.out)) : P := h
theorem u4_7 {P : Prop} (h : P := by repeat (first | (with_reducible first | exact HB.out | apply below_alloc | apply pw_below_drewN | apply below_drew1 | refine below_set ?_ GE164.out | refine below_set ?_ GE172.out) | exact HB.out)) : P := h
theorem u4_8 {P : Prop} (h : P := by (with_reducible repeat (first | refine blk_drewN ?_ _ | refine blk_drew ?_ | refine blk_alloc ?_ _)); exact BK160.out) : P := h
theorem u4_9 {P : Prop} (h : P := by repeat (first | (with_reducible first | exact HB.out | apply below_alloc | apply pw_below_drewN | apply below_drew1 | refine below_set ?_ GE173.out | refine below_set ?_ GE174.out) | exact HB.out)) : P := h
theorem u4_10 {P : Prop} (h : P := by (with_reducible repeat (first | refine blk_drewN ?_ _ | refine blk_drew ?_ | refine blk_alloc ?_ _)); exact BK174.out) : P := h
theorem u4_11 {P : Prop} (h : P := by repeat (first | (with_reducible first | exact HB.out | apply below_alloc | apply pw_below_drewN | apply below_drew1 | refine below_set ?_ GE160.out) | exact HB.out)) : P := h
theorem u4_12 {P : Prop} (h : P := by repeat (first | (with_reducible first | exact HB.out | apply below_alloc | apply pw_below_drewN | apply below_drew1 | refine below_set ?_ GE173.out) | exact HB.out)) : P := h
theorem u4_13 {P : Prop} (h : P := by first | rfl | (simp; done) | (simp [*]; done)) : P := h
theorem u4_14 {P : Prop} (h : P := by first | (with_reducible assumption) | assumption) : P := h
theorem u4_15 {P : Prop} (h : P := by (with_reducible repeat (first | refine blk_drewN ?_ _ | refine blk_drew ?_ | refine blk_alloc ?_ _)); exact BK161.out) : P := h
/-! ### spec_l09Find: function 25 -/
def spec_l09Find.l0 : Nat → Int → Int → Int → Int → List (S45) → Option (Int × Int × Int × ByteArray)
  | 0, _, _, _, _, _ => none
  | k + 1, x1, x5, x161000, x161001, x161002 => if x5 < (x161002.length : Int) then (if 0 ≤ x5 then (if ((rd_T45 x161002 x5).f0) = x1 then (some ((rd_T45 x161002 x5).f0, (rd_T45 x161002 x5).f1, (rd_T45 x161002 x5).f2, (rd_T45 x161002 x5).f3)) else (spec_l09Find.l0 k x1 (wrap64 (x5 + 1)) x161000 x161001 x161002)) else (none)) else (some (0, 0, 0, (⟨#[]⟩ : ByteArray)))
def spec_l09Find.f (k : Nat) (a0_0 : Int) (a0_1 : Int) (l0_2 : List (S45)) (a1 : Int) : Option (Int × Int × Int × ByteArray) := spec_l09Find.l0 k a1 0 a0_0 a0_1 l0_2
theorem spec_l09Find.mono_l : ∀ k, (∀ y0 y1 y2 y3 y4, LeO (spec_l09Find.l0 k y0 y1 y2 y3 y4) (spec_l09Find.l0 (k + 1) y0 y1 y2 y3 y4))
  | 0 => fun _ _ _ _ _ r h => by simp [spec_l09Find.l0] at h
  | k + 1 => by
    have ih0 := spec_l09Find.mono_l k
    · intro y0 y1 y2 y3 y4
      unfold spec_l09Find.l0
      repeat' first
      | (with_reducible exact ih0 _ _ _ _ _)
      | (with_reducible exact LeO.refl _)
      | (with_reducible exact LeO.none _)
      | (with_reducible refine LeO.ite ?_ ?_)
      | (with_reducible refine LeO.bind ?_ (fun _ => ?_))
      | exact ih0 _ _ _ _ _
      | exact LeO.none _
      | refine LeO.ite ?_ ?_
      | refine LeO.bind ?_ (fun _ => ?_)
theorem spec_l09Find.mono : ∀ a0 a1 a2 a3 k, LeO (spec_l09Find.f k a0 a1 a2 a3) (spec_l09Find.f (k + 1) a0 a1 a2 a3) := by
  intro a0 a1 a2 a3 k
  have ih0 := spec_l09Find.mono_l k
  unfold spec_l09Find.f
  repeat' first
      | (with_reducible exact ih0 _ _ _ _ _)
      | (with_reducible exact LeO.refl _)
      | (with_reducible exact LeO.none _)
      | (with_reducible refine LeO.ite ?_ ?_)
      | (with_reducible refine LeO.bind ?_ (fun _ => ?_))
      | exact ih0 _ _ _ _ _
      | exact LeO.none _
      | refine LeO.ite ?_ ?_
      | refine LeO.bind ?_ (fun _ => ?_)
set_option maxHeartbeats 8000000 in
set_option maxRecDepth 100000 in
theorem spec_l09Find.calls (k : Nat) (a0_0 : Int) (a0_1 : Int) (A0_2 : Option Addr) (c0_2 : Nat) (l0_2 : List (S45)) (a1 : Int) (r1 : Int) (r2 : Int) (r3 : Int) (r4 : ByteArray) (w : World) (hr0_2 : Kd.C k45 w A0_2 l0_2.length l0_2) (hc0_2 : l0_2.length ≤ c0_2) (h : spec_l09Find.f k a0_0 a0_1 l0_2 a1 = some (r1, r2, r3, r4)) :
    Calls Try.prog 25 #[.agg #[.int .i64 a0_0, .int .i64 a0_1, .slice A0_2 l0_2.length c0_2], .int .i64 a1] w fun e w' => e = .returned (.agg #[.int .i64 r1, .int .i64 r2, .int .i64 r3, .string r4]) ∧ Below w.heap.size w w' := by
  have hu29 := Try.underlying29
  have hu45 := Try.underlying45
  have HR0_2 := Aside0.mk hr0_2
  have HC0_2 := Aside0.mk hc0_2
  clear hr0_2 hc0_2
  have HB := Aside0.mk (Below.refl w.heap.size w)
  have H : (spec_l09Find.l0 k a1 0 a0_0 a0_1 l0_2) = some (r1, r2, r3, r4) := h
  clear h
  have H' := Aside0.mk H
  clear H
  go_enter Try.func25, Try.ntmps25
  go_wp2_with (first | ((with_reducible refine gate_dst (N := 2) rfl ?_); refine box_event ?hg (N := 2) ?hd (cs := #[.int .i64 a0_0, .int .i64 a0_1, .slice A0_2 l0_2.length c0_2]) (t := 29) ?hr ?_; (case hd => rfl); (case hg => rfl); (case hr => first | (go_simp; done) | (go_simp; rfl)); intro gb160 hg w3 hbox hb; have n0_ := Aside0.mk (below_step u4_2 hb); have n1_ := Aside0.mk (hbox); have n2_ := Aside0.mk ((by rw [hg]; exact (below_size u4_2) : w.heap.size ≤ gb160)); have n3_ := Aside0.mk ((by rw [hg]; exact (below_size u4_2) : w.heap.size ≤ gb160)); clear HB; have HB := n0_; have BK160 := n1_; have GW160 := n2_; have GE160 := n3_; clear n0_ n1_ n2_ n3_; clear hb hbox hg) | ((with_reducible refine gate_dst (N := 4) rfl ?_); refine box_event ?hg (N := 4) ?hd (cs := #[.int .i64 0, .int .i64 0, .int .i64 0, .string (⟨#[]⟩ : ByteArray)]) (t := 45) ?hr ?_; (case hd => rfl); (case hg => rfl); (case hr => first | (go_simp; done) | (go_simp; rfl)); intro gb161 hg w4 hbox hb; have n0_ := Aside0.mk (blk_below (g := gb160) (o := .cells #[.int .i64 a0_0, .int .i64 a0_1, .slice A0_2 l0_2.length c0_2] 29 (0, 0)) u4_8 hb); have n1_ := Aside0.mk (below_step u4_11 hb); have n2_ := Aside0.mk (hbox); have n3_ := Aside0.mk ((by rw [hg]; exact (below_size u4_11) : w.heap.size ≤ gb161)); have n4_ := Aside0.mk ((by rw [hg]; exact (below_size u4_11) : w.heap.size ≤ gb161)); have n5_ := Aside0.mk ((by rw [hg]; exact Nat.ne_of_lt (blk_lt (g := gb160) (o := .cells #[.int .i64 a0_0, .int .i64 a0_1, .slice A0_2 l0_2.length c0_2] 29 (0, 0)) u4_8) : gb160 ≠ gb161)); have n6_ := Aside0.mk ((by rw [hg]; exact Nat.ne_of_gt (blk_lt (g := gb160) (o := .cells #[.int .i64 a0_0, .int .i64 a0_1, .slice A0_2 l0_2.length c0_2] 29 (0, 0)) u4_8) : gb161 ≠ gb160)); clear BK160; clear HB; have BK160 := n0_; have HB := n1_; have BK161 := n2_; have GW161 := n3_; have GE161 := n4_; have NB160_161 := n5_; have NB161_160 := n6_; clear n0_ n1_ n2_ n3_ n4_ n5_ n6_; clear hb hbox hg))
  go_loopg [5] k (fun kq v5 w' => ∃ (x5_1 : Int) (x162000_1 : Int) (x162001_1 : Int) (x162002_1 : Int) (x162003_1 : ByteArray), v5 = .int .i64 x5_1 ∧ Aside0 (spec_l09Find.l0 kq a1 x5_1 a0_0 a0_1 l0_2 = some (r1, r2, r3, r4)) ∧ Aside0 (kq ≤ k) ∧ Aside0 (w'.heap[gb160]? = some (.cells #[.int .i64 a0_0, .int .i64 a0_1, (.slice A0_2 l0_2.length c0_2)] 29 (0, 0))) ∧ Aside0 (w'.heap[gb161]? = some (.cells #[.int .i64 x162000_1, .int .i64 x162001_1, .int .i64 x162002_1, .string x162003_1] 45 (0, 0))) ∧ Aside0 (Below w.heap.size w w'))
  case atStart => exact ⟨(0), (0), (0), (0), ((⟨#[]⟩ : ByteArray)), u4_13, H', ⟨Nat.le_refl _⟩, ⟨u4_8⟩, ⟨u4_15⟩, ⟨u4_6⟩⟩
  clear H'
  try clear c2
  try clear p2
  obtain ⟨x5_1, x162000_1, x162001_1, x162002_1, x162003_1, rfl, HA, HK1, BK160, BK161, HB⟩ := hrel
  cases gk with
  | zero => exact absurd HA.out (by simp [spec_l09Find.l0])
  | succ k1 =>
    have H := HA.out
    clear HA
    simp only [spec_l09Find.l0] at H
    by_cases c5 : x5_1 < (l0_2.length : Int)
    rotate_left
    · rw [if_neg c5] at H
      have c5b0 : decide (x5_1 < (l0_2.length : Int)) = false := decide_eq_false c5
      clear c5
      simp only [Option.some.injEq, Prod.mk.injEq] at H
      obtain ⟨rfl, rfl, rfl, rfl⟩ := H
      have hnb13 := NB160_161.out
      have hnc13 := NB161_160.out
      have hcz14_0 : wr.cell? ⟨gb160, 0, none⟩ = some (.int .i64 a0_0) := (blk_cell BK160.out 0).trans rfl
      have hcz14_1 : wr.cell? ⟨gb160, 1, none⟩ = some (.int .i64 a0_1) := (blk_cell BK160.out 1).trans rfl
      have hcz14_2 : wr.cell? ⟨gb160, 2, none⟩ = some (.slice A0_2 l0_2.length c0_2) := (blk_cell BK160.out 2).trans rfl
      have hfz14_0 := blk_frozen BK160.out 0
      have hfz14_1 := blk_frozen BK160.out 1
      have hfz14_2 := blk_frozen BK160.out 2
      have hcz15_0 : wr.cell? ⟨gb161, 0, none⟩ = some (.int .i64 x162000_1) := (blk_cell BK161.out 0).trans rfl
      have hcz15_1 : wr.cell? ⟨gb161, 1, none⟩ = some (.int .i64 x162001_1) := (blk_cell BK161.out 1).trans rfl
      have hcz15_2 : wr.cell? ⟨gb161, 2, none⟩ = some (.int .i64 x162002_1) := (blk_cell BK161.out 2).trans rfl
      have hcz15_3 : wr.cell? ⟨gb161, 3, none⟩ = some (.string x162003_1) := (blk_cell BK161.out 3).trans rfl
      have hfz15_0 := blk_frozen BK161.out 0
      have hfz15_1 := blk_frozen BK161.out 1
      have hfz15_2 := blk_frozen BK161.out 2
      have hfz15_3 := blk_frozen BK161.out 3
      go_wp2
      refine bodyPost_ret (results_cell_row rfl _ _ gb161 45 #[.int .i64 0, .int .i64 0, .int .i64 0, .string (⟨#[]⟩ : ByteArray)] (0, 0) _ rfl (by (with_reducible repeat (first | refine blk_drewN ?_ _ | refine blk_drew ?_ | refine blk_alloc ?_ _)); refine blk_put (cs := #[.int .i64 0, .int .i64 0, .int .i64 0, .string x162003_1]) ?_ 3 _ rfl; (with_reducible repeat (first | refine blk_drewN ?_ _ | refine blk_drew ?_ | refine blk_alloc ?_ _)); refine blk_put (cs := #[.int .i64 0, .int .i64 0, .int .i64 x162002_1, .string x162003_1]) ?_ 2 _ rfl; (with_reducible repeat (first | refine blk_drewN ?_ _ | refine blk_drew ?_ | refine blk_alloc ?_ _)); refine blk_put (cs := #[.int .i64 0, .int .i64 x162001_1, .int .i64 x162002_1, .string x162003_1]) ?_ 1 _ rfl; (with_reducible repeat (first | refine blk_drewN ?_ _ | refine blk_drew ?_ | refine blk_alloc ?_ _)); refine blk_put (cs := #[.int .i64 x162000_1, .int .i64 x162001_1, .int .i64 x162002_1, .string x162003_1]) ?_ 0 _ rfl; (with_reducible repeat (first | refine blk_drewN ?_ _ | refine blk_drew ?_ | refine blk_alloc ?_ _)); exact BK161.out) Try.underlying45 rfl (by kernel_rfl)) rfl ?_
      exact ⟨by first | rfl | (simp [errW_none, errW_some] <;> rfl) | (simp [*, errW_none, errW_some] <;> rfl), u4_6⟩
    rw [if_pos c5] at H
    have c5b0 : decide (x5_1 < (l0_2.length : Int)) = true := decide_eq_true c5
    clear c5
    by_cases c6 : 0 ≤ x5_1
    rotate_left
    · rw [if_neg c6] at H
      exact absurd H (by simp)
    rw [if_pos c6] at H
    have c6b0 : decide (0 ≤ x5_1) = true := decide_eq_true c6
    clear c6
    have H9 := Aside0.mk H
    clear H
    have hnb7 := NB160_161.out
    have hnc7 := NB161_160.out
    have hcz8_0 : wr.cell? ⟨gb160, 0, none⟩ = some (.int .i64 a0_0) := (blk_cell BK160.out 0).trans rfl
    have hcz8_1 : wr.cell? ⟨gb160, 1, none⟩ = some (.int .i64 a0_1) := (blk_cell BK160.out 1).trans rfl
    have hcz8_2 : wr.cell? ⟨gb160, 2, none⟩ = some (.slice A0_2 l0_2.length c0_2) := (blk_cell BK160.out 2).trans rfl
    have hfz8_0 := blk_frozen BK160.out 0
    have hfz8_1 := blk_frozen BK160.out 1
    have hfz8_2 := blk_frozen BK160.out 2
    have p162 : 0 ≤ (x5_1 : Int) := of_decide_eq_true u4_14
    have q162 : x5_1 < (l0_2.length : Int) := of_decide_eq_true u4_14
    obtain ⟨ad162, e162, hx162_0, hx162_1, hx162_2, hx162_3⟩ := at_T45 HR0_2.out x5_1 p162 q162
    cases e162
    replace hx162_0 := (HB.out.cell (World.block_lt_of_cell? w _ hx162_0)).trans hx162_0
    replace hx162_1 := (HB.out.cell (World.block_lt_of_cell? w _ hx162_1)).trans hx162_1
    replace hx162_2 := (HB.out.cell (World.block_lt_of_cell? w _ hx162_2)).trans hx162_2
    replace hx162_3 := (HB.out.cell (World.block_lt_of_cell? w _ hx162_3)).trans hx162_3
    replace p162 := eq_true p162
    replace q162 := eq_true q162
    go_upto_if 20 with (fail)
    have H := H9.out
    clear H9
    by_cases c9 : ((rd_T45 l0_2 x5_1).f0) = a1
    rotate_left
    · rw [if_neg c9] at H
      have c9b0 : (((rd_T45 l0_2 x5_1).f0) == a1) = false := beq_eq_false_iff_ne.mpr c9
      have c9b1 : (((rd_T45 l0_2 x5_1).f0) != a1) = true := bne_iff_ne.mpr c9
      (first | rw [c9b0] | (simp only [i64_w, i32_w]; rw [c9b0]) | skip)
      have H' := Aside0.mk H
      clear H
      go_wp2
      go_roundg k1
      case measure => have := HK1.out; omega
      case rel => exact ⟨(wrap64 (x5_1 + 1)), (x162000_1), (x162001_1), (x162002_1), (x162003_1), u4_13, H', ⟨by have := HK1.out; omega⟩, ⟨u4_8⟩, ⟨u4_15⟩, ⟨u4_6⟩⟩
    rw [if_pos c9] at H
    have c9b0 : (((rd_T45 l0_2 x5_1).f0) == a1) = true := beq_iff_eq.mpr c9
    have c9b1 : (((rd_T45 l0_2 x5_1).f0) != a1) = false := bne_eq_false_iff_eq.mpr c9
    clear c9
    (first | rw [c9b0] | (simp only [i64_w, i32_w]; rw [c9b0]) | skip)
    simp only [Option.some.injEq, Prod.mk.injEq] at H
    obtain ⟨rfl, rfl, rfl, rfl⟩ := H
    have hnb10 := NB160_161.out
    have hnc10 := NB161_160.out
    have hcz11_0 : wr.cell? ⟨gb160, 0, none⟩ = some (.int .i64 a0_0) := (blk_cell BK160.out 0).trans rfl
    have hcz11_1 : wr.cell? ⟨gb160, 1, none⟩ = some (.int .i64 a0_1) := (blk_cell BK160.out 1).trans rfl
    have hcz11_2 : wr.cell? ⟨gb160, 2, none⟩ = some (.slice (some ad162) l0_2.length c0_2) := (blk_cell BK160.out 2).trans rfl
    have hfz11_0 := blk_frozen BK160.out 0
    have hfz11_1 := blk_frozen BK160.out 1
    have hfz11_2 := blk_frozen BK160.out 2
    have p163 : 0 ≤ (x5_1 : Int) := of_decide_eq_true u4_14
    have q163 : x5_1 < (l0_2.length : Int) := of_decide_eq_true u4_14
    obtain ⟨ad163, e163, hx163_0, hx163_1, hx163_2, hx163_3⟩ := at_T45 HR0_2.out x5_1 p163 q163
    obtain rfl : ad162 = ad163 := (by injection e163)
    replace hx163_0 := (HB.out.cell (World.block_lt_of_cell? w _ hx163_0)).trans hx163_0
    replace hx163_1 := (HB.out.cell (World.block_lt_of_cell? w _ hx163_1)).trans hx163_1
    replace hx163_2 := (HB.out.cell (World.block_lt_of_cell? w _ hx163_2)).trans hx163_2
    replace hx163_3 := (HB.out.cell (World.block_lt_of_cell? w _ hx163_3)).trans hx163_3
    replace p163 := eq_true p163
    replace q163 := eq_true q163
    have hcz12_0 : wr.cell? ⟨gb161, 0, none⟩ = some (.int .i64 x162000_1) := (blk_cell BK161.out 0).trans rfl
    have hcz12_1 : wr.cell? ⟨gb161, 1, none⟩ = some (.int .i64 x162001_1) := (blk_cell BK161.out 1).trans rfl
    have hcz12_2 : wr.cell? ⟨gb161, 2, none⟩ = some (.int .i64 x162002_1) := (blk_cell BK161.out 2).trans rfl
    have hcz12_3 : wr.cell? ⟨gb161, 3, none⟩ = some (.string x162003_1) := (blk_cell BK161.out 3).trans rfl
    have hfz12_0 := blk_frozen BK161.out 0
    have hfz12_1 := blk_frozen BK161.out 1
    have hfz12_2 := blk_frozen BK161.out 2
    have hfz12_3 := blk_frozen BK161.out 3
    go_wp2
    refine bodyPost_ret (results_cell_row rfl _ _ gb161 45 #[.int .i64 ((rd_T45 l0_2 x5_1).f0), .int .i64 ((rd_T45 l0_2 x5_1).f1), .int .i64 ((rd_T45 l0_2 x5_1).f2), .string ((rd_T45 l0_2 x5_1).f3)] (0, 0) _ rfl (by (with_reducible repeat (first | refine blk_drewN ?_ _ | refine blk_drew ?_ | refine blk_alloc ?_ _)); refine blk_put (cs := #[.int .i64 ((rd_T45 l0_2 x5_1).f0), .int .i64 ((rd_T45 l0_2 x5_1).f1), .int .i64 ((rd_T45 l0_2 x5_1).f2), .string x162003_1]) ?_ 3 _ rfl; (with_reducible repeat (first | refine blk_drewN ?_ _ | refine blk_drew ?_ | refine blk_alloc ?_ _)); refine blk_put (cs := #[.int .i64 ((rd_T45 l0_2 x5_1).f0), .int .i64 ((rd_T45 l0_2 x5_1).f1), .int .i64 x162002_1, .string x162003_1]) ?_ 2 _ rfl; (with_reducible repeat (first | refine blk_drewN ?_ _ | refine blk_drew ?_ | refine blk_alloc ?_ _)); refine blk_put (cs := #[.int .i64 ((rd_T45 l0_2 x5_1).f0), .int .i64 x162001_1, .int .i64 x162002_1, .string x162003_1]) ?_ 1 _ rfl; (with_reducible repeat (first | refine blk_drewN ?_ _ | refine blk_drew ?_ | refine blk_alloc ?_ _)); refine blk_put (cs := #[.int .i64 x162000_1, .int .i64 x162001_1, .int .i64 x162002_1, .string x162003_1]) ?_ 0 _ rfl; (with_reducible repeat (first | refine blk_drewN ?_ _ | refine blk_drew ?_ | refine blk_alloc ?_ _)); exact BK161.out) Try.underlying45 rfl (by kernel_rfl)) rfl ?_
    exact ⟨by first | rfl | (simp [errW_none, errW_some] <;> rfl) | (simp [*, errW_none, errW_some] <;> rfl), u4_6⟩

/-! ### spec_Look: function 12 -/
def spec_Look.j0 : Nat → Int → Int → Bool → Int → Int → List (S45) → Option (Int × ByteArray)
  | 0, _, _, _, _, _, _ => none
  | k + 1, x1, x2, x21, x165000, x165001, x165002 => if x21 = true then (some (4, (⟨#[]⟩ : ByteArray))) else ((spec_l09Find.f k x165000 x165001 x165002 x1).bind fun bt168 => (if x2 = (wrap64 (bt168.2.1 + 1)) then (some (0, (⟨#[]⟩ : ByteArray))) else (if x2 = bt168.2.1 then (some (1, bt168.2.2.2)) else (if x2 < bt168.2.1 then (some (2, (⟨#[]⟩ : ByteArray))) else (some (3, (⟨#[]⟩ : ByteArray)))))))
def spec_Look.f (k : Nat) (a0_0 : Int) (a0_1 : Int) (l0_2 : List (S45)) (a1 : Int) (a2 : Int) : Option (Int × ByteArray) := (spec_SessionsOk.f k a0_0 a0_1 l0_2).bind fun t165 => (if t165 = true then ((spec_l01In.f a1 1 999).bind fun t166 => (if t166 = true then ((spec_l01In.f a2 1 1000000).bind fun t167 => (spec_Look.j0 k a1 a2 (!t167) a0_0 a0_1 l0_2)) else (spec_Look.j0 k a1 a2 true a0_0 a0_1 l0_2))) else (spec_Look.j0 k a1 a2 true a0_0 a0_1 l0_2))
theorem spec_Look.mono_l : ∀ k, (∀ y0 y1 y2 y3 y4 y5, LeO (spec_Look.j0 k y0 y1 y2 y3 y4 y5) (spec_Look.j0 (k + 1) y0 y1 y2 y3 y4 y5))
  | 0 => fun _ _ _ _ _ _ r h => by simp [spec_Look.j0] at h
  | k + 1 => by
    have ih0 := spec_Look.mono_l k
    · intro y0 y1 y2 y3 y4 y5
      unfold spec_Look.j0
      repeat' first
      | (with_reducible exact ih0 _ _ _ _ _ _)
      | (with_reducible exact spec_SessionsOk.mono _ _ _ _)
      | (with_reducible exact spec_l09Find.mono _ _ _ _ _)
      | (with_reducible exact LeO.refl _)
      | (with_reducible exact LeO.none _)
      | (with_reducible refine LeO.ite ?_ ?_)
      | (with_reducible refine LeO.bind ?_ (fun _ => ?_))
      | exact ih0 _ _ _ _ _ _
      | exact spec_SessionsOk.mono _ _ _ _
      | exact spec_l09Find.mono _ _ _ _ _
      | exact LeO.none _
      | refine LeO.ite ?_ ?_
      | refine LeO.bind ?_ (fun _ => ?_)
theorem spec_Look.mono : ∀ a0 a1 a2 a3 a4 k, LeO (spec_Look.f k a0 a1 a2 a3 a4) (spec_Look.f (k + 1) a0 a1 a2 a3 a4) := by
  intro a0 a1 a2 a3 a4 k
  have ih0 := spec_Look.mono_l k
  unfold spec_Look.f
  repeat' first
      | (with_reducible exact ih0 _ _ _ _ _ _)
      | (with_reducible exact spec_SessionsOk.mono _ _ _ _)
      | (with_reducible exact spec_l09Find.mono _ _ _ _ _)
      | (with_reducible exact LeO.refl _)
      | (with_reducible exact LeO.none _)
      | (with_reducible refine LeO.ite ?_ ?_)
      | (with_reducible refine LeO.bind ?_ (fun _ => ?_))
      | exact ih0 _ _ _ _ _ _
      | exact spec_SessionsOk.mono _ _ _ _
      | exact spec_l09Find.mono _ _ _ _ _
      | exact LeO.none _
      | refine LeO.ite ?_ ?_
      | refine LeO.bind ?_ (fun _ => ?_)
set_option maxHeartbeats 8000000 in
set_option maxRecDepth 100000 in
theorem spec_Look.calls (k : Nat) (a0_0 : Int) (a0_1 : Int) (A0_2 : Option Addr) (c0_2 : Nat) (l0_2 : List (S45)) (a1 : Int) (a2 : Int) (r1 : Int) (r2 : ByteArray) (w : World) (hr0_2 : Kd.C k45 w A0_2 l0_2.length l0_2) (hc0_2 : l0_2.length ≤ c0_2) (h : spec_Look.f k a0_0 a0_1 l0_2 a1 a2 = some (r1, r2)) :
    Calls Try.prog 12 #[.agg #[.int .i64 a0_0, .int .i64 a0_1, .slice A0_2 l0_2.length c0_2], .int .i64 a1, .int .i64 a2] w fun e w' => e = .returned (.tuple #[.int .i64 r1, .string r2]) ∧ Below w.heap.size w w' := by
  have hu29 := Try.underlying29
  have hu45 := Try.underlying45
  have HR0_2 := Aside0.mk hr0_2
  have HC0_2 := Aside0.mk hc0_2
  clear hr0_2 hc0_2
  have HB := Aside0.mk (Below.refl w.heap.size w)
  have H : ((spec_SessionsOk.f k a0_0 a0_1 l0_2).bind fun t165 => (if t165 = true then ((spec_l01In.f a1 1 999).bind fun t166 => (if t166 = true then ((spec_l01In.f a2 1 1000000).bind fun t167 => (spec_Look.j0 k a1 a2 (!t167) a0_0 a0_1 l0_2)) else (spec_Look.j0 k a1 a2 true a0_0 a0_1 l0_2))) else (spec_Look.j0 k a1 a2 true a0_0 a0_1 l0_2))) = some (r1, r2) := h
  clear h
  have HC4 := Aside0.mk H
  clear H
  go_enter Try.func12, Try.ntmps12
  go_upto_region 1 with (first | ((with_reducible refine gate_dst (N := 3) rfl ?_); refine box_event ?hg (N := 3) ?hd (cs := #[.int .i64 a0_0, .int .i64 a0_1, .slice A0_2 l0_2.length c0_2]) (t := 29) ?hr ?_; (case hd => rfl); (case hg => rfl); (case hr => first | (go_simp; done) | (go_simp; rfl)); intro gb164 hg w5 hbox hb; have n0_ := Aside0.mk (below_step u4_2 hb); have n1_ := Aside0.mk (hbox); have n2_ := Aside0.mk ((by rw [hg]; exact (below_size u4_2) : w.heap.size ≤ gb164)); have n3_ := Aside0.mk ((by rw [hg]; exact (below_size u4_2) : w.heap.size ≤ gb164)); clear HB; have HB := n0_; have BK164 := n1_; have GW164 := n2_; have GE164 := n3_; clear n0_ n1_ n2_ n3_; clear hb hbox hg))
  repeat (go_quiet (first | ((with_reducible refine gate_dst (N := 3) rfl ?_); refine box_event ?hg (N := 3) ?hd (cs := #[.int .i64 a0_0, .int .i64 a0_1, .slice A0_2 l0_2.length c0_2]) (t := 29) ?hr ?_; (case hd => rfl); (case hg => rfl); (case hr => first | (go_simp; done) | (go_simp; rfl)); intro gb164 hg w5 hbox hb; have n0_ := Aside0.mk (below_step u4_2 hb); have n1_ := Aside0.mk (hbox); have n2_ := Aside0.mk ((by rw [hg]; exact (below_size u4_2) : w.heap.size ≤ gb164)); have n3_ := Aside0.mk ((by rw [hg]; exact (below_size u4_2) : w.heap.size ≤ gb164)); clear HB; have HB := n0_; have BK164 := n1_; have GW164 := n2_; have GE164 := n3_; clear n0_ n1_ n2_ n3_; clear hb hbox hg)); go_upto_region 1 with (first | ((with_reducible refine gate_dst (N := 3) rfl ?_); refine box_event ?hg (N := 3) ?hd (cs := #[.int .i64 a0_0, .int .i64 a0_1, .slice A0_2 l0_2.length c0_2]) (t := 29) ?hr ?_; (case hd => rfl); (case hg => rfl); (case hr => first | (go_simp; done) | (go_simp; rfl)); intro gb164 hg w5 hbox hb; have n0_ := Aside0.mk (below_step u4_2 hb); have n1_ := Aside0.mk (hbox); have n2_ := Aside0.mk ((by rw [hg]; exact (below_size u4_2) : w.heap.size ≤ gb164)); have n3_ := Aside0.mk ((by rw [hg]; exact (below_size u4_2) : w.heap.size ≤ gb164)); clear HB; have HB := n0_; have BK164 := n1_; have GW164 := n2_; have GE164 := n3_; clear n0_ n1_ n2_ n3_; clear hb hbox hg)))
  (try simp only [Act.put, List.setIfInBounds_toArray, List.set_cons_zero, List.set_cons_succ])
  go_cut [21] (fun v21 wc => ∃ (kq : Nat) (x21_3 : Bool), v21 = .bool x21_3 ∧ Aside0 (spec_Look.j0 kq a1 a2 x21_3 a0_0 a0_1 l0_2 = some (r1, r2)) ∧ Aside0 (kq ≤ k) ∧ Aside0 (wc.heap[gb164]? = some (.cells #[.int .i64 a0_0, .int .i64 a0_1, (.slice A0_2 l0_2.length c0_2)] 29 (0, 0))) ∧ Aside0 (Below w.heap.size w wc))
  case first =>
    have H := HC4.out
    clear HC4
    replace H := Option.bind_eq_some_iff.mp H
    obtain ⟨t165, A60, H⟩ := H
    have A6 := Aside0.mk A60
    clear A60
    by_cases c7 : t165 = true
    rotate_left
    · replace c7 := Bool.eq_false_iff.mpr c7
      subst c7
      rw [if_neg (show ¬ (false = true) by decide)] at H
      have H' := Aside0.mk H
      clear H
      have hcz15_0 : w5.cell? ⟨gb164, 0, none⟩ = some (.int .i64 a0_0) := (blk_cell BK164.out 0).trans rfl
      have hcz15_1 : w5.cell? ⟨gb164, 1, none⟩ = some (.int .i64 a0_1) := (blk_cell BK164.out 1).trans rfl
      have hcz15_2 : w5.cell? ⟨gb164, 2, none⟩ = some (.slice A0_2 l0_2.length c0_2) := (blk_cell BK164.out 2).trans rfl
      have hfz15_0 := blk_frozen BK164.out 0
      have hfz15_1 := blk_frozen BK164.out 1
      have hfz15_2 := blk_frozen BK164.out 2
      go_wp2_with (first | (first | (go_at_call 8; (with_reducible refine (spec_SessionsOk.calls k a0_0 a0_1 _ _ l0_2 false _ ?side1 ?side2 A6.out).mono ?_); (case side1 => exact u4_3); (case side2 => exact HC0_2.out); rintro e w16 ⟨rfl, hb⟩; have n0_ := Aside0.mk (blk_below (g := gb164) (o := .cells #[.int .i64 a0_0, .int .i64 a0_1, .slice A0_2 l0_2.length c0_2] 29 (0, 0)) u4_1 hb); have n1_ := Aside0.mk (below_step u4_0 hb); clear BK164; clear HB; have BK164 := n0_; have HB := n1_; clear n0_ n1_; (try clear hb); (try clear hb2); (try clear hk); (try clear hi))) | go_quiet (first | (go_at_call 8; (with_reducible refine (spec_SessionsOk.calls k a0_0 a0_1 _ _ l0_2 false _ ?side1 ?side2 A6.out).mono ?_); (case side1 => exact u4_3); (case side2 => exact HC0_2.out); rintro e w16 ⟨rfl, hb⟩; have n0_ := Aside0.mk (blk_below (g := gb164) (o := .cells #[.int .i64 a0_0, .int .i64 a0_1, .slice A0_2 l0_2.length c0_2] 29 (0, 0)) u4_1 hb); have n1_ := Aside0.mk (below_step u4_0 hb); clear BK164; clear HB; have BK164 := n0_; have HB := n1_; clear n0_ n1_; (try clear hb); (try clear hb2); (try clear hk); (try clear hi))))
      go_meet
      case rel => exact ⟨_, (true), u4_13, H', ⟨by first | omega | exact Nat.le_refl _⟩, ⟨u4_1⟩, ⟨u4_0⟩⟩
    subst c7
    rw [if_pos rfl] at H
    replace H := Option.bind_eq_some_iff.mp H
    obtain ⟨t166, A80, H⟩ := H
    have A8 := Aside0.mk A80
    clear A80
    by_cases c9 : t166 = true
    rotate_left
    · replace c9 := Bool.eq_false_iff.mpr c9
      subst c9
      rw [if_neg (show ¬ (false = true) by decide)] at H
      have H' := Aside0.mk H
      clear H
      have hcz13_0 : w5.cell? ⟨gb164, 0, none⟩ = some (.int .i64 a0_0) := (blk_cell BK164.out 0).trans rfl
      have hcz13_1 : w5.cell? ⟨gb164, 1, none⟩ = some (.int .i64 a0_1) := (blk_cell BK164.out 1).trans rfl
      have hcz13_2 : w5.cell? ⟨gb164, 2, none⟩ = some (.slice A0_2 l0_2.length c0_2) := (blk_cell BK164.out 2).trans rfl
      have hfz13_0 := blk_frozen BK164.out 0
      have hfz13_1 := blk_frozen BK164.out 1
      have hfz13_2 := blk_frozen BK164.out 2
      go_wp2_with (first | (first | (go_at_call 8; (with_reducible refine (spec_SessionsOk.calls k a0_0 a0_1 _ _ l0_2 true _ ?side1 ?side2 A6.out).mono ?_); (case side1 => exact u4_3); (case side2 => exact HC0_2.out); rintro e w14 ⟨rfl, hb⟩; have n0_ := Aside0.mk (blk_below (g := gb164) (o := .cells #[.int .i64 a0_0, .int .i64 a0_1, .slice A0_2 l0_2.length c0_2] 29 (0, 0)) u4_1 hb); have n1_ := Aside0.mk (below_step u4_0 hb); clear BK164; clear HB; have BK164 := n0_; have HB := n1_; clear n0_ n1_; (try clear hb); (try clear hb2); (try clear hk); (try clear hi)) | (go_at_call 21; (with_reducible refine (spec_l01In.calls a1 1 999 false _ A8.out).mono ?_); rintro e w' ⟨rfl, ⟨nd, rfl⟩⟩; (try first | exact ⟨rfl, _, World.drewN_drewN _ _ _⟩ | exact ⟨rfl, _, Eq.trans (World.drewN_drewN _ _ _) (congrArg (World.drewN _) (Nat.add_assoc _ _ _))⟩))) | go_quiet (first | (go_at_call 8; (with_reducible refine (spec_SessionsOk.calls k a0_0 a0_1 _ _ l0_2 true _ ?side1 ?side2 A6.out).mono ?_); (case side1 => exact u4_3); (case side2 => exact HC0_2.out); rintro e w14 ⟨rfl, hb⟩; have n0_ := Aside0.mk (blk_below (g := gb164) (o := .cells #[.int .i64 a0_0, .int .i64 a0_1, .slice A0_2 l0_2.length c0_2] 29 (0, 0)) u4_1 hb); have n1_ := Aside0.mk (below_step u4_0 hb); clear BK164; clear HB; have BK164 := n0_; have HB := n1_; clear n0_ n1_; (try clear hb); (try clear hb2); (try clear hk); (try clear hi)) | (go_at_call 21; (with_reducible refine (spec_l01In.calls a1 1 999 false _ A8.out).mono ?_); rintro e w' ⟨rfl, ⟨nd, rfl⟩⟩; (try first | exact ⟨rfl, _, World.drewN_drewN _ _ _⟩ | exact ⟨rfl, _, Eq.trans (World.drewN_drewN _ _ _) (congrArg (World.drewN _) (Nat.add_assoc _ _ _))⟩))))
      go_meet
      case rel => exact ⟨_, (true), u4_13, H', ⟨by first | omega | exact Nat.le_refl _⟩, ⟨u4_1⟩, ⟨u4_0⟩⟩
    subst c9
    rw [if_pos rfl] at H
    replace H := Option.bind_eq_some_iff.mp H
    obtain ⟨t167, A100, H⟩ := H
    replace H : (spec_Look.j0 k a1 a2 (!t167) a0_0 a0_1 l0_2) = some (r1, r2) := H
    have A10 := Aside0.mk A100
    clear A100
    have H' := Aside0.mk H
    clear H
    have hcz11_0 : w5.cell? ⟨gb164, 0, none⟩ = some (.int .i64 a0_0) := (blk_cell BK164.out 0).trans rfl
    have hcz11_1 : w5.cell? ⟨gb164, 1, none⟩ = some (.int .i64 a0_1) := (blk_cell BK164.out 1).trans rfl
    have hcz11_2 : w5.cell? ⟨gb164, 2, none⟩ = some (.slice A0_2 l0_2.length c0_2) := (blk_cell BK164.out 2).trans rfl
    have hfz11_0 := blk_frozen BK164.out 0
    have hfz11_1 := blk_frozen BK164.out 1
    have hfz11_2 := blk_frozen BK164.out 2
    go_wp2_with (first | (first | (go_at_call 8; (with_reducible refine (spec_SessionsOk.calls k a0_0 a0_1 _ _ l0_2 true _ ?side1 ?side2 A6.out).mono ?_); (case side1 => exact u4_3); (case side2 => exact HC0_2.out); rintro e w12 ⟨rfl, hb⟩; have n0_ := Aside0.mk (blk_below (g := gb164) (o := .cells #[.int .i64 a0_0, .int .i64 a0_1, .slice A0_2 l0_2.length c0_2] 29 (0, 0)) u4_1 hb); have n1_ := Aside0.mk (below_step u4_0 hb); clear BK164; clear HB; have BK164 := n0_; have HB := n1_; clear n0_ n1_; (try clear hb); (try clear hb2); (try clear hk); (try clear hi)) | (go_at_call 21; (with_reducible refine (spec_l01In.calls a1 1 999 true _ A8.out).mono ?_); rintro e w' ⟨rfl, ⟨nd, rfl⟩⟩; (try first | exact ⟨rfl, _, World.drewN_drewN _ _ _⟩ | exact ⟨rfl, _, Eq.trans (World.drewN_drewN _ _ _) (congrArg (World.drewN _) (Nat.add_assoc _ _ _))⟩)) | (go_at_call 21; (with_reducible refine (spec_l01In.calls a2 1 1000000 t167 _ A10.out).mono ?_); rintro e w' ⟨rfl, ⟨nd, rfl⟩⟩; (try first | exact ⟨rfl, _, World.drewN_drewN _ _ _⟩ | exact ⟨rfl, _, Eq.trans (World.drewN_drewN _ _ _) (congrArg (World.drewN _) (Nat.add_assoc _ _ _))⟩))) | go_quiet (first | (go_at_call 8; (with_reducible refine (spec_SessionsOk.calls k a0_0 a0_1 _ _ l0_2 true _ ?side1 ?side2 A6.out).mono ?_); (case side1 => exact u4_3); (case side2 => exact HC0_2.out); rintro e w12 ⟨rfl, hb⟩; have n0_ := Aside0.mk (blk_below (g := gb164) (o := .cells #[.int .i64 a0_0, .int .i64 a0_1, .slice A0_2 l0_2.length c0_2] 29 (0, 0)) u4_1 hb); have n1_ := Aside0.mk (below_step u4_0 hb); clear BK164; clear HB; have BK164 := n0_; have HB := n1_; clear n0_ n1_; (try clear hb); (try clear hb2); (try clear hk); (try clear hi)) | (go_at_call 21; (with_reducible refine (spec_l01In.calls a1 1 999 true _ A8.out).mono ?_); rintro e w' ⟨rfl, ⟨nd, rfl⟩⟩; (try first | exact ⟨rfl, _, World.drewN_drewN _ _ _⟩ | exact ⟨rfl, _, Eq.trans (World.drewN_drewN _ _ _) (congrArg (World.drewN _) (Nat.add_assoc _ _ _))⟩)) | (go_at_call 21; (with_reducible refine (spec_l01In.calls a2 1 1000000 t167 _ A10.out).mono ?_); rintro e w' ⟨rfl, ⟨nd, rfl⟩⟩; (try first | exact ⟨rfl, _, World.drewN_drewN _ _ _⟩ | exact ⟨rfl, _, Eq.trans (World.drewN_drewN _ _ _) (congrArg (World.drewN _) (Nat.add_assoc _ _ _))⟩))))
    go_meet
    case rel => exact ⟨_, (!t167), u4_13, H', ⟨by first | omega | exact Nat.le_refl _⟩, ⟨u4_1⟩, ⟨u4_0⟩⟩
  clear HC4
  try clear c1
  try clear p2
  try clear c7
  try clear c9
  try clear c12
  try clear hcz11_0
  try clear hcz11_1
  try clear hcz11_2
  try clear hcz13_0
  try clear hcz13_1
  try clear hcz13_2
  try clear hcz15_0
  try clear hcz15_1
  try clear hcz15_2
  try clear hfz11_0
  try clear hfz11_1
  try clear hfz11_2
  try clear hfz13_0
  try clear hfz13_1
  try clear hfz13_2
  try clear hfz15_0
  try clear hfz15_1
  try clear hfz15_2
  obtain ⟨kq, x21_3, rfl, HA, HJ3, BK164, HB⟩ := hcut
  cases kq with
  | zero => exact absurd HA.out (by simp [spec_Look.j0])
  | succ kj3 =>
    have H := HA.out
    clear HA
    simp only [spec_Look.j0] at H
    by_cases c17 : x21_3 = true
    · subst c17
      rw [if_pos rfl] at H
      simp only [Option.some.injEq, Prod.mk.injEq] at H
      obtain ⟨rfl, rfl⟩ := H
      go_wp2
      repeat (go_quiet (fail); try go_wp2)
      go_ret2
      exact ⟨by first | rfl | (simp [errW_none, errW_some] <;> rfl) | (simp [*, errW_none, errW_some] <;> rfl), u4_0⟩
    replace c17 := Bool.eq_false_iff.mpr c17
    subst c17
    rw [if_neg (show ¬ (false = true) by decide)] at H
    replace H := Option.bind_eq_some_iff.mp H
    obtain ⟨⟨t168, t169, t170, t171⟩, A180, H⟩ := H
    (try dsimp only at H)
    have A18 := Aside0.mk A180
    clear A180
    have H9 := Aside0.mk H
    clear H
    have hcz19_0 : wc.cell? ⟨gb164, 0, none⟩ = some (.int .i64 a0_0) := (blk_cell BK164.out 0).trans rfl
    have hcz19_1 : wc.cell? ⟨gb164, 1, none⟩ = some (.int .i64 a0_1) := (blk_cell BK164.out 1).trans rfl
    have hcz19_2 : wc.cell? ⟨gb164, 2, none⟩ = some (.slice A0_2 l0_2.length c0_2) := (blk_cell BK164.out 2).trans rfl
    have hfz19_0 := blk_frozen BK164.out 0
    have hfz19_1 := blk_frozen BK164.out 1
    have hfz19_2 := blk_frozen BK164.out 2
    go_upto_if 25 with (first | (go_at_call 25; (with_reducible refine (spec_l09Find.calls kj3 a0_0 a0_1 _ _ l0_2 a1 t168 t169 t170 t171 _ ?side1 ?side2 A18.out).mono ?_); (case side1 => exact u4_3); (case side2 => exact HC0_2.out); rintro e w20 ⟨rfl, hb⟩; have n0_ := Aside0.mk (blk_below (g := gb164) (o := .cells #[.int .i64 a0_0, .int .i64 a0_1, .slice A0_2 l0_2.length c0_2] 29 (0, 0)) u4_1 hb); have n1_ := Aside0.mk (below_step u4_0 hb); clear BK164; clear HB; have BK164 := n0_; have HB := n1_; clear n0_ n1_; (try clear hb); (try clear hb2); (try clear hk); (try clear hi)) | ((with_reducible refine gate_dst (N := 8) rfl ?_); refine box_event ?hg (N := 8) ?hd (cs := #[.int .i64 0, .int .i64 0, .int .i64 0, .string (⟨#[]⟩ : ByteArray)]) (t := 45) ?hr ?_; (case hd => rfl); (case hg => rfl); (case hr => first | (go_simp; done) | (go_simp; rfl)); intro gb172 hg w21 hbox hb; have n0_ := Aside0.mk (blk_below (g := gb164) (o := .cells #[.int .i64 a0_0, .int .i64 a0_1, .slice A0_2 l0_2.length c0_2] 29 (0, 0)) u4_1 hb); have n1_ := Aside0.mk (below_step u4_0 hb); have n2_ := Aside0.mk (hbox); have n3_ := Aside0.mk ((by rw [hg]; exact (below_size u4_0) : w.heap.size ≤ gb172)); have n4_ := Aside0.mk ((by rw [hg]; exact (below_size u4_0) : w.heap.size ≤ gb172)); have n5_ := Aside0.mk ((by rw [hg]; exact Nat.ne_of_lt (blk_lt (g := gb164) (o := .cells #[.int .i64 a0_0, .int .i64 a0_1, .slice A0_2 l0_2.length c0_2] 29 (0, 0)) u4_1) : gb164 ≠ gb172)); have n6_ := Aside0.mk ((by rw [hg]; exact Nat.ne_of_gt (blk_lt (g := gb164) (o := .cells #[.int .i64 a0_0, .int .i64 a0_1, .slice A0_2 l0_2.length c0_2] 29 (0, 0)) u4_1) : gb172 ≠ gb164)); clear BK164; clear HB; have BK164 := n0_; have HB := n1_; have BK172 := n2_; have GW172 := n3_; have GE172 := n4_; have NB164_172 := n5_; have NB172_164 := n6_; clear n0_ n1_ n2_ n3_ n4_ n5_ n6_; clear hb hbox hg; have hnb22 := NB172_164.out; have hnc22 := NB164_172.out; have hcz23_0 : w21.cell? ⟨gb172, 0, none⟩ = some (.int .i64 0) := (blk_cell BK172.out 0).trans rfl; have hcz23_1 : w21.cell? ⟨gb172, 1, none⟩ = some (.int .i64 0) := (blk_cell BK172.out 1).trans rfl; have hcz23_2 : w21.cell? ⟨gb172, 2, none⟩ = some (.int .i64 0) := (blk_cell BK172.out 2).trans rfl; have hcz23_3 : w21.cell? ⟨gb172, 3, none⟩ = some (.string (⟨#[]⟩ : ByteArray)) := (blk_cell BK172.out 3).trans rfl; have hfz23_0 := blk_frozen BK172.out 0; have hfz23_1 := blk_frozen BK172.out 1; have hfz23_2 := blk_frozen BK172.out 2; have hfz23_3 := blk_frozen BK172.out 3))
    repeat (go_quiet (first | (go_at_call 25; (with_reducible refine (spec_l09Find.calls kj3 a0_0 a0_1 _ _ l0_2 a1 t168 t169 t170 t171 _ ?side1 ?side2 A18.out).mono ?_); (case side1 => exact u4_3); (case side2 => exact HC0_2.out); rintro e w20 ⟨rfl, hb⟩; have n0_ := Aside0.mk (blk_below (g := gb164) (o := .cells #[.int .i64 a0_0, .int .i64 a0_1, .slice A0_2 l0_2.length c0_2] 29 (0, 0)) u4_1 hb); have n1_ := Aside0.mk (below_step u4_0 hb); clear BK164; clear HB; have BK164 := n0_; have HB := n1_; clear n0_ n1_; (try clear hb); (try clear hb2); (try clear hk); (try clear hi)) | ((with_reducible refine gate_dst (N := 8) rfl ?_); refine box_event ?hg (N := 8) ?hd (cs := #[.int .i64 0, .int .i64 0, .int .i64 0, .string (⟨#[]⟩ : ByteArray)]) (t := 45) ?hr ?_; (case hd => rfl); (case hg => rfl); (case hr => first | (go_simp; done) | (go_simp; rfl)); intro gb172 hg w21 hbox hb; have n0_ := Aside0.mk (blk_below (g := gb164) (o := .cells #[.int .i64 a0_0, .int .i64 a0_1, .slice A0_2 l0_2.length c0_2] 29 (0, 0)) u4_1 hb); have n1_ := Aside0.mk (below_step u4_0 hb); have n2_ := Aside0.mk (hbox); have n3_ := Aside0.mk ((by rw [hg]; exact (below_size u4_0) : w.heap.size ≤ gb172)); have n4_ := Aside0.mk ((by rw [hg]; exact (below_size u4_0) : w.heap.size ≤ gb172)); have n5_ := Aside0.mk ((by rw [hg]; exact Nat.ne_of_lt (blk_lt (g := gb164) (o := .cells #[.int .i64 a0_0, .int .i64 a0_1, .slice A0_2 l0_2.length c0_2] 29 (0, 0)) u4_1) : gb164 ≠ gb172)); have n6_ := Aside0.mk ((by rw [hg]; exact Nat.ne_of_gt (blk_lt (g := gb164) (o := .cells #[.int .i64 a0_0, .int .i64 a0_1, .slice A0_2 l0_2.length c0_2] 29 (0, 0)) u4_1) : gb172 ≠ gb164)); clear BK164; clear HB; have BK164 := n0_; have HB := n1_; have BK172 := n2_; have GW172 := n3_; have GE172 := n4_; have NB164_172 := n5_; have NB172_164 := n6_; clear n0_ n1_ n2_ n3_ n4_ n5_ n6_; clear hb hbox hg; have hnb22 := NB172_164.out; have hnc22 := NB164_172.out; have hcz23_0 : w21.cell? ⟨gb172, 0, none⟩ = some (.int .i64 0) := (blk_cell BK172.out 0).trans rfl; have hcz23_1 : w21.cell? ⟨gb172, 1, none⟩ = some (.int .i64 0) := (blk_cell BK172.out 1).trans rfl; have hcz23_2 : w21.cell? ⟨gb172, 2, none⟩ = some (.int .i64 0) := (blk_cell BK172.out 2).trans rfl; have hcz23_3 : w21.cell? ⟨gb172, 3, none⟩ = some (.string (⟨#[]⟩ : ByteArray)) := (blk_cell BK172.out 3).trans rfl; have hfz23_0 := blk_frozen BK172.out 0; have hfz23_1 := blk_frozen BK172.out 1; have hfz23_2 := blk_frozen BK172.out 2; have hfz23_3 := blk_frozen BK172.out 3)); go_upto_if 25 with (first | (go_at_call 25; (with_reducible refine (spec_l09Find.calls kj3 a0_0 a0_1 _ _ l0_2 a1 t168 t169 t170 t171 _ ?side1 ?side2 A18.out).mono ?_); (case side1 => exact u4_3); (case side2 => exact HC0_2.out); rintro e w20 ⟨rfl, hb⟩; have n0_ := Aside0.mk (blk_below (g := gb164) (o := .cells #[.int .i64 a0_0, .int .i64 a0_1, .slice A0_2 l0_2.length c0_2] 29 (0, 0)) u4_1 hb); have n1_ := Aside0.mk (below_step u4_0 hb); clear BK164; clear HB; have BK164 := n0_; have HB := n1_; clear n0_ n1_; (try clear hb); (try clear hb2); (try clear hk); (try clear hi)) | ((with_reducible refine gate_dst (N := 8) rfl ?_); refine box_event ?hg (N := 8) ?hd (cs := #[.int .i64 0, .int .i64 0, .int .i64 0, .string (⟨#[]⟩ : ByteArray)]) (t := 45) ?hr ?_; (case hd => rfl); (case hg => rfl); (case hr => first | (go_simp; done) | (go_simp; rfl)); intro gb172 hg w21 hbox hb; have n0_ := Aside0.mk (blk_below (g := gb164) (o := .cells #[.int .i64 a0_0, .int .i64 a0_1, .slice A0_2 l0_2.length c0_2] 29 (0, 0)) u4_1 hb); have n1_ := Aside0.mk (below_step u4_0 hb); have n2_ := Aside0.mk (hbox); have n3_ := Aside0.mk ((by rw [hg]; exact (below_size u4_0) : w.heap.size ≤ gb172)); have n4_ := Aside0.mk ((by rw [hg]; exact (below_size u4_0) : w.heap.size ≤ gb172)); have n5_ := Aside0.mk ((by rw [hg]; exact Nat.ne_of_lt (blk_lt (g := gb164) (o := .cells #[.int .i64 a0_0, .int .i64 a0_1, .slice A0_2 l0_2.length c0_2] 29 (0, 0)) u4_1) : gb164 ≠ gb172)); have n6_ := Aside0.mk ((by rw [hg]; exact Nat.ne_of_gt (blk_lt (g := gb164) (o := .cells #[.int .i64 a0_0, .int .i64 a0_1, .slice A0_2 l0_2.length c0_2] 29 (0, 0)) u4_1) : gb172 ≠ gb164)); clear BK164; clear HB; have BK164 := n0_; have HB := n1_; have BK172 := n2_; have GW172 := n3_; have GE172 := n4_; have NB164_172 := n5_; have NB172_164 := n6_; clear n0_ n1_ n2_ n3_ n4_ n5_ n6_; clear hb hbox hg; have hnb22 := NB172_164.out; have hnc22 := NB164_172.out; have hcz23_0 : w21.cell? ⟨gb172, 0, none⟩ = some (.int .i64 0) := (blk_cell BK172.out 0).trans rfl; have hcz23_1 : w21.cell? ⟨gb172, 1, none⟩ = some (.int .i64 0) := (blk_cell BK172.out 1).trans rfl; have hcz23_2 : w21.cell? ⟨gb172, 2, none⟩ = some (.int .i64 0) := (blk_cell BK172.out 2).trans rfl; have hcz23_3 : w21.cell? ⟨gb172, 3, none⟩ = some (.string (⟨#[]⟩ : ByteArray)) := (blk_cell BK172.out 3).trans rfl; have hfz23_0 := blk_frozen BK172.out 0; have hfz23_1 := blk_frozen BK172.out 1; have hfz23_2 := blk_frozen BK172.out 2; have hfz23_3 := blk_frozen BK172.out 3)))
    have H := H9.out
    clear H9
    by_cases c24 : a2 = (wrap64 (t169 + 1))
    · rw [if_pos c24] at H
      have c24b0 : (a2 == (wrap64 (t169 + 1))) = true := beq_iff_eq.mpr c24
      have c24b1 : (a2 != (wrap64 (t169 + 1))) = false := bne_eq_false_iff_eq.mpr c24
      clear c24
      (first | rw [c24b0] | (simp only [i64_w, i32_w]; rw [c24b0]) | skip)
      simp only [Option.some.injEq, Prod.mk.injEq] at H
      obtain ⟨rfl, rfl⟩ := H
      go_wp2
      repeat (go_quiet (fail); try go_wp2)
      go_ret2
      exact ⟨by first | rfl | (simp [errW_none, errW_some] <;> rfl) | (simp [*, errW_none, errW_some] <;> rfl), u4_7⟩
    rw [if_neg c24] at H
    have c24b0 : (a2 == (wrap64 (t169 + 1))) = false := beq_eq_false_iff_ne.mpr c24
    have c24b1 : (a2 != (wrap64 (t169 + 1))) = true := bne_iff_ne.mpr c24
    (first | rw [c24b0] | (simp only [i64_w, i32_w]; rw [c24b0]) | skip)
    by_cases c25 : a2 = t169
    · rw [if_pos c25] at H
      have c25b0 : (a2 == t169) = true := beq_iff_eq.mpr c25
      have c25b1 : (a2 != t169) = false := bne_eq_false_iff_eq.mpr c25
      clear c25
      simp only [Option.some.injEq, Prod.mk.injEq] at H
      obtain ⟨rfl, rfl⟩ := H
      have hnb26 := NB172_164.out
      have hnc26 := NB164_172.out
      have hcz27_0 : w21.cell? ⟨gb172, 0, none⟩ = some (.int .i64 0) := (blk_cell BK172.out 0).trans rfl
      have hcz27_1 : w21.cell? ⟨gb172, 1, none⟩ = some (.int .i64 0) := (blk_cell BK172.out 1).trans rfl
      have hcz27_2 : w21.cell? ⟨gb172, 2, none⟩ = some (.int .i64 0) := (blk_cell BK172.out 2).trans rfl
      have hcz27_3 : w21.cell? ⟨gb172, 3, none⟩ = some (.string (⟨#[]⟩ : ByteArray)) := (blk_cell BK172.out 3).trans rfl
      have hfz27_0 := blk_frozen BK172.out 0
      have hfz27_1 := blk_frozen BK172.out 1
      have hfz27_2 := blk_frozen BK172.out 2
      have hfz27_3 := blk_frozen BK172.out 3
      go_wp2
      repeat (go_quiet (fail); try go_wp2)
      go_ret2
      exact ⟨by first | rfl | (simp [errW_none, errW_some] <;> rfl) | (simp [*, errW_none, errW_some] <;> rfl), u4_7⟩
    rw [if_neg c25] at H
    have c25b0 : (a2 == t169) = false := beq_eq_false_iff_ne.mpr c25
    have c25b1 : (a2 != t169) = true := bne_iff_ne.mpr c25
    by_cases c28 : a2 < t169
    · rw [if_pos c28] at H
      have c28b0 : decide (a2 < t169) = true := decide_eq_true c28
      clear c28
      simp only [Option.some.injEq, Prod.mk.injEq] at H
      obtain ⟨rfl, rfl⟩ := H
      have hnb29 := NB172_164.out
      have hnc29 := NB164_172.out
      have hcz30_0 : w21.cell? ⟨gb172, 0, none⟩ = some (.int .i64 0) := (blk_cell BK172.out 0).trans rfl
      have hcz30_1 : w21.cell? ⟨gb172, 1, none⟩ = some (.int .i64 0) := (blk_cell BK172.out 1).trans rfl
      have hcz30_2 : w21.cell? ⟨gb172, 2, none⟩ = some (.int .i64 0) := (blk_cell BK172.out 2).trans rfl
      have hcz30_3 : w21.cell? ⟨gb172, 3, none⟩ = some (.string (⟨#[]⟩ : ByteArray)) := (blk_cell BK172.out 3).trans rfl
      have hfz30_0 := blk_frozen BK172.out 0
      have hfz30_1 := blk_frozen BK172.out 1
      have hfz30_2 := blk_frozen BK172.out 2
      have hfz30_3 := blk_frozen BK172.out 3
      go_wp2
      repeat (go_quiet (fail); try go_wp2)
      go_ret2
      exact ⟨by first | rfl | (simp [errW_none, errW_some] <;> rfl) | (simp [*, errW_none, errW_some] <;> rfl), u4_7⟩
    rw [if_neg c28] at H
    have c28b0 : decide (a2 < t169) = false := decide_eq_false c28
    clear c28
    simp only [Option.some.injEq, Prod.mk.injEq] at H
    obtain ⟨rfl, rfl⟩ := H
    have hnb31 := NB172_164.out
    have hnc31 := NB164_172.out
    have hcz32_0 : w21.cell? ⟨gb172, 0, none⟩ = some (.int .i64 0) := (blk_cell BK172.out 0).trans rfl
    have hcz32_1 : w21.cell? ⟨gb172, 1, none⟩ = some (.int .i64 0) := (blk_cell BK172.out 1).trans rfl
    have hcz32_2 : w21.cell? ⟨gb172, 2, none⟩ = some (.int .i64 0) := (blk_cell BK172.out 2).trans rfl
    have hcz32_3 : w21.cell? ⟨gb172, 3, none⟩ = some (.string (⟨#[]⟩ : ByteArray)) := (blk_cell BK172.out 3).trans rfl
    have hfz32_0 := blk_frozen BK172.out 0
    have hfz32_1 := blk_frozen BK172.out 1
    have hfz32_2 := blk_frozen BK172.out 2
    have hfz32_3 := blk_frozen BK172.out 3
    go_wp2
    repeat (go_quiet (fail); try go_wp2)
    go_ret2
    exact ⟨by first | rfl | (simp [errW_none, errW_some] <;> rfl) | (simp [*, errW_none, errW_some] <;> rfl), u4_7⟩

/-! ### spec_l09Copy: function 27 -/
def spec_l09Copy.l0 : Nat → Int → Int → Int → List (S45) → Int → Int → List (S45) → Option (Int × Int × (List (S45)))
  | 0, _, _, _, _, _, _, _ => none
  | k + 1, x4, x174000, x174001, x174002, x176000, x176001, x176002 => if x4 < (x174002.length : Int) then (if 0 ≤ x4 then (if x176002.length < 3518437208883 then (spec_l09Copy.l0 k (wrap64 (x4 + 1)) x174000 x174001 x174002 x176000 x176001 (x176002 ++ [(⟨(rd_T45 x174002 x4).f0, (rd_T45 x174002 x4).f1, (rd_T45 x174002 x4).f2, (rd_T45 x174002 x4).f3⟩ : S45)])) else (none)) else (none)) else (some (x176000, x176001, x176002))
def spec_l09Copy.f (k : Nat) (a0_0 : Int) (a0_1 : Int) (l0_2 : List (S45)) : Option (Int × Int × (List (S45))) := spec_l09Copy.l0 k 0 a0_0 a0_1 l0_2 a0_0 a0_1 ([] : List (S45))
theorem spec_l09Copy.mono_l : ∀ k, (∀ y0 y1 y2 y3 y4 y5 y6, LeO (spec_l09Copy.l0 k y0 y1 y2 y3 y4 y5 y6) (spec_l09Copy.l0 (k + 1) y0 y1 y2 y3 y4 y5 y6))
  | 0 => fun _ _ _ _ _ _ _ r h => by simp [spec_l09Copy.l0] at h
  | k + 1 => by
    have ih0 := spec_l09Copy.mono_l k
    · intro y0 y1 y2 y3 y4 y5 y6
      unfold spec_l09Copy.l0
      repeat' first
      | (with_reducible exact ih0 _ _ _ _ _ _ _)
      | (with_reducible exact LeO.refl _)
      | (with_reducible exact LeO.none _)
      | (with_reducible refine LeO.ite ?_ ?_)
      | (with_reducible refine LeO.bind ?_ (fun _ => ?_))
      | exact ih0 _ _ _ _ _ _ _
      | exact LeO.none _
      | refine LeO.ite ?_ ?_
      | refine LeO.bind ?_ (fun _ => ?_)
theorem spec_l09Copy.mono : ∀ a0 a1 a2 k, LeO (spec_l09Copy.f k a0 a1 a2) (spec_l09Copy.f (k + 1) a0 a1 a2) := by
  intro a0 a1 a2 k
  have ih0 := spec_l09Copy.mono_l k
  unfold spec_l09Copy.f
  repeat' first
      | (with_reducible exact ih0 _ _ _ _ _ _ _)
      | (with_reducible exact LeO.refl _)
      | (with_reducible exact LeO.none _)
      | (with_reducible refine LeO.ite ?_ ?_)
      | (with_reducible refine LeO.bind ?_ (fun _ => ?_))
      | exact ih0 _ _ _ _ _ _ _
      | exact LeO.none _
      | refine LeO.ite ?_ ?_
      | refine LeO.bind ?_ (fun _ => ?_)
def spec_l09Copy.T5 : Bool × List (List Nat × List Nat) := (true, [([], []), ([0], [0]), ([], []), ([2], [2]), ([], []), ([3, 4], [3, 4]), ([5], [5]), ([6], [6]), ([1, 7], [1, 7]), ([0, 1, 2, 3, 4, 5, 6, 7, 8], []), ([9, 8, 8, 0, 1, 2, 3, 4, 5, 6, 7, 8], [8, 9])])
def spec_l09Copy.B5 : List Nat := [0, 1, 0, 4, 0, 28, 60, 124, 255, 511, 1023]
theorem spec_l09Copy.tab5 : rtab .any (opsOf Try.f27 5) = spec_l09Copy.T5 := by kernel_rfl
theorem spec_l09Copy.bits5 : waitsOk spec_l09Copy.T5.2 spec_l09Copy.B5 = true := by kernel_rfl
set_option maxHeartbeats 8000000 in
set_option maxRecDepth 100000 in
theorem spec_l09Copy.calls (k : Nat) (a0_0 : Int) (a0_1 : Int) (A0_2 : Option Addr) (c0_2 : Nat) (l0_2 : List (S45)) (r1 : Int) (r2 : Int) (r3 : List (S45)) (w : World) (hr0_2 : Kd.C k45 w A0_2 l0_2.length l0_2) (hc0_2 : l0_2.length ≤ c0_2) (h : spec_l09Copy.f k a0_0 a0_1 l0_2 = some (r1, r2, r3)) :
    Calls Try.prog 27 #[.agg #[.int .i64 a0_0, .int .i64 a0_1, .slice A0_2 l0_2.length c0_2]] w fun e w' => ∃ v2_ : Value, e = .returned (.agg #[.int .i64 r1, .int .i64 r2, v2_]) ∧ Kd.R k45 45 w' w.heap.size (fun _ => True) v2_ r3 ∧ Below w.heap.size w w' := by
  have hu29 := Try.underlying29
  have hu45 := Try.underlying45
  have HR0_2 := Aside0.mk hr0_2
  have HC0_2 := Aside0.mk hc0_2
  clear hr0_2 hc0_2
  have HB := Aside0.mk (Below.refl w.heap.size w)
  have H : (spec_l09Copy.l0 k 0 a0_0 a0_1 l0_2 a0_0 a0_1 ([] : List (S45))) = some (r1, r2, r3) := h
  clear h
  have H' := Aside0.mk H
  clear H
  go_enter Try.func27, Try.ntmps27
  go_wp2_with (first | ((with_reducible refine gate_dst (N := 1) rfl ?_); refine box_event ?hg (N := 1) ?hd (cs := #[.int .i64 a0_0, .int .i64 a0_1, .slice A0_2 l0_2.length c0_2]) (t := 29) ?hr ?_; (case hd => rfl); (case hg => rfl); (case hr => first | (go_simp; done) | (go_simp; rfl)); intro gb173 hg w2 hbox hb; have n0_ := Aside0.mk (below_step u4_2 hb); have n1_ := Aside0.mk (hbox); have n2_ := Aside0.mk ((by rw [hg]; exact (below_size u4_2) : w.heap.size ≤ gb173)); have n3_ := Aside0.mk ((by rw [hg]; exact (below_size u4_2) : w.heap.size ≤ gb173)); clear HB; have HB := n0_; have BK173 := n1_; have GW173 := n2_; have GE173 := n3_; clear n0_ n1_ n2_ n3_; clear hb hbox hg) | ((with_reducible refine gate_dst (N := 2) rfl ?_); refine box_event ?hg (N := 2) ?hd (cs := #[.int .i64 0, .int .i64 0, .slice none 0 0]) (t := 29) ?hr ?_; (case hd => rfl); (case hg => rfl); (case hr => first | (go_simp; done) | (go_simp; rfl)); intro gb174 hg w3 hbox hb; have n0_ := Aside0.mk (blk_below (g := gb173) (o := .cells #[.int .i64 a0_0, .int .i64 a0_1, .slice A0_2 l0_2.length c0_2] 29 (0, 0)) u4_5 hb); have n1_ := Aside0.mk (below_step u4_12 hb); have n2_ := Aside0.mk (hbox); have n3_ := Aside0.mk ((by rw [hg]; exact (below_size u4_12) : w.heap.size ≤ gb174)); have n4_ := Aside0.mk ((by rw [hg]; exact (below_size u4_12) : w.heap.size ≤ gb174)); have n5_ := Aside0.mk ((by rw [hg]; exact Nat.ne_of_lt (blk_lt (g := gb173) (o := .cells #[.int .i64 a0_0, .int .i64 a0_1, .slice A0_2 l0_2.length c0_2] 29 (0, 0)) u4_5) : gb173 ≠ gb174)); have n6_ := Aside0.mk ((by rw [hg]; exact Nat.ne_of_gt (blk_lt (g := gb173) (o := .cells #[.int .i64 a0_0, .int .i64 a0_1, .slice A0_2 l0_2.length c0_2] 29 (0, 0)) u4_5) : gb174 ≠ gb173)); clear BK173; clear HB; have BK173 := n0_; have HB := n1_; have BK174 := n2_; have GW174 := n3_; have GE174 := n4_; have NB173_174 := n5_; have NB174_173 := n6_; clear n0_ n1_ n2_ n3_ n4_ n5_ n6_; clear hb hbox hg; have hnb4 := NB173_174.out; have hnc4 := NB174_173.out; have hcz5_0 : w3.cell? ⟨gb173, 0, none⟩ = some (.int .i64 a0_0) := (blk_cell BK173.out 0).trans rfl; have hcz5_1 : w3.cell? ⟨gb173, 1, none⟩ = some (.int .i64 a0_1) := (blk_cell BK173.out 1).trans rfl; have hcz5_2 : w3.cell? ⟨gb173, 2, none⟩ = some (.slice A0_2 l0_2.length c0_2) := (blk_cell BK173.out 2).trans rfl; have hfz5_0 := blk_frozen BK173.out 0; have hfz5_1 := blk_frozen BK173.out 1; have hfz5_2 := blk_frozen BK173.out 2) | ((with_reducible refine gate_dst (N := 3) rfl ?_); refine box_event ?hg (N := 3) ?hd (cs := #[.int .i64 0, .int .i64 0, .slice none 0 0]) (t := 29) ?hr ?_; (case hd => rfl); (case hg => rfl); (case hr => first | (go_simp; done) | (go_simp; rfl)); intro gb175 hg w6 hbox hb; have n0_ := Aside0.mk (blk_below (g := gb173) (o := .cells #[.int .i64 a0_0, .int .i64 a0_1, .slice A0_2 l0_2.length c0_2] 29 (0, 0)) u4_5 hb); have n1_ := Aside0.mk (blk_below (g := gb174) (o := .cells #[.int .i64 0, .int .i64 0, .slice none 0 0] 29 (0, 0)) u4_10 hb); have n2_ := Aside0.mk (below_step u4_9 hb); have n3_ := Aside0.mk (hbox); have n4_ := Aside0.mk ((by rw [hg]; exact (below_size u4_9) : w.heap.size ≤ gb175)); have n5_ := Aside0.mk ((by rw [hg]; exact (below_size u4_9) : w.heap.size ≤ gb175)); have n6_ := Aside0.mk ((by rw [hg]; exact Nat.ne_of_lt (blk_lt (g := gb173) (o := .cells #[.int .i64 a0_0, .int .i64 a0_1, .slice A0_2 l0_2.length c0_2] 29 (0, 0)) u4_5) : gb173 ≠ gb175)); have n7_ := Aside0.mk ((by rw [hg]; exact Nat.ne_of_gt (blk_lt (g := gb173) (o := .cells #[.int .i64 a0_0, .int .i64 a0_1, .slice A0_2 l0_2.length c0_2] 29 (0, 0)) u4_5) : gb175 ≠ gb173)); have n8_ := Aside0.mk ((by rw [hg]; exact Nat.ne_of_lt (blk_lt (g := gb174) (o := .cells #[.int .i64 0, .int .i64 0, .slice none 0 0] 29 (0, 0)) u4_10) : gb174 ≠ gb175)); have n9_ := Aside0.mk ((by rw [hg]; exact Nat.ne_of_gt (blk_lt (g := gb174) (o := .cells #[.int .i64 0, .int .i64 0, .slice none 0 0] 29 (0, 0)) u4_10) : gb175 ≠ gb174)); clear BK173; clear BK174; clear HB; have BK173 := n0_; have BK174 := n1_; have HB := n2_; have BK175 := n3_; have GW175 := n4_; have GE175 := n5_; have NB173_175 := n6_; have NB175_173 := n7_; have NB174_175 := n8_; have NB175_174 := n9_; clear n0_ n1_ n2_ n3_ n4_ n5_ n6_ n7_ n8_ n9_; clear hb hbox hg; have hnb7 := NB175_173.out; have hnc7 := NB173_175.out; have hnb8 := NB175_174.out; have hnc8 := NB174_175.out; have hcz9_0 : w6.cell? ⟨gb175, 0, none⟩ = some (.int .i64 0) := (blk_cell BK175.out 0).trans rfl; have hcz9_1 : w6.cell? ⟨gb175, 1, none⟩ = some (.int .i64 0) := (blk_cell BK175.out 1).trans rfl; have hcz9_2 : w6.cell? ⟨gb175, 2, none⟩ = some (.slice none 0 0) := (blk_cell BK175.out 2).trans rfl; have hfz9_0 := blk_frozen BK175.out 0; have hfz9_1 := blk_frozen BK175.out 1; have hfz9_2 := blk_frozen BK175.out 2))
  go_loopg [4] k (fun kq v4 w' => ∃ (x4_1 : Int) (x176002_1 : List (S45)) (u176002 : Value), v4 = .int .i64 x4_1 ∧ Aside0 (spec_l09Copy.l0 kq x4_1 a0_0 a0_1 l0_2 a0_0 a0_1 x176002_1 = some (r1, r2, r3)) ∧ Aside0 (kq ≤ k) ∧ Aside0 (Kd.R k45 45 w' w.heap.size (fun _ => True) u176002 x176002_1) ∧ Aside0 (w'.heap[gb173]? = some (.cells #[.int .i64 a0_0, .int .i64 a0_1, (.slice A0_2 l0_2.length c0_2)] 29 (0, 0))) ∧ Aside0 (w'.heap[gb174]? = some (.cells #[.int .i64 0, .int .i64 0, (.slice none 0 0)] 29 (0, 0))) ∧ Aside0 (w'.heap[gb175]? = some (.cells #[.int .i64 a0_0, .int .i64 a0_1, u176002] 29 (0, 0))) ∧ Aside0 (Below w.heap.size w w'))
  case atStart => exact ⟨(0), (([] : List (S45))), (.slice none 0 0), u4_13, H', ⟨Nat.le_refl _⟩, ⟨(by first | exact Kd.R_nil _ _ _ _ _ | exact Kd.N_nil _ _ _ _ _ | exact Kd.V_nil _ _ _ _ _ | exact Kd.Q_nil _ _ _ _ _ | exact Kd.S_nil _ _ _ _ _)⟩, ⟨(by (with_reducible repeat (first | refine blk_drewN ?_ _ | refine blk_drew ?_ | refine blk_alloc ?_ _)); refine blk_far ?_ NB173_175.out _; (with_reducible repeat (first | refine blk_drewN ?_ _ | refine blk_drew ?_ | refine blk_alloc ?_ _)); refine blk_far ?_ NB173_175.out _; (with_reducible repeat (first | refine blk_drewN ?_ _ | refine blk_drew ?_ | refine blk_alloc ?_ _)); refine blk_far ?_ NB173_175.out _; (with_reducible repeat (first | refine blk_drewN ?_ _ | refine blk_drew ?_ | refine blk_alloc ?_ _)); exact BK173.out)⟩, ⟨(by (with_reducible repeat (first | refine blk_drewN ?_ _ | refine blk_drew ?_ | refine blk_alloc ?_ _)); refine blk_far ?_ NB174_175.out _; (with_reducible repeat (first | refine blk_drewN ?_ _ | refine blk_drew ?_ | refine blk_alloc ?_ _)); refine blk_far ?_ NB174_175.out _; (with_reducible repeat (first | refine blk_drewN ?_ _ | refine blk_drew ?_ | refine blk_alloc ?_ _)); refine blk_far ?_ NB174_175.out _; (with_reducible repeat (first | refine blk_drewN ?_ _ | refine blk_drew ?_ | refine blk_alloc ?_ _)); exact BK174.out)⟩, ⟨(by (with_reducible repeat (first | refine blk_drewN ?_ _ | refine blk_drew ?_ | refine blk_alloc ?_ _)); refine blk_put (cs := #[.int .i64 a0_0, .int .i64 a0_1, .slice none 0 0]) ?_ 2 _ rfl; (with_reducible repeat (first | refine blk_drewN ?_ _ | refine blk_drew ?_ | refine blk_alloc ?_ _)); refine blk_put (cs := #[.int .i64 a0_0, .int .i64 0, .slice none 0 0]) ?_ 1 _ rfl; (with_reducible repeat (first | refine blk_drewN ?_ _ | refine blk_drew ?_ | refine blk_alloc ?_ _)); refine blk_put (cs := #[.int .i64 0, .int .i64 0, .slice none 0 0]) ?_ 0 _ rfl; (with_reducible repeat (first | refine blk_drewN ?_ _ | refine blk_drew ?_ | refine blk_alloc ?_ _)); exact BK175.out)⟩, ⟨u4_4⟩⟩
  clear H'
  try clear c2
  try clear p2
  try clear c4
  try clear c7
  try clear c8
  try clear hcz5_0
  try clear hcz5_1
  try clear hcz5_2
  try clear hcz9_0
  try clear hcz9_1
  try clear hcz9_2
  try clear hfz5_0
  try clear hfz5_1
  try clear hfz5_2
  try clear hfz9_0
  try clear hfz9_1
  try clear hfz9_2
  obtain ⟨x4_1, x176002_1, u176002, rfl, HA, HK1, HO_176002, BK173, BK174, BK175, HB⟩ := hrel
  cases gk with
  | zero => exact absurd HA.out (by simp [spec_l09Copy.l0])
  | succ k1 =>
    have H := HA.out
    clear HA
    simp only [spec_l09Copy.l0] at H
    by_cases c10 : x4_1 < (l0_2.length : Int)
    rotate_left
    · rw [if_neg c10] at H
      have c10b0 : decide (x4_1 < (l0_2.length : Int)) = false := decide_eq_false c10
      clear c10
      simp only [Option.some.injEq, Prod.mk.injEq] at H
      obtain ⟨rfl, rfl, rfl⟩ := H
      have hnb20 := NB173_174.out
      have hnc20 := NB174_173.out
      have hnb21 := NB173_175.out
      have hnc21 := NB175_173.out
      have hcz22_0 : wr.cell? ⟨gb173, 0, none⟩ = some (.int .i64 a0_0) := (blk_cell BK173.out 0).trans rfl
      have hcz22_1 : wr.cell? ⟨gb173, 1, none⟩ = some (.int .i64 a0_1) := (blk_cell BK173.out 1).trans rfl
      have hcz22_2 : wr.cell? ⟨gb173, 2, none⟩ = some (.slice A0_2 l0_2.length c0_2) := (blk_cell BK173.out 2).trans rfl
      have hfz22_0 := blk_frozen BK173.out 0
      have hfz22_1 := blk_frozen BK173.out 1
      have hfz22_2 := blk_frozen BK173.out 2
      have hnb23 := NB175_174.out
      have hnc23 := NB174_175.out
      have hcz24_0 : wr.cell? ⟨gb175, 0, none⟩ = some (.int .i64 a0_0) := (blk_cell BK175.out 0).trans rfl
      have hcz24_1 : wr.cell? ⟨gb175, 1, none⟩ = some (.int .i64 a0_1) := (blk_cell BK175.out 1).trans rfl
      have hcz24_2 : wr.cell? ⟨gb175, 2, none⟩ = some (u176002) := (blk_cell BK175.out 2).trans rfl
      have hfz24_0 := blk_frozen BK175.out 0
      have hfz24_1 := blk_frozen BK175.out 1
      have hfz24_2 := blk_frozen BK175.out 2
      have hcz25_0 : wr.cell? ⟨gb174, 0, none⟩ = some (.int .i64 0) := (blk_cell BK174.out 0).trans rfl
      have hcz25_1 : wr.cell? ⟨gb174, 1, none⟩ = some (.int .i64 0) := (blk_cell BK174.out 1).trans rfl
      have hcz25_2 : wr.cell? ⟨gb174, 2, none⟩ = some (.slice none 0 0) := (blk_cell BK174.out 2).trans rfl
      have hfz25_0 := blk_frozen BK174.out 0
      have hfz25_1 := blk_frozen BK174.out 1
      have hfz25_2 := blk_frozen BK174.out 2
      obtain ⟨Ao26, co26, eo26⟩ := Kd.R_slice HO_176002.out
      subst eo26
      go_wp2
      refine bodyPost_ret (results_cell_row rfl _ _ gb174 29 #[.int .i64 a0_0, .int .i64 a0_1, .slice Ao26 x176002_1.length co26] (0, 0) _ rfl (by (with_reducible repeat (first | refine blk_drewN ?_ _ | refine blk_drew ?_ | refine blk_alloc ?_ _)); refine blk_put (cs := #[.int .i64 a0_0, .int .i64 a0_1, .slice none 0 0]) ?_ 2 _ rfl; (with_reducible repeat (first | refine blk_drewN ?_ _ | refine blk_drew ?_ | refine blk_alloc ?_ _)); refine blk_put (cs := #[.int .i64 a0_0, .int .i64 0, .slice none 0 0]) ?_ 1 _ rfl; (with_reducible repeat (first | refine blk_drewN ?_ _ | refine blk_drew ?_ | refine blk_alloc ?_ _)); refine blk_put (cs := #[.int .i64 0, .int .i64 0, .slice none 0 0]) ?_ 0 _ rfl; (with_reducible repeat (first | refine blk_drewN ?_ _ | refine blk_drew ?_ | refine blk_alloc ?_ _)); exact BK174.out) Try.underlying29 rfl (by kernel_rfl)) rfl ?_
      exact ⟨_, by first | rfl | (simp [errW_none, errW_some] <;> rfl) | (simp [*, errW_none, errW_some] <;> rfl), (by (with_reducible repeat (first | apply Kd.R_alloc | apply Kd.R_drewN | apply Kd.R_drew)); exact Kd.R_mono (Kd.R_far (p := ⟨gb174, 2, none⟩) (Kd.R_far (p := ⟨gb174, 1, none⟩) (Kd.R_far (p := ⟨gb174, 0, none⟩) (Kd.R_types HO_176002.out BK174.out (by decide)) (fun _ hk => hk.2) (.int .i64 a0_0)) (fun _ hk => hk.2) (.int .i64 a0_1)) (fun _ hk => hk.2) (.slice Ao26 x176002_1.length co26)) (fun _ hk => trivial)), u4_4⟩
    rw [if_pos c10] at H
    have c10b0 : decide (x4_1 < (l0_2.length : Int)) = true := decide_eq_true c10
    clear c10
    by_cases c11 : 0 ≤ x4_1
    rotate_left
    · rw [if_neg c11] at H
      exact absurd H (by simp)
    rw [if_pos c11] at H
    have c11b0 : decide (0 ≤ x4_1) = true := decide_eq_true c11
    clear c11
    by_cases c12 : x176002_1.length < 3518437208883
    rotate_left
    · rw [if_neg c12] at H
      exact absurd H (by simp)
    rw [if_pos c12] at H
    have LMc12 := Aside0.mk c12
    clear c12
    obtain ⟨y177, hy177⟩ : ∃ y_ : List (S45), y_ = (x176002_1 ++ [(⟨(rd_T45 l0_2 x4_1).f0, (rd_T45 l0_2 x4_1).f1, (rd_T45 l0_2 x4_1).f2, (rd_T45 l0_2 x4_1).f3⟩ : S45)]) := ⟨_, rfl⟩
    replace H : (spec_l09Copy.l0 k1 (wrap64 (x4_1 + 1)) a0_0 a0_1 l0_2 a0_0 a0_1 y177) = some (r1, r2, r3) := by first | (rw [hy177]; with_reducible exact H) | (have H2_ := (Option.bind_some _ _).symm.trans H; rw [hy177]; with_reducible exact H2_) | (have H2_ := (Option.bind_some _ _).symm.trans H; with_reducible exact H2_) | with_reducible exact H | (rw [hy177]; exact H) | exact H
    have Ny177 := Aside0.mk hy177
    clear hy177
    have H' := Aside0.mk H
    clear H
    have hnb13 := NB173_174.out
    have hnc13 := NB174_173.out
    have hnb14 := NB173_175.out
    have hnc14 := NB175_173.out
    have hcz15_0 : wr.cell? ⟨gb173, 0, none⟩ = some (.int .i64 a0_0) := (blk_cell BK173.out 0).trans rfl
    have hcz15_1 : wr.cell? ⟨gb173, 1, none⟩ = some (.int .i64 a0_1) := (blk_cell BK173.out 1).trans rfl
    have hcz15_2 : wr.cell? ⟨gb173, 2, none⟩ = some (.slice A0_2 l0_2.length c0_2) := (blk_cell BK173.out 2).trans rfl
    have hfz15_0 := blk_frozen BK173.out 0
    have hfz15_1 := blk_frozen BK173.out 1
    have hfz15_2 := blk_frozen BK173.out 2
    try go_wp2
    have n0_ := Aside0.mk (Kd.R_drew HO_176002.out)
    have n1_ := Aside0.mk (blk_drew BK173.out)
    have n2_ := Aside0.mk (blk_drew BK174.out)
    have n3_ := Aside0.mk (blk_drew BK175.out)
    have n4_ := Aside0.mk (below_drew1 HB.out)
    clear HO_176002
    clear BK173
    clear BK174
    clear BK175
    clear HB
    have HO_176002 := n0_
    have BK173 := n1_
    have BK174 := n2_
    have BK175 := n3_
    have HB := n4_
    clear n0_ n1_ n2_ n3_ n4_
    have p176 : 0 ≤ (x4_1 : Int) := of_decide_eq_true u4_14
    have q176 : x4_1 < (l0_2.length : Int) := of_decide_eq_true u4_14
    obtain ⟨ad176, e176, hx176_0, hx176_1, hx176_2, hx176_3⟩ := at_T45 HR0_2.out x4_1 p176 q176
    have hw176_3 := hx176_3
    have hw176_2 := hx176_2
    have hw176_1 := hx176_1
    have hw176_0 := hx176_0
    cases e176
    replace hx176_0 := (HB.out.cell (World.block_lt_of_cell? w _ hx176_0)).trans hx176_0
    replace hx176_1 := (HB.out.cell (World.block_lt_of_cell? w _ hx176_1)).trans hx176_1
    replace hx176_2 := (HB.out.cell (World.block_lt_of_cell? w _ hx176_2)).trans hx176_2
    replace hx176_3 := (HB.out.cell (World.block_lt_of_cell? w _ hx176_3)).trans hx176_3
    replace p176 := eq_true p176
    replace q176 := eq_true q176
    refine start_ (n := 11) (S := fun w' => w'.cell? ⟨gb175, 0, none⟩ = some (.int .i64 a0_0) ∧ w'.cell? ⟨gb175, 1, none⟩ = some (.int .i64 a0_1) ∧ w'.cell? ⟨gb175, 2, none⟩ = some (u176002) ∧ w'.cell? ⟨gb173, 0, none⟩ = some (.int .i64 a0_0) ∧ w'.cell? ⟨gb173, 1, none⟩ = some (.int .i64 a0_1) ∧ w'.cell? ⟨gb173, 2, none⟩ = some (.slice (some ad176) l0_2.length c0_2) ∧ w'.cell? (ad176.add ((x4_1).toNat * 4)) = some (.int .i64 ((rd_T45 l0_2 x4_1).f0)) ∧ w'.cell? ⟨(ad176.add ((x4_1).toNat * 4)).block, (ad176.add ((x4_1).toNat * 4)).off + 1, none⟩ = some (.int .i64 ((rd_T45 l0_2 x4_1).f1)) ∧ w'.cell? ⟨(ad176.add ((x4_1).toNat * 4)).block, (ad176.add ((x4_1).toNat * 4)).off + 2, none⟩ = some (.int .i64 ((rd_T45 l0_2 x4_1).f2)) ∧ w'.cell? ⟨(ad176.add ((x4_1).toNat * 4)).block, (ad176.add ((x4_1).toNat * 4)).off + 3, none⟩ = some (.string ((rd_T45 l0_2 x4_1).f3))) (ds := [10]) #[false, false, false, false, false, false, false, false, false, false, false] (by kernel_rfl) rfl rfl ⟨(blk_cell BK175.out 0).trans rfl, (blk_cell BK175.out 1).trans rfl, (blk_cell BK175.out 2).trans rfl, (blk_cell BK173.out 0).trans rfl, (blk_cell BK173.out 1).trans rfl, (blk_cell BK173.out 2).trans rfl, ((HB.out.cell (World.block_lt_of_cell? w _ hw176_0)).trans hw176_0), ((HB.out.cell (World.block_lt_of_cell? w _ hw176_1)).trans hw176_1), ((HB.out.cell (World.block_lt_of_cell? w _ hw176_2)).trans hw176_2), ((HB.out.cell (World.block_lt_of_cell? w _ hw176_3)).trans hw176_3)⟩ (fun hHeld => ?_); refine with_tabW spec_l09Copy.tab5 spec_l09Copy.bits5 (fun HT_ HW_ => ?_)
    generalize wr.drew = w16 at HO_176002 BK173 BK174 BK175 HB hx176_0 hx176_1 hx176_2 hx176_3 hHeld ⊢
    refine pure_ (i := 0) (N := some 17) (v := ?_) (a' := ?_) #[true, false, false, false, false, false, false, false, false, false, false] rfl rfl (any_of HT_.out (by kernel_rfl)) (fun _ _ _ h => h) (Or.inl ⟨by rfl, ?_⟩) ?_ ?_
    rotate_left
    · intro w'
      go_simp
      with_reducible rfl
    rotate_left
    · simp only [Act.put, List.setIfInBounds_toArray, List.set_cons_zero, List.set_cons_succ, i64_w, i32_w]
      rfl
    refine pure_ (i := 2) (N := some 19) (v := ?_) (a' := ?_) #[true, false, true, false, false, false, false, false, false, false, false] rfl rfl (any_of HT_.out (by kernel_rfl)) (fun _ _ _ h => h) (Or.inl ⟨by rfl, ?_⟩) ?_ ?_
    rotate_left
    · intro w'
      go_simp
      with_reducible rfl
    rotate_left
    · simp only [Act.put, List.setIfInBounds_toArray, List.set_cons_zero, List.set_cons_succ, i64_w, i32_w]
      rfl
    refine pure_ (i := 4) (N := some 21) (v := ?_) (a' := ?_) #[true, false, true, false, true, false, false, false, false, false, false] rfl rfl (any_of HT_.out (by kernel_rfl)) (fun _ _ _ h => h) (Or.inl ⟨by rfl, ?_⟩) ?_ ?_
    rotate_left
    · intro w'
      go_simp
      with_reducible rfl
    rotate_left
    · simp only [Act.put, List.setIfInBounds_toArray, List.set_cons_zero, List.set_cons_succ, i64_w, i32_w]
      rfl
    refine take_ (i := 1) (N := some 18) (v := ?_) (a' := ?_) #[true, true, true, false, true, false, false, false, false, false, false] rfl rfl (take_ofW HT_.out HW_.out (by kernel_rfl)) (fun _ _ _ h => h) (Or.inl ⟨by rfl, ?_⟩) hHeld ?_ ?_
    rotate_left
    · rintro w' ⟨s0, s1, s2, s3, s4, s5, s6, s7, s8, s9⟩
      go_simp
      with_reducible rfl
    rotate_left
    · simp only [Act.put, List.setIfInBounds_toArray, List.set_cons_zero, List.set_cons_succ, i64_w, i32_w]
      rfl
    refine take_ (i := 3) (N := some 20) (v := ?_) (a' := ?_) #[true, true, true, true, true, false, false, false, false, false, false] rfl rfl (take_ofW HT_.out HW_.out (by kernel_rfl)) (fun _ _ _ h => h) (Or.inl ⟨by rfl, ?_⟩) hHeld ?_ ?_
    rotate_left
    · rintro w' ⟨s0, s1, s2, s3, s4, s5, s6, s7, s8, s9⟩
      go_simp
      with_reducible rfl
    rotate_left
    · simp only [Act.put, List.setIfInBounds_toArray, List.set_cons_zero, List.set_cons_succ, i64_w, i32_w]
      rfl
    refine pure_ (i := 5) (N := some 22) (v := ?_) (a' := ?_) #[true, true, true, true, true, true, false, false, false, false, false] rfl rfl (any_of HT_.out (by kernel_rfl)) (fun _ _ _ h => h) (Or.inl ⟨by rfl, ?_⟩) ?_ ?_
    rotate_left
    · intro w'
      go_simp
      with_reducible rfl
    rotate_left
    · simp only [Act.put, List.setIfInBounds_toArray, List.set_cons_zero, List.set_cons_succ, i64_w, i32_w]
      rfl
    refine take_ (i := 6) (N := some 23) (v := ?_) (a' := ?_) #[true, true, true, true, true, true, true, false, false, false, false] rfl rfl (take_ofW HT_.out HW_.out (by kernel_rfl)) (fun _ _ _ h => h) (Or.inl ⟨by rfl, ?_⟩) hHeld ?_ ?_
    rotate_left
    · rintro w' ⟨s0, s1, s2, s3, s4, s5, s6, s7, s8, s9⟩
      go_simp
      with_reducible rfl
    rotate_left
    · simp only [Act.put, List.setIfInBounds_toArray, List.set_cons_zero, List.set_cons_succ, i64_w, i32_w]
      rfl
    refine one_ (i := 7) (N := some 24) #[true, true, true, true, true, true, true, true, false, false, false] rfl rfl (one_of HT_.out (by kernel_rfl)) (by decide) (fun K hK => ?_)
    refine value_ (w1 := ?_) (v := ?_) (by rfl) rfl ?_ ?_
    rotate_left 2
    · go_simp
      constructor
      · rfl
      rfl
    refine hK.out _ _ ⟨(blk_cell (blk_alloc BK175.out _) 0).trans rfl, (blk_cell (blk_alloc BK175.out _) 1).trans rfl, (blk_cell (blk_alloc BK175.out _) 2).trans rfl, (blk_cell (blk_alloc BK173.out _) 0).trans rfl, (blk_cell (blk_alloc BK173.out _) 1).trans rfl, (blk_cell (blk_alloc BK173.out _) 2).trans rfl, (World.cell?_alloc_lt _ _ _ (World.block_lt_of_cell? _ _ (((HB.out.cell (World.block_lt_of_cell? w _ hw176_0)).trans hw176_0)))).trans (((HB.out.cell (World.block_lt_of_cell? w _ hw176_0)).trans hw176_0)), (World.cell?_alloc_lt _ _ _ (World.block_lt_of_cell? _ _ (((HB.out.cell (World.block_lt_of_cell? w _ hw176_1)).trans hw176_1)))).trans (((HB.out.cell (World.block_lt_of_cell? w _ hw176_1)).trans hw176_1)), (World.cell?_alloc_lt _ _ _ (World.block_lt_of_cell? _ _ (((HB.out.cell (World.block_lt_of_cell? w _ hw176_2)).trans hw176_2)))).trans (((HB.out.cell (World.block_lt_of_cell? w _ hw176_2)).trans hw176_2)), (World.cell?_alloc_lt _ _ _ (World.block_lt_of_cell? _ _ (((HB.out.cell (World.block_lt_of_cell? w _ hw176_3)).trans hw176_3)))).trans (((HB.out.cell (World.block_lt_of_cell? w _ hw176_3)).trans hw176_3))⟩ (fun hHeld => ?_)
    clear hK K
    refine norm_ (a' := ?_) ?_ ?_
    rotate_left
    · show Act.put _ (some 24) _ = _
      simp only [Act.put, List.setIfInBounds_toArray, List.set_cons_zero, List.set_cons_succ, i64_w, i32_w]
      rfl
    refine one_ (i := 8) (N := some 25) #[true, true, true, true, true, true, true, true, true, false, false] rfl rfl (one_of HT_.out (by kernel_rfl)) (by decide) (fun K hK => ?_)
    refine Kd.R_append_step k45 (w0 := w) w.heap.size (by rfl) (.tmp 18) (.tmp 24) 27 45 (.agg #[(.int .i64 0), (.int .i64 0), (.int .i64 0), (.string ⟨#[]⟩)]) 40 rfl Try.underlying27 info45 rfl (by decide) (by omega) u176002 x176002_1 (⟨(rd_T45 l0_2 x4_1).f0, (rd_T45 l0_2 x4_1).f1, (rd_T45 l0_2 x4_1).f2, (rd_T45 l0_2 x4_1).f3⟩ : S45) [.int .i64 ((rd_T45 l0_2 x4_1).f0), .int .i64 ((rd_T45 l0_2 x4_1).f1), .int .i64 ((rd_T45 l0_2 x4_1).f2), .string ((rd_T45 l0_2 x4_1).f3)] (fun _ => True) (fun _ => False) rfl rfl ?aP (fun _ hk => hk.elim) ?aF ?aO ?aB ?aS ?aL ?_
    (case aP => exact k45_mkM _ _ _ (⟨(rd_T45 l0_2 x4_1).f0, (rd_T45 l0_2 x4_1).f1, (rd_T45 l0_2 x4_1).f2, (rd_T45 l0_2 x4_1).f3⟩ : S45))
    (case aB => exact u4_4)
    (case aF => exact (fun _ _ => trivial))
    (case aO => exact (by (with_reducible repeat (first | apply Kd.R_alloc | apply Kd.R_drewN | apply Kd.R_drew)); exact HO_176002.out))
    (case aS => exact (below_size u4_4))
    (case aL => have := LMc12.out; omega)
    intro v178 w17 ho hb hg hat
    rw [← Ny177.out] at ho
    have n0_ := Aside0.mk (blk_grown (g := gb173) (o := .cells #[.int .i64 a0_0, .int .i64 a0_1, .slice (some ad176) l0_2.length c0_2] 29 (0, 0)) u4_5 hg (Kd.R_ne HO_176002.out BK173.out (by decide)))
    have n1_ := Aside0.mk (blk_grown (g := gb174) (o := .cells #[.int .i64 0, .int .i64 0, .slice none 0 0] 29 (0, 0)) u4_10 hg (Kd.R_ne HO_176002.out BK174.out (by decide)))
    have n2_ := Aside0.mk (blk_grown (g := gb175) (o := .cells #[.int .i64 a0_0, .int .i64 a0_1, u176002] 29 (0, 0)) (by (with_reducible repeat (first | refine blk_drewN ?_ _ | refine blk_drew ?_ | refine blk_alloc ?_ _)); exact BK175.out) hg (Kd.R_ne HO_176002.out BK175.out (by decide)))
    have n3_ := Aside0.mk (hb)
    have n4_ := Aside0.mk (ho)
    clear BK173
    clear BK174
    clear BK175
    clear HB
    clear HO_176002
    have BK173 := n0_
    have BK174 := n1_
    have BK175 := n2_
    have HB := n3_
    have HO179 := n4_
    clear n0_ n1_ n2_ n3_ n4_
    clear ho hb hg hat
    obtain ⟨Ao18, co18, eo18⟩ := Kd.R_slice HO179.out
    (first | subst eo18 | (injection eo18 with f1_ f2_ f3_; have f4_ := f1_.symm; have f5_ := f3_.symm; clear f1_ f2_ f3_; subst f4_; subst f5_))
    refine hK.out _ _ ⟨(blk_cell BK175.out 0).trans rfl, (blk_cell BK175.out 1).trans rfl, (blk_cell BK175.out 2).trans rfl, (blk_cell BK173.out 0).trans rfl, (blk_cell BK173.out 1).trans rfl, (blk_cell BK173.out 2).trans rfl, ((HB.out.cell (World.block_lt_of_cell? w _ hw176_0)).trans hw176_0), ((HB.out.cell (World.block_lt_of_cell? w _ hw176_1)).trans hw176_1), ((HB.out.cell (World.block_lt_of_cell? w _ hw176_2)).trans hw176_2), ((HB.out.cell (World.block_lt_of_cell? w _ hw176_3)).trans hw176_3)⟩ (fun hHeld => ?_)
    clear hK K
    refine norm_ (a' := ?_) ?_ ?_
    rotate_left
    · show Act.put _ (some 25) _ = _
      simp only [Act.put, List.setIfInBounds_toArray, List.set_cons_zero, List.set_cons_succ, i64_w, i32_w]
      rfl
    refine pure_ (i := 9) (N := some 26) (v := ?_) (a' := ?_) #[true, true, true, true, true, true, true, true, true, true, false] rfl rfl (any_of HT_.out (by kernel_rfl)) (fun _ _ _ h => h) (Or.inl ⟨by rfl, ?_⟩) ?_ ?_
    rotate_left
    · intro w'
      go_simp
      with_reducible rfl
    rotate_left
    · simp only [Act.put, List.setIfInBounds_toArray, List.set_cons_zero, List.set_cons_succ, i64_w, i32_w]
      rfl
    refine last_ (i := 10) (N := none) #[true, true, true, true, true, true, true, true, true, true, true] rfl rfl (one_of HT_.out (by kernel_rfl)) (by decide) (fun K hK => ?_)
    have hs19 : w17.cell? ⟨gb175, 2, none⟩ = some (u176002) := (blk_cell BK175.out 2).trans rfl
    have hfs19 := blk_frozen BK175.out 2
    have hns19_0 := NB173_175.out
    have hns19_1 := NB174_175.out
    have hms19_0 := NB175_173.out
    have hms19_1 := NB175_174.out
    refine skip_ (w1 := ?_) (by rfl) rfl ?_ ?_
    rotate_left
    · go_simp
      rfl
    refine hK.out _ _ ?_
    clear hK K
    refine done_ (done_of HT_.out (by kernel_rfl)) ?_
    try go_wp2
    go_roundg k1
    case measure => have := HK1.out; omega
    case rel => exact ⟨(wrap64 (x4_1 + 1)), (y177), (.slice Ao18 y177.length co18), u4_13, H', ⟨by have := HK1.out; omega⟩, ⟨(by (with_reducible repeat (first | apply Kd.R_alloc | apply Kd.R_drewN | apply Kd.R_drew)); exact Kd.R_mono (Kd.R_far (p := ⟨gb175, 2, none⟩) (Kd.R_types HO179.out BK175.out (by decide)) (fun _ hk => hk.2) (.slice Ao18 y177.length co18)) (fun _ hk => trivial))⟩, ⟨(by (with_reducible repeat (first | refine blk_drewN ?_ _ | refine blk_drew ?_ | refine blk_alloc ?_ _)); refine blk_far ?_ NB173_175.out _; (with_reducible repeat (first | refine blk_drewN ?_ _ | refine blk_drew ?_ | refine blk_alloc ?_ _)); exact BK173.out)⟩, ⟨(by (with_reducible repeat (first | refine blk_drewN ?_ _ | refine blk_drew ?_ | refine blk_alloc ?_ _)); refine blk_far ?_ NB174_175.out _; (with_reducible repeat (first | refine blk_drewN ?_ _ | refine blk_drew ?_ | refine blk_alloc ?_ _)); exact BK174.out)⟩, ⟨(by (with_reducible repeat (first | refine blk_drewN ?_ _ | refine blk_drew ?_ | refine blk_alloc ?_ _)); refine blk_put (cs := #[.int .i64 a0_0, .int .i64 a0_1, u176002]) ?_ 2 _ rfl; (with_reducible repeat (first | refine blk_drewN ?_ _ | refine blk_drew ?_ | refine blk_alloc ?_ _)); exact BK175.out)⟩, ⟨u4_4⟩⟩

end Go.Proofs.Ytjdpifafijcpbaa.QFnExactKeep
