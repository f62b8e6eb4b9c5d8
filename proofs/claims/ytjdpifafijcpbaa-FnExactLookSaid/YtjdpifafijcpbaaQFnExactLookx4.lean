-- Printed by the session's own program wip/prx.py.
import Derived.Test.YtjdpifafijcpbaaQFnExactLookx0
import Derived.Test.YtjdpifafijcpbaaQFnExactLookx2
import Derived.Test.YtjdpifafijcpbaaQFnExactLookx3
namespace Go.Proofs.Ytjdpifafijcpbaa.QFnExactLook
open Go.RowKit Go.Proofs.YtjdpifafijcpbaaW.PrintWords Go.Proofs.YtjdpifafijcpbaaW.PrintLast Go.Proofs.YtjdpifafijcpbaaW.PrintMore
attribute [local go_sem] max2_int min2_int max_two min_two max_three min_three max_four min_four Go.Proofs.Ytjdpifafijcpbaa.Set.isSome_setCell   -- for this text's walks alone
set_option linter.unusedVariables false
set_option linter.unusedSimpArgs false

-- squeezed
theorem u4_0 {P : Prop} (h : P := by repeat (first | (with_reducible first | exact HB.out | apply below_alloc | apply pw_below_drewN | apply below_drew1 | refine below_set ?_ GE146.out) | exact HB.out)) : P := h
theorem u4_1 {P : Prop} (h : P := by (with_reducible repeat (first | refine blk_drewN ?_ _ | refine blk_drew ?_ | refine blk_alloc ?_ _)); exact BK146.out) : P := h
theorem u4_2 {P : Prop} (h : P := by repeat (first | (with_reducible first | exact HB.out | apply below_alloc | apply pw_below_drewN | apply below_drew1) | exact HB.out)) : P := h
theorem u4_3 {P : Prop} (h : P := by repeat (first | exact (Kd.C_below HR0_2.out HB.out) | (with_reducible refine Kd.C_alloc ?_ _) | (with_reducible refine Kd.C_drewN ?_ _) | (with_reducible refine Kd.C_drew ?_))) : P := h
theorem u4_4 {P : Prop} (h : P := by repeat (first | (with_reducible first | exact HB.out | apply below_alloc | apply pw_below_drewN | apply below_drew1 | refine below_set ?_ GE142.out | refine below_set ?_ GE143.out) | exact HB.out)) : P := h
theorem u4_5 {P : Prop} (h : P := by repeat (first | (with_reducible first | exact HB.out | apply below_alloc | apply pw_below_drewN | apply below_drew1 | refine below_set ?_ GE146.out | refine below_set ?_ GE154.out) | exact HB.out)) : P := h
theorem u4_6 {P : Prop} (h : P := by (with_reducible repeat (first | refine blk_drewN ?_ _ | refine blk_drew ?_ | refine blk_alloc ?_ _)); exact BK142.out) : P := h
theorem u4_7 {P : Prop} (h : P := by repeat (first | (with_reducible first | exact HB.out | apply below_alloc | apply pw_below_drewN | apply below_drew1 | refine below_set ?_ GE142.out) | exact HB.out)) : P := h
theorem u4_8 {P : Prop} (h : P := by first | rfl | (simp; done) | (simp [*]; done)) : P := h
theorem u4_9 {P : Prop} (h : P := by first | (with_reducible assumption) | assumption) : P := h
theorem u4_10 {P : Prop} (h : P := by (with_reducible repeat (first | refine blk_drewN ?_ _ | refine blk_drew ?_ | refine blk_alloc ?_ _)); exact BK143.out) : P := h
/-! ### spec_l09Find: function 25 -/
def spec_l09Find.l0 : Nat → Int → Int → Int → Int → List (S45) → Option (Int × Int × Int × ByteArray)
  | 0, _, _, _, _, _ => none
  | k + 1, x1, x5, x143000, x143001, x143002 => if x5 < (x143002.length : Int) then (if 0 ≤ x5 then (if ((rd_T45 x143002 x5).f0) = x1 then (some ((rd_T45 x143002 x5).f0, (rd_T45 x143002 x5).f1, (rd_T45 x143002 x5).f2, (rd_T45 x143002 x5).f3)) else (spec_l09Find.l0 k x1 (wrap64 (x5 + 1)) x143000 x143001 x143002)) else (none)) else (some (0, 0, 0, (⟨#[]⟩ : ByteArray)))
def spec_l09Find.f (k : Nat) (a0_0 : Int) (a0_1 : Int) (l0_2 : List (S45)) (a1 : Int) : Option (Int × Int × Int × ByteArray) := spec_l09Find.l0 k a1 0 a0_0 a0_1 l0_2
theorem spec_l09Find.mono_l : ∀ k, (∀ y0 y1 y2 y3 y4, LeO (spec_l09Find.l0 k y0 y1 y2 y3 y4) (spec_l09Find.l0 (k + 1) y0 y1 y2 y3 y4))
  | 0 => fun _ _ _ _ _ r h => by simp [spec_l09Find.l0] at h
  | k + 1 => by
    have ih0 := spec_l09Find.mono_l k
    · intro y0 y1 y2 y3 y4
      unfold spec_l09Find.l0
      repeat' first
      | (with_reducible exact ih0 _ _ _ _ _)
      | (with_reducible exact LeO.refl _)
      | (with_reducible exact LeO.none _)
      | (with_reducible refine LeO.ite ?_ ?_)
      | (with_reducible refine LeO.bind ?_ (fun _ => ?_))
      | exact ih0 _ _ _ _ _
      | exact LeO.none _
      | refine LeO.ite ?_ ?_
      | refine LeO.bind ?_ (fun _ => ?_)
theorem spec_l09Find.mono : ∀ a0 a1 a2 a3 k, LeO (spec_l09Find.f k a0 a1 a2 a3) (spec_l09Find.f (k + 1) a0 a1 a2 a3) := by
  intro a0 a1 a2 a3 k
  have ih0 := spec_l09Find.mono_l k
  unfold spec_l09Find.f
  repeat' first
      | (with_reducible exact ih0 _ _ _ _ _)
      | (with_reducible exact LeO.refl _)
      | (with_reducible exact LeO.none _)
      | (with_reducible refine LeO.ite ?_ ?_)
      | (with_reducible refine LeO.bind ?_ (fun _ => ?_))
      | exact ih0 _ _ _ _ _
      | exact LeO.none _
      | refine LeO.ite ?_ ?_
      | refine LeO.bind ?_ (fun _ => ?_)
set_option maxHeartbeats 8000000 in
set_option maxRecDepth 100000 in
theorem spec_l09Find.calls (k : Nat) (a0_0 : Int) (a0_1 : Int) (A0_2 : Option Addr) (c0_2 : Nat) (l0_2 : List (S45)) (a1 : Int) (r1 : Int) (r2 : Int) (r3 : Int) (r4 : ByteArray) (w : World) (hr0_2 : Kd.C k45 w A0_2 l0_2.length l0_2) (hc0_2 : l0_2.length ≤ c0_2) (h : spec_l09Find.f k a0_0 a0_1 l0_2 a1 = some (r1, r2, r3, r4)) :
    Calls Try.prog 25 #[.agg #[.int .i64 a0_0, .int .i64 a0_1, .slice A0_2 l0_2.length c0_2], .int .i64 a1] w fun e w' => e = .returned (.agg #[.int .i64 r1, .int .i64 r2, .int .i64 r3, .string r4]) ∧ Below w.heap.size w w' := by
  have hu29 := Try.underlying29
  have hu45 := Try.underlying45
  have HR0_2 := Aside0.mk hr0_2
  have HC0_2 := Aside0.mk hc0_2
  clear hr0_2 hc0_2
  have HB := Aside0.mk (Below.refl w.heap.size w)
  have H : (spec_l09Find.l0 k a1 0 a0_0 a0_1 l0_2) = some (r1, r2, r3, r4) := h
  clear h
  have H' := Aside0.mk H
  clear H
  go_enter Try.func25, Try.ntmps25
  go_wp2_with (first | ((with_reducible refine gate_dst (N := 2) rfl ?_); refine box_event ?hg (N := 2) ?hd (cs := #[.int .i64 a0_0, .int .i64 a0_1, .slice A0_2 l0_2.length c0_2]) (t := 29) ?hr ?_; (case hd => rfl); (case hg => rfl); (case hr => first | (go_simp; done) | (go_simp; rfl)); intro gb142 hg w3 hbox hb; have n0_ := Aside0.mk (below_step u4_2 hb); have n1_ := Aside0.mk (hbox); have n2_ := Aside0.mk ((by rw [hg]; exact (below_size u4_2) : w.heap.size ≤ gb142)); have n3_ := Aside0.mk ((by rw [hg]; exact (below_size u4_2) : w.heap.size ≤ gb142)); clear HB; have HB := n0_; have BK142 := n1_; have GW142 := n2_; have GE142 := n3_; clear n0_ n1_ n2_ n3_; clear hb hbox hg) | ((with_reducible refine gate_dst (N := 4) rfl ?_); refine box_event ?hg (N := 4) ?hd (cs := #[.int .i64 0, .int .i64 0, .int .i64 0, .string (⟨#[]⟩ : ByteArray)]) (t := 45) ?hr ?_; (case hd => rfl); (case hg => rfl); (case hr => first | (go_simp; done) | (go_simp; rfl)); intro gb143 hg w4 hbox hb; have n0_ := Aside0.mk (blk_below (g := gb142) (o := .cells #[.int .i64 a0_0, .int .i64 a0_1, .slice A0_2 l0_2.length c0_2] 29 (0, 0)) u4_6 hb); have n1_ := Aside0.mk (below_step u4_7 hb); have n2_ := Aside0.mk (hbox); have n3_ := Aside0.mk ((by rw [hg]; exact (below_size u4_7) : w.heap.size ≤ gb143)); have n4_ := Aside0.mk ((by rw [hg]; exact (below_size u4_7) : w.heap.size ≤ gb143)); have n5_ := Aside0.mk ((by rw [hg]; exact Nat.ne_of_lt (blk_lt (g := gb142) (o := .cells #[.int .i64 a0_0, .int .i64 a0_1, .slice A0_2 l0_2.length c0_2] 29 (0, 0)) u4_6) : gb142 ≠ gb143)); have n6_ := Aside0.mk ((by rw [hg]; exact Nat.ne_of_gt (blk_lt (g := gb142) (o := .cells #[.int .i64 a0_0, .int .i64 a0_1, .slice A0_2 l0_2.length c0_2] 29 (0, 0)) u4_6) : gb143 ≠ gb142)); clear BK142; clear HB; have BK142 := n0_; have HB := n1_; have BK143 := n2_; have GW143 := n3_; have GE143 := n4_; have NB142_143 := n5_; have NB143_142 := n6_; clear n0_ n1_ n2_ n3_ n4_ n5_ n6_; clear hb hbox hg))
  go_loopg [5] k (fun kq v5 w' => ∃ (x5_1 : Int) (x144000_1 : Int) (x144001_1 : Int) (x144002_1 : Int) (x144003_1 : ByteArray), v5 = .int .i64 x5_1 ∧ Aside0 (spec_l09Find.l0 kq a1 x5_1 a0_0 a0_1 l0_2 = some (r1, r2, r3, r4)) ∧ Aside0 (kq ≤ k) ∧ Aside0 (w'.heap[gb142]? = some (.cells #[.int .i64 a0_0, .int .i64 a0_1, (.slice A0_2 l0_2.length c0_2)] 29 (0, 0))) ∧ Aside0 (w'.heap[gb143]? = some (.cells #[.int .i64 x144000_1, .int .i64 x144001_1, .int .i64 x144002_1, .string x144003_1] 45 (0, 0))) ∧ Aside0 (Below w.heap.size w w'))
  case atStart => exact ⟨(0), (0), (0), (0), ((⟨#[]⟩ : ByteArray)), u4_8, H', ⟨Nat.le_refl _⟩, ⟨u4_6⟩, ⟨u4_10⟩, ⟨u4_4⟩⟩
  clear H'
  try clear c2
  try clear p2
  obtain ⟨x5_1, x144000_1, x144001_1, x144002_1, x144003_1, rfl, HA, HK1, BK142, BK143, HB⟩ := hrel
  cases gk with
  | zero => exact absurd HA.out (by simp [spec_l09Find.l0])
  | succ k1 =>
    have H := HA.out
    clear HA
    simp only [spec_l09Find.l0] at H
    by_cases c5 : x5_1 < (l0_2.length : Int)
    rotate_left
    · rw [if_neg c5] at H
      have c5b0 : decide (x5_1 < (l0_2.length : Int)) = false := decide_eq_false c5
      clear c5
      simp only [Option.some.injEq, Prod.mk.injEq] at H
      obtain ⟨rfl, rfl, rfl, rfl⟩ := H
      have hnb13 := NB142_143.out
      have hnc13 := NB143_142.out
      have hcz14_0 : wr.cell? ⟨gb142, 0, none⟩ = some (.int .i64 a0_0) := (blk_cell BK142.out 0).trans rfl
      have hcz14_1 : wr.cell? ⟨gb142, 1, none⟩ = some (.int .i64 a0_1) := (blk_cell BK142.out 1).trans rfl
      have hcz14_2 : wr.cell? ⟨gb142, 2, none⟩ = some (.slice A0_2 l0_2.length c0_2) := (blk_cell BK142.out 2).trans rfl
      have hfz14_0 := blk_frozen BK142.out 0
      have hfz14_1 := blk_frozen BK142.out 1
      have hfz14_2 := blk_frozen BK142.out 2
      have hcz15_0 : wr.cell? ⟨gb143, 0, none⟩ = some (.int .i64 x144000_1) := (blk_cell BK143.out 0).trans rfl
      have hcz15_1 : wr.cell? ⟨gb143, 1, none⟩ = some (.int .i64 x144001_1) := (blk_cell BK143.out 1).trans rfl
      have hcz15_2 : wr.cell? ⟨gb143, 2, none⟩ = some (.int .i64 x144002_1) := (blk_cell BK143.out 2).trans rfl
      have hcz15_3 : wr.cell? ⟨gb143, 3, none⟩ = some (.string x144003_1) := (blk_cell BK143.out 3).trans rfl
      have hfz15_0 := blk_frozen BK143.out 0
      have hfz15_1 := blk_frozen BK143.out 1
      have hfz15_2 := blk_frozen BK143.out 2
      have hfz15_3 := blk_frozen BK143.out 3
      go_wp2
      refine bodyPost_ret (results_cell_row rfl _ _ gb143 45 #[.int .i64 0, .int .i64 0, .int .i64 0, .string (⟨#[]⟩ : ByteArray)] (0, 0) _ rfl (by (with_reducible repeat (first | refine blk_drewN ?_ _ | refine blk_drew ?_ | refine blk_alloc ?_ _)); refine blk_put (cs := #[.int .i64 0, .int .i64 0, .int .i64 0, .string x144003_1]) ?_ 3 _ rfl; (with_reducible repeat (first | refine blk_drewN ?_ _ | refine blk_drew ?_ | refine blk_alloc ?_ _)); refine blk_put (cs := #[.int .i64 0, .int .i64 0, .int .i64 x144002_1, .string x144003_1]) ?_ 2 _ rfl; (with_reducible repeat (first | refine blk_drewN ?_ _ | refine blk_drew ?_ | refine blk_alloc ?_ _)); refine blk_put (cs := #[.int .i64 0, .int .i64 x144001_1, .int .i64 x144002_1, .string x144003_1]) ?_ 1 _ rfl; (with_reducible repeat (first | refine blk_drewN ?_ _ | refine blk_drew ?_ | refine blk_alloc ?_ _)); refine blk_put (cs := #[.int .i64 x144000_1, .int .i64 x144001_1, .int .i64 x144002_1, .string x144003_1]) ?_ 0 _ rfl; (with_reducible repeat (first | refine blk_drewN ?_ _ | refine blk_drew ?_ | refine blk_alloc ?_ _)); exact BK143.out) Try.underlying45 rfl (by kernel_rfl)) rfl ?_
      exact ⟨by first | rfl | (simp [errW_none, errW_some] <;> rfl) | (simp [*, errW_none, errW_some] <;> rfl), u4_4⟩
    rw [if_pos c5] at H
    have c5b0 : decide (x5_1 < (l0_2.length : Int)) = true := decide_eq_true c5
    clear c5
    by_cases c6 : 0 ≤ x5_1
    rotate_left
    · rw [if_neg c6] at H
      exact absurd H (by simp)
    rw [if_pos c6] at H
    have c6b0 : decide (0 ≤ x5_1) = true := decide_eq_true c6
    clear c6
    have H9 := Aside0.mk H
    clear H
    have hnb7 := NB142_143.out
    have hnc7 := NB143_142.out
    have hcz8_0 : wr.cell? ⟨gb142, 0, none⟩ = some (.int .i64 a0_0) := (blk_cell BK142.out 0).trans rfl
    have hcz8_1 : wr.cell? ⟨gb142, 1, none⟩ = some (.int .i64 a0_1) := (blk_cell BK142.out 1).trans rfl
    have hcz8_2 : wr.cell? ⟨gb142, 2, none⟩ = some (.slice A0_2 l0_2.length c0_2) := (blk_cell BK142.out 2).trans rfl
    have hfz8_0 := blk_frozen BK142.out 0
    have hfz8_1 := blk_frozen BK142.out 1
    have hfz8_2 := blk_frozen BK142.out 2
    have p144 : 0 ≤ (x5_1 : Int) := of_decide_eq_true u4_9
    have q144 : x5_1 < (l0_2.length : Int) := of_decide_eq_true u4_9
    obtain ⟨ad144, e144, hx144_0, hx144_1, hx144_2, hx144_3⟩ := at_T45 HR0_2.out x5_1 p144 q144
    cases e144
    replace hx144_0 := (HB.out.cell (World.block_lt_of_cell? w _ hx144_0)).trans hx144_0
    replace hx144_1 := (HB.out.cell (World.block_lt_of_cell? w _ hx144_1)).trans hx144_1
    replace hx144_2 := (HB.out.cell (World.block_lt_of_cell? w _ hx144_2)).trans hx144_2
    replace hx144_3 := (HB.out.cell (World.block_lt_of_cell? w _ hx144_3)).trans hx144_3
    replace p144 := eq_true p144
    replace q144 := eq_true q144
    go_upto_if 20 with (fail)
    have H := H9.out
    clear H9
    by_cases c9 : ((rd_T45 l0_2 x5_1).f0) = a1
    rotate_left
    · rw [if_neg c9] at H
      have c9b0 : (((rd_T45 l0_2 x5_1).f0) == a1) = false := beq_eq_false_iff_ne.mpr c9
      have c9b1 : (((rd_T45 l0_2 x5_1).f0) != a1) = true := bne_iff_ne.mpr c9
      (first | rw [c9b0] | (simp only [i64_w, i32_w]; rw [c9b0]) | skip)
      have H' := Aside0.mk H
      clear H
      go_wp2
      go_roundg k1
      case measure => have := HK1.out; omega
      case rel => exact ⟨(wrap64 (x5_1 + 1)), (x144000_1), (x144001_1), (x144002_1), (x144003_1), u4_8, H', ⟨by have := HK1.out; omega⟩, ⟨u4_6⟩, ⟨u4_10⟩, ⟨u4_4⟩⟩
    rw [if_pos c9] at H
    have c9b0 : (((rd_T45 l0_2 x5_1).f0) == a1) = true := beq_iff_eq.mpr c9
    have c9b1 : (((rd_T45 l0_2 x5_1).f0) != a1) = false := bne_eq_false_iff_eq.mpr c9
    clear c9
    (first | rw [c9b0] | (simp only [i64_w, i32_w]; rw [c9b0]) | skip)
    simp only [Option.some.injEq, Prod.mk.injEq] at H
    obtain ⟨rfl, rfl, rfl, rfl⟩ := H
    have hnb10 := NB142_143.out
    have hnc10 := NB143_142.out
    have hcz11_0 : wr.cell? ⟨gb142, 0, none⟩ = some (.int .i64 a0_0) := (blk_cell BK142.out 0).trans rfl
    have hcz11_1 : wr.cell? ⟨gb142, 1, none⟩ = some (.int .i64 a0_1) := (blk_cell BK142.out 1).trans rfl
    have hcz11_2 : wr.cell? ⟨gb142, 2, none⟩ = some (.slice (some ad144) l0_2.length c0_2) := (blk_cell BK142.out 2).trans rfl
    have hfz11_0 := blk_frozen BK142.out 0
    have hfz11_1 := blk_frozen BK142.out 1
    have hfz11_2 := blk_frozen BK142.out 2
    have p145 : 0 ≤ (x5_1 : Int) := of_decide_eq_true u4_9
    have q145 : x5_1 < (l0_2.length : Int) := of_decide_eq_true u4_9
    obtain ⟨ad145, e145, hx145_0, hx145_1, hx145_2, hx145_3⟩ := at_T45 HR0_2.out x5_1 p145 q145
    obtain rfl : ad144 = ad145 := (by injection e145)
    replace hx145_0 := (HB.out.cell (World.block_lt_of_cell? w _ hx145_0)).trans hx145_0
    replace hx145_1 := (HB.out.cell (World.block_lt_of_cell? w _ hx145_1)).trans hx145_1
    replace hx145_2 := (HB.out.cell (World.block_lt_of_cell? w _ hx145_2)).trans hx145_2
    replace hx145_3 := (HB.out.cell (World.block_lt_of_cell? w _ hx145_3)).trans hx145_3
    replace p145 := eq_true p145
    replace q145 := eq_true q145
    have hcz12_0 : wr.cell? ⟨gb143, 0, none⟩ = some (.int .i64 x144000_1) := (blk_cell BK143.out 0).trans rfl
    have hcz12_1 : wr.cell? ⟨gb143, 1, none⟩ = some (.int .i64 x144001_1) := (blk_cell BK143.out 1).trans rfl
    have hcz12_2 : wr.cell? ⟨gb143, 2, none⟩ = some (.int .i64 x144002_1) := (blk_cell BK143.out 2).trans rfl
    have hcz12_3 : wr.cell? ⟨gb143, 3, none⟩ = some (.string x144003_1) := (blk_cell BK143.out 3).trans rfl
    have hfz12_0 := blk_frozen BK143.out 0
    have hfz12_1 := blk_frozen BK143.out 1
    have hfz12_2 := blk_frozen BK143.out 2
    have hfz12_3 := blk_frozen BK143.out 3
    go_wp2
    refine bodyPost_ret (results_cell_row rfl _ _ gb143 45 #[.int .i64 ((rd_T45 l0_2 x5_1).f0), .int .i64 ((rd_T45 l0_2 x5_1).f1), .int .i64 ((rd_T45 l0_2 x5_1).f2), .string ((rd_T45 l0_2 x5_1).f3)] (0, 0) _ rfl (by (with_reducible repeat (first | refine blk_drewN ?_ _ | refine blk_drew ?_ | refine blk_alloc ?_ _)); refine blk_put (cs := #[.int .i64 ((rd_T45 l0_2 x5_1).f0), .int .i64 ((rd_T45 l0_2 x5_1).f1), .int .i64 ((rd_T45 l0_2 x5_1).f2), .string x144003_1]) ?_ 3 _ rfl; (with_reducible repeat (first | refine blk_drewN ?_ _ | refine blk_drew ?_ | refine blk_alloc ?_ _)); refine blk_put (cs := #[.int .i64 ((rd_T45 l0_2 x5_1).f0), .int .i64 ((rd_T45 l0_2 x5_1).f1), .int .i64 x144002_1, .string x144003_1]) ?_ 2 _ rfl; (with_reducible repeat (first | refine blk_drewN ?_ _ | refine blk_drew ?_ | refine blk_alloc ?_ _)); refine blk_put (cs := #[.int .i64 ((rd_T45 l0_2 x5_1).f0), .int .i64 x144001_1, .int .i64 x144002_1, .string x144003_1]) ?_ 1 _ rfl; (with_reducible repeat (first | refine blk_drewN ?_ _ | refine blk_drew ?_ | refine blk_alloc ?_ _)); refine blk_put (cs := #[.int .i64 x144000_1, .int .i64 x144001_1, .int .i64 x144002_1, .string x144003_1]) ?_ 0 _ rfl; (with_reducible repeat (first | refine blk_drewN ?_ _ | refine blk_drew ?_ | refine blk_alloc ?_ _)); exact BK143.out) Try.underlying45 rfl (by kernel_rfl)) rfl ?_
    exact ⟨by first | rfl | (simp [errW_none, errW_some] <;> rfl) | (simp [*, errW_none, errW_some] <;> rfl), u4_4⟩

/-! ### spec_Look: function 12 -/
def spec_Look.j0 : Nat → Int → Int → Bool → Int → Int → List (S45) → Option (Int × ByteArray)
  | 0, _, _, _, _, _, _ => none
  | k + 1, x1, x2, x21, x147000, x147001, x147002 => if x21 = true then (some (4, (⟨#[]⟩ : ByteArray))) else ((spec_l09Find.f k x147000 x147001 x147002 x1).bind fun bt150 => (if x2 = (wrap64 (bt150.2.1 + 1)) then (some (0, (⟨#[]⟩ : ByteArray))) else (if x2 = bt150.2.1 then (some (1, bt150.2.2.2)) else (if x2 < bt150.2.1 then (some (2, (⟨#[]⟩ : ByteArray))) else (some (3, (⟨#[]⟩ : ByteArray)))))))
def spec_Look.f (k : Nat) (a0_0 : Int) (a0_1 : Int) (l0_2 : List (S45)) (a1 : Int) (a2 : Int) : Option (Int × ByteArray) := (spec_SessionsOk.f k a0_0 a0_1 l0_2).bind fun t147 => (if t147 = true then ((spec_l01In.f a1 1 999).bind fun t148 => (if t148 = true then ((spec_l01In.f a2 1 1000000).bind fun t149 => (spec_Look.j0 k a1 a2 (!t149) a0_0 a0_1 l0_2)) else (spec_Look.j0 k a1 a2 true a0_0 a0_1 l0_2))) else (spec_Look.j0 k a1 a2 true a0_0 a0_1 l0_2))
theorem spec_Look.mono_l : ∀ k, (∀ y0 y1 y2 y3 y4 y5, LeO (spec_Look.j0 k y0 y1 y2 y3 y4 y5) (spec_Look.j0 (k + 1) y0 y1 y2 y3 y4 y5))
  | 0 => fun _ _ _ _ _ _ r h => by simp [spec_Look.j0] at h
  | k + 1 => by
    have ih0 := spec_Look.mono_l k
    · intro y0 y1 y2 y3 y4 y5
      unfold spec_Look.j0
      repeat' first
      | (with_reducible exact ih0 _ _ _ _ _ _)
      | (with_reducible exact spec_SessionsOk.mono _ _ _ _)
      | (with_reducible exact spec_l09Find.mono _ _ _ _ _)
      | (with_reducible exact LeO.refl _)
      | (with_reducible exact LeO.none _)
      | (with_reducible refine LeO.ite ?_ ?_)
      | (with_reducible refine LeO.bind ?_ (fun _ => ?_))
      | exact ih0 _ _ _ _ _ _
      | exact spec_SessionsOk.mono _ _ _ _
      | exact spec_l09Find.mono _ _ _ _ _
      | exact LeO.none _
      | refine LeO.ite ?_ ?_
      | refine LeO.bind ?_ (fun _ => ?_)
theorem spec_Look.mono : ∀ a0 a1 a2 a3 a4 k, LeO (spec_Look.f k a0 a1 a2 a3 a4) (spec_Look.f (k + 1) a0 a1 a2 a3 a4) := by
  intro a0 a1 a2 a3 a4 k
  have ih0 := spec_Look.mono_l k
  unfold spec_Look.f
  repeat' first
      | (with_reducible exact ih0 _ _ _ _ _ _)
      | (with_reducible exact spec_SessionsOk.mono _ _ _ _)
      | (with_reducible exact spec_l09Find.mono _ _ _ _ _)
      | (with_reducible exact LeO.refl _)
      | (with_reducible exact LeO.none _)
      | (with_reducible refine LeO.ite ?_ ?_)
      | (with_reducible refine LeO.bind ?_ (fun _ => ?_))
      | exact ih0 _ _ _ _ _ _
      | exact spec_SessionsOk.mono _ _ _ _
      | exact spec_l09Find.mono _ _ _ _ _
      | exact LeO.none _
      | refine LeO.ite ?_ ?_
      | refine LeO.bind ?_ (fun _ => ?_)
set_option maxHeartbeats 8000000 in
set_option maxRecDepth 100000 in
theorem spec_Look.calls (k : Nat) (a0_0 : Int) (a0_1 : Int) (A0_2 : Option Addr) (c0_2 : Nat) (l0_2 : List (S45)) (a1 : Int) (a2 : Int) (r1 : Int) (r2 : ByteArray) (w : World) (hr0_2 : Kd.C k45 w A0_2 l0_2.length l0_2) (hc0_2 : l0_2.length ≤ c0_2) (h : spec_Look.f k a0_0 a0_1 l0_2 a1 a2 = some (r1, r2)) :
    Calls Try.prog 12 #[.agg #[.int .i64 a0_0, .int .i64 a0_1, .slice A0_2 l0_2.length c0_2], .int .i64 a1, .int .i64 a2] w fun e w' => e = .returned (.tuple #[.int .i64 r1, .string r2]) ∧ Below w.heap.size w w' := by
  have hu29 := Try.underlying29
  have hu45 := Try.underlying45
  have HR0_2 := Aside0.mk hr0_2
  have HC0_2 := Aside0.mk hc0_2
  clear hr0_2 hc0_2
  have HB := Aside0.mk (Below.refl w.heap.size w)
  have H : ((spec_SessionsOk.f k a0_0 a0_1 l0_2).bind fun t147 => (if t147 = true then ((spec_l01In.f a1 1 999).bind fun t148 => (if t148 = true then ((spec_l01In.f a2 1 1000000).bind fun t149 => (spec_Look.j0 k a1 a2 (!t149) a0_0 a0_1 l0_2)) else (spec_Look.j0 k a1 a2 true a0_0 a0_1 l0_2))) else (spec_Look.j0 k a1 a2 true a0_0 a0_1 l0_2))) = some (r1, r2) := h
  clear h
  have HC4 := Aside0.mk H
  clear H
  go_enter Try.func12, Try.ntmps12
  go_upto_region 1 with (first | ((with_reducible refine gate_dst (N := 3) rfl ?_); refine box_event ?hg (N := 3) ?hd (cs := #[.int .i64 a0_0, .int .i64 a0_1, .slice A0_2 l0_2.length c0_2]) (t := 29) ?hr ?_; (case hd => rfl); (case hg => rfl); (case hr => first | (go_simp; done) | (go_simp; rfl)); intro gb146 hg w5 hbox hb; have n0_ := Aside0.mk (below_step u4_2 hb); have n1_ := Aside0.mk (hbox); have n2_ := Aside0.mk ((by rw [hg]; exact (below_size u4_2) : w.heap.size ≤ gb146)); have n3_ := Aside0.mk ((by rw [hg]; exact (below_size u4_2) : w.heap.size ≤ gb146)); clear HB; have HB := n0_; have BK146 := n1_; have GW146 := n2_; have GE146 := n3_; clear n0_ n1_ n2_ n3_; clear hb hbox hg))
  repeat (go_quiet (first | ((with_reducible refine gate_dst (N := 3) rfl ?_); refine box_event ?hg (N := 3) ?hd (cs := #[.int .i64 a0_0, .int .i64 a0_1, .slice A0_2 l0_2.length c0_2]) (t := 29) ?hr ?_; (case hd => rfl); (case hg => rfl); (case hr => first | (go_simp; done) | (go_simp; rfl)); intro gb146 hg w5 hbox hb; have n0_ := Aside0.mk (below_step u4_2 hb); have n1_ := Aside0.mk (hbox); have n2_ := Aside0.mk ((by rw [hg]; exact (below_size u4_2) : w.heap.size ≤ gb146)); have n3_ := Aside0.mk ((by rw [hg]; exact (below_size u4_2) : w.heap.size ≤ gb146)); clear HB; have HB := n0_; have BK146 := n1_; have GW146 := n2_; have GE146 := n3_; clear n0_ n1_ n2_ n3_; clear hb hbox hg)); go_upto_region 1 with (first | ((with_reducible refine gate_dst (N := 3) rfl ?_); refine box_event ?hg (N := 3) ?hd (cs := #[.int .i64 a0_0, .int .i64 a0_1, .slice A0_2 l0_2.length c0_2]) (t := 29) ?hr ?_; (case hd => rfl); (case hg => rfl); (case hr => first | (go_simp; done) | (go_simp; rfl)); intro gb146 hg w5 hbox hb; have n0_ := Aside0.mk (below_step u4_2 hb); have n1_ := Aside0.mk (hbox); have n2_ := Aside0.mk ((by rw [hg]; exact (below_size u4_2) : w.heap.size ≤ gb146)); have n3_ := Aside0.mk ((by rw [hg]; exact (below_size u4_2) : w.heap.size ≤ gb146)); clear HB; have HB := n0_; have BK146 := n1_; have GW146 := n2_; have GE146 := n3_; clear n0_ n1_ n2_ n3_; clear hb hbox hg)))
  (try simp only [Act.put, List.setIfInBounds_toArray, List.set_cons_zero, List.set_cons_succ])
  go_cut [21] (fun v21 wc => ∃ (kq : Nat) (x21_3 : Bool), v21 = .bool x21_3 ∧ Aside0 (spec_Look.j0 kq a1 a2 x21_3 a0_0 a0_1 l0_2 = some (r1, r2)) ∧ Aside0 (kq ≤ k) ∧ Aside0 (wc.heap[gb146]? = some (.cells #[.int .i64 a0_0, .int .i64 a0_1, (.slice A0_2 l0_2.length c0_2)] 29 (0, 0))) ∧ Aside0 (Below w.heap.size w wc))
  case first =>
    have H := HC4.out
    clear HC4
    replace H := Option.bind_eq_some_iff.mp H
    obtain ⟨t147, A60, H⟩ := H
    replace H : (if t147 = true then ((spec_l01In.f a1 1 999).bind fun t148 => (if t148 = true then ((spec_l01In.f a2 1 1000000).bind fun t149 => (spec_Look.j0 k a1 a2 (!t149) a0_0 a0_1 l0_2)) else (spec_Look.j0 k a1 a2 true a0_0 a0_1 l0_2))) else (spec_Look.j0 k a1 a2 true a0_0 a0_1 l0_2)) = some (r1, r2) := H
    have A6 := Aside0.mk A60
    clear A60
    by_cases c7 : t147 = true
    rotate_left
    · replace c7 := Bool.eq_false_iff.mpr c7
      subst c7
      have H1 : (spec_Look.j0 k a1 a2 true a0_0 a0_1 l0_2) = some (r1, r2) := by rw [if_neg (show ¬ (false = true) by decide)] at H; exact H
      clear H
      have H := H1
      clear H1
      have H' := Aside0.mk H
      clear H
      have hcz15_0 : w5.cell? ⟨gb146, 0, none⟩ = some (.int .i64 a0_0) := (blk_cell BK146.out 0).trans rfl
      have hcz15_1 : w5.cell? ⟨gb146, 1, none⟩ = some (.int .i64 a0_1) := (blk_cell BK146.out 1).trans rfl
      have hcz15_2 : w5.cell? ⟨gb146, 2, none⟩ = some (.slice A0_2 l0_2.length c0_2) := (blk_cell BK146.out 2).trans rfl
      have hfz15_0 := blk_frozen BK146.out 0
      have hfz15_1 := blk_frozen BK146.out 1
      have hfz15_2 := blk_frozen BK146.out 2
      go_wp2_with (first | (first | (go_at_call 8; (with_reducible refine (spec_SessionsOk.calls k a0_0 a0_1 _ _ l0_2 false _ ?side1 ?side2 A6.out).mono ?_); (case side1 => exact u4_3); (case side2 => exact HC0_2.out); rintro e w16 ⟨rfl, hb⟩; have n0_ := Aside0.mk (blk_below (g := gb146) (o := .cells #[.int .i64 a0_0, .int .i64 a0_1, .slice A0_2 l0_2.length c0_2] 29 (0, 0)) u4_1 hb); have n1_ := Aside0.mk (below_step u4_0 hb); clear BK146; clear HB; have BK146 := n0_; have HB := n1_; clear n0_ n1_; (try clear hb); (try clear hb2); (try clear hk); (try clear hi))) | go_quiet (first | (go_at_call 8; (with_reducible refine (spec_SessionsOk.calls k a0_0 a0_1 _ _ l0_2 false _ ?side1 ?side2 A6.out).mono ?_); (case side1 => exact u4_3); (case side2 => exact HC0_2.out); rintro e w16 ⟨rfl, hb⟩; have n0_ := Aside0.mk (blk_below (g := gb146) (o := .cells #[.int .i64 a0_0, .int .i64 a0_1, .slice A0_2 l0_2.length c0_2] 29 (0, 0)) u4_1 hb); have n1_ := Aside0.mk (below_step u4_0 hb); clear BK146; clear HB; have BK146 := n0_; have HB := n1_; clear n0_ n1_; (try clear hb); (try clear hb2); (try clear hk); (try clear hi))))
      go_meet
      case rel => exact ⟨_, (true), u4_8, H', ⟨by first | omega | exact Nat.le_refl _⟩, ⟨u4_1⟩, ⟨u4_0⟩⟩
    subst c7
    have H1 : ((spec_l01In.f a1 1 999).bind fun t148 => (if t148 = true then ((spec_l01In.f a2 1 1000000).bind fun t149 => (spec_Look.j0 k a1 a2 (!t149) a0_0 a0_1 l0_2)) else (spec_Look.j0 k a1 a2 true a0_0 a0_1 l0_2))) = some (r1, r2) := by rw [if_pos rfl] at H; exact H
    clear H
    have H := H1
    clear H1
    replace H := Option.bind_eq_some_iff.mp H
    obtain ⟨t148, A80, H⟩ := H
    replace H : (if t148 = true then ((spec_l01In.f a2 1 1000000).bind fun t149 => (spec_Look.j0 k a1 a2 (!t149) a0_0 a0_1 l0_2)) else (spec_Look.j0 k a1 a2 true a0_0 a0_1 l0_2)) = some (r1, r2) := H
    have A8 := Aside0.mk A80
    clear A80
    by_cases c9 : t148 = true
    rotate_left
    · replace c9 := Bool.eq_false_iff.mpr c9
      subst c9
      have H1 : (spec_Look.j0 k a1 a2 true a0_0 a0_1 l0_2) = some (r1, r2) := by rw [if_neg (show ¬ (false = true) by decide)] at H; exact H
      clear H
      have H := H1
      clear H1
      have H' := Aside0.mk H
      clear H
      have hcz13_0 : w5.cell? ⟨gb146, 0, none⟩ = some (.int .i64 a0_0) := (blk_cell BK146.out 0).trans rfl
      have hcz13_1 : w5.cell? ⟨gb146, 1, none⟩ = some (.int .i64 a0_1) := (blk_cell BK146.out 1).trans rfl
      have hcz13_2 : w5.cell? ⟨gb146, 2, none⟩ = some (.slice A0_2 l0_2.length c0_2) := (blk_cell BK146.out 2).trans rfl
      have hfz13_0 := blk_frozen BK146.out 0
      have hfz13_1 := blk_frozen BK146.out 1
      have hfz13_2 := blk_frozen BK146.out 2
      go_wp2_with (first | (first | (go_at_call 8; (with_reducible refine (spec_SessionsOk.calls k a0_0 a0_1 _ _ l0_2 true _ ?side1 ?side2 A6.out).mono ?_); (case side1 => exact u4_3); (case side2 => exact HC0_2.out); rintro e w14 ⟨rfl, hb⟩; have n0_ := Aside0.mk (blk_below (g := gb146) (o := .cells #[.int .i64 a0_0, .int .i64 a0_1, .slice A0_2 l0_2.length c0_2] 29 (0, 0)) u4_1 hb); have n1_ := Aside0.mk (below_step u4_0 hb); clear BK146; clear HB; have BK146 := n0_; have HB := n1_; clear n0_ n1_; (try clear hb); (try clear hb2); (try clear hk); (try clear hi)) | (go_at_call 21; (with_reducible refine (spec_l01In.calls a1 1 999 false _ A8.out).mono ?_); rintro e w' ⟨rfl, ⟨nd, rfl⟩⟩; (try first | exact ⟨rfl, _, World.drewN_drewN _ _ _⟩ | exact ⟨rfl, _, Eq.trans (World.drewN_drewN _ _ _) (congrArg (World.drewN _) (Nat.add_assoc _ _ _))⟩))) | go_quiet (first | (go_at_call 8; (with_reducible refine (spec_SessionsOk.calls k a0_0 a0_1 _ _ l0_2 true _ ?side1 ?side2 A6.out).mono ?_); (case side1 => exact u4_3); (case side2 => exact HC0_2.out); rintro e w14 ⟨rfl, hb⟩; have n0_ := Aside0.mk (blk_below (g := gb146) (o := .cells #[.int .i64 a0_0, .int .i64 a0_1, .slice A0_2 l0_2.length c0_2] 29 (0, 0)) u4_1 hb); have n1_ := Aside0.mk (below_step u4_0 hb); clear BK146; clear HB; have BK146 := n0_; have HB := n1_; clear n0_ n1_; (try clear hb); (try clear hb2); (try clear hk); (try clear hi)) | (go_at_call 21; (with_reducible refine (spec_l01In.calls a1 1 999 false _ A8.out).mono ?_); rintro e w' ⟨rfl, ⟨nd, rfl⟩⟩; (try first | exact ⟨rfl, _, World.drewN_drewN _ _ _⟩ | exact ⟨rfl, _, Eq.trans (World.drewN_drewN _ _ _) (congrArg (World.drewN _) (Nat.add_assoc _ _ _))⟩))))
      go_meet
      case rel => exact ⟨_, (true), u4_8, H', ⟨by first | omega | exact Nat.le_refl _⟩, ⟨u4_1⟩, ⟨u4_0⟩⟩
    subst c9
    have H1 : ((spec_l01In.f a2 1 1000000).bind fun t149 => (spec_Look.j0 k a1 a2 (!t149) a0_0 a0_1 l0_2)) = some (r1, r2) := by rw [if_pos rfl] at H; exact H
    clear H
    have H := H1
    clear H1
    replace H := Option.bind_eq_some_iff.mp H
    obtain ⟨t149, A100, H⟩ := H
    replace H : (spec_Look.j0 k a1 a2 (!t149) a0_0 a0_1 l0_2) = some (r1, r2) := H
    have A10 := Aside0.mk A100
    clear A100
    have H' := Aside0.mk H
    clear H
    have hcz11_0 : w5.cell? ⟨gb146, 0, none⟩ = some (.int .i64 a0_0) := (blk_cell BK146.out 0).trans rfl
    have hcz11_1 : w5.cell? ⟨gb146, 1, none⟩ = some (.int .i64 a0_1) := (blk_cell BK146.out 1).trans rfl
    have hcz11_2 : w5.cell? ⟨gb146, 2, none⟩ = some (.slice A0_2 l0_2.length c0_2) := (blk_cell BK146.out 2).trans rfl
    have hfz11_0 := blk_frozen BK146.out 0
    have hfz11_1 := blk_frozen BK146.out 1
    have hfz11_2 := blk_frozen BK146.out 2
    go_wp2_with (first | (first | (go_at_call 8; (with_reducible refine (spec_SessionsOk.calls k a0_0 a0_1 _ _ l0_2 true _ ?side1 ?side2 A6.out).mono ?_); (case side1 => exact u4_3); (case side2 => exact HC0_2.out); rintro e w12 ⟨rfl, hb⟩; have n0_ := Aside0.mk (blk_below (g := gb146) (o := .cells #[.int .i64 a0_0, .int .i64 a0_1, .slice A0_2 l0_2.length c0_2] 29 (0, 0)) u4_1 hb); have n1_ := Aside0.mk (below_step u4_0 hb); clear BK146; clear HB; have BK146 := n0_; have HB := n1_; clear n0_ n1_; (try clear hb); (try clear hb2); (try clear hk); (try clear hi)) | (go_at_call 21; (with_reducible refine (spec_l01In.calls a1 1 999 true _ A8.out).mono ?_); rintro e w' ⟨rfl, ⟨nd, rfl⟩⟩; (try first | exact ⟨rfl, _, World.drewN_drewN _ _ _⟩ | exact ⟨rfl, _, Eq.trans (World.drewN_drewN _ _ _) (congrArg (World.drewN _) (Nat.add_assoc _ _ _))⟩)) | (go_at_call 21; (with_reducible refine (spec_l01In.calls a2 1 1000000 t149 _ A10.out).mono ?_); rintro e w' ⟨rfl, ⟨nd, rfl⟩⟩; (try first | exact ⟨rfl, _, World.drewN_drewN _ _ _⟩ | exact ⟨rfl, _, Eq.trans (World.drewN_drewN _ _ _) (congrArg (World.drewN _) (Nat.add_assoc _ _ _))⟩))) | go_quiet (first | (go_at_call 8; (with_reducible refine (spec_SessionsOk.calls k a0_0 a0_1 _ _ l0_2 true _ ?side1 ?side2 A6.out).mono ?_); (case side1 => exact u4_3); (case side2 => exact HC0_2.out); rintro e w12 ⟨rfl, hb⟩; have n0_ := Aside0.mk (blk_below (g := gb146) (o := .cells #[.int .i64 a0_0, .int .i64 a0_1, .slice A0_2 l0_2.length c0_2] 29 (0, 0)) u4_1 hb); have n1_ := Aside0.mk (below_step u4_0 hb); clear BK146; clear HB; have BK146 := n0_; have HB := n1_; clear n0_ n1_; (try clear hb); (try clear hb2); (try clear hk); (try clear hi)) | (go_at_call 21; (with_reducible refine (spec_l01In.calls a1 1 999 true _ A8.out).mono ?_); rintro e w' ⟨rfl, ⟨nd, rfl⟩⟩; (try first | exact ⟨rfl, _, World.drewN_drewN _ _ _⟩ | exact ⟨rfl, _, Eq.trans (World.drewN_drewN _ _ _) (congrArg (World.drewN _) (Nat.add_assoc _ _ _))⟩)) | (go_at_call 21; (with_reducible refine (spec_l01In.calls a2 1 1000000 t149 _ A10.out).mono ?_); rintro e w' ⟨rfl, ⟨nd, rfl⟩⟩; (try first | exact ⟨rfl, _, World.drewN_drewN _ _ _⟩ | exact ⟨rfl, _, Eq.trans (World.drewN_drewN _ _ _) (congrArg (World.drewN _) (Nat.add_assoc _ _ _))⟩))))
    go_meet
    case rel => exact ⟨_, (!t149), u4_8, H', ⟨by first | omega | exact Nat.le_refl _⟩, ⟨u4_1⟩, ⟨u4_0⟩⟩
  clear HC4
  try clear c1
  try clear p2
  try clear c7
  try clear c9
  try clear c12
  try clear hcz11_0
  try clear hcz11_1
  try clear hcz11_2
  try clear hcz13_0
  try clear hcz13_1
  try clear hcz13_2
  try clear hcz15_0
  try clear hcz15_1
  try clear hcz15_2
  try clear hfz11_0
  try clear hfz11_1
  try clear hfz11_2
  try clear hfz13_0
  try clear hfz13_1
  try clear hfz13_2
  try clear hfz15_0
  try clear hfz15_1
  try clear hfz15_2
  obtain ⟨kq, x21_3, rfl, HA, HJ3, BK146, HB⟩ := hcut
  cases kq with
  | zero => exact absurd HA.out (by simp [spec_Look.j0])
  | succ kj3 =>
    have H := HA.out
    clear HA
    simp only [spec_Look.j0] at H
    by_cases c17 : x21_3 = true
    · subst c17
      have H1 : (some (4, (⟨#[]⟩ : ByteArray))) = some (r1, r2) := by rw [if_pos rfl] at H; exact H
      clear H
      have H := H1
      clear H1
      simp only [Option.some.injEq, Prod.mk.injEq] at H
      obtain ⟨rfl, rfl⟩ := H
      go_wp2
      repeat (go_quiet (fail); try go_wp2)
      go_ret2
      exact ⟨by first | rfl | (simp [errW_none, errW_some] <;> rfl) | (simp [*, errW_none, errW_some] <;> rfl), u4_0⟩
    replace c17 := Bool.eq_false_iff.mpr c17
    subst c17
    have H1 : ((spec_l09Find.f kj3 a0_0 a0_1 l0_2 a1).bind fun bt150 => (if a2 = (wrap64 (bt150.2.1 + 1)) then (some (0, (⟨#[]⟩ : ByteArray))) else (if a2 = bt150.2.1 then (some (1, bt150.2.2.2)) else (if a2 < bt150.2.1 then (some (2, (⟨#[]⟩ : ByteArray))) else (some (3, (⟨#[]⟩ : ByteArray))))))) = some (r1, r2) := by rw [if_neg (show ¬ (false = true) by decide)] at H; exact H
    clear H
    have H := H1
    clear H1
    replace H := Option.bind_eq_some_iff.mp H
    obtain ⟨⟨t150, t151, t152, t153⟩, A180, H⟩ := H
    replace H : (if a2 = (wrap64 (t151 + 1)) then (some (0, (⟨#[]⟩ : ByteArray))) else (if a2 = t151 then (some (1, t153)) else (if a2 < t151 then (some (2, (⟨#[]⟩ : ByteArray))) else (some (3, (⟨#[]⟩ : ByteArray)))))) = some (r1, r2) := H
    have A18 := Aside0.mk A180
    clear A180
    have H9 := Aside0.mk H
    clear H
    have hcz19_0 : wc.cell? ⟨gb146, 0, none⟩ = some (.int .i64 a0_0) := (blk_cell BK146.out 0).trans rfl
    have hcz19_1 : wc.cell? ⟨gb146, 1, none⟩ = some (.int .i64 a0_1) := (blk_cell BK146.out 1).trans rfl
    have hcz19_2 : wc.cell? ⟨gb146, 2, none⟩ = some (.slice A0_2 l0_2.length c0_2) := (blk_cell BK146.out 2).trans rfl
    have hfz19_0 := blk_frozen BK146.out 0
    have hfz19_1 := blk_frozen BK146.out 1
    have hfz19_2 := blk_frozen BK146.out 2
    go_upto_if 25 with (first | (go_at_call 25; (with_reducible refine (spec_l09Find.calls kj3 a0_0 a0_1 _ _ l0_2 a1 t150 t151 t152 t153 _ ?side1 ?side2 A18.out).mono ?_); (case side1 => exact u4_3); (case side2 => exact HC0_2.out); rintro e w20 ⟨rfl, hb⟩; have n0_ := Aside0.mk (blk_below (g := gb146) (o := .cells #[.int .i64 a0_0, .int .i64 a0_1, .slice A0_2 l0_2.length c0_2] 29 (0, 0)) u4_1 hb); have n1_ := Aside0.mk (below_step u4_0 hb); clear BK146; clear HB; have BK146 := n0_; have HB := n1_; clear n0_ n1_; (try clear hb); (try clear hb2); (try clear hk); (try clear hi)) | ((with_reducible refine gate_dst (N := 8) rfl ?_); refine box_event ?hg (N := 8) ?hd (cs := #[.int .i64 0, .int .i64 0, .int .i64 0, .string (⟨#[]⟩ : ByteArray)]) (t := 45) ?hr ?_; (case hd => rfl); (case hg => rfl); (case hr => first | (go_simp; done) | (go_simp; rfl)); intro gb154 hg w21 hbox hb; have n0_ := Aside0.mk (blk_below (g := gb146) (o := .cells #[.int .i64 a0_0, .int .i64 a0_1, .slice A0_2 l0_2.length c0_2] 29 (0, 0)) u4_1 hb); have n1_ := Aside0.mk (below_step u4_0 hb); have n2_ := Aside0.mk (hbox); have n3_ := Aside0.mk ((by rw [hg]; exact (below_size u4_0) : w.heap.size ≤ gb154)); have n4_ := Aside0.mk ((by rw [hg]; exact (below_size u4_0) : w.heap.size ≤ gb154)); have n5_ := Aside0.mk ((by rw [hg]; exact Nat.ne_of_lt (blk_lt (g := gb146) (o := .cells #[.int .i64 a0_0, .int .i64 a0_1, .slice A0_2 l0_2.length c0_2] 29 (0, 0)) u4_1) : gb146 ≠ gb154)); have n6_ := Aside0.mk ((by rw [hg]; exact Nat.ne_of_gt (blk_lt (g := gb146) (o := .cells #[.int .i64 a0_0, .int .i64 a0_1, .slice A0_2 l0_2.length c0_2] 29 (0, 0)) u4_1) : gb154 ≠ gb146)); clear BK146; clear HB; have BK146 := n0_; have HB := n1_; have BK154 := n2_; have GW154 := n3_; have GE154 := n4_; have NB146_154 := n5_; have NB154_146 := n6_; clear n0_ n1_ n2_ n3_ n4_ n5_ n6_; clear hb hbox hg; have hnb22 := NB154_146.out; have hnc22 := NB146_154.out; have hcz23_0 : w21.cell? ⟨gb154, 0, none⟩ = some (.int .i64 0) := (blk_cell BK154.out 0).trans rfl; have hcz23_1 : w21.cell? ⟨gb154, 1, none⟩ = some (.int .i64 0) := (blk_cell BK154.out 1).trans rfl; have hcz23_2 : w21.cell? ⟨gb154, 2, none⟩ = some (.int .i64 0) := (blk_cell BK154.out 2).trans rfl; have hcz23_3 : w21.cell? ⟨gb154, 3, none⟩ = some (.string (⟨#[]⟩ : ByteArray)) := (blk_cell BK154.out 3).trans rfl; have hfz23_0 := blk_frozen BK154.out 0; have hfz23_1 := blk_frozen BK154.out 1; have hfz23_2 := blk_frozen BK154.out 2; have hfz23_3 := blk_frozen BK154.out 3))
    repeat (go_quiet (first | (go_at_call 25; (with_reducible refine (spec_l09Find.calls kj3 a0_0 a0_1 _ _ l0_2 a1 t150 t151 t152 t153 _ ?side1 ?side2 A18.out).mono ?_); (case side1 => exact u4_3); (case side2 => exact HC0_2.out); rintro e w20 ⟨rfl, hb⟩; have n0_ := Aside0.mk (blk_below (g := gb146) (o := .cells #[.int .i64 a0_0, .int .i64 a0_1, .slice A0_2 l0_2.length c0_2] 29 (0, 0)) u4_1 hb); have n1_ := Aside0.mk (below_step u4_0 hb); clear BK146; clear HB; have BK146 := n0_; have HB := n1_; clear n0_ n1_; (try clear hb); (try clear hb2); (try clear hk); (try clear hi)) | ((with_reducible refine gate_dst (N := 8) rfl ?_); refine box_event ?hg (N := 8) ?hd (cs := #[.int .i64 0, .int .i64 0, .int .i64 0, .string (⟨#[]⟩ : ByteArray)]) (t := 45) ?hr ?_; (case hd => rfl); (case hg => rfl); (case hr => first | (go_simp; done) | (go_simp; rfl)); intro gb154 hg w21 hbox hb; have n0_ := Aside0.mk (blk_below (g := gb146) (o := .cells #[.int .i64 a0_0, .int .i64 a0_1, .slice A0_2 l0_2.length c0_2] 29 (0, 0)) u4_1 hb); have n1_ := Aside0.mk (below_step u4_0 hb); have n2_ := Aside0.mk (hbox); have n3_ := Aside0.mk ((by rw [hg]; exact (below_size u4_0) : w.heap.size ≤ gb154)); have n4_ := Aside0.mk ((by rw [hg]; exact (below_size u4_0) : w.heap.size ≤ gb154)); have n5_ := Aside0.mk ((by rw [hg]; exact Nat.ne_of_lt (blk_lt (g := gb146) (o := .cells #[.int .i64 a0_0, .int .i64 a0_1, .slice A0_2 l0_2.length c0_2] 29 (0, 0)) u4_1) : gb146 ≠ gb154)); have n6_ := Aside0.mk ((by rw [hg]; exact Nat.ne_of_gt (blk_lt (g := gb146) (o := .cells #[.int .i64 a0_0, .int .i64 a0_1, .slice A0_2 l0_2.length c0_2] 29 (0, 0)) u4_1) : gb154 ≠ gb146)); clear BK146; clear HB; have BK146 := n0_; have HB := n1_; have BK154 := n2_; have GW154 := n3_; have GE154 := n4_; have NB146_154 := n5_; have NB154_146 := n6_; clear n0_ n1_ n2_ n3_ n4_ n5_ n6_; clear hb hbox hg; have hnb22 := NB154_146.out; have hnc22 := NB146_154.out; have hcz23_0 : w21.cell? ⟨gb154, 0, none⟩ = some (.int .i64 0) := (blk_cell BK154.out 0).trans rfl; have hcz23_1 : w21.cell? ⟨gb154, 1, none⟩ = some (.int .i64 0) := (blk_cell BK154.out 1).trans rfl; have hcz23_2 : w21.cell? ⟨gb154, 2, none⟩ = some (.int .i64 0) := (blk_cell BK154.out 2).trans rfl; have hcz23_3 : w21.cell? ⟨gb154, 3, none⟩ = some (.string (⟨#[]⟩ : ByteArray)) := (blk_cell BK154.out 3).trans rfl; have hfz23_0 := blk_frozen BK154.out 0; have hfz23_1 := blk_frozen BK154.out 1; have hfz23_2 := blk_frozen BK154.out 2; have hfz23_3 := blk_frozen BK154.out 3)); go_upto_if 25 with (first | (go_at_call 25; (with_reducible refine (spec_l09Find.calls kj3 a0_0 a0_1 _ _ l0_2 a1 t150 t151 t152 t153 _ ?side1 ?side2 A18.out).mono ?_); (case side1 => exact u4_3); (case side2 => exact HC0_2.out); rintro e w20 ⟨rfl, hb⟩; have n0_ := Aside0.mk (blk_below (g := gb146) (o := .cells #[.int .i64 a0_0, .int .i64 a0_1, .slice A0_2 l0_2.length c0_2] 29 (0, 0)) u4_1 hb); have n1_ := Aside0.mk (below_step u4_0 hb); clear BK146; clear HB; have BK146 := n0_; have HB := n1_; clear n0_ n1_; (try clear hb); (try clear hb2); (try clear hk); (try clear hi)) | ((with_reducible refine gate_dst (N := 8) rfl ?_); refine box_event ?hg (N := 8) ?hd (cs := #[.int .i64 0, .int .i64 0, .int .i64 0, .string (⟨#[]⟩ : ByteArray)]) (t := 45) ?hr ?_; (case hd => rfl); (case hg => rfl); (case hr => first | (go_simp; done) | (go_simp; rfl)); intro gb154 hg w21 hbox hb; have n0_ := Aside0.mk (blk_below (g := gb146) (o := .cells #[.int .i64 a0_0, .int .i64 a0_1, .slice A0_2 l0_2.length c0_2] 29 (0, 0)) u4_1 hb); have n1_ := Aside0.mk (below_step u4_0 hb); have n2_ := Aside0.mk (hbox); have n3_ := Aside0.mk ((by rw [hg]; exact (below_size u4_0) : w.heap.size ≤ gb154)); have n4_ := Aside0.mk ((by rw [hg]; exact (below_size u4_0) : w.heap.size ≤ gb154)); have n5_ := Aside0.mk ((by rw [hg]; exact Nat.ne_of_lt (blk_lt (g := gb146) (o := .cells #[.int .i64 a0_0, .int .i64 a0_1, .slice A0_2 l0_2.length c0_2] 29 (0, 0)) u4_1) : gb146 ≠ gb154)); have n6_ := Aside0.mk ((by rw [hg]; exact Nat.ne_of_gt (blk_lt (g := gb146) (o := .cells #[.int .i64 a0_0, .int .i64 a0_1, .slice A0_2 l0_2.length c0_2] 29 (0, 0)) u4_1) : gb154 ≠ gb146)); clear BK146; clear HB; have BK146 := n0_; have HB := n1_; have BK154 := n2_; have GW154 := n3_; have GE154 := n4_; have NB146_154 := n5_; have NB154_146 := n6_; clear n0_ n1_ n2_ n3_ n4_ n5_ n6_; clear hb hbox hg; have hnb22 := NB154_146.out; have hnc22 := NB146_154.out; have hcz23_0 : w21.cell? ⟨gb154, 0, none⟩ = some (.int .i64 0) := (blk_cell BK154.out 0).trans rfl; have hcz23_1 : w21.cell? ⟨gb154, 1, none⟩ = some (.int .i64 0) := (blk_cell BK154.out 1).trans rfl; have hcz23_2 : w21.cell? ⟨gb154, 2, none⟩ = some (.int .i64 0) := (blk_cell BK154.out 2).trans rfl; have hcz23_3 : w21.cell? ⟨gb154, 3, none⟩ = some (.string (⟨#[]⟩ : ByteArray)) := (blk_cell BK154.out 3).trans rfl; have hfz23_0 := blk_frozen BK154.out 0; have hfz23_1 := blk_frozen BK154.out 1; have hfz23_2 := blk_frozen BK154.out 2; have hfz23_3 := blk_frozen BK154.out 3)))
    have H := H9.out
    clear H9
    by_cases c24 : a2 = (wrap64 (t151 + 1))
    · rw [if_pos c24] at H
      have c24b0 : (a2 == (wrap64 (t151 + 1))) = true := beq_iff_eq.mpr c24
      have c24b1 : (a2 != (wrap64 (t151 + 1))) = false := bne_eq_false_iff_eq.mpr c24
      clear c24
      (first | rw [c24b0] | (simp only [i64_w, i32_w]; rw [c24b0]) | skip)
      simp only [Option.some.injEq, Prod.mk.injEq] at H
      obtain ⟨rfl, rfl⟩ := H
      go_wp2
      repeat (go_quiet (fail); try go_wp2)
      go_ret2
      exact ⟨by first | rfl | (simp [errW_none, errW_some] <;> rfl) | (simp [*, errW_none, errW_some] <;> rfl), u4_5⟩
    rw [if_neg c24] at H
    have c24b0 : (a2 == (wrap64 (t151 + 1))) = false := beq_eq_false_iff_ne.mpr c24
    have c24b1 : (a2 != (wrap64 (t151 + 1))) = true := bne_iff_ne.mpr c24
    (first | rw [c24b0] | (simp only [i64_w, i32_w]; rw [c24b0]) | skip)
    by_cases c25 : a2 = t151
    · rw [if_pos c25] at H
      have c25b0 : (a2 == t151) = true := beq_iff_eq.mpr c25
      have c25b1 : (a2 != t151) = false := bne_eq_false_iff_eq.mpr c25
      clear c25
      simp only [Option.some.injEq, Prod.mk.injEq] at H
      obtain ⟨rfl, rfl⟩ := H
      have hnb26 := NB154_146.out
      have hnc26 := NB146_154.out
      have hcz27_0 : w21.cell? ⟨gb154, 0, none⟩ = some (.int .i64 0) := (blk_cell BK154.out 0).trans rfl
      have hcz27_1 : w21.cell? ⟨gb154, 1, none⟩ = some (.int .i64 0) := (blk_cell BK154.out 1).trans rfl
      have hcz27_2 : w21.cell? ⟨gb154, 2, none⟩ = some (.int .i64 0) := (blk_cell BK154.out 2).trans rfl
      have hcz27_3 : w21.cell? ⟨gb154, 3, none⟩ = some (.string (⟨#[]⟩ : ByteArray)) := (blk_cell BK154.out 3).trans rfl
      have hfz27_0 := blk_frozen BK154.out 0
      have hfz27_1 := blk_frozen BK154.out 1
      have hfz27_2 := blk_frozen BK154.out 2
      have hfz27_3 := blk_frozen BK154.out 3
      go_wp2
      repeat (go_quiet (fail); try go_wp2)
      go_ret2
      exact ⟨by first | rfl | (simp [errW_none, errW_some] <;> rfl) | (simp [*, errW_none, errW_some] <;> rfl), u4_5⟩
    rw [if_neg c25] at H
    have c25b0 : (a2 == t151) = false := beq_eq_false_iff_ne.mpr c25
    have c25b1 : (a2 != t151) = true := bne_iff_ne.mpr c25
    by_cases c28 : a2 < t151
    · rw [if_pos c28] at H
      have c28b0 : decide (a2 < t151) = true := decide_eq_true c28
      clear c28
      simp only [Option.some.injEq, Prod.mk.injEq] at H
      obtain ⟨rfl, rfl⟩ := H
      have hnb29 := NB154_146.out
      have hnc29 := NB146_154.out
      have hcz30_0 : w21.cell? ⟨gb154, 0, none⟩ = some (.int .i64 0) := (blk_cell BK154.out 0).trans rfl
      have hcz30_1 : w21.cell? ⟨gb154, 1, none⟩ = some (.int .i64 0) := (blk_cell BK154.out 1).trans rfl
      have hcz30_2 : w21.cell? ⟨gb154, 2, none⟩ = some (.int .i64 0) := (blk_cell BK154.out 2).trans rfl
      have hcz30_3 : w21.cell? ⟨gb154, 3, none⟩ = some (.string (⟨#[]⟩ : ByteArray)) := (blk_cell BK154.out 3).trans rfl
      have hfz30_0 := blk_frozen BK154.out 0
      have hfz30_1 := blk_frozen BK154.out 1
      have hfz30_2 := blk_frozen BK154.out 2
      have hfz30_3 := blk_frozen BK154.out 3
      go_wp2
      repeat (go_quiet (fail); try go_wp2)
      go_ret2
      exact ⟨by first | rfl | (simp [errW_none, errW_some] <;> rfl) | (simp [*, errW_none, errW_some] <;> rfl), u4_5⟩
    rw [if_neg c28] at H
    have c28b0 : decide (a2 < t151) = false := decide_eq_false c28
    clear c28
    simp only [Option.some.injEq, Prod.mk.injEq] at H
    obtain ⟨rfl, rfl⟩ := H
    have hnb31 := NB154_146.out
    have hnc31 := NB146_154.out
    have hcz32_0 : w21.cell? ⟨gb154, 0, none⟩ = some (.int .i64 0) := (blk_cell BK154.out 0).trans rfl
    have hcz32_1 : w21.cell? ⟨gb154, 1, none⟩ = some (.int .i64 0) := (blk_cell BK154.out 1).trans rfl
    have hcz32_2 : w21.cell? ⟨gb154, 2, none⟩ = some (.int .i64 0) := (blk_cell BK154.out 2).trans rfl
    have hcz32_3 : w21.cell? ⟨gb154, 3, none⟩ = some (.string (⟨#[]⟩ : ByteArray)) := (blk_cell BK154.out 3).trans rfl
    have hfz32_0 := blk_frozen BK154.out 0
    have hfz32_1 := blk_frozen BK154.out 1
    have hfz32_2 := blk_frozen BK154.out 2
    have hfz32_3 := blk_frozen BK154.out 3
    go_wp2
    repeat (go_quiet (fail); try go_wp2)
    go_ret2
    exact ⟨by first | rfl | (simp [errW_none, errW_some] <;> rfl) | (simp [*, errW_none, errW_some] <;> rfl), u4_5⟩

/-! ### impl_Session: function 37 -/
def impl_Session.p (a1_0 : Int) (a1_1 : Int) (a1_2 : Int) (a1_3 : ByteArray) (y : S45) : Bool := (y.f2 == a1_2)
def impl_Session.f (l0 : List S45) (a1_0 : Int) (a1_1 : Int) (a1_2 : Int) (a1_3 : ByteArray) : Option Bool := some (l0.any (impl_Session.p a1_0 a1_1 a1_2 a1_3))
set_option maxHeartbeats 400000 in
theorem impl_Session.lit (b : Nat) (a1_0 : Int) (a1_1 : Int) (a1_2 : Int) (a1_3 : ByteArray) (y : S45) (w : World) (hb : w.heap[b]? = some (.cells #[.int .i64 a1_0, .int .i64 a1_1, .int .i64 a1_2, .string a1_3] 45 (0, 0))) :
    Calls Try.prog 38 #[.agg #[.int .i64 y.f0, .int .i64 y.f1, .int .i64 y.f2, .string y.f3], .pointer (some ⟨b, 0, none⟩)] w fun e w' => e = .returned (.bool (impl_Session.p a1_0 a1_1 a1_2 a1_3 y)) ∧ Below w.heap.size w w' := by
  have hu := Try.underlying45
  have hu2 := Try.underlying45
  have hc2 : ∀ o, (w.alloc o).cell? ⟨b, 2, none⟩ = some (.int .i64 a1_2) := fun o => (blk_cell (blk_alloc hb o) 2).trans rfl
  go_enter Try.func38, Try.ntmps38
  go_wp2
  go_ret
  exact ⟨rfl, below_alloc (Below.refl _ _) _⟩
set_option maxHeartbeats 1600000 in
theorem impl_Session.idx (p : S45 → Bool) (bs : Array Value) (A0 : Option Addr) (c0 : Nat) (l0 : List S45) (w : World) (hr0 : Kd.C k45 w A0 l0.length l0) (hc0 : l0.length ≤ c0)
    (hf : ∀ (y : S45) (W : World), Below w.heap.size w W → Calls Try.prog 38 (#[.agg #[.int .i64 y.f0, .int .i64 y.f1, .int .i64 y.f2, .string y.f3]] ++ bs) W fun e w' => e = .returned (.bool (p y)) ∧ Below W.heap.size W w') :
    Calls Try.prog 40 #[.slice A0 l0.length c0, .func (.func 38) #[] bs] w fun e w' => e = .returned (.int .i64 (Go.Proofs.Ytjdpifafijcpbaa.Slc.idxB p l0)) ∧ Below w.heap.size w w' := by
  have hu45 := Try.underlying45
  have hn : l0.length ≤ 9223372036854775807 := hr0.2.1
  have HR := Aside0.mk hr0
  have HF := Aside0.mk hf
  clear hr0 hf
  go_enter Try.func40, Try.ntmps40
  go_wp2
  go_loopg [5, 8] l0.length (fun gg _ s8 wr => ∃ kk : Int, 0 ≤ kk ∧ kk ≤ l0.length ∧ l0.length - kk.toNat ≤ gg ∧ s8 = .int .i64 kk ∧ Aside0 (Below w.heap.size w wr) ∧ Aside0 (∀ j : Nat, (j : Int) < kk → p (l0.getD j z45) = false))
  case atStart => exact ⟨0, by omega, by omega, by omega, rfl, ⟨Below.refl _ w⟩, ⟨fun j hj => by omega⟩⟩
  obtain ⟨kk, h0, hk, hg, rfl, BW, HA⟩ := hrel
  by_cases hlt : kk < (l0.length : Int)
  rotate_left
  · go_wp2
    go_ret
    refine ⟨?_, BW.out⟩
    rw [Go.Proofs.Ytjdpifafijcpbaa.Slc.idxB_miss p l0 z45 (fun j hj => HA.out j (by omega))]
    rfl
  obtain ⟨ad, e, hx0, hx1, hx2, hx3⟩ := at_T45 HR.out kk h0 hlt
  cases e
  replace hx0 := (BW.out.cell (World.block_lt_of_cell? w _ hx0)).trans hx0
  replace hx1 := (BW.out.cell (World.block_lt_of_cell? w _ hx1)).trans hx1
  replace hx2 := (BW.out.cell (World.block_lt_of_cell? w _ hx2)).trans hx2
  replace hx3 := (BW.out.cell (World.block_lt_of_cell? w _ hx3)).trans hx3
  have HC := Aside0.mk (HF.out (l0.getD kk.toNat z45) wr BW.out)
  cases hq : p (l0.getD kk.toNat z45) with
  | true =>
    have HQ := Aside0.mk hq
    rw [hq] at HC
    clear hq
    go_wp2_with (go_at_call 38; refine HC.out.mono ?_; rintro e w' ⟨rfl, hb'⟩)
    go_ret
    refine ⟨?_, below_step BW.out hb'⟩
    rw [Go.Proofs.Ytjdpifafijcpbaa.Slc.idxB_hit p l0 z45 kk.toNat (by omega) HQ.out (fun j hj => HA.out j (by omega)), Int.toNat_of_nonneg h0]
    rfl
  | false =>
    have HQ := Aside0.mk hq
    rw [hq] at HC
    clear hq
    go_wp2_with (go_at_call 38; refine HC.out.mono ?_; rintro e w' ⟨rfl, hb'⟩)
    go_roundg (l0.length - (kk + 1).toNat)
    case measure => omega
    case rel =>
      refine ⟨kk + 1, by omega, by omega, by omega, by go_num, ⟨below_step BW.out hb'⟩, ⟨fun j hj => ?_⟩⟩
      by_cases e : (j : Int) = kk
      rotate_left
      · exact HA.out j (by omega)
      have := HQ.out
      rw [← e, Int.toNat_natCast] at this
      exact this
set_option maxHeartbeats 400000 in
theorem impl_Session.calls (A0 : Option Addr) (c0 : Nat) (l0 : List S45) (a1_0 : Int) (a1_1 : Int) (a1_2 : Int) (a1_3 : ByteArray) (r : Bool) (w : World) {b : Nat} (hr0 : Kd.C k45 w A0 l0.length l0) (hc0 : l0.length ≤ c0)  (hb : w.heap[b]? = some (.cells #[.int .i64 a1_0, .int .i64 a1_1, .int .i64 a1_2, .string a1_3] 45 (0, 0))) (h : impl_Session.f l0 a1_0 a1_1 a1_2 a1_3 = some r) :
    Calls Try.prog 37 #[.slice A0 l0.length c0, .func (.func 38) #[] #[.pointer (some ⟨b, 0, none⟩)]] w fun e w' => e = .returned (.bool r) ∧ Below w.heap.size w w' := by
  obtain rfl := Option.some.inj h
  have HI := Aside0.mk (impl_Session.idx (impl_Session.p a1_0 a1_1 a1_2 a1_3) #[.pointer (some ⟨b, 0, none⟩)] A0 c0 l0 w hr0 hc0 (fun y W hW => impl_Session.lit b a1_0 a1_1 a1_2 a1_3 y W ((hW.block b (blk_lt hb)).trans hb)))
  clear hr0 hc0 hb h
  go_enter Try.func37, Try.ntmps37
  go_wp2_with (go_at_call 40; refine HI.out.mono ?_; rintro e w' ⟨rfl, hb'⟩)
  go_ret
  exact ⟨(by first | (rw [← Go.Proofs.Ytjdpifafijcpbaa.Slc.idxB_any]; done) | (rw [← Go.Proofs.Ytjdpifafijcpbaa.Slc.idxB_any]; rfl)), hb'⟩


end Go.Proofs.Ytjdpifafijcpbaa.QFnExactLook
