-- Printed by the session's own program wip/prx.py.
import Derived.Test.YtjdpifafijcpbaaQFnExactForgetx0
namespace Go.Proofs.Ytjdpifafijcpbaa.QFnExactForget
open Go.RowKit Go.Proofs.YtjdpifafijcpbaaW.PrintWords Go.Proofs.YtjdpifafijcpbaaW.PrintLast Go.Proofs.YtjdpifafijcpbaaW.PrintMore
attribute [local go_sem] max2_int min2_int max_two min_two max_three min_three max_four min_four Go.Proofs.Ytjdpifafijcpbaa.Set.isSome_setCell   -- for this text's walks alone
set_option linter.unusedVariables false
set_option linter.unusedSimpArgs false

-- squeezed
theorem u5_0 {P : Prop} (h : P := by repeat (first | (with_reducible first | exact HB.out | apply below_alloc | apply pw_below_drewN | apply below_drew1 | refine below_set ?_ GE153.out | refine below_set ?_ GE154.out | refine below_set ?_ GE155.out | refine below_set ?_ GE156.out) | exact HB.out)) : P := h
theorem u5_1 {P : Prop} (h : P := by (with_reducible repeat (first | refine blk_drewN ?_ _ | refine blk_drew ?_ | refine blk_alloc ?_ _)); exact BK154.out) : P := h
theorem u5_2 {P : Prop} (h : P := by (with_reducible repeat (first | refine blk_drewN ?_ _ | refine blk_drew ?_ | refine blk_alloc ?_ _)); exact BK153.out) : P := h
theorem u5_3 {P : Prop} (h : P := by (with_reducible repeat (first | refine blk_drewN ?_ _ | refine blk_drew ?_ | refine blk_alloc ?_ _)); exact BK155.out) : P := h
theorem u5_4 {P : Prop} (h : P := by first | (rw [add_block]; exact hn164_0) | (show (Addr.add _ _).block ≠ _; rw [add_block]; exact hn164_0) | exact hn164_0) : P := h
theorem u5_5 {P : Prop} (h : P := by (with_reducible repeat (first | refine blk_drewN ?_ _ | refine blk_drew ?_ | refine blk_alloc ?_ _)); exact BK156.out) : P := h
theorem u5_6 {P : Prop} (h : P := by (with_reducible repeat (first | apply Kd.R_alloc | apply Kd.R_drewN | apply Kd.R_drew)); exact HO_157002.out) : P := h
theorem u5_7 {P : Prop} (h : P := by (with_reducible repeat (first | refine blk_drewN ?_ _ | refine blk_drew ?_ | refine blk_alloc ?_ _)); refine blk_far ?_ NB153_156.out _; (with_reducible repeat (first | refine blk_drewN ?_ _ | refine blk_drew ?_ | refine blk_alloc ?_ _)); exact BK153.out) : P := h
theorem u5_8 {P : Prop} (h : P := by (with_reducible repeat (first | refine blk_drewN ?_ _ | refine blk_drew ?_ | refine blk_alloc ?_ _)); refine blk_far ?_ NB154_156.out _; (with_reducible repeat (first | refine blk_drewN ?_ _ | refine blk_drew ?_ | refine blk_alloc ?_ _)); exact BK154.out) : P := h
theorem u5_9 {P : Prop} (h : P := by (with_reducible repeat (first | refine blk_drewN ?_ _ | refine blk_drew ?_ | refine blk_alloc ?_ _)); refine blk_far ?_ NB155_156.out _; (with_reducible repeat (first | refine blk_drewN ?_ _ | refine blk_drew ?_ | refine blk_alloc ?_ _)); exact BK155.out) : P := h
theorem u5_10 {P : Prop} (h : P := by first | (with_reducible assumption) | assumption) : P := h
theorem u5_11 {P : Prop} (h : P := by first | rfl | (simp; done) | (simp [*]; done)) : P := h
theorem u5_12 {P : Prop} (h : P := by repeat (first | (with_reducible first | exact HB.out | apply below_alloc | apply pw_below_drewN | apply below_drew1 | refine below_set ?_ GE153.out | refine below_set ?_ GE154.out | refine below_set ?_ GE155.out) | exact HB.out)) : P := h
theorem u5_13 {P : Prop} (h : P := by repeat (first | (with_reducible first | exact HB.out | apply below_alloc | apply pw_below_drewN | apply below_drew1 | refine below_set ?_ GE153.out | refine below_set ?_ GE154.out) | exact HB.out)) : P := h
theorem u5_14 {P : Prop} (h : P := by repeat (first | (with_reducible first | exact HB.out | apply below_alloc | apply pw_below_drewN | apply below_drew1 | refine below_set ?_ GE153.out) | exact HB.out)) : P := h
theorem u5_15 {P : Prop} (h : P := by (with_reducible repeat (first | refine blk_drewN ?_ _ | refine blk_drew ?_ | refine blk_alloc ?_ _)); refine blk_put (cs := #[.int .i64 a0_0, .int .i64 a0_1, u157002]) ?_ 2 _ rfl; (with_reducible repeat (first | refine blk_drewN ?_ _ | refine blk_drew ?_ | refine blk_alloc ?_ _)); exact BK156.out) : P := h
theorem u5_16 {P : Prop} (h : P := by repeat (first | (with_reducible first | exact HB.out | apply below_alloc | apply pw_below_drewN | apply below_drew1) | exact HB.out)) : P := h
theorem u5_17 {P : Prop} (h : P := by have := HK1.out; have := HJ17.out; omega) : P := h
theorem u5_18 {P : Prop} (h : P := by have := World.block_lt_of_cell? _ _ hx164_0; first | rwa [add_block] at this | exact this) : P := h
/-! ### spec_l09Put: function 28 -/
mutual
def spec_l09Put.l0 : Nat → Int → Bool → Int → Int → Int → List (S45) → Int → Int → Int → ByteArray → Int → Int → List (S45) → Option (Int × Int × (List (S45)))
  | 0, _, _, _, _, _, _, _, _, _, _, _, _, _ => none
  | k + 1, x1, x8, x9, x154000, x154001, x154002, x155000, x155001, x155002, x155003, x157000, x157001, x157002 => if x9 < (x154002.length : Int) then (if x8 = true then (spec_l09Put.j1 k x1 x8 x9 false x154000 x154001 x154002 x155000 x155001 x155002 x155003 x157000 x157001 x157002) else (if 0 ≤ x9 then (spec_l09Put.j1 k x1 x8 x9 (decide (((rd_T45 x154002 x9).f0) > x155000)) x154000 x154001 x154002 x155000 x155001 x155002 x155003 x157000 x157001 x157002) else (none))) else (if x8 = true then (some (x157000, x157001, x157002)) else (if x157002.length < 3518437208883 then (some (x157000, x157001, (x157002 ++ [(⟨x155000, x155001, x155002, x155003⟩ : S45)]))) else (none)))
def spec_l09Put.j1 : Nat → Int → Bool → Int → Bool → Int → Int → List (S45) → Int → Int → Int → ByteArray → Int → Int → List (S45) → Option (Int × Int × (List (S45)))
  | 0, _, _, _, _, _, _, _, _, _, _, _, _, _, _ => none
  | k + 1, x1, x8, x9, x37, x154000, x154001, x154002, x155000, x155001, x155002, x155003, x157000, x157001, x157002 => if x37 = true then (if x157002.length < 3518437208883 then ((some (x157002 ++ [(⟨x155000, x155001, x155002, x155003⟩ : S45)] : List (S45))).bind fun y161 => (if 0 ≤ x9 then (if x9 < (x154002.length : Int) then (if ((rd_T45 x154002 x9).f0) = x1 then (spec_l09Put.l0 k x1 true (wrap64 (x9 + 1)) x154000 x154001 x154002 x155000 x155001 x155002 x155003 x157000 x157001 y161) else (if y161.length < 3518437208883 then (spec_l09Put.l0 k x1 true (wrap64 (x9 + 1)) x154000 x154001 x154002 x155000 x155001 x155002 x155003 x157000 x157001 (y161 ++ [(⟨(rd_T45 x154002 x9).f0, (rd_T45 x154002 x9).f1, (rd_T45 x154002 x9).f2, (rd_T45 x154002 x9).f3⟩ : S45)])) else (none))) else (none)) else (none))) else (none)) else (if 0 ≤ x9 then (if x9 < (x154002.length : Int) then (if ((rd_T45 x154002 x9).f0) = x1 then (spec_l09Put.l0 k x1 x8 (wrap64 (x9 + 1)) x154000 x154001 x154002 x155000 x155001 x155002 x155003 x157000 x157001 x157002) else (if x157002.length < 3518437208883 then (spec_l09Put.l0 k x1 x8 (wrap64 (x9 + 1)) x154000 x154001 x154002 x155000 x155001 x155002 x155003 x157000 x157001 (x157002 ++ [(⟨(rd_T45 x154002 x9).f0, (rd_T45 x154002 x9).f1, (rd_T45 x154002 x9).f2, (rd_T45 x154002 x9).f3⟩ : S45)])) else (none))) else (none)) else (none))
end
def spec_l09Put.f (k : Nat) (a0_0 : Int) (a0_1 : Int) (l0_2 : List (S45)) (a1 : Int) (a2_0 : Int) (a2_1 : Int) (a2_2 : Int) (a2_3 : ByteArray) : Option (Int × Int × (List (S45))) := spec_l09Put.l0 k a1 (a2_0 == 0) 0 a0_0 a0_1 l0_2 a2_0 a2_1 a2_2 a2_3 a0_0 a0_1 ([] : List (S45))
theorem spec_l09Put.mono_l : ∀ k, (∀ y0 y1 y2 y3 y4 y5 y6 y7 y8 y9 y10 y11 y12, LeO (spec_l09Put.l0 k y0 y1 y2 y3 y4 y5 y6 y7 y8 y9 y10 y11 y12) (spec_l09Put.l0 (k + 1) y0 y1 y2 y3 y4 y5 y6 y7 y8 y9 y10 y11 y12)) ∧ (∀ y0 y1 y2 y3 y4 y5 y6 y7 y8 y9 y10 y11 y12 y13, LeO (spec_l09Put.j1 k y0 y1 y2 y3 y4 y5 y6 y7 y8 y9 y10 y11 y12 y13) (spec_l09Put.j1 (k + 1) y0 y1 y2 y3 y4 y5 y6 y7 y8 y9 y10 y11 y12 y13))
  | 0 => ⟨fun _ _ _ _ _ _ _ _ _ _ _ _ _ r h => by simp [spec_l09Put.l0] at h, fun _ _ _ _ _ _ _ _ _ _ _ _ _ _ r h => by simp [spec_l09Put.j1] at h⟩
  | k + 1 => by
    obtain ⟨ih0, ih1⟩ := spec_l09Put.mono_l k
    refine ⟨?_, ?_⟩
    · intro y0 y1 y2 y3 y4 y5 y6 y7 y8 y9 y10 y11 y12
      unfold spec_l09Put.l0
      repeat' first
      | (with_reducible exact ih0 _ _ _ _ _ _ _ _ _ _ _ _ _)
      | (with_reducible exact ih1 _ _ _ _ _ _ _ _ _ _ _ _ _ _)
      | (with_reducible exact LeO.refl _)
      | (with_reducible exact LeO.none _)
      | (with_reducible refine LeO.ite ?_ ?_)
      | (with_reducible refine LeO.bind ?_ (fun _ => ?_))
      | exact ih0 _ _ _ _ _ _ _ _ _ _ _ _ _
      | exact ih1 _ _ _ _ _ _ _ _ _ _ _ _ _ _
      | exact LeO.none _
      | refine LeO.ite ?_ ?_
      | refine LeO.bind ?_ (fun _ => ?_)
    · intro y0 y1 y2 y3 y4 y5 y6 y7 y8 y9 y10 y11 y12 y13
      unfold spec_l09Put.j1
      repeat' first
      | (with_reducible exact ih0 _ _ _ _ _ _ _ _ _ _ _ _ _)
      | (with_reducible exact ih1 _ _ _ _ _ _ _ _ _ _ _ _ _ _)
      | (with_reducible exact LeO.refl _)
      | (with_reducible exact LeO.none _)
      | (with_reducible refine LeO.ite ?_ ?_)
      | (with_reducible refine LeO.bind ?_ (fun _ => ?_))
      | exact ih0 _ _ _ _ _ _ _ _ _ _ _ _ _
      | exact ih1 _ _ _ _ _ _ _ _ _ _ _ _ _ _
      | exact LeO.none _
      | refine LeO.ite ?_ ?_
      | refine LeO.bind ?_ (fun _ => ?_)
theorem spec_l09Put.mono : ∀ a0 a1 a2 a3 a4 a5 a6 a7 k, LeO (spec_l09Put.f k a0 a1 a2 a3 a4 a5 a6 a7) (spec_l09Put.f (k + 1) a0 a1 a2 a3 a4 a5 a6 a7) := by
  intro a0 a1 a2 a3 a4 a5 a6 a7 k
  obtain ⟨ih0, ih1⟩ := spec_l09Put.mono_l k
  unfold spec_l09Put.f
  repeat' first
      | (with_reducible exact ih0 _ _ _ _ _ _ _ _ _ _ _ _ _)
      | (with_reducible exact ih1 _ _ _ _ _ _ _ _ _ _ _ _ _ _)
      | (with_reducible exact LeO.refl _)
      | (with_reducible exact LeO.none _)
      | (with_reducible refine LeO.ite ?_ ?_)
      | (with_reducible refine LeO.bind ?_ (fun _ => ?_))
      | exact ih0 _ _ _ _ _ _ _ _ _ _ _ _ _
      | exact ih1 _ _ _ _ _ _ _ _ _ _ _ _ _ _
      | exact LeO.none _
      | refine LeO.ite ?_ ?_
      | refine LeO.bind ?_ (fun _ => ?_)
def spec_l09Put.T6 : Bool × List (List Nat × List Nat) := (true, [([], []), ([0], [0]), ([1], [1]), ([2], [2]), ([3, 2], [2, 3]), ([2], [2]), ([4, 5, 2], [2, 4, 5]), ([6, 2], [2, 6]), ([7, 2], [2, 7]), ([2], [2]), ([9, 2], [2, 9]), ([8, 10, 2], [2, 8, 10]), ([2, 11], [2, 11])])
def spec_l09Put.B6 : List Nat := [0, 1, 3, 7, 15, 7, 63, 127, 255, 7, 519, 2047, 4095]
theorem spec_l09Put.tab6 : rtab .any (opsOf Try.f28 6) = spec_l09Put.T6 := by kernel_rfl
theorem spec_l09Put.bits6 : waitsOk spec_l09Put.T6.2 spec_l09Put.B6 = true := by kernel_rfl
def spec_l09Put.T10 : Bool × List (List Nat × List Nat) := (true, [([], []), ([0], [0]), ([], []), ([2], [2]), ([], []), ([3, 4], [3, 4]), ([5], [5]), ([6], [6]), ([1, 7], [1, 7]), ([0, 1, 2, 3, 4, 5, 6, 7, 8], []), ([9, 8, 8, 0, 1, 2, 3, 4, 5, 6, 7, 8], [8, 9])])
def spec_l09Put.B10 : List Nat := [0, 1, 0, 4, 0, 28, 60, 124, 255, 511, 1023]
theorem spec_l09Put.tab10 : rtab .any (opsOf Try.f28 10) = spec_l09Put.T10 := by kernel_rfl
theorem spec_l09Put.bits10 : waitsOk spec_l09Put.T10.2 spec_l09Put.B10 = true := by kernel_rfl
set_option maxHeartbeats 8000000 in
set_option maxRecDepth 100000 in
theorem spec_l09Put.calls (k : Nat) (a0_0 : Int) (a0_1 : Int) (A0_2 : Option Addr) (c0_2 : Nat) (l0_2 : List (S45)) (a1 : Int) (a2_0 : Int) (a2_1 : Int) (a2_2 : Int) (a2_3 : ByteArray) (r1 : Int) (r2 : Int) (r3 : List (S45)) (w : World) (hr0_2 : Kd.C k45 w A0_2 l0_2.length l0_2) (hc0_2 : l0_2.length ≤ c0_2) (h : spec_l09Put.f k a0_0 a0_1 l0_2 a1 a2_0 a2_1 a2_2 a2_3 = some (r1, r2, r3)) :
    Calls Try.prog 28 #[.agg #[.int .i64 a0_0, .int .i64 a0_1, .slice A0_2 l0_2.length c0_2], .int .i64 a1, .agg #[.int .i64 a2_0, .int .i64 a2_1, .int .i64 a2_2, .string a2_3]] w fun e w' => ∃ v2_ : Value, e = .returned (.agg #[.int .i64 r1, .int .i64 r2, v2_]) ∧ Kd.R k45 45 w' w.heap.size (fun _ => True) v2_ r3 ∧ Below w.heap.size w w' := by
  have hu29 := Try.underlying29
  have hu45 := Try.underlying45
  have HR0_2 := Aside0.mk hr0_2
  have HC0_2 := Aside0.mk hc0_2
  clear hr0_2 hc0_2
  have HB := Aside0.mk (Below.refl w.heap.size w)
  have H : (spec_l09Put.l0 k a1 (a2_0 == 0) 0 a0_0 a0_1 l0_2 a2_0 a2_1 a2_2 a2_3 a0_0 a0_1 ([] : List (S45))) = some (r1, r2, r3) := h
  clear h
  have H' := Aside0.mk H
  clear H
  go_enter Try.func28, Try.ntmps28
  go_wp2_with (first | ((with_reducible refine gate_dst (N := 3) rfl ?_); refine box_event ?hg (N := 3) ?hd (cs := #[.int .i64 a0_0, .int .i64 a0_1, .slice A0_2 l0_2.length c0_2]) (t := 29) ?hr ?_; (case hd => rfl); (case hg => rfl); (case hr => first | (go_simp; done) | (go_simp; rfl)); intro gb153 hg w4 hbox hb; have n0_ := Aside0.mk (below_step u5_16 hb); have n1_ := Aside0.mk (hbox); have n2_ := Aside0.mk ((by rw [hg]; exact (below_size u5_16) : w.heap.size ≤ gb153)); have n3_ := Aside0.mk ((by rw [hg]; exact (below_size u5_16) : w.heap.size ≤ gb153)); clear HB; have HB := n0_; have BK153 := n1_; have GW153 := n2_; have GE153 := n3_; clear n0_ n1_ n2_ n3_; clear hb hbox hg) | ((with_reducible refine gate_dst (N := 5) rfl ?_); refine box_event ?hg (N := 5) ?hd (cs := #[.int .i64 a2_0, .int .i64 a2_1, .int .i64 a2_2, .string a2_3]) (t := 45) ?hr ?_; (case hd => rfl); (case hg => rfl); (case hr => first | (go_simp; done) | (go_simp; rfl)); intro gb154 hg w5 hbox hb; have n0_ := Aside0.mk (blk_below (g := gb153) (o := .cells #[.int .i64 a0_0, .int .i64 a0_1, .slice A0_2 l0_2.length c0_2] 29 (0, 0)) u5_2 hb); have n1_ := Aside0.mk (below_step u5_14 hb); have n2_ := Aside0.mk (hbox); have n3_ := Aside0.mk ((by rw [hg]; exact (below_size u5_14) : w.heap.size ≤ gb154)); have n4_ := Aside0.mk ((by rw [hg]; exact (below_size u5_14) : w.heap.size ≤ gb154)); have n5_ := Aside0.mk ((by rw [hg]; exact Nat.ne_of_lt (blk_lt (g := gb153) (o := .cells #[.int .i64 a0_0, .int .i64 a0_1, .slice A0_2 l0_2.length c0_2] 29 (0, 0)) u5_2) : gb153 ≠ gb154)); have n6_ := Aside0.mk ((by rw [hg]; exact Nat.ne_of_gt (blk_lt (g := gb153) (o := .cells #[.int .i64 a0_0, .int .i64 a0_1, .slice A0_2 l0_2.length c0_2] 29 (0, 0)) u5_2) : gb154 ≠ gb153)); clear BK153; clear HB; have BK153 := n0_; have HB := n1_; have BK154 := n2_; have GW154 := n3_; have GE154 := n4_; have NB153_154 := n5_; have NB154_153 := n6_; clear n0_ n1_ n2_ n3_ n4_ n5_ n6_; clear hb hbox hg) | ((with_reducible refine gate_dst (N := 6) rfl ?_); refine box_event ?hg (N := 6) ?hd (cs := #[.int .i64 0, .int .i64 0, .slice none 0 0]) (t := 29) ?hr ?_; (case hd => rfl); (case hg => rfl); (case hr => first | (go_simp; done) | (go_simp; rfl)); intro gb155 hg w6 hbox hb; have n0_ := Aside0.mk (blk_below (g := gb153) (o := .cells #[.int .i64 a0_0, .int .i64 a0_1, .slice A0_2 l0_2.length c0_2] 29 (0, 0)) u5_2 hb); have n1_ := Aside0.mk (blk_below (g := gb154) (o := .cells #[.int .i64 a2_0, .int .i64 a2_1, .int .i64 a2_2, .string a2_3] 45 (0, 0)) u5_1 hb); have n2_ := Aside0.mk (below_step u5_13 hb); have n3_ := Aside0.mk (hbox); have n4_ := Aside0.mk ((by rw [hg]; exact (below_size u5_13) : w.heap.size ≤ gb155)); have n5_ := Aside0.mk ((by rw [hg]; exact (below_size u5_13) : w.heap.size ≤ gb155)); have n6_ := Aside0.mk ((by rw [hg]; exact Nat.ne_of_lt (blk_lt (g := gb153) (o := .cells #[.int .i64 a0_0, .int .i64 a0_1, .slice A0_2 l0_2.length c0_2] 29 (0, 0)) u5_2) : gb153 ≠ gb155)); have n7_ := Aside0.mk ((by rw [hg]; exact Nat.ne_of_gt (blk_lt (g := gb153) (o := .cells #[.int .i64 a0_0, .int .i64 a0_1, .slice A0_2 l0_2.length c0_2] 29 (0, 0)) u5_2) : gb155 ≠ gb153)); have n8_ := Aside0.mk ((by rw [hg]; exact Nat.ne_of_lt (blk_lt (g := gb154) (o := .cells #[.int .i64 a2_0, .int .i64 a2_1, .int .i64 a2_2, .string a2_3] 45 (0, 0)) u5_1) : gb154 ≠ gb155)); have n9_ := Aside0.mk ((by rw [hg]; exact Nat.ne_of_gt (blk_lt (g := gb154) (o := .cells #[.int .i64 a2_0, .int .i64 a2_1, .int .i64 a2_2, .string a2_3] 45 (0, 0)) u5_1) : gb155 ≠ gb154)); clear BK153; clear BK154; clear HB; have BK153 := n0_; have BK154 := n1_; have HB := n2_; have BK155 := n3_; have GW155 := n4_; have GE155 := n5_; have NB153_155 := n6_; have NB155_153 := n7_; have NB154_155 := n8_; have NB155_154 := n9_; clear n0_ n1_ n2_ n3_ n4_ n5_ n6_ n7_ n8_ n9_; clear hb hbox hg; have hnb7 := NB153_154.out; have hnc7 := NB154_153.out; have hnb8 := NB153_155.out; have hnc8 := NB155_153.out; have hcz9_0 : w6.cell? ⟨gb153, 0, none⟩ = some (.int .i64 a0_0) := (blk_cell BK153.out 0).trans rfl; have hcz9_1 : w6.cell? ⟨gb153, 1, none⟩ = some (.int .i64 a0_1) := (blk_cell BK153.out 1).trans rfl; have hcz9_2 : w6.cell? ⟨gb153, 2, none⟩ = some (.slice A0_2 l0_2.length c0_2) := (blk_cell BK153.out 2).trans rfl; have hfz9_0 := blk_frozen BK153.out 0; have hfz9_1 := blk_frozen BK153.out 1; have hfz9_2 := blk_frozen BK153.out 2) | ((with_reducible refine gate_dst (N := 7) rfl ?_); refine box_event ?hg (N := 7) ?hd (cs := #[.int .i64 0, .int .i64 0, .slice none 0 0]) (t := 29) ?hr ?_; (case hd => rfl); (case hg => rfl); (case hr => first | (go_simp; done) | (go_simp; rfl)); intro gb156 hg w10 hbox hb; have n0_ := Aside0.mk (blk_below (g := gb153) (o := .cells #[.int .i64 a0_0, .int .i64 a0_1, .slice A0_2 l0_2.length c0_2] 29 (0, 0)) u5_2 hb); have n1_ := Aside0.mk (blk_below (g := gb154) (o := .cells #[.int .i64 a2_0, .int .i64 a2_1, .int .i64 a2_2, .string a2_3] 45 (0, 0)) u5_1 hb); have n2_ := Aside0.mk (blk_below (g := gb155) (o := .cells #[.int .i64 0, .int .i64 0, .slice none 0 0] 29 (0, 0)) u5_3 hb); have n3_ := Aside0.mk (below_step u5_12 hb); have n4_ := Aside0.mk (hbox); have n5_ := Aside0.mk ((by rw [hg]; exact (below_size u5_12) : w.heap.size ≤ gb156)); have n6_ := Aside0.mk ((by rw [hg]; exact (below_size u5_12) : w.heap.size ≤ gb156)); have n7_ := Aside0.mk ((by rw [hg]; exact Nat.ne_of_lt (blk_lt (g := gb153) (o := .cells #[.int .i64 a0_0, .int .i64 a0_1, .slice A0_2 l0_2.length c0_2] 29 (0, 0)) u5_2) : gb153 ≠ gb156)); have n8_ := Aside0.mk ((by rw [hg]; exact Nat.ne_of_gt (blk_lt (g := gb153) (o := .cells #[.int .i64 a0_0, .int .i64 a0_1, .slice A0_2 l0_2.length c0_2] 29 (0, 0)) u5_2) : gb156 ≠ gb153)); have n9_ := Aside0.mk ((by rw [hg]; exact Nat.ne_of_lt (blk_lt (g := gb154) (o := .cells #[.int .i64 a2_0, .int .i64 a2_1, .int .i64 a2_2, .string a2_3] 45 (0, 0)) u5_1) : gb154 ≠ gb156)); have n10_ := Aside0.mk ((by rw [hg]; exact Nat.ne_of_gt (blk_lt (g := gb154) (o := .cells #[.int .i64 a2_0, .int .i64 a2_1, .int .i64 a2_2, .string a2_3] 45 (0, 0)) u5_1) : gb156 ≠ gb154)); have n11_ := Aside0.mk ((by rw [hg]; exact Nat.ne_of_lt (blk_lt (g := gb155) (o := .cells #[.int .i64 0, .int .i64 0, .slice none 0 0] 29 (0, 0)) u5_3) : gb155 ≠ gb156)); have n12_ := Aside0.mk ((by rw [hg]; exact Nat.ne_of_gt (blk_lt (g := gb155) (o := .cells #[.int .i64 0, .int .i64 0, .slice none 0 0] 29 (0, 0)) u5_3) : gb156 ≠ gb155)); clear BK153; clear BK154; clear BK155; clear HB; have BK153 := n0_; have BK154 := n1_; have BK155 := n2_; have HB := n3_; have BK156 := n4_; have GW156 := n5_; have GE156 := n6_; have NB153_156 := n7_; have NB156_153 := n8_; have NB154_156 := n9_; have NB156_154 := n10_; have NB155_156 := n11_; have NB156_155 := n12_; clear n0_ n1_ n2_ n3_ n4_ n5_ n6_ n7_ n8_ n9_ n10_ n11_ n12_; clear hb hbox hg; have hnb11 := NB156_153.out; have hnc11 := NB153_156.out; have hnb12 := NB156_154.out; have hnc12 := NB154_156.out; have hnb13 := NB156_155.out; have hnc13 := NB155_156.out; have hcz14_0 : w10.cell? ⟨gb156, 0, none⟩ = some (.int .i64 0) := (blk_cell BK156.out 0).trans rfl; have hcz14_1 : w10.cell? ⟨gb156, 1, none⟩ = some (.int .i64 0) := (blk_cell BK156.out 1).trans rfl; have hcz14_2 : w10.cell? ⟨gb156, 2, none⟩ = some (.slice none 0 0) := (blk_cell BK156.out 2).trans rfl; have hfz14_0 := blk_frozen BK156.out 0; have hfz14_1 := blk_frozen BK156.out 1; have hfz14_2 := blk_frozen BK156.out 2; have hnb15 := NB154_155.out; have hnc15 := NB155_154.out; have hcz16_0 : w10.cell? ⟨gb154, 0, none⟩ = some (.int .i64 a2_0) := (blk_cell BK154.out 0).trans rfl; have hcz16_1 : w10.cell? ⟨gb154, 1, none⟩ = some (.int .i64 a2_1) := (blk_cell BK154.out 1).trans rfl; have hcz16_2 : w10.cell? ⟨gb154, 2, none⟩ = some (.int .i64 a2_2) := (blk_cell BK154.out 2).trans rfl; have hcz16_3 : w10.cell? ⟨gb154, 3, none⟩ = some (.string a2_3) := (blk_cell BK154.out 3).trans rfl; have hfz16_0 := blk_frozen BK154.out 0; have hfz16_1 := blk_frozen BK154.out 1; have hfz16_2 := blk_frozen BK154.out 2; have hfz16_3 := blk_frozen BK154.out 3))
  go_loopg [8, 9] k (fun kq v8 v9 w' => ∃ (x8_1 : Bool) (x9_1 : Int) (x157002_1 : List (S45)) (u157002 : Value), v8 = .bool x8_1 ∧ v9 = .int .i64 x9_1 ∧ Aside0 (spec_l09Put.l0 kq a1 x8_1 x9_1 a0_0 a0_1 l0_2 a2_0 a2_1 a2_2 a2_3 a0_0 a0_1 x157002_1 = some (r1, r2, r3)) ∧ Aside0 (kq ≤ k) ∧ Aside0 (Kd.R k45 45 w' w.heap.size (fun k_ => k_ ≠ gb154) u157002 x157002_1) ∧ Aside0 (w'.heap[gb153]? = some (.cells #[.int .i64 a0_0, .int .i64 a0_1, (.slice A0_2 l0_2.length c0_2)] 29 (0, 0))) ∧ Aside0 (w'.heap[gb154]? = some (.cells #[.int .i64 a2_0, .int .i64 a2_1, .int .i64 a2_2, .string a2_3] 45 (0, 0))) ∧ Aside0 (w'.heap[gb155]? = some (.cells #[.int .i64 0, .int .i64 0, (.slice none 0 0)] 29 (0, 0))) ∧ Aside0 (w'.heap[gb156]? = some (.cells #[.int .i64 a0_0, .int .i64 a0_1, u157002] 29 (0, 0))) ∧ Aside0 (Below w.heap.size w w'))
  case atStart => exact ⟨((a2_0 == 0)), (0), (([] : List (S45))), (.slice none 0 0), u5_11, u5_11, H', ⟨Nat.le_refl _⟩, ⟨(by first | exact Kd.R_nil _ _ _ _ _ | exact Kd.N_nil _ _ _ _ _ | exact Kd.V_nil _ _ _ _ _ | exact Kd.Q_nil _ _ _ _ _ | exact Kd.S_nil _ _ _ _ _)⟩, ⟨(by (with_reducible repeat (first | refine blk_drewN ?_ _ | refine blk_drew ?_ | refine blk_alloc ?_ _)); refine blk_far ?_ NB153_156.out _; (with_reducible repeat (first | refine blk_drewN ?_ _ | refine blk_drew ?_ | refine blk_alloc ?_ _)); refine blk_far ?_ NB153_156.out _; (with_reducible repeat (first | refine blk_drewN ?_ _ | refine blk_drew ?_ | refine blk_alloc ?_ _)); refine blk_far ?_ NB153_156.out _; (with_reducible repeat (first | refine blk_drewN ?_ _ | refine blk_drew ?_ | refine blk_alloc ?_ _)); exact BK153.out)⟩, ⟨(by (with_reducible repeat (first | refine blk_drewN ?_ _ | refine blk_drew ?_ | refine blk_alloc ?_ _)); refine blk_far ?_ NB154_156.out _; (with_reducible repeat (first | refine blk_drewN ?_ _ | refine blk_drew ?_ | refine blk_alloc ?_ _)); refine blk_far ?_ NB154_156.out _; (with_reducible repeat (first | refine blk_drewN ?_ _ | refine blk_drew ?_ | refine blk_alloc ?_ _)); refine blk_far ?_ NB154_156.out _; (with_reducible repeat (first | refine blk_drewN ?_ _ | refine blk_drew ?_ | refine blk_alloc ?_ _)); exact BK154.out)⟩, ⟨(by (with_reducible repeat (first | refine blk_drewN ?_ _ | refine blk_drew ?_ | refine blk_alloc ?_ _)); refine blk_far ?_ NB155_156.out _; (with_reducible repeat (first | refine blk_drewN ?_ _ | refine blk_drew ?_ | refine blk_alloc ?_ _)); refine blk_far ?_ NB155_156.out _; (with_reducible repeat (first | refine blk_drewN ?_ _ | refine blk_drew ?_ | refine blk_alloc ?_ _)); refine blk_far ?_ NB155_156.out _; (with_reducible repeat (first | refine blk_drewN ?_ _ | refine blk_drew ?_ | refine blk_alloc ?_ _)); exact BK155.out)⟩, ⟨(by (with_reducible repeat (first | refine blk_drewN ?_ _ | refine blk_drew ?_ | refine blk_alloc ?_ _)); refine blk_put (cs := #[.int .i64 a0_0, .int .i64 a0_1, .slice none 0 0]) ?_ 2 _ rfl; (with_reducible repeat (first | refine blk_drewN ?_ _ | refine blk_drew ?_ | refine blk_alloc ?_ _)); refine blk_put (cs := #[.int .i64 a0_0, .int .i64 0, .slice none 0 0]) ?_ 1 _ rfl; (with_reducible repeat (first | refine blk_drewN ?_ _ | refine blk_drew ?_ | refine blk_alloc ?_ _)); refine blk_put (cs := #[.int .i64 0, .int .i64 0, .slice none 0 0]) ?_ 0 _ rfl; (with_reducible repeat (first | refine blk_drewN ?_ _ | refine blk_drew ?_ | refine blk_alloc ?_ _)); exact BK156.out)⟩, ⟨u5_0⟩⟩
  clear H'
  try clear c1
  try clear c2
  try clear p2
  try clear c7
  try clear c8
  try clear c11
  try clear c12
  try clear c13
  try clear c15
  try clear hcz14_0
  try clear hcz14_1
  try clear hcz14_2
  try clear hcz16_0
  try clear hcz16_1
  try clear hcz16_2
  try clear hcz16_3
  try clear hcz9_0
  try clear hcz9_1
  try clear hcz9_2
  try clear hfz14_0
  try clear hfz14_1
  try clear hfz14_2
  try clear hfz16_0
  try clear hfz16_1
  try clear hfz16_2
  try clear hfz16_3
  try clear hfz9_0
  try clear hfz9_1
  try clear hfz9_2
  obtain ⟨x8_1, x9_1, x157002_1, u157002, rfl, rfl, HA, HK1, HO_157002, BK153, BK154, BK155, BK156, HB⟩ := hrel
  cases gk with
  | zero => exact absurd HA.out (by simp [spec_l09Put.l0])
  | succ k1 =>
    have H := HA.out
    clear HA
    simp only [spec_l09Put.l0] at H
    by_cases c17 : x9_1 < (l0_2.length : Int)
    rotate_left
    · rw [if_neg c17] at H
      have c17b0 : decide (x9_1 < (l0_2.length : Int)) = false := decide_eq_false c17
      clear c17
      by_cases c74 : x8_1 = true
      · subst c74
        have H1 : (some (a0_0, a0_1, x157002_1)) = some (r1, r2, r3) := by rw [if_pos rfl] at H; exact H
        clear H
        have H := H1
        clear H1
        simp only [Option.some.injEq, Prod.mk.injEq] at H
        obtain ⟨rfl, rfl, rfl⟩ := H
        have hnb75 := NB153_154.out
        have hnc75 := NB154_153.out
        have hnb76 := NB153_155.out
        have hnc76 := NB155_153.out
        have hnb77 := NB153_156.out
        have hnc77 := NB156_153.out
        have hcz78_0 : wr.cell? ⟨gb153, 0, none⟩ = some (.int .i64 a0_0) := (blk_cell BK153.out 0).trans rfl
        have hcz78_1 : wr.cell? ⟨gb153, 1, none⟩ = some (.int .i64 a0_1) := (blk_cell BK153.out 1).trans rfl
        have hcz78_2 : wr.cell? ⟨gb153, 2, none⟩ = some (.slice A0_2 l0_2.length c0_2) := (blk_cell BK153.out 2).trans rfl
        have hfz78_0 := blk_frozen BK153.out 0
        have hfz78_1 := blk_frozen BK153.out 1
        have hfz78_2 := blk_frozen BK153.out 2
        have hnb79 := NB156_154.out
        have hnc79 := NB154_156.out
        have hnb80 := NB156_155.out
        have hnc80 := NB155_156.out
        have hcz81_0 : wr.cell? ⟨gb156, 0, none⟩ = some (.int .i64 a0_0) := (blk_cell BK156.out 0).trans rfl
        have hcz81_1 : wr.cell? ⟨gb156, 1, none⟩ = some (.int .i64 a0_1) := (blk_cell BK156.out 1).trans rfl
        have hcz81_2 : wr.cell? ⟨gb156, 2, none⟩ = some (u157002) := (blk_cell BK156.out 2).trans rfl
        have hfz81_0 := blk_frozen BK156.out 0
        have hfz81_1 := blk_frozen BK156.out 1
        have hfz81_2 := blk_frozen BK156.out 2
        have hnb82 := NB155_154.out
        have hnc82 := NB154_155.out
        have hcz83_0 : wr.cell? ⟨gb155, 0, none⟩ = some (.int .i64 0) := (blk_cell BK155.out 0).trans rfl
        have hcz83_1 : wr.cell? ⟨gb155, 1, none⟩ = some (.int .i64 0) := (blk_cell BK155.out 1).trans rfl
        have hcz83_2 : wr.cell? ⟨gb155, 2, none⟩ = some (.slice none 0 0) := (blk_cell BK155.out 2).trans rfl
        have hfz83_0 := blk_frozen BK155.out 0
        have hfz83_1 := blk_frozen BK155.out 1
        have hfz83_2 := blk_frozen BK155.out 2
        obtain ⟨Ao84, co84, eo84⟩ := Kd.R_slice HO_157002.out
        subst eo84
        go_wp2
        refine bodyPost_ret (results_cell_row rfl _ _ gb155 29 #[.int .i64 a0_0, .int .i64 a0_1, .slice Ao84 x157002_1.length co84] (0, 0) _ rfl (by (with_reducible repeat (first | refine blk_drewN ?_ _ | refine blk_drew ?_ | refine blk_alloc ?_ _)); refine blk_put (cs := #[.int .i64 a0_0, .int .i64 a0_1, .slice none 0 0]) ?_ 2 _ rfl; (with_reducible repeat (first | refine blk_drewN ?_ _ | refine blk_drew ?_ | refine blk_alloc ?_ _)); refine blk_put (cs := #[.int .i64 a0_0, .int .i64 0, .slice none 0 0]) ?_ 1 _ rfl; (with_reducible repeat (first | refine blk_drewN ?_ _ | refine blk_drew ?_ | refine blk_alloc ?_ _)); refine blk_put (cs := #[.int .i64 0, .int .i64 0, .slice none 0 0]) ?_ 0 _ rfl; (with_reducible repeat (first | refine blk_drewN ?_ _ | refine blk_drew ?_ | refine blk_alloc ?_ _)); exact BK155.out) Try.underlying29 rfl (by kernel_rfl)) rfl ?_
        exact ⟨_, by first | rfl | (simp [errW_none, errW_some] <;> rfl) | (simp [*, errW_none, errW_some] <;> rfl), (by (with_reducible repeat (first | apply Kd.R_alloc | apply Kd.R_drewN | apply Kd.R_drew)); exact Kd.R_mono (Kd.R_far (p := ⟨gb155, 2, none⟩) (Kd.R_far (p := ⟨gb155, 1, none⟩) (Kd.R_far (p := ⟨gb155, 0, none⟩) (Kd.R_types HO_157002.out BK155.out (by decide)) (fun _ hk => hk.2) (.int .i64 a0_0)) (fun _ hk => hk.2) (.int .i64 a0_1)) (fun _ hk => hk.2) (.slice Ao84 x157002_1.length co84)) (fun _ hk => trivial)), u5_0⟩
      replace c74 := Bool.eq_false_iff.mpr c74
      subst c74
      have H1 : (if x157002_1.length < 3518437208883 then (some (a0_0, a0_1, (x157002_1 ++ [(⟨a2_0, a2_1, a2_2, a2_3⟩ : S45)]))) else (none)) = some (r1, r2, r3) := by rw [if_neg (show ¬ (false = true) by decide)] at H; exact H
      clear H
      have H := H1
      clear H1
      by_cases c85 : x157002_1.length < 3518437208883
      rotate_left
      · rw [if_neg c85] at H
        exact absurd H (by simp)
      rw [if_pos c85] at H
      have LMc85 := Aside0.mk c85
      clear c85
      obtain ⟨y157, hy157⟩ : ∃ y_ : List (S45), y_ = (x157002_1 ++ [(⟨a2_0, a2_1, a2_2, a2_3⟩ : S45)]) := ⟨_, rfl⟩
      replace H : (some (a0_0, a0_1, y157)) = some (r1, r2, r3) := by first | (rw [hy157]; with_reducible exact H) | (have H2_ := (Option.bind_some _ _).symm.trans H; rw [hy157]; with_reducible exact H2_) | (have H2_ := (Option.bind_some _ _).symm.trans H; with_reducible exact H2_) | with_reducible exact H | (rw [hy157]; exact H) | exact H
      have Ny157 := Aside0.mk hy157
      clear hy157
      simp only [Option.some.injEq, Prod.mk.injEq] at H
      obtain ⟨rfl, rfl, rfl⟩ := H
      have hnb86 := NB153_154.out
      have hnc86 := NB154_153.out
      have hnb87 := NB153_155.out
      have hnc87 := NB155_153.out
      have hnb88 := NB153_156.out
      have hnc88 := NB156_153.out
      have hcz89_0 : wr.cell? ⟨gb153, 0, none⟩ = some (.int .i64 a0_0) := (blk_cell BK153.out 0).trans rfl
      have hcz89_1 : wr.cell? ⟨gb153, 1, none⟩ = some (.int .i64 a0_1) := (blk_cell BK153.out 1).trans rfl
      have hcz89_2 : wr.cell? ⟨gb153, 2, none⟩ = some (.slice A0_2 l0_2.length c0_2) := (blk_cell BK153.out 2).trans rfl
      have hfz89_0 := blk_frozen BK153.out 0
      have hfz89_1 := blk_frozen BK153.out 1
      have hfz89_2 := blk_frozen BK153.out 2
      have hnb90 := NB156_154.out
      have hnc90 := NB154_156.out
      have hnb91 := NB156_155.out
      have hnc91 := NB155_156.out
      have hcz92_0 : wr.cell? ⟨gb156, 0, none⟩ = some (.int .i64 a0_0) := (blk_cell BK156.out 0).trans rfl
      have hcz92_1 : wr.cell? ⟨gb156, 1, none⟩ = some (.int .i64 a0_1) := (blk_cell BK156.out 1).trans rfl
      have hcz92_2 : wr.cell? ⟨gb156, 2, none⟩ = some (u157002) := (blk_cell BK156.out 2).trans rfl
      have hfz92_0 := blk_frozen BK156.out 0
      have hfz92_1 := blk_frozen BK156.out 1
      have hfz92_2 := blk_frozen BK156.out 2
      have hnb93 := NB154_155.out
      have hnc93 := NB155_154.out
      have hcz94_0 : wr.cell? ⟨gb154, 0, none⟩ = some (.int .i64 a2_0) := (blk_cell BK154.out 0).trans rfl
      have hcz94_1 : wr.cell? ⟨gb154, 1, none⟩ = some (.int .i64 a2_1) := (blk_cell BK154.out 1).trans rfl
      have hcz94_2 : wr.cell? ⟨gb154, 2, none⟩ = some (.int .i64 a2_2) := (blk_cell BK154.out 2).trans rfl
      have hcz94_3 : wr.cell? ⟨gb154, 3, none⟩ = some (.string a2_3) := (blk_cell BK154.out 3).trans rfl
      have hfz94_0 := blk_frozen BK154.out 0
      have hfz94_1 := blk_frozen BK154.out 1
      have hfz94_2 := blk_frozen BK154.out 2
      have hfz94_3 := blk_frozen BK154.out 3
      go_wp2_with (first | ((with_reducible refine gate_builtin (b := .append) (xs := #[.tmp 65, .tmp 67]) rfl ?_); at_builtin; refine Kd.R_append k45 (w0 := w) w.heap.size rfl (.tmp 65) (.tmp 67) 27 45 (.agg #[(.int .i64 0), (.int .i64 0), (.int .i64 0), (.string ⟨#[]⟩)]) 40 rfl Try.underlying27 info45 rfl (by decide) (by omega) u157002 x157002_1 (⟨a2_0, a2_1, a2_2, a2_3⟩ : S45) [.int .i64 a2_0, .int .i64 a2_1, .int .i64 a2_2, .string a2_3] (fun k_ => k_ ≠ gb154) (fun _ => False) rfl rfl ?aP (fun _ hk => hk.elim) ?aF ?aO ?aB ?aS ?aL ?_; (case aP => exact k45_mkM _ _ _ (⟨a2_0, a2_1, a2_2, a2_3⟩ : S45)); (case aB => exact u5_0); (case aF => exact (fun k_ hk => Kd.freshB (g := gb154) (o := .cells #[.int .i64 a2_0, .int .i64 a2_1, .int .i64 a2_2, .string a2_3] 45 (0, 0)) u5_1 k_ hk)); (case aO => exact u5_6); (case aS => exact (below_size u5_0)); (case aL => have := LMc85.out; omega); intro v158 w95 ho hb hg hat; rw [← Ny157.out] at ho; have n0_ := Aside0.mk (blk_grown (g := gb153) (o := .cells #[.int .i64 a0_0, .int .i64 a0_1, .slice A0_2 l0_2.length c0_2] 29 (0, 0)) u5_2 hg (Kd.R_ne HO_157002.out BK153.out (by decide))); have n1_ := Aside0.mk (blk_grown (g := gb154) (o := .cells #[.int .i64 a2_0, .int .i64 a2_1, .int .i64 a2_2, .string a2_3] 45 (0, 0)) u5_1 hg (Kd.R_away HO_157002.out (fun _ hk => hk))); have n2_ := Aside0.mk (blk_grown (g := gb155) (o := .cells #[.int .i64 0, .int .i64 0, .slice none 0 0] 29 (0, 0)) u5_3 hg (Kd.R_ne HO_157002.out BK155.out (by decide))); have n3_ := Aside0.mk (blk_grown (g := gb156) (o := .cells #[.int .i64 a0_0, .int .i64 a0_1, u157002] 29 (0, 0)) u5_5 hg (Kd.R_ne HO_157002.out BK156.out (by decide))); have n4_ := Aside0.mk (hb); have n5_ := Aside0.mk (ho); clear BK153; clear BK154; clear BK155; clear BK156; clear HB; clear HO_157002; have BK153 := n0_; have BK154 := n1_; have BK155 := n2_; have BK156 := n3_; have HB := n4_; have HO159 := n5_; clear n0_ n1_ n2_ n3_ n4_ n5_; clear ho hb hg hat; obtain ⟨Ao96, co96, eo96⟩ := Kd.R_slice HO159.out; subst eo96; have hcz97_0 : w95.cell? ⟨gb156, 0, none⟩ = some (.int .i64 a0_0) := (blk_cell BK156.out 0).trans rfl; have hcz97_1 : w95.cell? ⟨gb156, 1, none⟩ = some (.int .i64 a0_1) := (blk_cell BK156.out 1).trans rfl; have hcz97_2 : w95.cell? ⟨gb156, 2, none⟩ = some (u157002) := (blk_cell BK156.out 2).trans rfl; have hfz97_0 := blk_frozen BK156.out 0; have hfz97_1 := blk_frozen BK156.out 1; have hfz97_2 := blk_frozen BK156.out 2; have hcz98_0 : w95.cell? ⟨gb155, 0, none⟩ = some (.int .i64 0) := (blk_cell BK155.out 0).trans rfl; have hcz98_1 : w95.cell? ⟨gb155, 1, none⟩ = some (.int .i64 0) := (blk_cell BK155.out 1).trans rfl; have hcz98_2 : w95.cell? ⟨gb155, 2, none⟩ = some (.slice none 0 0) := (blk_cell BK155.out 2).trans rfl; have hfz98_0 := blk_frozen BK155.out 0; have hfz98_1 := blk_frozen BK155.out 1; have hfz98_2 := blk_frozen BK155.out 2))
      refine bodyPost_ret (results_cell_row rfl _ _ gb155 29 #[.int .i64 a0_0, .int .i64 a0_1, .slice Ao96 y157.length co96] (0, 0) _ rfl (by (with_reducible repeat (first | refine blk_drewN ?_ _ | refine blk_drew ?_ | refine blk_alloc ?_ _)); refine blk_put (cs := #[.int .i64 a0_0, .int .i64 a0_1, .slice none 0 0]) ?_ 2 _ rfl; (with_reducible repeat (first | refine blk_drewN ?_ _ | refine blk_drew ?_ | refine blk_alloc ?_ _)); refine blk_put (cs := #[.int .i64 a0_0, .int .i64 0, .slice none 0 0]) ?_ 1 _ rfl; (with_reducible repeat (first | refine blk_drewN ?_ _ | refine blk_drew ?_ | refine blk_alloc ?_ _)); refine blk_put (cs := #[.int .i64 0, .int .i64 0, .slice none 0 0]) ?_ 0 _ rfl; (with_reducible repeat (first | refine blk_drewN ?_ _ | refine blk_drew ?_ | refine blk_alloc ?_ _)); refine blk_far ?_ NB155_156.out _; (with_reducible repeat (first | refine blk_drewN ?_ _ | refine blk_drew ?_ | refine blk_alloc ?_ _)); exact BK155.out) Try.underlying29 rfl (by kernel_rfl)) rfl ?_
      exact ⟨_, by first | rfl | (simp [errW_none, errW_some] <;> rfl) | (simp [*, errW_none, errW_some] <;> rfl), (by (with_reducible repeat (first | apply Kd.R_alloc | apply Kd.R_drewN | apply Kd.R_drew)); exact Kd.R_mono (Kd.R_far (p := ⟨gb155, 2, none⟩) (Kd.R_far (p := ⟨gb155, 1, none⟩) (Kd.R_far (p := ⟨gb155, 0, none⟩) (Kd.R_far (p := ⟨gb156, 2, none⟩) (Kd.R_types (Kd.R_types HO159.out BK156.out (by decide)) BK155.out (by decide)) (fun _ hk => hk.1.2) (.slice Ao96 y157.length co96)) (fun _ hk => hk.2) (.int .i64 a0_0)) (fun _ hk => hk.2) (.int .i64 a0_1)) (fun _ hk => hk.2) (.slice Ao96 y157.length co96)) (fun _ hk => trivial)), u5_0⟩
    rw [if_pos c17] at H
    have c17b0 : decide (x9_1 < (l0_2.length : Int)) = true := decide_eq_true c17
    clear c17
    have HC18 := Aside0.mk H
    clear H
    have hnb19 := NB153_154.out
    have hnc19 := NB154_153.out
    have hnb20 := NB153_155.out
    have hnc20 := NB155_153.out
    have hnb21 := NB153_156.out
    have hnc21 := NB156_153.out
    have hcz22_0 : wr.cell? ⟨gb153, 0, none⟩ = some (.int .i64 a0_0) := (blk_cell BK153.out 0).trans rfl
    have hcz22_1 : wr.cell? ⟨gb153, 1, none⟩ = some (.int .i64 a0_1) := (blk_cell BK153.out 1).trans rfl
    have hcz22_2 : wr.cell? ⟨gb153, 2, none⟩ = some (.slice A0_2 l0_2.length c0_2) := (blk_cell BK153.out 2).trans rfl
    have hfz22_0 := blk_frozen BK153.out 0
    have hfz22_1 := blk_frozen BK153.out 1
    have hfz22_2 := blk_frozen BK153.out 2
    go_upto_region 6 with (fail)
    go_cut [37] (fun v37 wc => ∃ (kq : Nat) (x37_17 : Bool), v37 = .bool x37_17 ∧ Aside0 (spec_l09Put.j1 kq a1 x8_1 x9_1 x37_17 a0_0 a0_1 l0_2 a2_0 a2_1 a2_2 a2_3 a0_0 a0_1 x157002_1 = some (r1, r2, r3)) ∧ Aside0 (kq ≤ k1) ∧ Aside0 (Kd.R k45 45 wc w.heap.size (fun k_ => k_ ≠ gb154) u157002 x157002_1) ∧ Aside0 (wc.heap[gb153]? = some (.cells #[.int .i64 a0_0, .int .i64 a0_1, (.slice A0_2 l0_2.length c0_2)] 29 (0, 0))) ∧ Aside0 (wc.heap[gb154]? = some (.cells #[.int .i64 a2_0, .int .i64 a2_1, .int .i64 a2_2, .string a2_3] 45 (0, 0))) ∧ Aside0 (wc.heap[gb155]? = some (.cells #[.int .i64 0, .int .i64 0, (.slice none 0 0)] 29 (0, 0))) ∧ Aside0 (wc.heap[gb156]? = some (.cells #[.int .i64 a0_0, .int .i64 a0_1, u157002] 29 (0, 0))) ∧ Aside0 (Below w.heap.size w wc))
    case first =>
      have H := HC18.out
      clear HC18
      by_cases c23 : x8_1 = true
      · subst c23
        have H1 : (spec_l09Put.j1 k1 a1 true x9_1 false a0_0 a0_1 l0_2 a2_0 a2_1 a2_2 a2_3 a0_0 a0_1 x157002_1) = some (r1, r2, r3) := by rw [if_pos rfl] at H; exact H
        clear H
        have H := H1
        clear H1
        have H' := Aside0.mk H
        clear H
        try go_wp2
        have n0_ := Aside0.mk (Kd.R_drew HO_157002.out)
        have n1_ := Aside0.mk (blk_drew BK153.out)
        have n2_ := Aside0.mk (blk_drew BK154.out)
        have n3_ := Aside0.mk (blk_drew BK155.out)
        have n4_ := Aside0.mk (blk_drew BK156.out)
        have n5_ := Aside0.mk (below_drew1 HB.out)
        clear HO_157002
        clear BK153
        clear BK154
        clear BK155
        clear BK156
        clear HB
        have HO_157002 := n0_
        have BK153 := n1_
        have BK154 := n2_
        have BK155 := n3_
        have BK156 := n4_
        have HB := n5_
        clear n0_ n1_ n2_ n3_ n4_ n5_
        refine start_ (n := 13) (S := fun w' => True) (ds := []) #[false, false, false, false, false, false, false, false, false, false, false, false, false] (by kernel_rfl) rfl rfl trivial (fun hHeld => ?_); refine with_tabW spec_l09Put.tab6 spec_l09Put.bits6 (fun HT_ HW_ => ?_)
        generalize wr.drew = w24 at HO_157002 BK153 BK154 BK155 BK156 HB hHeld ⊢
        refine pure_ (i := 0) (N := some 25) (v := ?_) (a' := ?_) #[true, false, false, false, false, false, false, false, false, false, false, false, false] rfl rfl (any_of HT_.out (by kernel_rfl)) (fun _ _ _ h => h) (Or.inl ⟨by rfl, ?_⟩) ?_ ?_
        rotate_left
        · intro w'
          go_simp
          with_reducible rfl
        rotate_left
        · simp only [Act.put, List.setIfInBounds_toArray, List.set_cons_zero, List.set_cons_succ, i64_w, i32_w]
          rfl
        refine pure_ (i := 1) (N := some 26) (v := ?_) (a' := ?_) #[true, true, false, false, false, false, false, false, false, false, false, false, false] rfl rfl (any_of HT_.out (by kernel_rfl)) (fun _ _ _ h => h) (Or.inl ⟨by rfl, ?_⟩) ?_ ?_
        rotate_left
        · intro w'
          go_simp
          with_reducible rfl
        rotate_left
        · simp only [Act.put, List.setIfInBounds_toArray, List.set_cons_zero, List.set_cons_succ, i64_w, i32_w]
          rfl
        refine pure_ (i := 2) (N := some 27) (v := ?_) (a' := ?_) #[true, true, true, false, false, false, false, false, false, false, false, false, false] rfl rfl (any_of HT_.out (by kernel_rfl)) (fun _ _ _ h => h) (Or.inl ⟨by rfl, ?_⟩) ?_ ?_
        rotate_left
        · intro w'
          go_simp
          with_reducible rfl
        rotate_left
        · simp only [Act.put, List.setIfInBounds_toArray, List.set_cons_zero, List.set_cons_succ, i64_w, i32_w]
          rfl
        refine pure_ (i := 3) (N := some 28) (v := undef) (a' := ?_) #[true, true, true, true, false, false, false, false, false, false, false, false, false] rfl rfl (any_of HT_.out (by kernel_rfl)) (fun _ _ _ h => h) (Or.inr ⟨by rfl, rfl⟩) ?_ ?_
        rotate_left
        · simp only [Act.put, List.setIfInBounds_toArray, List.set_cons_zero, List.set_cons_succ, i64_w, i32_w]
          rfl
        refine pure_ (i := 4) (N := some 29) (v := undef) (a' := ?_) #[true, true, true, true, true, false, false, false, false, false, false, false, false] rfl rfl (any_of HT_.out (by kernel_rfl)) (fun _ _ _ h => h) (Or.inr ⟨by rfl, rfl⟩) ?_ ?_
        rotate_left
        · simp only [Act.put, List.setIfInBounds_toArray, List.set_cons_zero, List.set_cons_succ, i64_w, i32_w]
          rfl
        refine pure_ (i := 5) (N := some 30) (v := undef) (a' := ?_) #[true, true, true, true, true, true, false, false, false, false, false, false, false] rfl rfl (any_of HT_.out (by kernel_rfl)) (fun _ _ _ h => h) (Or.inr ⟨by rfl, rfl⟩) ?_ ?_
        rotate_left
        · simp only [Act.put, List.setIfInBounds_toArray, List.set_cons_zero, List.set_cons_succ, i64_w, i32_w]
          rfl
        refine pure_ (i := 6) (N := some 31) (v := undef) (a' := ?_) #[true, true, true, true, true, true, true, false, false, false, false, false, false] rfl rfl (any_of HT_.out (by kernel_rfl)) (fun _ _ _ h => h) (Or.inr ⟨by rfl, rfl⟩) ?_ ?_
        rotate_left
        · simp only [Act.put, List.setIfInBounds_toArray, List.set_cons_zero, List.set_cons_succ, i64_w, i32_w]
          rfl
        refine pure_ (i := 7) (N := some 32) (v := undef) (a' := ?_) #[true, true, true, true, true, true, true, true, false, false, false, false, false] rfl rfl (any_of HT_.out (by kernel_rfl)) (fun _ _ _ h => h) (Or.inr ⟨by rfl, rfl⟩) ?_ ?_
        rotate_left
        · simp only [Act.put, List.setIfInBounds_toArray, List.set_cons_zero, List.set_cons_succ, i64_w, i32_w]
          rfl
        refine pure_ (i := 8) (N := some 33) (v := undef) (a' := ?_) #[true, true, true, true, true, true, true, true, true, false, false, false, false] rfl rfl (any_of HT_.out (by kernel_rfl)) (fun _ _ _ h => h) (Or.inr ⟨by rfl, rfl⟩) ?_ ?_
        rotate_left
        · simp only [Act.put, List.setIfInBounds_toArray, List.set_cons_zero, List.set_cons_succ, i64_w, i32_w]
          rfl
        refine pure_ (i := 9) (N := some 34) (v := undef) (a' := ?_) #[true, true, true, true, true, true, true, true, true, true, false, false, false] rfl rfl (any_of HT_.out (by kernel_rfl)) (fun _ _ _ h => h) (Or.inr ⟨by rfl, rfl⟩) ?_ ?_
        rotate_left
        · simp only [Act.put, List.setIfInBounds_toArray, List.set_cons_zero, List.set_cons_succ, i64_w, i32_w]
          rfl
        refine pure_ (i := 10) (N := some 35) (v := undef) (a' := ?_) #[true, true, true, true, true, true, true, true, true, true, true, false, false] rfl rfl (any_of HT_.out (by kernel_rfl)) (fun _ _ _ h => h) (Or.inr ⟨by rfl, rfl⟩) ?_ ?_
        rotate_left
        · simp only [Act.put, List.setIfInBounds_toArray, List.set_cons_zero, List.set_cons_succ, i64_w, i32_w]
          rfl
        refine pure_ (i := 11) (N := some 36) (v := undef) (a' := ?_) #[true, true, true, true, true, true, true, true, true, true, true, true, false] rfl rfl (any_of HT_.out (by kernel_rfl)) (fun _ _ _ h => h) (Or.inr ⟨by rfl, rfl⟩) ?_ ?_
        rotate_left
        · simp only [Act.put, List.setIfInBounds_toArray, List.set_cons_zero, List.set_cons_succ, i64_w, i32_w]
          rfl
        refine pure_ (i := 12) (N := some 37) (v := ?_) (a' := ?_) #[true, true, true, true, true, true, true, true, true, true, true, true, true] rfl rfl (any_of HT_.out (by kernel_rfl)) (fun _ _ _ h => h) (Or.inl ⟨by rfl, ?_⟩) ?_ ?_
        rotate_left
        · intro w'
          go_simp
          with_reducible rfl
        rotate_left
        · simp only [Act.put, List.setIfInBounds_toArray, List.set_cons_zero, List.set_cons_succ, i64_w, i32_w]
          rfl
        refine done_ (done_of HT_.out (by kernel_rfl)) ?_
        try go_wp2
        go_meet
        case rel => exact ⟨_, (false), u5_11, H', ⟨(by have := HK1.out; first | omega | exact Nat.le_refl _)⟩, ⟨u5_6⟩, ⟨u5_2⟩, ⟨u5_1⟩, ⟨u5_3⟩, ⟨u5_5⟩, ⟨u5_0⟩⟩
      replace c23 := Bool.eq_false_iff.mpr c23
      subst c23
      have H1 : (if 0 ≤ x9_1 then (spec_l09Put.j1 k1 a1 false x9_1 (decide (((rd_T45 l0_2 x9_1).f0) > a2_0)) a0_0 a0_1 l0_2 a2_0 a2_1 a2_2 a2_3 a0_0 a0_1 x157002_1) else (none)) = some (r1, r2, r3) := by rw [if_neg (show ¬ (false = true) by decide)] at H; exact H
      clear H
      have H := H1
      clear H1
      by_cases c25 : 0 ≤ x9_1
      rotate_left
      · rw [if_neg c25] at H
        exact absurd H (by simp)
      rw [if_pos c25] at H
      have c25b0 : decide (0 ≤ x9_1) = true := decide_eq_true c25
      clear c25
      (first | rw [c25b0] | (simp only [i64_w, i32_w]; rw [c25b0]) | skip)
      have H' := Aside0.mk H
      clear H
      try go_wp2
      have n0_ := Aside0.mk (Kd.R_drew HO_157002.out)
      have n1_ := Aside0.mk (blk_drew BK153.out)
      have n2_ := Aside0.mk (blk_drew BK154.out)
      have n3_ := Aside0.mk (blk_drew BK155.out)
      have n4_ := Aside0.mk (blk_drew BK156.out)
      have n5_ := Aside0.mk (below_drew1 HB.out)
      clear HO_157002
      clear BK153
      clear BK154
      clear BK155
      clear BK156
      clear HB
      have HO_157002 := n0_
      have BK153 := n1_
      have BK154 := n2_
      have BK155 := n3_
      have BK156 := n4_
      have HB := n5_
      clear n0_ n1_ n2_ n3_ n4_ n5_
      have p160 : 0 ≤ (x9_1 : Int) := of_decide_eq_true u5_10
      have q160 : x9_1 < (l0_2.length : Int) := of_decide_eq_true u5_10
      obtain ⟨ad160, e160, hx160_0, hx160_1, hx160_2, hx160_3⟩ := at_T45 HR0_2.out x9_1 p160 q160
      have hw160_3 := hx160_3
      have hw160_2 := hx160_2
      have hw160_1 := hx160_1
      have hw160_0 := hx160_0
      cases e160
      replace hx160_0 := (HB.out.cell (World.block_lt_of_cell? w _ hx160_0)).trans hx160_0
      replace hx160_1 := (HB.out.cell (World.block_lt_of_cell? w _ hx160_1)).trans hx160_1
      replace hx160_2 := (HB.out.cell (World.block_lt_of_cell? w _ hx160_2)).trans hx160_2
      replace hx160_3 := (HB.out.cell (World.block_lt_of_cell? w _ hx160_3)).trans hx160_3
      replace p160 := eq_true p160
      replace q160 := eq_true q160
      refine start_ (n := 13) (S := fun w' => w'.cell? ⟨gb153, 0, none⟩ = some (.int .i64 a0_0) ∧ w'.cell? ⟨gb153, 1, none⟩ = some (.int .i64 a0_1) ∧ w'.cell? ⟨gb153, 2, none⟩ = some (.slice (some ad160) l0_2.length c0_2) ∧ w'.cell? ⟨gb154, 0, none⟩ = some (.int .i64 a2_0) ∧ w'.cell? ⟨gb154, 1, none⟩ = some (.int .i64 a2_1) ∧ w'.cell? ⟨gb154, 2, none⟩ = some (.int .i64 a2_2) ∧ w'.cell? ⟨gb154, 3, none⟩ = some (.string a2_3) ∧ w'.cell? (ad160.add ((x9_1).toNat * 4)) = some (.int .i64 ((rd_T45 l0_2 x9_1).f0)) ∧ w'.cell? ⟨(ad160.add ((x9_1).toNat * 4)).block, (ad160.add ((x9_1).toNat * 4)).off + 1, none⟩ = some (.int .i64 ((rd_T45 l0_2 x9_1).f1)) ∧ w'.cell? ⟨(ad160.add ((x9_1).toNat * 4)).block, (ad160.add ((x9_1).toNat * 4)).off + 2, none⟩ = some (.int .i64 ((rd_T45 l0_2 x9_1).f2)) ∧ w'.cell? ⟨(ad160.add ((x9_1).toNat * 4)).block, (ad160.add ((x9_1).toNat * 4)).off + 3, none⟩ = some (.string ((rd_T45 l0_2 x9_1).f3))) (ds := []) #[false, false, false, false, false, false, false, false, false, false, false, false, false] (by kernel_rfl) rfl rfl ⟨(blk_cell BK153.out 0).trans rfl, (blk_cell BK153.out 1).trans rfl, (blk_cell BK153.out 2).trans rfl, (blk_cell BK154.out 0).trans rfl, (blk_cell BK154.out 1).trans rfl, (blk_cell BK154.out 2).trans rfl, (blk_cell BK154.out 3).trans rfl, ((HB.out.cell (World.block_lt_of_cell? w _ hw160_0)).trans hw160_0), ((HB.out.cell (World.block_lt_of_cell? w _ hw160_1)).trans hw160_1), ((HB.out.cell (World.block_lt_of_cell? w _ hw160_2)).trans hw160_2), ((HB.out.cell (World.block_lt_of_cell? w _ hw160_3)).trans hw160_3)⟩ (fun hHeld => ?_); refine with_tabW spec_l09Put.tab6 spec_l09Put.bits6 (fun HT_ HW_ => ?_)
      generalize wr.drew = w26 at HO_157002 BK153 BK154 BK155 BK156 HB hx160_0 hx160_1 hx160_2 hx160_3 hHeld ⊢
      refine pure_ (i := 0) (N := some 25) (v := ?_) (a' := ?_) #[true, false, false, false, false, false, false, false, false, false, false, false, false] rfl rfl (any_of HT_.out (by kernel_rfl)) (fun _ _ _ h => h) (Or.inl ⟨by rfl, ?_⟩) ?_ ?_
      rotate_left
      · intro w'
        go_simp
        with_reducible rfl
      rotate_left
      · simp only [Act.put, List.setIfInBounds_toArray, List.set_cons_zero, List.set_cons_succ, i64_w, i32_w]
        rfl
      refine pure_ (i := 1) (N := some 26) (v := ?_) (a' := ?_) #[true, true, false, false, false, false, false, false, false, false, false, false, false] rfl rfl (any_of HT_.out (by kernel_rfl)) (fun _ _ _ h => h) (Or.inl ⟨by rfl, ?_⟩) ?_ ?_
      rotate_left
      · intro w'
        go_simp
        with_reducible rfl
      rotate_left
      · simp only [Act.put, List.setIfInBounds_toArray, List.set_cons_zero, List.set_cons_succ, i64_w, i32_w]
        rfl
      refine pure_ (i := 2) (N := some 27) (v := ?_) (a' := ?_) #[true, true, true, false, false, false, false, false, false, false, false, false, false] rfl rfl (any_of HT_.out (by kernel_rfl)) (fun _ _ _ h => h) (Or.inl ⟨by rfl, ?_⟩) ?_ ?_
      rotate_left
      · intro w'
        go_simp
        with_reducible rfl
      rotate_left
      · simp only [Act.put, List.setIfInBounds_toArray, List.set_cons_zero, List.set_cons_succ, i64_w, i32_w]
        rfl
      refine pure_ (i := 3) (N := some 28) (v := ?_) (a' := ?_) #[true, true, true, true, false, false, false, false, false, false, false, false, false] rfl rfl (any_of HT_.out (by kernel_rfl)) (fun _ _ _ h => h) (Or.inl ⟨by rfl, ?_⟩) ?_ ?_
      rotate_left
      · intro w'
        go_simp
        with_reducible rfl
      rotate_left
      · simp only [Act.put, List.setIfInBounds_toArray, List.set_cons_zero, List.set_cons_succ, i64_w, i32_w]
        rfl
      refine pure_ (i := 5) (N := some 30) (v := ?_) (a' := ?_) #[true, true, true, true, false, true, false, false, false, false, false, false, false] rfl rfl (any_of HT_.out (by kernel_rfl)) (fun _ _ _ h => h) (Or.inl ⟨by rfl, ?_⟩) ?_ ?_
      rotate_left
      · intro w'
        go_simp
        with_reducible rfl
      rotate_left
      · simp only [Act.put, List.setIfInBounds_toArray, List.set_cons_zero, List.set_cons_succ, i64_w, i32_w]
        rfl
      refine pure_ (i := 9) (N := some 34) (v := ?_) (a' := ?_) #[true, true, true, true, false, true, false, false, false, true, false, false, false] rfl rfl (any_of HT_.out (by kernel_rfl)) (fun _ _ _ h => h) (Or.inl ⟨by rfl, ?_⟩) ?_ ?_
      rotate_left
      · intro w'
        go_simp
        with_reducible rfl
      rotate_left
      · simp only [Act.put, List.setIfInBounds_toArray, List.set_cons_zero, List.set_cons_succ, i64_w, i32_w]
        rfl
      refine take_ (i := 4) (N := some 29) (v := ?_) (a' := ?_) #[true, true, true, true, true, true, false, false, false, true, false, false, false] rfl rfl (take_ofW HT_.out HW_.out (by kernel_rfl)) (fun _ _ _ h => h) (Or.inl ⟨by rfl, ?_⟩) hHeld ?_ ?_
      rotate_left
      · rintro w' ⟨s0, s1, s2, s3, s4, s5, s6, s7, s8, s9, s10⟩
        go_simp
        with_reducible rfl
      rotate_left
      · simp only [Act.put, List.setIfInBounds_toArray, List.set_cons_zero, List.set_cons_succ, i64_w, i32_w]
        rfl
      refine pure_ (i := 6) (N := some 31) (v := ?_) (a' := ?_) #[true, true, true, true, true, true, true, false, false, true, false, false, false] rfl rfl (any_of HT_.out (by kernel_rfl)) (fun _ _ _ h => h) (Or.inl ⟨by rfl, ?_⟩) ?_ ?_
      rotate_left
      · intro w'
        go_simp
        with_reducible rfl
      rotate_left
      · simp only [Act.put, List.setIfInBounds_toArray, List.set_cons_zero, List.set_cons_succ, i64_w, i32_w]
        rfl
      refine pure_ (i := 7) (N := some 32) (v := ?_) (a' := ?_) #[true, true, true, true, true, true, true, true, false, true, false, false, false] rfl rfl (any_of HT_.out (by kernel_rfl)) (fun _ _ _ h => h) (Or.inl ⟨by rfl, ?_⟩) ?_ ?_
      rotate_left
      · intro w'
        go_simp
        with_reducible rfl
      rotate_left
      · simp only [Act.put, List.setIfInBounds_toArray, List.set_cons_zero, List.set_cons_succ, i64_w, i32_w]
        rfl
      refine take_ (i := 8) (N := some 33) (v := ?_) (a' := ?_) #[true, true, true, true, true, true, true, true, true, true, false, false, false] rfl rfl (take_ofW HT_.out HW_.out (by kernel_rfl)) (fun _ _ _ h => h) (Or.inl ⟨by rfl, ?_⟩) hHeld ?_ ?_
      rotate_left
      · rintro w' ⟨s0, s1, s2, s3, s4, s5, s6, s7, s8, s9, s10⟩
        go_simp
        with_reducible rfl
      rotate_left
      · simp only [Act.put, List.setIfInBounds_toArray, List.set_cons_zero, List.set_cons_succ, i64_w, i32_w]
        rfl
      refine take_ (i := 10) (N := some 35) (v := ?_) (a' := ?_) #[true, true, true, true, true, true, true, true, true, true, true, false, false] rfl rfl (take_ofW HT_.out HW_.out (by kernel_rfl)) (fun _ _ _ h => h) (Or.inl ⟨by rfl, ?_⟩) hHeld ?_ ?_
      rotate_left
      · rintro w' ⟨s0, s1, s2, s3, s4, s5, s6, s7, s8, s9, s10⟩
        go_simp
        with_reducible rfl
      rotate_left
      · simp only [Act.put, List.setIfInBounds_toArray, List.set_cons_zero, List.set_cons_succ, i64_w, i32_w]
        rfl
      refine pure_ (i := 11) (N := some 36) (v := ?_) (a' := ?_) #[true, true, true, true, true, true, true, true, true, true, true, true, false] rfl rfl (any_of HT_.out (by kernel_rfl)) (fun _ _ _ h => h) (Or.inl ⟨by rfl, ?_⟩) ?_ ?_
      rotate_left
      · intro w'
        go_simp
        with_reducible rfl
      rotate_left
      · simp only [Act.put, List.setIfInBounds_toArray, List.set_cons_zero, List.set_cons_succ, i64_w, i32_w]
        rfl
      refine pure_ (i := 12) (N := some 37) (v := ?_) (a' := ?_) #[true, true, true, true, true, true, true, true, true, true, true, true, true] rfl rfl (any_of HT_.out (by kernel_rfl)) (fun _ _ _ h => h) (Or.inl ⟨by rfl, ?_⟩) ?_ ?_
      rotate_left
      · intro w'
        go_simp
        with_reducible rfl
      rotate_left
      · simp only [Act.put, List.setIfInBounds_toArray, List.set_cons_zero, List.set_cons_succ, i64_w, i32_w]
        rfl
      refine done_ (done_of HT_.out (by kernel_rfl)) ?_
      try go_wp2
      go_meet
      case rel => exact ⟨_, (decide (((rd_T45 l0_2 x9_1).f0) > a2_0)), u5_11, H', ⟨(by have := HK1.out; first | omega | exact Nat.le_refl _)⟩, ⟨u5_6⟩, ⟨u5_2⟩, ⟨u5_1⟩, ⟨u5_3⟩, ⟨u5_5⟩, ⟨u5_0⟩⟩
    clear HC18
    try clear c1
    try clear p1
    try clear q1
    try clear hx1
    try clear c2
    try clear p2
    try clear c7
    try clear c8
    try clear c11
    try clear c12
    try clear c13
    try clear c15
    try clear p16
    try clear q16
    try clear hx16
    try clear c17
    try clear c17b0
    try clear c19
    try clear c20
    try clear c21
    try clear c23
    try clear c25
    try clear c25b0
    try clear hcz14_0
    try clear hcz14_1
    try clear hcz14_2
    try clear hcz16_0
    try clear hcz16_1
    try clear hcz16_2
    try clear hcz16_3
    try clear hcz22_0
    try clear hcz22_1
    try clear hcz22_2
    try clear hcz9_0
    try clear hcz9_1
    try clear hcz9_2
    try clear hfz14_0
    try clear hfz14_1
    try clear hfz14_2
    try clear hfz16_0
    try clear hfz16_1
    try clear hfz16_2
    try clear hfz16_3
    try clear hfz22_0
    try clear hfz22_1
    try clear hfz22_2
    try clear hfz9_0
    try clear hfz9_1
    try clear hfz9_2
    try clear hx160_0
    try clear hx160_1
    try clear hx160_2
    try clear hx160_3
    try clear p160
    try clear p2
    try clear q160
    obtain ⟨kq, x37_17, rfl, HA, HJ17, HO_157002, BK153, BK154, BK155, BK156, HB⟩ := hcut
    cases kq with
    | zero => exact absurd HA.out (by simp [spec_l09Put.j1])
    | succ kj17 =>
      have H := HA.out
      clear HA
      simp only [spec_l09Put.j1] at H
      by_cases c27 : x37_17 = true
      rotate_left
      · replace c27 := Bool.eq_false_iff.mpr c27
        subst c27
        have H1 : (if 0 ≤ x9_1 then (if x9_1 < (l0_2.length : Int) then (if ((rd_T45 l0_2 x9_1).f0) = a1 then (spec_l09Put.l0 kj17 a1 x8_1 (wrap64 (x9_1 + 1)) a0_0 a0_1 l0_2 a2_0 a2_1 a2_2 a2_3 a0_0 a0_1 x157002_1) else (if x157002_1.length < 3518437208883 then (spec_l09Put.l0 kj17 a1 x8_1 (wrap64 (x9_1 + 1)) a0_0 a0_1 l0_2 a2_0 a2_1 a2_2 a2_3 a0_0 a0_1 (x157002_1 ++ [(⟨(rd_T45 l0_2 x9_1).f0, (rd_T45 l0_2 x9_1).f1, (rd_T45 l0_2 x9_1).f2, (rd_T45 l0_2 x9_1).f3⟩ : S45)])) else (none))) else (none)) else (none)) = some (r1, r2, r3) := by rw [if_neg (show ¬ (false = true) by decide)] at H; exact H
        clear H
        have H := H1
        clear H1
        by_cases c62 : 0 ≤ x9_1
        rotate_left
        · rw [if_neg c62] at H
          exact absurd H (by simp)
        rw [if_pos c62] at H
        have c62b0 : decide (0 ≤ x9_1) = true := decide_eq_true c62
        clear c62
        by_cases c63 : x9_1 < (l0_2.length : Int)
        rotate_left
        · rw [if_neg c63] at H
          exact absurd H (by simp)
        rw [if_pos c63] at H
        have c63b0 : decide (x9_1 < (l0_2.length : Int)) = true := decide_eq_true c63
        clear c63
        have H9 := Aside0.mk H
        clear H
        have hnb64 := NB153_154.out
        have hnc64 := NB154_153.out
        have hnb65 := NB153_155.out
        have hnc65 := NB155_153.out
        have hnb66 := NB153_156.out
        have hnc66 := NB156_153.out
        have hcz67_0 : wc.cell? ⟨gb153, 0, none⟩ = some (.int .i64 a0_0) := (blk_cell BK153.out 0).trans rfl
        have hcz67_1 : wc.cell? ⟨gb153, 1, none⟩ = some (.int .i64 a0_1) := (blk_cell BK153.out 1).trans rfl
        have hcz67_2 : wc.cell? ⟨gb153, 2, none⟩ = some (.slice A0_2 l0_2.length c0_2) := (blk_cell BK153.out 2).trans rfl
        have hfz67_0 := blk_frozen BK153.out 0
        have hfz67_1 := blk_frozen BK153.out 1
        have hfz67_2 := blk_frozen BK153.out 2
        have p169 : 0 ≤ (x9_1 : Int) := of_decide_eq_true u5_10
        have q169 : x9_1 < (l0_2.length : Int) := of_decide_eq_true u5_10
        obtain ⟨ad169, e169, hx169_0, hx169_1, hx169_2, hx169_3⟩ := at_T45 HR0_2.out x9_1 p169 q169
        cases e169
        replace hx169_0 := (HB.out.cell (World.block_lt_of_cell? w _ hx169_0)).trans hx169_0
        replace hx169_1 := (HB.out.cell (World.block_lt_of_cell? w _ hx169_1)).trans hx169_1
        replace hx169_2 := (HB.out.cell (World.block_lt_of_cell? w _ hx169_2)).trans hx169_2
        replace hx169_3 := (HB.out.cell (World.block_lt_of_cell? w _ hx169_3)).trans hx169_3
        replace p169 := eq_true p169
        replace q169 := eq_true q169
        go_upto_if 51 with (fail)
        have H := H9.out
        clear H9
        by_cases c68 : ((rd_T45 l0_2 x9_1).f0) = a1
        · rw [if_pos c68] at H
          have c68b0 : (((rd_T45 l0_2 x9_1).f0) == a1) = true := beq_iff_eq.mpr c68
          have c68b1 : (((rd_T45 l0_2 x9_1).f0) != a1) = false := bne_eq_false_iff_eq.mpr c68
          clear c68
          (first | rw [c68b0] | (simp only [i64_w, i32_w]; rw [c68b0]) | skip)
          have H' := Aside0.mk H
          clear H
          go_wp2
          go_roundg kj17
          case measure => have := HK1.out; have := HJ17.out; omega
          case rel => exact ⟨(x8_1), (wrap64 (x9_1 + 1)), (x157002_1), (u157002), u5_11, u5_11, H', ⟨u5_17⟩, ⟨u5_6⟩, ⟨u5_2⟩, ⟨u5_1⟩, ⟨u5_3⟩, ⟨u5_5⟩, ⟨u5_0⟩⟩
        rw [if_neg c68] at H
        have c68b0 : (((rd_T45 l0_2 x9_1).f0) == a1) = false := beq_eq_false_iff_ne.mpr c68
        have c68b1 : (((rd_T45 l0_2 x9_1).f0) != a1) = true := bne_iff_ne.mpr c68
        (first | rw [c68b0] | (simp only [i64_w, i32_w]; rw [c68b0]) | skip)
        by_cases c69 : x157002_1.length < 3518437208883
        rotate_left
        · rw [if_neg c69] at H
          exact absurd H (by simp)
        rw [if_pos c69] at H
        have LMc69 := Aside0.mk c69
        clear c69
        obtain ⟨y171, hy171⟩ : ∃ y_ : List (S45), y_ = (x157002_1 ++ [(⟨(rd_T45 l0_2 x9_1).f0, (rd_T45 l0_2 x9_1).f1, (rd_T45 l0_2 x9_1).f2, (rd_T45 l0_2 x9_1).f3⟩ : S45)]) := ⟨_, rfl⟩
        replace H : (spec_l09Put.l0 kj17 a1 x8_1 (wrap64 (x9_1 + 1)) a0_0 a0_1 l0_2 a2_0 a2_1 a2_2 a2_3 a0_0 a0_1 y171) = some (r1, r2, r3) := by first | (rw [hy171]; with_reducible exact H) | (have H2_ := (Option.bind_some _ _).symm.trans H; rw [hy171]; with_reducible exact H2_) | (have H2_ := (Option.bind_some _ _).symm.trans H; with_reducible exact H2_) | with_reducible exact H | (rw [hy171]; exact H) | exact H
        have Ny171 := Aside0.mk hy171
        clear hy171
        have H' := Aside0.mk H
        clear H
        try go_wp2
        have n0_ := Aside0.mk (Kd.R_drew HO_157002.out)
        have n1_ := Aside0.mk (blk_drew BK153.out)
        have n2_ := Aside0.mk (blk_drew BK154.out)
        have n3_ := Aside0.mk (blk_drew BK155.out)
        have n4_ := Aside0.mk (blk_drew BK156.out)
        have n5_ := Aside0.mk (below_drew1 HB.out)
        clear HO_157002
        clear BK153
        clear BK154
        clear BK155
        clear BK156
        clear HB
        have HO_157002 := n0_
        have BK153 := n1_
        have BK154 := n2_
        have BK155 := n3_
        have BK156 := n4_
        have HB := n5_
        clear n0_ n1_ n2_ n3_ n4_ n5_
        have p170 : 0 ≤ (x9_1 : Int) := of_decide_eq_true u5_10
        have q170 : x9_1 < (l0_2.length : Int) := of_decide_eq_true u5_10
        obtain ⟨ad170, e170, hx170_0, hx170_1, hx170_2, hx170_3⟩ := at_T45 HR0_2.out x9_1 p170 q170
        have hw170_3 := hx170_3
        have hw170_2 := hx170_2
        have hw170_1 := hx170_1
        have hw170_0 := hx170_0
        obtain rfl : ad169 = ad170 := (by injection e170)
        replace hx170_0 := (HB.out.cell (World.block_lt_of_cell? w _ hx170_0)).trans hx170_0
        replace hx170_1 := (HB.out.cell (World.block_lt_of_cell? w _ hx170_1)).trans hx170_1
        replace hx170_2 := (HB.out.cell (World.block_lt_of_cell? w _ hx170_2)).trans hx170_2
        replace hx170_3 := (HB.out.cell (World.block_lt_of_cell? w _ hx170_3)).trans hx170_3
        replace p170 := eq_true p170
        replace q170 := eq_true q170
        refine start_ (n := 11) (S := fun w' => w'.cell? ⟨gb156, 0, none⟩ = some (.int .i64 a0_0) ∧ w'.cell? ⟨gb156, 1, none⟩ = some (.int .i64 a0_1) ∧ w'.cell? ⟨gb156, 2, none⟩ = some (u157002) ∧ w'.cell? ⟨gb153, 0, none⟩ = some (.int .i64 a0_0) ∧ w'.cell? ⟨gb153, 1, none⟩ = some (.int .i64 a0_1) ∧ w'.cell? ⟨gb153, 2, none⟩ = some (.slice (some ad169) l0_2.length c0_2) ∧ w'.cell? (ad169.add ((x9_1).toNat * 4)) = some (.int .i64 ((rd_T45 l0_2 x9_1).f0)) ∧ w'.cell? ⟨(ad169.add ((x9_1).toNat * 4)).block, (ad169.add ((x9_1).toNat * 4)).off + 1, none⟩ = some (.int .i64 ((rd_T45 l0_2 x9_1).f1)) ∧ w'.cell? ⟨(ad169.add ((x9_1).toNat * 4)).block, (ad169.add ((x9_1).toNat * 4)).off + 2, none⟩ = some (.int .i64 ((rd_T45 l0_2 x9_1).f2)) ∧ w'.cell? ⟨(ad169.add ((x9_1).toNat * 4)).block, (ad169.add ((x9_1).toNat * 4)).off + 3, none⟩ = some (.string ((rd_T45 l0_2 x9_1).f3))) (ds := [10]) #[false, false, false, false, false, false, false, false, false, false, false] (by kernel_rfl) rfl rfl ⟨(blk_cell BK156.out 0).trans rfl, (blk_cell BK156.out 1).trans rfl, (blk_cell BK156.out 2).trans rfl, (blk_cell BK153.out 0).trans rfl, (blk_cell BK153.out 1).trans rfl, (blk_cell BK153.out 2).trans rfl, ((HB.out.cell (World.block_lt_of_cell? w _ hw170_0)).trans hw170_0), ((HB.out.cell (World.block_lt_of_cell? w _ hw170_1)).trans hw170_1), ((HB.out.cell (World.block_lt_of_cell? w _ hw170_2)).trans hw170_2), ((HB.out.cell (World.block_lt_of_cell? w _ hw170_3)).trans hw170_3)⟩ (fun hHeld => ?_); refine with_tabW spec_l09Put.tab10 spec_l09Put.bits10 (fun HT_ HW_ => ?_)
        generalize wc.drew = w70 at HO_157002 BK153 BK154 BK155 BK156 HB hx170_0 hx170_1 hx170_2 hx170_3 hHeld ⊢
        refine pure_ (i := 0) (N := some 52) (v := ?_) (a' := ?_) #[true, false, false, false, false, false, false, false, false, false, false] rfl rfl (any_of HT_.out (by kernel_rfl)) (fun _ _ _ h => h) (Or.inl ⟨by rfl, ?_⟩) ?_ ?_
        rotate_left
        · intro w'
          go_simp
          with_reducible rfl
        rotate_left
        · simp only [Act.put, List.setIfInBounds_toArray, List.set_cons_zero, List.set_cons_succ, i64_w, i32_w]
          rfl
        refine pure_ (i := 2) (N := some 54) (v := ?_) (a' := ?_) #[true, false, true, false, false, false, false, false, false, false, false] rfl rfl (any_of HT_.out (by kernel_rfl)) (fun _ _ _ h => h) (Or.inl ⟨by rfl, ?_⟩) ?_ ?_
        rotate_left
        · intro w'
          go_simp
          with_reducible rfl
        rotate_left
        · simp only [Act.put, List.setIfInBounds_toArray, List.set_cons_zero, List.set_cons_succ, i64_w, i32_w]
          rfl
        refine pure_ (i := 4) (N := some 56) (v := ?_) (a' := ?_) #[true, false, true, false, true, false, false, false, false, false, false] rfl rfl (any_of HT_.out (by kernel_rfl)) (fun _ _ _ h => h) (Or.inl ⟨by rfl, ?_⟩) ?_ ?_
        rotate_left
        · intro w'
          go_simp
          with_reducible rfl
        rotate_left
        · simp only [Act.put, List.setIfInBounds_toArray, List.set_cons_zero, List.set_cons_succ, i64_w, i32_w]
          rfl
        refine take_ (i := 1) (N := some 53) (v := ?_) (a' := ?_) #[true, true, true, false, true, false, false, false, false, false, false] rfl rfl (take_ofW HT_.out HW_.out (by kernel_rfl)) (fun _ _ _ h => h) (Or.inl ⟨by rfl, ?_⟩) hHeld ?_ ?_
        rotate_left
        · rintro w' ⟨s0, s1, s2, s3, s4, s5, s6, s7, s8, s9⟩
          go_simp
          with_reducible rfl
        rotate_left
        · simp only [Act.put, List.setIfInBounds_toArray, List.set_cons_zero, List.set_cons_succ, i64_w, i32_w]
          rfl
        refine take_ (i := 3) (N := some 55) (v := ?_) (a' := ?_) #[true, true, true, true, true, false, false, false, false, false, false] rfl rfl (take_ofW HT_.out HW_.out (by kernel_rfl)) (fun _ _ _ h => h) (Or.inl ⟨by rfl, ?_⟩) hHeld ?_ ?_
        rotate_left
        · rintro w' ⟨s0, s1, s2, s3, s4, s5, s6, s7, s8, s9⟩
          go_simp
          with_reducible rfl
        rotate_left
        · simp only [Act.put, List.setIfInBounds_toArray, List.set_cons_zero, List.set_cons_succ, i64_w, i32_w]
          rfl
        refine pure_ (i := 5) (N := some 57) (v := ?_) (a' := ?_) #[true, true, true, true, true, true, false, false, false, false, false] rfl rfl (any_of HT_.out (by kernel_rfl)) (fun _ _ _ h => h) (Or.inl ⟨by rfl, ?_⟩) ?_ ?_
        rotate_left
        · intro w'
          go_simp
          with_reducible rfl
        rotate_left
        · simp only [Act.put, List.setIfInBounds_toArray, List.set_cons_zero, List.set_cons_succ, i64_w, i32_w]
          rfl
        refine take_ (i := 6) (N := some 58) (v := ?_) (a' := ?_) #[true, true, true, true, true, true, true, false, false, false, false] rfl rfl (take_ofW HT_.out HW_.out (by kernel_rfl)) (fun _ _ _ h => h) (Or.inl ⟨by rfl, ?_⟩) hHeld ?_ ?_
        rotate_left
        · rintro w' ⟨s0, s1, s2, s3, s4, s5, s6, s7, s8, s9⟩
          go_simp
          with_reducible rfl
        rotate_left
        · simp only [Act.put, List.setIfInBounds_toArray, List.set_cons_zero, List.set_cons_succ, i64_w, i32_w]
          rfl
        refine one_ (i := 7) (N := some 59) #[true, true, true, true, true, true, true, true, false, false, false] rfl rfl (one_of HT_.out (by kernel_rfl)) (by decide) (fun K hK => ?_)
        refine value_ (w1 := ?_) (v := ?_) (by rfl) rfl ?_ ?_
        rotate_left 2
        · go_simp
          constructor
          · rfl
          rfl
        refine hK.out _ _ ⟨(blk_cell (blk_alloc BK156.out _) 0).trans rfl, (blk_cell (blk_alloc BK156.out _) 1).trans rfl, (blk_cell (blk_alloc BK156.out _) 2).trans rfl, (blk_cell (blk_alloc BK153.out _) 0).trans rfl, (blk_cell (blk_alloc BK153.out _) 1).trans rfl, (blk_cell (blk_alloc BK153.out _) 2).trans rfl, (World.cell?_alloc_lt _ _ _ (World.block_lt_of_cell? _ _ (((HB.out.cell (World.block_lt_of_cell? w _ hw170_0)).trans hw170_0)))).trans (((HB.out.cell (World.block_lt_of_cell? w _ hw170_0)).trans hw170_0)), (World.cell?_alloc_lt _ _ _ (World.block_lt_of_cell? _ _ (((HB.out.cell (World.block_lt_of_cell? w _ hw170_1)).trans hw170_1)))).trans (((HB.out.cell (World.block_lt_of_cell? w _ hw170_1)).trans hw170_1)), (World.cell?_alloc_lt _ _ _ (World.block_lt_of_cell? _ _ (((HB.out.cell (World.block_lt_of_cell? w _ hw170_2)).trans hw170_2)))).trans (((HB.out.cell (World.block_lt_of_cell? w _ hw170_2)).trans hw170_2)), (World.cell?_alloc_lt _ _ _ (World.block_lt_of_cell? _ _ (((HB.out.cell (World.block_lt_of_cell? w _ hw170_3)).trans hw170_3)))).trans (((HB.out.cell (World.block_lt_of_cell? w _ hw170_3)).trans hw170_3))⟩ (fun hHeld => ?_)
        clear hK K
        refine norm_ (a' := ?_) ?_ ?_
        rotate_left
        · show Act.put _ (some 59) _ = _
          simp only [Act.put, List.setIfInBounds_toArray, List.set_cons_zero, List.set_cons_succ, i64_w, i32_w]
          rfl
        refine one_ (i := 8) (N := some 60) #[true, true, true, true, true, true, true, true, true, false, false] rfl rfl (one_of HT_.out (by kernel_rfl)) (by decide) (fun K hK => ?_)
        refine Kd.R_append_step k45 (w0 := w) w.heap.size (by rfl) (.tmp 53) (.tmp 59) 27 45 (.agg #[(.int .i64 0), (.int .i64 0), (.int .i64 0), (.string ⟨#[]⟩)]) 40 rfl Try.underlying27 info45 rfl (by decide) (by omega) u157002 x157002_1 (⟨(rd_T45 l0_2 x9_1).f0, (rd_T45 l0_2 x9_1).f1, (rd_T45 l0_2 x9_1).f2, (rd_T45 l0_2 x9_1).f3⟩ : S45) [.int .i64 ((rd_T45 l0_2 x9_1).f0), .int .i64 ((rd_T45 l0_2 x9_1).f1), .int .i64 ((rd_T45 l0_2 x9_1).f2), .string ((rd_T45 l0_2 x9_1).f3)] (fun k_ => k_ ≠ gb154) (fun _ => False) rfl rfl ?aP (fun _ hk => hk.elim) ?aF ?aO ?aB ?aS ?aL ?_
        (case aP => exact k45_mkM _ _ _ (⟨(rd_T45 l0_2 x9_1).f0, (rd_T45 l0_2 x9_1).f1, (rd_T45 l0_2 x9_1).f2, (rd_T45 l0_2 x9_1).f3⟩ : S45))
        (case aB => exact u5_0)
        (case aF => exact (fun k_ hk => Kd.freshB (g := gb154) (o := .cells #[.int .i64 a2_0, .int .i64 a2_1, .int .i64 a2_2, .string a2_3] 45 (0, 0)) u5_1 k_ hk))
        (case aO => exact u5_6)
        (case aS => exact (below_size u5_0))
        (case aL => have := LMc69.out; omega)
        intro v172 w71 ho hb hg hat
        rw [← Ny171.out] at ho
        have n0_ := Aside0.mk (blk_grown (g := gb153) (o := .cells #[.int .i64 a0_0, .int .i64 a0_1, .slice (some ad169) l0_2.length c0_2] 29 (0, 0)) u5_2 hg (Kd.R_ne HO_157002.out BK153.out (by decide)))
        have n1_ := Aside0.mk (blk_grown (g := gb154) (o := .cells #[.int .i64 a2_0, .int .i64 a2_1, .int .i64 a2_2, .string a2_3] 45 (0, 0)) u5_1 hg (Kd.R_away HO_157002.out (fun _ hk => hk)))
        have n2_ := Aside0.mk (blk_grown (g := gb155) (o := .cells #[.int .i64 0, .int .i64 0, .slice none 0 0] 29 (0, 0)) u5_3 hg (Kd.R_ne HO_157002.out BK155.out (by decide)))
        have n3_ := Aside0.mk (blk_grown (g := gb156) (o := .cells #[.int .i64 a0_0, .int .i64 a0_1, u157002] 29 (0, 0)) u5_5 hg (Kd.R_ne HO_157002.out BK156.out (by decide)))
        have n4_ := Aside0.mk (hb)
        have n5_ := Aside0.mk (ho)
        clear BK153
        clear BK154
        clear BK155
        clear BK156
        clear HB
        clear HO_157002
        have BK153 := n0_
        have BK154 := n1_
        have BK155 := n2_
        have BK156 := n3_
        have HB := n4_
        have HO173 := n5_
        clear n0_ n1_ n2_ n3_ n4_ n5_
        clear ho hb hg hat
        obtain ⟨Ao72, co72, eo72⟩ := Kd.R_slice HO173.out
        (first | subst eo72 | (injection eo72 with f1_ f2_ f3_; have f4_ := f1_.symm; have f5_ := f3_.symm; clear f1_ f2_ f3_; subst f4_; subst f5_))
        refine hK.out _ _ ⟨(blk_cell BK156.out 0).trans rfl, (blk_cell BK156.out 1).trans rfl, (blk_cell BK156.out 2).trans rfl, (blk_cell BK153.out 0).trans rfl, (blk_cell BK153.out 1).trans rfl, (blk_cell BK153.out 2).trans rfl, ((HB.out.cell (World.block_lt_of_cell? w _ hw170_0)).trans hw170_0), ((HB.out.cell (World.block_lt_of_cell? w _ hw170_1)).trans hw170_1), ((HB.out.cell (World.block_lt_of_cell? w _ hw170_2)).trans hw170_2), ((HB.out.cell (World.block_lt_of_cell? w _ hw170_3)).trans hw170_3)⟩ (fun hHeld => ?_)
        clear hK K
        refine norm_ (a' := ?_) ?_ ?_
        rotate_left
        · show Act.put _ (some 60) _ = _
          simp only [Act.put, List.setIfInBounds_toArray, List.set_cons_zero, List.set_cons_succ, i64_w, i32_w]
          rfl
        refine pure_ (i := 9) (N := some 61) (v := ?_) (a' := ?_) #[true, true, true, true, true, true, true, true, true, true, false] rfl rfl (any_of HT_.out (by kernel_rfl)) (fun _ _ _ h => h) (Or.inl ⟨by rfl, ?_⟩) ?_ ?_
        rotate_left
        · intro w'
          go_simp
          with_reducible rfl
        rotate_left
        · simp only [Act.put, List.setIfInBounds_toArray, List.set_cons_zero, List.set_cons_succ, i64_w, i32_w]
          rfl
        refine last_ (i := 10) (N := none) #[true, true, true, true, true, true, true, true, true, true, true] rfl rfl (one_of HT_.out (by kernel_rfl)) (by decide) (fun K hK => ?_)
        have hs73 : w71.cell? ⟨gb156, 2, none⟩ = some (u157002) := (blk_cell BK156.out 2).trans rfl
        have hfs73 := blk_frozen BK156.out 2
        have hns73_0 := NB153_156.out
        have hns73_1 := NB154_156.out
        have hns73_2 := NB155_156.out
        have hms73_0 := NB156_153.out
        have hms73_1 := NB156_154.out
        have hms73_2 := NB156_155.out
        refine skip_ (w1 := ?_) (by rfl) rfl ?_ ?_
        rotate_left
        · go_simp
          rfl
        refine hK.out _ _ ?_
        clear hK K
        refine done_ (done_of HT_.out (by kernel_rfl)) ?_
        try go_wp2
        go_roundg kj17
        case measure => have := HK1.out; have := HJ17.out; omega
        case rel => exact ⟨(x8_1), (wrap64 (x9_1 + 1)), (y171), (.slice Ao72 y171.length co72), u5_11, u5_11, H', ⟨u5_17⟩, ⟨(by (with_reducible repeat (first | apply Kd.R_alloc | apply Kd.R_drewN | apply Kd.R_drew)); exact Kd.R_mono (Kd.R_far (p := ⟨gb156, 2, none⟩) (Kd.R_types HO173.out BK156.out (by decide)) (fun _ hk => hk.2) (.slice Ao72 y171.length co72)) (fun _ hk => hk.1))⟩, ⟨u5_7⟩, ⟨u5_8⟩, ⟨u5_9⟩, ⟨u5_15⟩, ⟨u5_0⟩⟩
      subst c27
      have H1 : (if x157002_1.length < 3518437208883 then ((some (x157002_1 ++ [(⟨a2_0, a2_1, a2_2, a2_3⟩ : S45)] : List (S45))).bind fun y161 => (if 0 ≤ x9_1 then (if x9_1 < (l0_2.length : Int) then (if ((rd_T45 l0_2 x9_1).f0) = a1 then (spec_l09Put.l0 kj17 a1 true (wrap64 (x9_1 + 1)) a0_0 a0_1 l0_2 a2_0 a2_1 a2_2 a2_3 a0_0 a0_1 y161) else (if y161.length < 3518437208883 then (spec_l09Put.l0 kj17 a1 true (wrap64 (x9_1 + 1)) a0_0 a0_1 l0_2 a2_0 a2_1 a2_2 a2_3 a0_0 a0_1 (y161 ++ [(⟨(rd_T45 l0_2 x9_1).f0, (rd_T45 l0_2 x9_1).f1, (rd_T45 l0_2 x9_1).f2, (rd_T45 l0_2 x9_1).f3⟩ : S45)])) else (none))) else (none)) else (none))) else (none)) = some (r1, r2, r3) := by rw [if_pos rfl] at H; exact H
      clear H
      have H := H1
      clear H1
      by_cases c28 : x157002_1.length < 3518437208883
      rotate_left
      · rw [if_neg c28] at H
        exact absurd H (by simp)
      rw [if_pos c28] at H
      have LMc28 := Aside0.mk c28
      clear c28
      obtain ⟨y161, hy161⟩ : ∃ y_ : List (S45), y_ = (x157002_1 ++ [(⟨a2_0, a2_1, a2_2, a2_3⟩ : S45)]) := ⟨_, rfl⟩
      replace H : (if 0 ≤ x9_1 then (if x9_1 < (l0_2.length : Int) then (if ((rd_T45 l0_2 x9_1).f0) = a1 then (spec_l09Put.l0 kj17 a1 true (wrap64 (x9_1 + 1)) a0_0 a0_1 l0_2 a2_0 a2_1 a2_2 a2_3 a0_0 a0_1 y161) else (if y161.length < 3518437208883 then (spec_l09Put.l0 kj17 a1 true (wrap64 (x9_1 + 1)) a0_0 a0_1 l0_2 a2_0 a2_1 a2_2 a2_3 a0_0 a0_1 (y161 ++ [(⟨(rd_T45 l0_2 x9_1).f0, (rd_T45 l0_2 x9_1).f1, (rd_T45 l0_2 x9_1).f2, (rd_T45 l0_2 x9_1).f3⟩ : S45)])) else (none))) else (none)) else (none)) = some (r1, r2, r3) := by first | (rw [hy161]; with_reducible exact H) | (have H2_ := (Option.bind_some _ _).symm.trans H; rw [hy161]; with_reducible exact H2_) | (have H2_ := (Option.bind_some _ _).symm.trans H; with_reducible exact H2_) | with_reducible exact H | (rw [hy161]; exact H) | exact H
      have Ny161 := Aside0.mk hy161
      clear hy161
      by_cases c29 : 0 ≤ x9_1
      rotate_left
      · rw [if_neg c29] at H
        exact absurd H (by simp)
      rw [if_pos c29] at H
      have c29b0 : decide (0 ≤ x9_1) = true := decide_eq_true c29
      clear c29
      by_cases c30 : x9_1 < (l0_2.length : Int)
      rotate_left
      · rw [if_neg c30] at H
        exact absurd H (by simp)
      rw [if_pos c30] at H
      have c30b0 : decide (x9_1 < (l0_2.length : Int)) = true := decide_eq_true c30
      clear c30
      by_cases c31 : ((rd_T45 l0_2 x9_1).f0) = a1
      · rw [if_pos c31] at H
        have c31b0 : (((rd_T45 l0_2 x9_1).f0) == a1) = true := beq_iff_eq.mpr c31
        have c31b1 : (((rd_T45 l0_2 x9_1).f0) != a1) = false := bne_eq_false_iff_eq.mpr c31
        clear c31
        have H' := Aside0.mk H
        clear H
        have hnb32 := NB156_153.out
        have hnc32 := NB153_156.out
        have hnb33 := NB156_154.out
        have hnc33 := NB154_156.out
        have hnb34 := NB156_155.out
        have hnc34 := NB155_156.out
        have hcz35_0 : wc.cell? ⟨gb156, 0, none⟩ = some (.int .i64 a0_0) := (blk_cell BK156.out 0).trans rfl
        have hcz35_1 : wc.cell? ⟨gb156, 1, none⟩ = some (.int .i64 a0_1) := (blk_cell BK156.out 1).trans rfl
        have hcz35_2 : wc.cell? ⟨gb156, 2, none⟩ = some (u157002) := (blk_cell BK156.out 2).trans rfl
        have hfz35_0 := blk_frozen BK156.out 0
        have hfz35_1 := blk_frozen BK156.out 1
        have hfz35_2 := blk_frozen BK156.out 2
        have hnb36 := NB154_153.out
        have hnc36 := NB153_154.out
        have hnb37 := NB154_155.out
        have hnc37 := NB155_154.out
        have hcz38_0 : wc.cell? ⟨gb154, 0, none⟩ = some (.int .i64 a2_0) := (blk_cell BK154.out 0).trans rfl
        have hcz38_1 : wc.cell? ⟨gb154, 1, none⟩ = some (.int .i64 a2_1) := (blk_cell BK154.out 1).trans rfl
        have hcz38_2 : wc.cell? ⟨gb154, 2, none⟩ = some (.int .i64 a2_2) := (blk_cell BK154.out 2).trans rfl
        have hcz38_3 : wc.cell? ⟨gb154, 3, none⟩ = some (.string a2_3) := (blk_cell BK154.out 3).trans rfl
        have hfz38_0 := blk_frozen BK154.out 0
        have hfz38_1 := blk_frozen BK154.out 1
        have hfz38_2 := blk_frozen BK154.out 2
        have hfz38_3 := blk_frozen BK154.out 3
        go_wp2_with (first | ((with_reducible refine gate_builtin (b := .append) (xs := #[.tmp 39, .tmp 41]) rfl ?_); at_builtin; refine Kd.R_append k45 (w0 := w) w.heap.size rfl (.tmp 39) (.tmp 41) 27 45 (.agg #[(.int .i64 0), (.int .i64 0), (.int .i64 0), (.string ⟨#[]⟩)]) 40 rfl Try.underlying27 info45 rfl (by decide) (by omega) u157002 x157002_1 (⟨a2_0, a2_1, a2_2, a2_3⟩ : S45) [.int .i64 a2_0, .int .i64 a2_1, .int .i64 a2_2, .string a2_3] (fun k_ => k_ ≠ gb154) (fun _ => False) rfl rfl ?aP (fun _ hk => hk.elim) ?aF ?aO ?aB ?aS ?aL ?_; (case aP => exact k45_mkM _ _ _ (⟨a2_0, a2_1, a2_2, a2_3⟩ : S45)); (case aB => exact u5_0); (case aF => exact (fun k_ hk => Kd.freshB (g := gb154) (o := .cells #[.int .i64 a2_0, .int .i64 a2_1, .int .i64 a2_2, .string a2_3] 45 (0, 0)) u5_1 k_ hk)); (case aO => exact u5_6); (case aS => exact (below_size u5_0)); (case aL => have := LMc28.out; omega); intro v162 w39 ho hb hg hat; rw [← Ny161.out] at ho; have n0_ := Aside0.mk (blk_grown (g := gb153) (o := .cells #[.int .i64 a0_0, .int .i64 a0_1, .slice A0_2 l0_2.length c0_2] 29 (0, 0)) u5_2 hg (Kd.R_ne HO_157002.out BK153.out (by decide))); have n1_ := Aside0.mk (blk_grown (g := gb154) (o := .cells #[.int .i64 a2_0, .int .i64 a2_1, .int .i64 a2_2, .string a2_3] 45 (0, 0)) u5_1 hg (Kd.R_away HO_157002.out (fun _ hk => hk))); have n2_ := Aside0.mk (blk_grown (g := gb155) (o := .cells #[.int .i64 0, .int .i64 0, .slice none 0 0] 29 (0, 0)) u5_3 hg (Kd.R_ne HO_157002.out BK155.out (by decide))); have n3_ := Aside0.mk (blk_grown (g := gb156) (o := .cells #[.int .i64 a0_0, .int .i64 a0_1, u157002] 29 (0, 0)) u5_5 hg (Kd.R_ne HO_157002.out BK156.out (by decide))); have n4_ := Aside0.mk (hb); have n5_ := Aside0.mk (ho); clear BK153; clear BK154; clear BK155; clear BK156; clear HB; clear HO_157002; have BK153 := n0_; have BK154 := n1_; have BK155 := n2_; have BK156 := n3_; have HB := n4_; have HO163 := n5_; clear n0_ n1_ n2_ n3_ n4_ n5_; clear ho hb hg hat; obtain ⟨Ao40, co40, eo40⟩ := Kd.R_slice HO163.out; subst eo40; have hcz41_0 : w39.cell? ⟨gb156, 0, none⟩ = some (.int .i64 a0_0) := (blk_cell BK156.out 0).trans rfl; have hcz41_1 : w39.cell? ⟨gb156, 1, none⟩ = some (.int .i64 a0_1) := (blk_cell BK156.out 1).trans rfl; have hcz41_2 : w39.cell? ⟨gb156, 2, none⟩ = some (u157002) := (blk_cell BK156.out 2).trans rfl; have hfz41_0 := blk_frozen BK156.out 0; have hfz41_1 := blk_frozen BK156.out 1; have hfz41_2 := blk_frozen BK156.out 2; have hnb42 := NB153_155.out; have hnc42 := NB155_153.out; have hcz43_0 : w39.cell? ⟨gb153, 0, none⟩ = some (.int .i64 a0_0) := (blk_cell BK153.out 0).trans rfl; have hcz43_1 : w39.cell? ⟨gb153, 1, none⟩ = some (.int .i64 a0_1) := (blk_cell BK153.out 1).trans rfl; have hcz43_2 : w39.cell? ⟨gb153, 2, none⟩ = some (.slice A0_2 l0_2.length c0_2) := (blk_cell BK153.out 2).trans rfl; have hfz43_0 := blk_frozen BK153.out 0; have hfz43_1 := blk_frozen BK153.out 1; have hfz43_2 := blk_frozen BK153.out 2; have p164 : 0 ≤ (x9_1 : Int) := of_decide_eq_true u5_10; have q164 : x9_1 < (l0_2.length : Int) := of_decide_eq_true u5_10; obtain ⟨ad164, e164, hx164_0, hx164_1, hx164_2, hx164_3⟩ := at_T45 HR0_2.out x9_1 p164 q164; cases e164; have hn164_0 : ad164.block ≠ gb156 := Nat.ne_of_lt (Nat.lt_of_lt_of_le u5_18 GW156.out); replace hx164_0 := (HB.out.cell (World.block_lt_of_cell? w _ hx164_0)).trans hx164_0; replace hx164_1 := (HB.out.cell (World.block_lt_of_cell? w _ hx164_1)).trans hx164_1; replace hx164_2 := (HB.out.cell (World.block_lt_of_cell? w _ hx164_2)).trans hx164_2; replace hx164_3 := (HB.out.cell (World.block_lt_of_cell? w _ hx164_3)).trans hx164_3; replace hx164_0 := (cell_far (p := ⟨gb156, 2, none⟩) u5_4 (.slice Ao40 y161.length co40)).trans hx164_0; replace hx164_1 := (cell_far (p := ⟨gb156, 2, none⟩) u5_4 (.slice Ao40 y161.length co40)).trans hx164_1; replace hx164_2 := (cell_far (p := ⟨gb156, 2, none⟩) u5_4 (.slice Ao40 y161.length co40)).trans hx164_2; replace hx164_3 := (cell_far (p := ⟨gb156, 2, none⟩) u5_4 (.slice Ao40 y161.length co40)).trans hx164_3; clear hn164_0; replace p164 := eq_true p164; replace q164 := eq_true q164))
        go_roundg kj17
        case measure => have := HK1.out; have := HJ17.out; omega
        case rel => exact ⟨(true), (wrap64 (x9_1 + 1)), (y161), (.slice Ao40 y161.length co40), u5_11, u5_11, H', ⟨u5_17⟩, ⟨(by (with_reducible repeat (first | apply Kd.R_alloc | apply Kd.R_drewN | apply Kd.R_drew)); exact Kd.R_mono (Kd.R_far (p := ⟨gb156, 2, none⟩) (Kd.R_types HO163.out BK156.out (by decide)) (fun _ hk => hk.2) (.slice Ao40 y161.length co40)) (fun _ hk => hk.1))⟩, ⟨u5_7⟩, ⟨u5_8⟩, ⟨u5_9⟩, ⟨u5_15⟩, ⟨u5_0⟩⟩
      rw [if_neg c31] at H
      have c31b0 : (((rd_T45 l0_2 x9_1).f0) == a1) = false := beq_eq_false_iff_ne.mpr c31
      have c31b1 : (((rd_T45 l0_2 x9_1).f0) != a1) = true := bne_iff_ne.mpr c31
      by_cases c44 : y161.length < 3518437208883
      rotate_left
      · rw [if_neg c44] at H
        exact absurd H (by simp)
      rw [if_pos c44] at H
      have LMc44 := Aside0.mk c44
      clear c44
      obtain ⟨y166, hy166⟩ : ∃ y_ : List (S45), y_ = (y161 ++ [(⟨(rd_T45 l0_2 x9_1).f0, (rd_T45 l0_2 x9_1).f1, (rd_T45 l0_2 x9_1).f2, (rd_T45 l0_2 x9_1).f3⟩ : S45)]) := ⟨_, rfl⟩
      replace H : (spec_l09Put.l0 kj17 a1 true (wrap64 (x9_1 + 1)) a0_0 a0_1 l0_2 a2_0 a2_1 a2_2 a2_3 a0_0 a0_1 y166) = some (r1, r2, r3) := by first | (rw [hy166]; with_reducible exact H) | (have H2_ := (Option.bind_some _ _).symm.trans H; rw [hy166]; with_reducible exact H2_) | (have H2_ := (Option.bind_some _ _).symm.trans H; with_reducible exact H2_) | with_reducible exact H | (rw [hy166]; exact H) | exact H
      have Ny166 := Aside0.mk hy166
      clear hy166
      have H' := Aside0.mk H
      clear H
      have hnb45 := NB156_153.out
      have hnc45 := NB153_156.out
      have hnb46 := NB156_154.out
      have hnc46 := NB154_156.out
      have hnb47 := NB156_155.out
      have hnc47 := NB155_156.out
      have hcz48_0 : wc.cell? ⟨gb156, 0, none⟩ = some (.int .i64 a0_0) := (blk_cell BK156.out 0).trans rfl
      have hcz48_1 : wc.cell? ⟨gb156, 1, none⟩ = some (.int .i64 a0_1) := (blk_cell BK156.out 1).trans rfl
      have hcz48_2 : wc.cell? ⟨gb156, 2, none⟩ = some (u157002) := (blk_cell BK156.out 2).trans rfl
      have hfz48_0 := blk_frozen BK156.out 0
      have hfz48_1 := blk_frozen BK156.out 1
      have hfz48_2 := blk_frozen BK156.out 2
      have hnb49 := NB154_153.out
      have hnc49 := NB153_154.out
      have hnb50 := NB154_155.out
      have hnc50 := NB155_154.out
      have hcz51_0 : wc.cell? ⟨gb154, 0, none⟩ = some (.int .i64 a2_0) := (blk_cell BK154.out 0).trans rfl
      have hcz51_1 : wc.cell? ⟨gb154, 1, none⟩ = some (.int .i64 a2_1) := (blk_cell BK154.out 1).trans rfl
      have hcz51_2 : wc.cell? ⟨gb154, 2, none⟩ = some (.int .i64 a2_2) := (blk_cell BK154.out 2).trans rfl
      have hcz51_3 : wc.cell? ⟨gb154, 3, none⟩ = some (.string a2_3) := (blk_cell BK154.out 3).trans rfl
      have hfz51_0 := blk_frozen BK154.out 0
      have hfz51_1 := blk_frozen BK154.out 1
      have hfz51_2 := blk_frozen BK154.out 2
      have hfz51_3 := blk_frozen BK154.out 3
      try go_wp2_with (first | ((with_reducible refine gate_builtin (b := .append) (xs := #[.tmp 39, .tmp 41]) rfl ?_); at_builtin; refine Kd.R_append k45 (w0 := w) w.heap.size rfl (.tmp 39) (.tmp 41) 27 45 (.agg #[(.int .i64 0), (.int .i64 0), (.int .i64 0), (.string ⟨#[]⟩)]) 40 rfl Try.underlying27 info45 rfl (by decide) (by omega) u157002 x157002_1 (⟨a2_0, a2_1, a2_2, a2_3⟩ : S45) [.int .i64 a2_0, .int .i64 a2_1, .int .i64 a2_2, .string a2_3] (fun k_ => k_ ≠ gb154) (fun _ => False) rfl rfl ?aP (fun _ hk => hk.elim) ?aF ?aO ?aB ?aS ?aL ?_; (case aP => exact k45_mkM _ _ _ (⟨a2_0, a2_1, a2_2, a2_3⟩ : S45)); (case aB => exact u5_0); (case aF => exact (fun k_ hk => Kd.freshB (g := gb154) (o := .cells #[.int .i64 a2_0, .int .i64 a2_1, .int .i64 a2_2, .string a2_3] 45 (0, 0)) u5_1 k_ hk)); (case aO => exact u5_6); (case aS => exact (below_size u5_0)); (case aL => have := LMc28.out; omega); intro v162 w52 ho hb hg hat; rw [← Ny161.out] at ho; have n0_ := Aside0.mk (blk_grown (g := gb153) (o := .cells #[.int .i64 a0_0, .int .i64 a0_1, .slice A0_2 l0_2.length c0_2] 29 (0, 0)) u5_2 hg (Kd.R_ne HO_157002.out BK153.out (by decide))); have n1_ := Aside0.mk (blk_grown (g := gb154) (o := .cells #[.int .i64 a2_0, .int .i64 a2_1, .int .i64 a2_2, .string a2_3] 45 (0, 0)) u5_1 hg (Kd.R_away HO_157002.out (fun _ hk => hk))); have n2_ := Aside0.mk (blk_grown (g := gb155) (o := .cells #[.int .i64 0, .int .i64 0, .slice none 0 0] 29 (0, 0)) u5_3 hg (Kd.R_ne HO_157002.out BK155.out (by decide))); have n3_ := Aside0.mk (blk_grown (g := gb156) (o := .cells #[.int .i64 a0_0, .int .i64 a0_1, u157002] 29 (0, 0)) u5_5 hg (Kd.R_ne HO_157002.out BK156.out (by decide))); have n4_ := Aside0.mk (hb); have n5_ := Aside0.mk (ho); clear BK153; clear BK154; clear BK155; clear BK156; clear HB; clear HO_157002; have BK153 := n0_; have BK154 := n1_; have BK155 := n2_; have BK156 := n3_; have HB := n4_; have HO163 := n5_; clear n0_ n1_ n2_ n3_ n4_ n5_; clear ho hb hg hat; obtain ⟨Ao53, co53, eo53⟩ := Kd.R_slice HO163.out; subst eo53; have hcz54_0 : w52.cell? ⟨gb156, 0, none⟩ = some (.int .i64 a0_0) := (blk_cell BK156.out 0).trans rfl; have hcz54_1 : w52.cell? ⟨gb156, 1, none⟩ = some (.int .i64 a0_1) := (blk_cell BK156.out 1).trans rfl; have hcz54_2 : w52.cell? ⟨gb156, 2, none⟩ = some (u157002) := (blk_cell BK156.out 2).trans rfl; have hfz54_0 := blk_frozen BK156.out 0; have hfz54_1 := blk_frozen BK156.out 1; have hfz54_2 := blk_frozen BK156.out 2; have hnb55 := NB153_155.out; have hnc55 := NB155_153.out; have hcz56_0 : w52.cell? ⟨gb153, 0, none⟩ = some (.int .i64 a0_0) := (blk_cell BK153.out 0).trans rfl; have hcz56_1 : w52.cell? ⟨gb153, 1, none⟩ = some (.int .i64 a0_1) := (blk_cell BK153.out 1).trans rfl; have hcz56_2 : w52.cell? ⟨gb153, 2, none⟩ = some (.slice A0_2 l0_2.length c0_2) := (blk_cell BK153.out 2).trans rfl; have hfz56_0 := blk_frozen BK153.out 0; have hfz56_1 := blk_frozen BK153.out 1; have hfz56_2 := blk_frozen BK153.out 2; have p164 : 0 ≤ (x9_1 : Int) := of_decide_eq_true u5_10; have q164 : x9_1 < (l0_2.length : Int) := of_decide_eq_true u5_10; obtain ⟨ad164, e164, hx164_0, hx164_1, hx164_2, hx164_3⟩ := at_T45 HR0_2.out x9_1 p164 q164; cases e164; have hn164_0 : ad164.block ≠ gb156 := Nat.ne_of_lt (Nat.lt_of_lt_of_le u5_18 GW156.out); replace hx164_0 := (HB.out.cell (World.block_lt_of_cell? w _ hx164_0)).trans hx164_0; replace hx164_1 := (HB.out.cell (World.block_lt_of_cell? w _ hx164_1)).trans hx164_1; replace hx164_2 := (HB.out.cell (World.block_lt_of_cell? w _ hx164_2)).trans hx164_2; replace hx164_3 := (HB.out.cell (World.block_lt_of_cell? w _ hx164_3)).trans hx164_3; replace hx164_0 := (cell_far (p := ⟨gb156, 2, none⟩) u5_4 (.slice Ao53 y161.length co53)).trans hx164_0; replace hx164_1 := (cell_far (p := ⟨gb156, 2, none⟩) u5_4 (.slice Ao53 y161.length co53)).trans hx164_1; replace hx164_2 := (cell_far (p := ⟨gb156, 2, none⟩) u5_4 (.slice Ao53 y161.length co53)).trans hx164_2; replace hx164_3 := (cell_far (p := ⟨gb156, 2, none⟩) u5_4 (.slice Ao53 y161.length co53)).trans hx164_3; clear hn164_0; replace p164 := eq_true p164; replace q164 := eq_true q164))
      have n0_ : Aside0 (Kd.R k45 45 (w52.setCell ⟨gb156, 2, none⟩ (.slice Ao53 y161.length co53)) w.heap.size (fun k_ => k_ ≠ gb154) (.slice Ao53 y161.length co53) y161) := ⟨by (with_reducible repeat (first | apply Kd.R_alloc | apply Kd.R_drewN | apply Kd.R_drew)); exact Kd.R_mono (Kd.R_far (p := ⟨gb156, 2, none⟩) (Kd.R_types HO163.out BK156.out (by decide)) (fun _ hk => hk.2) (.slice Ao53 y161.length co53)) (fun _ hk => hk.1)⟩
      have n1_ : Aside0 ((w52.setCell ⟨gb156, 2, none⟩ (.slice Ao53 y161.length co53)).heap[gb153]? = some (.cells #[.int .i64 a0_0, .int .i64 a0_1, .slice (some ad164) l0_2.length c0_2] 29 (0, 0))) := ⟨by (with_reducible repeat (first | refine blk_drewN ?_ _ | refine blk_drew ?_ | refine blk_alloc ?_ _)); refine blk_far ?_ NB153_156.out _; (with_reducible repeat (first | refine blk_drewN ?_ _ | refine blk_drew ?_ | refine blk_alloc ?_ _)); exact BK153.out⟩
      have n2_ : Aside0 ((w52.setCell ⟨gb156, 2, none⟩ (.slice Ao53 y161.length co53)).heap[gb154]? = some (.cells #[.int .i64 a2_0, .int .i64 a2_1, .int .i64 a2_2, .string a2_3] 45 (0, 0))) := ⟨by (with_reducible repeat (first | refine blk_drewN ?_ _ | refine blk_drew ?_ | refine blk_alloc ?_ _)); refine blk_far ?_ NB154_156.out _; (with_reducible repeat (first | refine blk_drewN ?_ _ | refine blk_drew ?_ | refine blk_alloc ?_ _)); exact BK154.out⟩
      have n3_ : Aside0 ((w52.setCell ⟨gb156, 2, none⟩ (.slice Ao53 y161.length co53)).heap[gb155]? = some (.cells #[.int .i64 0, .int .i64 0, .slice none 0 0] 29 (0, 0))) := ⟨by (with_reducible repeat (first | refine blk_drewN ?_ _ | refine blk_drew ?_ | refine blk_alloc ?_ _)); refine blk_far ?_ NB155_156.out _; (with_reducible repeat (first | refine blk_drewN ?_ _ | refine blk_drew ?_ | refine blk_alloc ?_ _)); exact BK155.out⟩
      have n4_ : Aside0 ((w52.setCell ⟨gb156, 2, none⟩ (.slice Ao53 y161.length co53)).heap[gb156]? = some (.cells #[.int .i64 a0_0, .int .i64 a0_1, .slice Ao53 y161.length co53] 29 (0, 0))) := ⟨by (with_reducible repeat (first | refine blk_drewN ?_ _ | refine blk_drew ?_ | refine blk_alloc ?_ _)); refine blk_put (cs := #[.int .i64 a0_0, .int .i64 a0_1, u157002]) ?_ 2 _ rfl; (with_reducible repeat (first | refine blk_drewN ?_ _ | refine blk_drew ?_ | refine blk_alloc ?_ _)); exact BK156.out⟩
      have n5_ : Aside0 (Below w.heap.size w (w52.setCell ⟨gb156, 2, none⟩ (.slice Ao53 y161.length co53))) := ⟨by repeat (first | (with_reducible first | exact HB.out | apply below_alloc | apply pw_below_drewN | apply below_drew1 | refine below_set ?_ GE153.out | refine below_set ?_ GE154.out | refine below_set ?_ GE155.out | refine below_set ?_ GE156.out) | exact HB.out)⟩
      (try clear HO163)
      (try clear BK153)
      (try clear BK154)
      (try clear BK155)
      (try clear BK156)
      (try clear HB)
      generalize (w52.setCell ⟨gb156, 2, none⟩ (.slice Ao53 y161.length co53)) = w57 at n0_ n1_ n2_ n3_ n4_ n5_ ⊢
      have HO163 := n0_
      have BK153 := n1_
      have BK154 := n2_
      have BK155 := n3_
      have BK156 := n4_
      have HB := n5_
      clear n0_ n1_ n2_ n3_ n4_ n5_
      have n0_ := Aside0.mk (Kd.R_drew HO163.out)
      have n1_ := Aside0.mk (blk_drew BK153.out)
      have n2_ := Aside0.mk (blk_drew BK154.out)
      have n3_ := Aside0.mk (blk_drew BK155.out)
      have n4_ := Aside0.mk (blk_drew BK156.out)
      have n5_ := Aside0.mk (below_drew1 HB.out)
      clear HO163
      clear BK153
      clear BK154
      clear BK155
      clear BK156
      clear HB
      have HO163 := n0_
      have BK153 := n1_
      have BK154 := n2_
      have BK155 := n3_
      have BK156 := n4_
      have HB := n5_
      clear n0_ n1_ n2_ n3_ n4_ n5_
      have p165 : 0 ≤ (x9_1 : Int) := of_decide_eq_true u5_10
      have q165 : x9_1 < (l0_2.length : Int) := of_decide_eq_true u5_10
      obtain ⟨ad165, e165, hx165_0, hx165_1, hx165_2, hx165_3⟩ := at_T45 HR0_2.out x9_1 p165 q165
      have hw165_3 := hx165_3
      have hw165_2 := hx165_2
      have hw165_1 := hx165_1
      have hw165_0 := hx165_0
      obtain rfl : ad164 = ad165 := (by injection e165)
      replace hx165_0 := (HB.out.cell (World.block_lt_of_cell? w _ hx165_0)).trans hx165_0
      replace hx165_1 := (HB.out.cell (World.block_lt_of_cell? w _ hx165_1)).trans hx165_1
      replace hx165_2 := (HB.out.cell (World.block_lt_of_cell? w _ hx165_2)).trans hx165_2
      replace hx165_3 := (HB.out.cell (World.block_lt_of_cell? w _ hx165_3)).trans hx165_3
      replace p165 := eq_true p165
      replace q165 := eq_true q165
      refine start_ (n := 11) (S := fun w' => w'.cell? ⟨gb156, 0, none⟩ = some (.int .i64 a0_0) ∧ w'.cell? ⟨gb156, 1, none⟩ = some (.int .i64 a0_1) ∧ w'.cell? ⟨gb156, 2, none⟩ = some (.slice Ao53 y161.length co53) ∧ w'.cell? ⟨gb153, 0, none⟩ = some (.int .i64 a0_0) ∧ w'.cell? ⟨gb153, 1, none⟩ = some (.int .i64 a0_1) ∧ w'.cell? ⟨gb153, 2, none⟩ = some (.slice (some ad164) l0_2.length c0_2) ∧ w'.cell? (ad164.add ((x9_1).toNat * 4)) = some (.int .i64 ((rd_T45 l0_2 x9_1).f0)) ∧ w'.cell? ⟨(ad164.add ((x9_1).toNat * 4)).block, (ad164.add ((x9_1).toNat * 4)).off + 1, none⟩ = some (.int .i64 ((rd_T45 l0_2 x9_1).f1)) ∧ w'.cell? ⟨(ad164.add ((x9_1).toNat * 4)).block, (ad164.add ((x9_1).toNat * 4)).off + 2, none⟩ = some (.int .i64 ((rd_T45 l0_2 x9_1).f2)) ∧ w'.cell? ⟨(ad164.add ((x9_1).toNat * 4)).block, (ad164.add ((x9_1).toNat * 4)).off + 3, none⟩ = some (.string ((rd_T45 l0_2 x9_1).f3))) (ds := [10]) #[false, false, false, false, false, false, false, false, false, false, false] (by kernel_rfl) rfl rfl ⟨(blk_cell BK156.out 0).trans rfl, (blk_cell BK156.out 1).trans rfl, (blk_cell BK156.out 2).trans rfl, (blk_cell BK153.out 0).trans rfl, (blk_cell BK153.out 1).trans rfl, (blk_cell BK153.out 2).trans rfl, ((HB.out.cell (World.block_lt_of_cell? w _ hw165_0)).trans hw165_0), ((HB.out.cell (World.block_lt_of_cell? w _ hw165_1)).trans hw165_1), ((HB.out.cell (World.block_lt_of_cell? w _ hw165_2)).trans hw165_2), ((HB.out.cell (World.block_lt_of_cell? w _ hw165_3)).trans hw165_3)⟩ (fun hHeld => ?_); refine with_tabW spec_l09Put.tab10 spec_l09Put.bits10 (fun HT_ HW_ => ?_)
      generalize w57.drew = w58 at HO163 BK153 BK154 BK155 BK156 HB hx165_0 hx165_1 hx165_2 hx165_3 hHeld ⊢
      refine pure_ (i := 0) (N := some 52) (v := ?_) (a' := ?_) #[true, false, false, false, false, false, false, false, false, false, false] rfl rfl (any_of HT_.out (by kernel_rfl)) (fun _ _ _ h => h) (Or.inl ⟨by rfl, ?_⟩) ?_ ?_
      rotate_left
      · intro w'
        go_simp
        with_reducible rfl
      rotate_left
      · simp only [Act.put, List.setIfInBounds_toArray, List.set_cons_zero, List.set_cons_succ, i64_w, i32_w]
        rfl
      refine pure_ (i := 2) (N := some 54) (v := ?_) (a' := ?_) #[true, false, true, false, false, false, false, false, false, false, false] rfl rfl (any_of HT_.out (by kernel_rfl)) (fun _ _ _ h => h) (Or.inl ⟨by rfl, ?_⟩) ?_ ?_
      rotate_left
      · intro w'
        go_simp
        with_reducible rfl
      rotate_left
      · simp only [Act.put, List.setIfInBounds_toArray, List.set_cons_zero, List.set_cons_succ, i64_w, i32_w]
        rfl
      refine pure_ (i := 4) (N := some 56) (v := ?_) (a' := ?_) #[true, false, true, false, true, false, false, false, false, false, false] rfl rfl (any_of HT_.out (by kernel_rfl)) (fun _ _ _ h => h) (Or.inl ⟨by rfl, ?_⟩) ?_ ?_
      rotate_left
      · intro w'
        go_simp
        with_reducible rfl
      rotate_left
      · simp only [Act.put, List.setIfInBounds_toArray, List.set_cons_zero, List.set_cons_succ, i64_w, i32_w]
        rfl
      refine take_ (i := 1) (N := some 53) (v := ?_) (a' := ?_) #[true, true, true, false, true, false, false, false, false, false, false] rfl rfl (take_ofW HT_.out HW_.out (by kernel_rfl)) (fun _ _ _ h => h) (Or.inl ⟨by rfl, ?_⟩) hHeld ?_ ?_
      rotate_left
      · rintro w' ⟨s0, s1, s2, s3, s4, s5, s6, s7, s8, s9⟩
        go_simp
        with_reducible rfl
      rotate_left
      · simp only [Act.put, List.setIfInBounds_toArray, List.set_cons_zero, List.set_cons_succ, i64_w, i32_w]
        rfl
      refine take_ (i := 3) (N := some 55) (v := ?_) (a' := ?_) #[true, true, true, true, true, false, false, false, false, false, false] rfl rfl (take_ofW HT_.out HW_.out (by kernel_rfl)) (fun _ _ _ h => h) (Or.inl ⟨by rfl, ?_⟩) hHeld ?_ ?_
      rotate_left
      · rintro w' ⟨s0, s1, s2, s3, s4, s5, s6, s7, s8, s9⟩
        go_simp
        with_reducible rfl
      rotate_left
      · simp only [Act.put, List.setIfInBounds_toArray, List.set_cons_zero, List.set_cons_succ, i64_w, i32_w]
        rfl
      refine pure_ (i := 5) (N := some 57) (v := ?_) (a' := ?_) #[true, true, true, true, true, true, false, false, false, false, false] rfl rfl (any_of HT_.out (by kernel_rfl)) (fun _ _ _ h => h) (Or.inl ⟨by rfl, ?_⟩) ?_ ?_
      rotate_left
      · intro w'
        go_simp
        with_reducible rfl
      rotate_left
      · simp only [Act.put, List.setIfInBounds_toArray, List.set_cons_zero, List.set_cons_succ, i64_w, i32_w]
        rfl
      refine take_ (i := 6) (N := some 58) (v := ?_) (a' := ?_) #[true, true, true, true, true, true, true, false, false, false, false] rfl rfl (take_ofW HT_.out HW_.out (by kernel_rfl)) (fun _ _ _ h => h) (Or.inl ⟨by rfl, ?_⟩) hHeld ?_ ?_
      rotate_left
      · rintro w' ⟨s0, s1, s2, s3, s4, s5, s6, s7, s8, s9⟩
        go_simp
        with_reducible rfl
      rotate_left
      · simp only [Act.put, List.setIfInBounds_toArray, List.set_cons_zero, List.set_cons_succ, i64_w, i32_w]
        rfl
      refine one_ (i := 7) (N := some 59) #[true, true, true, true, true, true, true, true, false, false, false] rfl rfl (one_of HT_.out (by kernel_rfl)) (by decide) (fun K hK => ?_)
      refine value_ (w1 := ?_) (v := ?_) (by rfl) rfl ?_ ?_
      rotate_left 2
      · go_simp
        constructor
        · rfl
        rfl
      refine hK.out _ _ ⟨(blk_cell (blk_alloc BK156.out _) 0).trans rfl, (blk_cell (blk_alloc BK156.out _) 1).trans rfl, (blk_cell (blk_alloc BK156.out _) 2).trans rfl, (blk_cell (blk_alloc BK153.out _) 0).trans rfl, (blk_cell (blk_alloc BK153.out _) 1).trans rfl, (blk_cell (blk_alloc BK153.out _) 2).trans rfl, (World.cell?_alloc_lt _ _ _ (World.block_lt_of_cell? _ _ (((HB.out.cell (World.block_lt_of_cell? w _ hw165_0)).trans hw165_0)))).trans (((HB.out.cell (World.block_lt_of_cell? w _ hw165_0)).trans hw165_0)), (World.cell?_alloc_lt _ _ _ (World.block_lt_of_cell? _ _ (((HB.out.cell (World.block_lt_of_cell? w _ hw165_1)).trans hw165_1)))).trans (((HB.out.cell (World.block_lt_of_cell? w _ hw165_1)).trans hw165_1)), (World.cell?_alloc_lt _ _ _ (World.block_lt_of_cell? _ _ (((HB.out.cell (World.block_lt_of_cell? w _ hw165_2)).trans hw165_2)))).trans (((HB.out.cell (World.block_lt_of_cell? w _ hw165_2)).trans hw165_2)), (World.cell?_alloc_lt _ _ _ (World.block_lt_of_cell? _ _ (((HB.out.cell (World.block_lt_of_cell? w _ hw165_3)).trans hw165_3)))).trans (((HB.out.cell (World.block_lt_of_cell? w _ hw165_3)).trans hw165_3))⟩ (fun hHeld => ?_)
      clear hK K
      refine norm_ (a' := ?_) ?_ ?_
      rotate_left
      · show Act.put _ (some 59) _ = _
        simp only [Act.put, List.setIfInBounds_toArray, List.set_cons_zero, List.set_cons_succ, i64_w, i32_w]
        rfl
      refine one_ (i := 8) (N := some 60) #[true, true, true, true, true, true, true, true, true, false, false] rfl rfl (one_of HT_.out (by kernel_rfl)) (by decide) (fun K hK => ?_)
      refine Kd.R_append_step k45 (w0 := w) w.heap.size (by rfl) (.tmp 53) (.tmp 59) 27 45 (.agg #[(.int .i64 0), (.int .i64 0), (.int .i64 0), (.string ⟨#[]⟩)]) 40 rfl Try.underlying27 info45 rfl (by decide) (by omega) (.slice Ao53 y161.length co53) y161 (⟨(rd_T45 l0_2 x9_1).f0, (rd_T45 l0_2 x9_1).f1, (rd_T45 l0_2 x9_1).f2, (rd_T45 l0_2 x9_1).f3⟩ : S45) [.int .i64 ((rd_T45 l0_2 x9_1).f0), .int .i64 ((rd_T45 l0_2 x9_1).f1), .int .i64 ((rd_T45 l0_2 x9_1).f2), .string ((rd_T45 l0_2 x9_1).f3)] (fun k_ => k_ ≠ gb154) (fun _ => False) rfl rfl ?aP (fun _ hk => hk.elim) ?aF ?aO ?aB ?aS ?aL ?_
      (case aP => exact k45_mkM _ _ _ (⟨(rd_T45 l0_2 x9_1).f0, (rd_T45 l0_2 x9_1).f1, (rd_T45 l0_2 x9_1).f2, (rd_T45 l0_2 x9_1).f3⟩ : S45))
      (case aB => exact u5_0)
      (case aF => exact (fun k_ hk => Kd.freshB (g := gb154) (o := .cells #[.int .i64 a2_0, .int .i64 a2_1, .int .i64 a2_2, .string a2_3] 45 (0, 0)) u5_1 k_ hk))
      (case aO => exact (by (with_reducible repeat (first | apply Kd.R_alloc | apply Kd.R_drewN | apply Kd.R_drew)); exact HO163.out))
      (case aS => exact (below_size u5_0))
      (case aL => have := LMc44.out; omega)
      intro v167 w59 ho hb hg hat
      rw [← Ny166.out] at ho
      have n0_ := Aside0.mk (blk_grown (g := gb153) (o := .cells #[.int .i64 a0_0, .int .i64 a0_1, .slice (some ad164) l0_2.length c0_2] 29 (0, 0)) u5_2 hg (Kd.R_ne HO163.out BK153.out (by decide)))
      have n1_ := Aside0.mk (blk_grown (g := gb154) (o := .cells #[.int .i64 a2_0, .int .i64 a2_1, .int .i64 a2_2, .string a2_3] 45 (0, 0)) u5_1 hg (Kd.R_away HO163.out (fun _ hk => hk)))
      have n2_ := Aside0.mk (blk_grown (g := gb155) (o := .cells #[.int .i64 0, .int .i64 0, .slice none 0 0] 29 (0, 0)) u5_3 hg (Kd.R_ne HO163.out BK155.out (by decide)))
      have n3_ := Aside0.mk (blk_grown (g := gb156) (o := .cells #[.int .i64 a0_0, .int .i64 a0_1, .slice Ao53 y161.length co53] 29 (0, 0)) u5_5 hg (Kd.R_ne HO163.out BK156.out (by decide)))
      have n4_ := Aside0.mk (hb)
      have n5_ := Aside0.mk (ho)
      clear BK153
      clear BK154
      clear BK155
      clear BK156
      clear HB
      clear HO163
      have BK153 := n0_
      have BK154 := n1_
      have BK155 := n2_
      have BK156 := n3_
      have HB := n4_
      have HO168 := n5_
      clear n0_ n1_ n2_ n3_ n4_ n5_
      clear ho hb hg hat
      obtain ⟨Ao60, co60, eo60⟩ := Kd.R_slice HO168.out
      (first | subst eo60 | (injection eo60 with f1_ f2_ f3_; have f4_ := f1_.symm; have f5_ := f3_.symm; clear f1_ f2_ f3_; subst f4_; subst f5_))
      refine hK.out _ _ ⟨(blk_cell BK156.out 0).trans rfl, (blk_cell BK156.out 1).trans rfl, (blk_cell BK156.out 2).trans rfl, (blk_cell BK153.out 0).trans rfl, (blk_cell BK153.out 1).trans rfl, (blk_cell BK153.out 2).trans rfl, ((HB.out.cell (World.block_lt_of_cell? w _ hw165_0)).trans hw165_0), ((HB.out.cell (World.block_lt_of_cell? w _ hw165_1)).trans hw165_1), ((HB.out.cell (World.block_lt_of_cell? w _ hw165_2)).trans hw165_2), ((HB.out.cell (World.block_lt_of_cell? w _ hw165_3)).trans hw165_3)⟩ (fun hHeld => ?_)
      clear hK K
      refine norm_ (a' := ?_) ?_ ?_
      rotate_left
      · show Act.put _ (some 60) _ = _
        simp only [Act.put, List.setIfInBounds_toArray, List.set_cons_zero, List.set_cons_succ, i64_w, i32_w]
        rfl
      refine pure_ (i := 9) (N := some 61) (v := ?_) (a' := ?_) #[true, true, true, true, true, true, true, true, true, true, false] rfl rfl (any_of HT_.out (by kernel_rfl)) (fun _ _ _ h => h) (Or.inl ⟨by rfl, ?_⟩) ?_ ?_
      rotate_left
      · intro w'
        go_simp
        with_reducible rfl
      rotate_left
      · simp only [Act.put, List.setIfInBounds_toArray, List.set_cons_zero, List.set_cons_succ, i64_w, i32_w]
        rfl
      refine last_ (i := 10) (N := none) #[true, true, true, true, true, true, true, true, true, true, true] rfl rfl (one_of HT_.out (by kernel_rfl)) (by decide) (fun K hK => ?_)
      have hs61 : w59.cell? ⟨gb156, 2, none⟩ = some (.slice Ao53 y161.length co53) := (blk_cell BK156.out 2).trans rfl
      have hfs61 := blk_frozen BK156.out 2
      have hns61_0 := NB153_156.out
      have hns61_1 := NB154_156.out
      have hns61_2 := NB155_156.out
      have hms61_0 := NB156_153.out
      have hms61_1 := NB156_154.out
      have hms61_2 := NB156_155.out
      refine skip_ (w1 := ?_) (by rfl) rfl ?_ ?_
      rotate_left
      · go_simp
        rfl
      refine hK.out _ _ ?_
      clear hK K
      refine done_ (done_of HT_.out (by kernel_rfl)) ?_
      try go_wp2
      go_roundg kj17
      case measure => have := HK1.out; have := HJ17.out; omega
      case rel => exact ⟨(true), (wrap64 (x9_1 + 1)), (y166), (.slice Ao60 y166.length co60), u5_11, u5_11, H', ⟨u5_17⟩, ⟨(by (with_reducible repeat (first | apply Kd.R_alloc | apply Kd.R_drewN | apply Kd.R_drew)); exact Kd.R_mono (Kd.R_far (p := ⟨gb156, 2, none⟩) (Kd.R_types HO168.out BK156.out (by decide)) (fun _ hk => hk.2) (.slice Ao60 y166.length co60)) (fun _ hk => hk.1))⟩, ⟨u5_7⟩, ⟨u5_8⟩, ⟨u5_9⟩, ⟨(by (with_reducible repeat (first | refine blk_drewN ?_ _ | refine blk_drew ?_ | refine blk_alloc ?_ _)); refine blk_put (cs := #[.int .i64 a0_0, .int .i64 a0_1, .slice Ao53 y161.length co53]) ?_ 2 _ rfl; (with_reducible repeat (first | refine blk_drewN ?_ _ | refine blk_drew ?_ | refine blk_alloc ?_ _)); exact BK156.out)⟩, ⟨u5_0⟩⟩

end Go.Proofs.Ytjdpifafijcpbaa.QFnExactForget
