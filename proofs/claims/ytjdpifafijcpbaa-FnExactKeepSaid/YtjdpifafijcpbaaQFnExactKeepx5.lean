-- Printed by the session's own program wip/prx.py.
import Derived.Test.YtjdpifafijcpbaaQFnExactKeepx0
namespace Go.Proofs.Ytjdpifafijcpbaa.QFnExactKeep
open Go.RowKit Go.Proofs.YtjdpifafijcpbaaW.PrintWords Go.Proofs.YtjdpifafijcpbaaW.PrintLast Go.Proofs.YtjdpifafijcpbaaW.PrintMore
attribute [local go_sem] max2_int min2_int max_two min_two max_three min_three max_four min_four Go.Proofs.Ytjdpifafijcpbaa.Set.isSome_setCell   -- for this text's walks alone
set_option linter.unusedVariables false
set_option linter.unusedSimpArgs false

-- squeezed
theorem u5_0 {P : Prop} (h : P := by repeat (first | (with_reducible first | exact HB.out | apply below_alloc | apply pw_below_drewN | apply below_drew1 | refine below_set ?_ GE180.out | refine below_set ?_ GE181.out | refine below_set ?_ GE182.out | refine below_set ?_ GE183.out) | exact HB.out)) : P := h
theorem u5_1 {P : Prop} (h : P := by (with_reducible repeat (first | refine blk_drewN ?_ _ | refine blk_drew ?_ | refine blk_alloc ?_ _)); exact BK181.out) : P := h
theorem u5_2 {P : Prop} (h : P := by (with_reducible repeat (first | refine blk_drewN ?_ _ | refine blk_drew ?_ | refine blk_alloc ?_ _)); exact BK180.out) : P := h
theorem u5_3 {P : Prop} (h : P := by (with_reducible repeat (first | refine blk_drewN ?_ _ | refine blk_drew ?_ | refine blk_alloc ?_ _)); exact BK182.out) : P := h
theorem u5_4 {P : Prop} (h : P := by (with_reducible repeat (first | refine blk_drewN ?_ _ | refine blk_drew ?_ | refine blk_alloc ?_ _)); exact BK183.out) : P := h
theorem u5_5 {P : Prop} (h : P := by (with_reducible repeat (first | apply Kd.R_alloc | apply Kd.R_drewN | apply Kd.R_drew)); exact HO_184002.out) : P := h
theorem u5_6 {P : Prop} (h : P := by (with_reducible repeat (first | refine blk_drewN ?_ _ | refine blk_drew ?_ | refine blk_alloc ?_ _)); refine blk_far ?_ NB180_183.out _; (with_reducible repeat (first | refine blk_drewN ?_ _ | refine blk_drew ?_ | refine blk_alloc ?_ _)); exact BK180.out) : P := h
theorem u5_7 {P : Prop} (h : P := by (with_reducible repeat (first | refine blk_drewN ?_ _ | refine blk_drew ?_ | refine blk_alloc ?_ _)); refine blk_far ?_ NB181_183.out _; (with_reducible repeat (first | refine blk_drewN ?_ _ | refine blk_drew ?_ | refine blk_alloc ?_ _)); exact BK181.out) : P := h
theorem u5_8 {P : Prop} (h : P := by (with_reducible repeat (first | refine blk_drewN ?_ _ | refine blk_drew ?_ | refine blk_alloc ?_ _)); refine blk_far ?_ NB182_183.out _; (with_reducible repeat (first | refine blk_drewN ?_ _ | refine blk_drew ?_ | refine blk_alloc ?_ _)); exact BK182.out) : P := h
theorem u5_9 {P : Prop} (h : P := by first | rfl | (simp; done) | (simp [*]; done)) : P := h
theorem u5_10 {P : Prop} (h : P := by repeat (first | (with_reducible first | exact HB.out | apply below_alloc | apply pw_below_drewN | apply below_drew1 | refine below_set ?_ GE180.out | refine below_set ?_ GE181.out | refine below_set ?_ GE182.out) | exact HB.out)) : P := h
theorem u5_11 {P : Prop} (h : P := by first | (with_reducible assumption) | assumption) : P := h
theorem u5_12 {P : Prop} (h : P := by repeat (first | (with_reducible first | exact HB.out | apply below_alloc | apply pw_below_drewN | apply below_drew1 | refine below_set ?_ GE180.out | refine below_set ?_ GE181.out) | exact HB.out)) : P := h
theorem u5_13 {P : Prop} (h : P := by first | (rw [add_block]; exact hn191_0) | (show (Addr.add _ _).block ≠ _; rw [add_block]; exact hn191_0) | exact hn191_0) : P := h
theorem u5_14 {P : Prop} (h : P := by repeat (first | (with_reducible first | exact HB.out | apply below_alloc | apply pw_below_drewN | apply below_drew1 | refine below_set ?_ GE180.out) | exact HB.out)) : P := h
theorem u5_15 {P : Prop} (h : P := by (with_reducible repeat (first | refine blk_drewN ?_ _ | refine blk_drew ?_ | refine blk_alloc ?_ _)); refine blk_put (cs := #[.int .i64 a0_0, .int .i64 a0_1, u184002]) ?_ 2 _ rfl; (with_reducible repeat (first | refine blk_drewN ?_ _ | refine blk_drew ?_ | refine blk_alloc ?_ _)); exact BK183.out) : P := h
theorem u5_16 {P : Prop} (h : P := by repeat (first | (with_reducible first | exact HB.out | apply below_alloc | apply pw_below_drewN | apply below_drew1) | exact HB.out)) : P := h
theorem u5_17 {P : Prop} (h : P := by have := HK1.out; have := HJ17.out; omega) : P := h
/-! ### spec_l09Put: function 28 -/
mutual
def spec_l09Put.l0 : Nat → Int → Bool → Int → Int → Int → List (S45) → Int → Int → Int → ByteArray → Int → Int → List (S45) → Option (Int × Int × (List (S45)))
  | 0, _, _, _, _, _, _, _, _, _, _, _, _, _ => none
  | k + 1, x1, x8, x9, x181000, x181001, x181002, x182000, x182001, x182002, x182003, x184000, x184001, x184002 => if x9 < (x181002.length : Int) then (if x8 = true then (spec_l09Put.j1 k x1 x8 x9 false x181000 x181001 x181002 x182000 x182001 x182002 x182003 x184000 x184001 x184002) else (if 0 ≤ x9 then (spec_l09Put.j1 k x1 x8 x9 (decide (((rd_T45 x181002 x9).f0) > x182000)) x181000 x181001 x181002 x182000 x182001 x182002 x182003 x184000 x184001 x184002) else (none))) else (if x8 = true then (some (x184000, x184001, x184002)) else (if x184002.length < 3518437208883 then (some (x184000, x184001, (x184002 ++ [(⟨x182000, x182001, x182002, x182003⟩ : S45)]))) else (none)))
def spec_l09Put.j1 : Nat → Int → Bool → Int → Bool → Int → Int → List (S45) → Int → Int → Int → ByteArray → Int → Int → List (S45) → Option (Int × Int × (List (S45)))
  | 0, _, _, _, _, _, _, _, _, _, _, _, _, _, _ => none
  | k + 1, x1, x8, x9, x37, x181000, x181001, x181002, x182000, x182001, x182002, x182003, x184000, x184001, x184002 => if x37 = true then (if x184002.length < 3518437208883 then ((some (x184002 ++ [(⟨x182000, x182001, x182002, x182003⟩ : S45)] : List (S45))).bind fun y188 => (if 0 ≤ x9 then (if x9 < (x181002.length : Int) then (if ((rd_T45 x181002 x9).f0) = x1 then (spec_l09Put.l0 k x1 true (wrap64 (x9 + 1)) x181000 x181001 x181002 x182000 x182001 x182002 x182003 x184000 x184001 y188) else (if y188.length < 3518437208883 then (spec_l09Put.l0 k x1 true (wrap64 (x9 + 1)) x181000 x181001 x181002 x182000 x182001 x182002 x182003 x184000 x184001 (y188 ++ [(⟨(rd_T45 x181002 x9).f0, (rd_T45 x181002 x9).f1, (rd_T45 x181002 x9).f2, (rd_T45 x181002 x9).f3⟩ : S45)])) else (none))) else (none)) else (none))) else (none)) else (if 0 ≤ x9 then (if x9 < (x181002.length : Int) then (if ((rd_T45 x181002 x9).f0) = x1 then (spec_l09Put.l0 k x1 x8 (wrap64 (x9 + 1)) x181000 x181001 x181002 x182000 x182001 x182002 x182003 x184000 x184001 x184002) else (if x184002.length < 3518437208883 then (spec_l09Put.l0 k x1 x8 (wrap64 (x9 + 1)) x181000 x181001 x181002 x182000 x182001 x182002 x182003 x184000 x184001 (x184002 ++ [(⟨(rd_T45 x181002 x9).f0, (rd_T45 x181002 x9).f1, (rd_T45 x181002 x9).f2, (rd_T45 x181002 x9).f3⟩ : S45)])) else (none))) else (none)) else (none))
end
def spec_l09Put.f (k : Nat) (a0_0 : Int) (a0_1 : Int) (l0_2 : List (S45)) (a1 : Int) (a2_0 : Int) (a2_1 : Int) (a2_2 : Int) (a2_3 : ByteArray) : Option (Int × Int × (List (S45))) := spec_l09Put.l0 k a1 (a2_0 == 0) 0 a0_0 a0_1 l0_2 a2_0 a2_1 a2_2 a2_3 a0_0 a0_1 ([] : List (S45))
theorem spec_l09Put.mono_l : ∀ k, (∀ y0 y1 y2 y3 y4 y5 y6 y7 y8 y9 y10 y11 y12, LeO (spec_l09Put.l0 k y0 y1 y2 y3 y4 y5 y6 y7 y8 y9 y10 y11 y12) (spec_l09Put.l0 (k + 1) y0 y1 y2 y3 y4 y5 y6 y7 y8 y9 y10 y11 y12)) ∧ (∀ y0 y1 y2 y3 y4 y5 y6 y7 y8 y9 y10 y11 y12 y13, LeO (spec_l09Put.j1 k y0 y1 y2 y3 y4 y5 y6 y7 y8 y9 y10 y11 y12 y13) (spec_l09Put.j1 (k + 1) y0 y1 y2 y3 y4 y5 y6 y7 y8 y9 y10 y11 y12 y13))
  | 0 => ⟨fun _ _ _ _ _ _ _ _ _ _ _ _ _ r h => by simp [spec_l09Put.l0] at h, fun _ _ _ _ _ _ _ _ _ _ _ _ _ _ r h => by simp [spec_l09Put.j1] at h⟩
  | k + 1 => by
    obtain ⟨ih0, ih1⟩ := spec_l09Put.mono_l k
    refine ⟨?_, ?_⟩
    · intro y0 y1 y2 y3 y4 y5 y6 y7 y8 y9 y10 y11 y12
      unfold spec_l09Put.l0
      repeat' first
      | (with_reducible exact ih0 _ _ _ _ _ _ _ _ _ _ _ _ _)
      | (with_reducible exact ih1 _ _ _ _ _ _ _ _ _ _ _ _ _ _)
      | (with_reducible exact LeO.refl _)
      | (with_reducible exact LeO.none _)
      | (with_reducible refine LeO.ite ?_ ?_)
      | (with_reducible refine LeO.bind ?_ (fun _ => ?_))
      | exact ih0 _ _ _ _ _ _ _ _ _ _ _ _ _
      | exact ih1 _ _ _ _ _ _ _ _ _ _ _ _ _ _
      | exact LeO.none _
      | refine LeO.ite ?_ ?_
      | refine LeO.bind ?_ (fun _ => ?_)
    · intro y0 y1 y2 y3 y4 y5 y6 y7 y8 y9 y10 y11 y12 y13
      unfold spec_l09Put.j1
      repeat' first
      | (with_reducible exact ih0 _ _ _ _ _ _ _ _ _ _ _ _ _)
      | (with_reducible exact ih1 _ _ _ _ _ _ _ _ _ _ _ _ _ _)
      | (with_reducible exact LeO.refl _)
      | (with_reducible exact LeO.none _)
      | (with_reducible refine LeO.ite ?_ ?_)
      | (with_reducible refine LeO.bind ?_ (fun _ => ?_))
      | exact ih0 _ _ _ _ _ _ _ _ _ _ _ _ _
      | exact ih1 _ _ _ _ _ _ _ _ _ _ _ _ _ _
      | exact LeO.none _
      | refine LeO.ite ?_ ?_
      | refine LeO.bind ?_ (fun _ => ?_)
theorem spec_l09Put.mono : ∀ a0 a1 a2 a3 a4 a5 a6 a7 k, LeO (spec_l09Put.f k a0 a1 a2 a3 a4 a5 a6 a7) (spec_l09Put.f (k + 1) a0 a1 a2 a3 a4 a5 a6 a7) := by
  intro a0 a1 a2 a3 a4 a5 a6 a7 k
  obtain ⟨ih0, ih1⟩ := spec_l09Put.mono_l k
  unfold spec_l09Put.f
  repeat' first
      | (with_reducible exact ih0 _ _ _ _ _ _ _ _ _ _ _ _ _)
      | (with_reducible exact ih1 _ _ _ _ _ _ _ _ _ _ _ _ _ _)
      | (with_reducible exact LeO.refl _)
      | (with_reducible exact LeO.none _)
      | (with_reducible refine LeO.ite ?_ ?_)
      | (with_reducible refine LeO.bind ?_ (fun _ => ?_))
      | exact ih0 _ _ _ _ _ _ _ _ _ _ _ _ _
      | exact ih1 _ _ _ _ _ _ _ _ _ _ _ _ _ _
      | exact LeO.none _
      | refine LeO.ite ?_ ?_
      | refine LeO.bind ?_ (fun _ => ?_)
def spec_l09Put.T6 : Bool × List (List Nat × List Nat) := (true, [([], []), ([0], [0]), ([1], [1]), ([2], [2]), ([3, 2], [2, 3]), ([2], [2]), ([4, 5, 2], [2, 4, 5]), ([6, 2], [2, 6]), ([7, 2], [2, 7]), ([2], [2]), ([9, 2], [2, 9]), ([8, 10, 2], [2, 8, 10]), ([2, 11], [2, 11])])
def spec_l09Put.B6 : List Nat := [0, 1, 3, 7, 15, 7, 63, 127, 255, 7, 519, 2047, 4095]
theorem spec_l09Put.tab6 : rtab .any (opsOf Try.f28 6) = spec_l09Put.T6 := by kernel_rfl
theorem spec_l09Put.bits6 : waitsOk spec_l09Put.T6.2 spec_l09Put.B6 = true := by kernel_rfl
def spec_l09Put.T10 : Bool × List (List Nat × List Nat) := (true, [([], []), ([0], [0]), ([], []), ([2], [2]), ([], []), ([3, 4], [3, 4]), ([5], [5]), ([6], [6]), ([1, 7], [1, 7]), ([0, 1, 2, 3, 4, 5, 6, 7, 8], []), ([9, 8, 8, 0, 1, 2, 3, 4, 5, 6, 7, 8], [8, 9])])
def spec_l09Put.B10 : List Nat := [0, 1, 0, 4, 0, 28, 60, 124, 255, 511, 1023]
theorem spec_l09Put.tab10 : rtab .any (opsOf Try.f28 10) = spec_l09Put.T10 := by kernel_rfl
theorem spec_l09Put.bits10 : waitsOk spec_l09Put.T10.2 spec_l09Put.B10 = true := by kernel_rfl
set_option maxHeartbeats 8000000 in
set_option maxRecDepth 100000 in
theorem spec_l09Put.calls (k : Nat) (a0_0 : Int) (a0_1 : Int) (A0_2 : Option Addr) (c0_2 : Nat) (l0_2 : List (S45)) (a1 : Int) (a2_0 : Int) (a2_1 : Int) (a2_2 : Int) (a2_3 : ByteArray) (r1 : Int) (r2 : Int) (r3 : List (S45)) (w : World) (hr0_2 : Kd.C k45 w A0_2 l0_2.length l0_2) (hc0_2 : l0_2.length ≤ c0_2) (h : spec_l09Put.f k a0_0 a0_1 l0_2 a1 a2_0 a2_1 a2_2 a2_3 = some (r1, r2, r3)) :
    Calls Try.prog 28 #[.agg #[.int .i64 a0_0, .int .i64 a0_1, .slice A0_2 l0_2.length c0_2], .int .i64 a1, .agg #[.int .i64 a2_0, .int .i64 a2_1, .int .i64 a2_2, .string a2_3]] w fun e w' => ∃ v2_ : Value, e = .returned (.agg #[.int .i64 r1, .int .i64 r2, v2_]) ∧ Kd.R k45 45 w' w.heap.size (fun _ => True) v2_ r3 ∧ Below w.heap.size w w' := by
  have hu29 := Try.underlying29
  have hu45 := Try.underlying45
  have HR0_2 := Aside0.mk hr0_2
  have HC0_2 := Aside0.mk hc0_2
  clear hr0_2 hc0_2
  have HB := Aside0.mk (Below.refl w.heap.size w)
  have H : (spec_l09Put.l0 k a1 (a2_0 == 0) 0 a0_0 a0_1 l0_2 a2_0 a2_1 a2_2 a2_3 a0_0 a0_1 ([] : List (S45))) = some (r1, r2, r3) := h
  clear h
  have H' := Aside0.mk H
  clear H
  go_enter Try.func28, Try.ntmps28
  go_wp2_with (first | ((with_reducible refine gate_dst (N := 3) rfl ?_); refine box_event ?hg (N := 3) ?hd (cs := #[.int .i64 a0_0, .int .i64 a0_1, .slice A0_2 l0_2.length c0_2]) (t := 29) ?hr ?_; (case hd => rfl); (case hg => rfl); (case hr => first | (go_simp; done) | (go_simp; rfl)); intro gb180 hg w4 hbox hb; have n0_ := Aside0.mk (below_step u5_16 hb); have n1_ := Aside0.mk (hbox); have n2_ := Aside0.mk ((by rw [hg]; exact (below_size u5_16) : w.heap.size ≤ gb180)); have n3_ := Aside0.mk ((by rw [hg]; exact (below_size u5_16) : w.heap.size ≤ gb180)); clear HB; have HB := n0_; have BK180 := n1_; have GW180 := n2_; have GE180 := n3_; clear n0_ n1_ n2_ n3_; clear hb hbox hg) | ((with_reducible refine gate_dst (N := 5) rfl ?_); refine box_event ?hg (N := 5) ?hd (cs := #[.int .i64 a2_0, .int .i64 a2_1, .int .i64 a2_2, .string a2_3]) (t := 45) ?hr ?_; (case hd => rfl); (case hg => rfl); (case hr => first | (go_simp; done) | (go_simp; rfl)); intro gb181 hg w5 hbox hb; have n0_ := Aside0.mk (blk_below (g := gb180) (o := .cells #[.int .i64 a0_0, .int .i64 a0_1, .slice A0_2 l0_2.length c0_2] 29 (0, 0)) u5_2 hb); have n1_ := Aside0.mk (below_step u5_14 hb); have n2_ := Aside0.mk (hbox); have n3_ := Aside0.mk ((by rw [hg]; exact (below_size u5_14) : w.heap.size ≤ gb181)); have n4_ := Aside0.mk ((by rw [hg]; exact (below_size u5_14) : w.heap.size ≤ gb181)); have n5_ := Aside0.mk ((by rw [hg]; exact Nat.ne_of_lt (blk_lt (g := gb180) (o := .cells #[.int .i64 a0_0, .int .i64 a0_1, .slice A0_2 l0_2.length c0_2] 29 (0, 0)) u5_2) : gb180 ≠ gb181)); have n6_ := Aside0.mk ((by rw [hg]; exact Nat.ne_of_gt (blk_lt (g := gb180) (o := .cells #[.int .i64 a0_0, .int .i64 a0_1, .slice A0_2 l0_2.length c0_2] 29 (0, 0)) u5_2) : gb181 ≠ gb180)); clear BK180; clear HB; have BK180 := n0_; have HB := n1_; have BK181 := n2_; have GW181 := n3_; have GE181 := n4_; have NB180_181 := n5_; have NB181_180 := n6_; clear n0_ n1_ n2_ n3_ n4_ n5_ n6_; clear hb hbox hg) | ((with_reducible refine gate_dst (N := 6) rfl ?_); refine box_event ?hg (N := 6) ?hd (cs := #[.int .i64 0, .int .i64 0, .slice none 0 0]) (t := 29) ?hr ?_; (case hd => rfl); (case hg => rfl); (case hr => first | (go_simp; done) | (go_simp; rfl)); intro gb182 hg w6 hbox hb; have n0_ := Aside0.mk (blk_below (g := gb180) (o := .cells #[.int .i64 a0_0, .int .i64 a0_1, .slice A0_2 l0_2.length c0_2] 29 (0, 0)) u5_2 hb); have n1_ := Aside0.mk (blk_below (g := gb181) (o := .cells #[.int .i64 a2_0, .int .i64 a2_1, .int .i64 a2_2, .string a2_3] 45 (0, 0)) u5_1 hb); have n2_ := Aside0.mk (below_step u5_12 hb); have n3_ := Aside0.mk (hbox); have n4_ := Aside0.mk ((by rw [hg]; exact (below_size u5_12) : w.heap.size ≤ gb182)); have n5_ := Aside0.mk ((by rw [hg]; exact (below_size u5_12) : w.heap.size ≤ gb182)); have n6_ := Aside0.mk ((by rw [hg]; exact Nat.ne_of_lt (blk_lt (g := gb180) (o := .cells #[.int .i64 a0_0, .int .i64 a0_1, .slice A0_2 l0_2.length c0_2] 29 (0, 0)) u5_2) : gb180 ≠ gb182)); have n7_ := Aside0.mk ((by rw [hg]; exact Nat.ne_of_gt (blk_lt (g := gb180) (o := .cells #[.int .i64 a0_0, .int .i64 a0_1, .slice A0_2 l0_2.length c0_2] 29 (0, 0)) u5_2) : gb182 ≠ gb180)); have n8_ := Aside0.mk ((by rw [hg]; exact Nat.ne_of_lt (blk_lt (g := gb181) (o := .cells #[.int .i64 a2_0, .int .i64 a2_1, .int .i64 a2_2, .string a2_3] 45 (0, 0)) u5_1) : gb181 ≠ gb182)); have n9_ := Aside0.mk ((by rw [hg]; exact Nat.ne_of_gt (blk_lt (g := gb181) (o := .cells #[.int .i64 a2_0, .int .i64 a2_1, .int .i64 a2_2, .string a2_3] 45 (0, 0)) u5_1) : gb182 ≠ gb181)); clear BK180; clear BK181; clear HB; have BK180 := n0_; have BK181 := n1_; have HB := n2_; have BK182 := n3_; have GW182 := n4_; have GE182 := n5_; have NB180_182 := n6_; have NB182_180 := n7_; have NB181_182 := n8_; have NB182_181 := n9_; clear n0_ n1_ n2_ n3_ n4_ n5_ n6_ n7_ n8_ n9_; clear hb hbox hg; have hnb7 := NB180_181.out; have hnc7 := NB181_180.out; have hnb8 := NB180_182.out; have hnc8 := NB182_180.out; have hcz9_0 : w6.cell? ⟨gb180, 0, none⟩ = some (.int .i64 a0_0) := (blk_cell BK180.out 0).trans rfl; have hcz9_1 : w6.cell? ⟨gb180, 1, none⟩ = some (.int .i64 a0_1) := (blk_cell BK180.out 1).trans rfl; have hcz9_2 : w6.cell? ⟨gb180, 2, none⟩ = some (.slice A0_2 l0_2.length c0_2) := (blk_cell BK180.out 2).trans rfl; have hfz9_0 := blk_frozen BK180.out 0; have hfz9_1 := blk_frozen BK180.out 1; have hfz9_2 := blk_frozen BK180.out 2) | ((with_reducible refine gate_dst (N := 7) rfl ?_); refine box_event ?hg (N := 7) ?hd (cs := #[.int .i64 0, .int .i64 0, .slice none 0 0]) (t := 29) ?hr ?_; (case hd => rfl); (case hg => rfl); (case hr => first | (go_simp; done) | (go_simp; rfl)); intro gb183 hg w10 hbox hb; have n0_ := Aside0.mk (blk_below (g := gb180) (o := .cells #[.int .i64 a0_0, .int .i64 a0_1, .slice A0_2 l0_2.length c0_2] 29 (0, 0)) u5_2 hb); have n1_ := Aside0.mk (blk_below (g := gb181) (o := .cells #[.int .i64 a2_0, .int .i64 a2_1, .int .i64 a2_2, .string a2_3] 45 (0, 0)) u5_1 hb); have n2_ := Aside0.mk (blk_below (g := gb182) (o := .cells #[.int .i64 0, .int .i64 0, .slice none 0 0] 29 (0, 0)) u5_3 hb); have n3_ := Aside0.mk (below_step u5_10 hb); have n4_ := Aside0.mk (hbox); have n5_ := Aside0.mk ((by rw [hg]; exact (below_size u5_10) : w.heap.size ≤ gb183)); have n6_ := Aside0.mk ((by rw [hg]; exact (below_size u5_10) : w.heap.size ≤ gb183)); have n7_ := Aside0.mk ((by rw [hg]; exact Nat.ne_of_lt (blk_lt (g := gb180) (o := .cells #[.int .i64 a0_0, .int .i64 a0_1, .slice A0_2 l0_2.length c0_2] 29 (0, 0)) u5_2) : gb180 ≠ gb183)); have n8_ := Aside0.mk ((by rw [hg]; exact Nat.ne_of_gt (blk_lt (g := gb180) (o := .cells #[.int .i64 a0_0, .int .i64 a0_1, .slice A0_2 l0_2.length c0_2] 29 (0, 0)) u5_2) : gb183 ≠ gb180)); have n9_ := Aside0.mk ((by rw [hg]; exact Nat.ne_of_lt (blk_lt (g := gb181) (o := .cells #[.int .i64 a2_0, .int .i64 a2_1, .int .i64 a2_2, .string a2_3] 45 (0, 0)) u5_1) : gb181 ≠ gb183)); have n10_ := Aside0.mk ((by rw [hg]; exact Nat.ne_of_gt (blk_lt (g := gb181) (o := .cells #[.int .i64 a2_0, .int .i64 a2_1, .int .i64 a2_2, .string a2_3] 45 (0, 0)) u5_1) : gb183 ≠ gb181)); have n11_ := Aside0.mk ((by rw [hg]; exact Nat.ne_of_lt (blk_lt (g := gb182) (o := .cells #[.int .i64 0, .int .i64 0, .slice none 0 0] 29 (0, 0)) u5_3) : gb182 ≠ gb183)); have n12_ := Aside0.mk ((by rw [hg]; exact Nat.ne_of_gt (blk_lt (g := gb182) (o := .cells #[.int .i64 0, .int .i64 0, .slice none 0 0] 29 (0, 0)) u5_3) : gb183 ≠ gb182)); clear BK180; clear BK181; clear BK182; clear HB; have BK180 := n0_; have BK181 := n1_; have BK182 := n2_; have HB := n3_; have BK183 := n4_; have GW183 := n5_; have GE183 := n6_; have NB180_183 := n7_; have NB183_180 := n8_; have NB181_183 := n9_; have NB183_181 := n10_; have NB182_183 := n11_; have NB183_182 := n12_; clear n0_ n1_ n2_ n3_ n4_ n5_ n6_ n7_ n8_ n9_ n10_ n11_ n12_; clear hb hbox hg; have hnb11 := NB183_180.out; have hnc11 := NB180_183.out; have hnb12 := NB183_181.out; have hnc12 := NB181_183.out; have hnb13 := NB183_182.out; have hnc13 := NB182_183.out; have hcz14_0 : w10.cell? ⟨gb183, 0, none⟩ = some (.int .i64 0) := (blk_cell BK183.out 0).trans rfl; have hcz14_1 : w10.cell? ⟨gb183, 1, none⟩ = some (.int .i64 0) := (blk_cell BK183.out 1).trans rfl; have hcz14_2 : w10.cell? ⟨gb183, 2, none⟩ = some (.slice none 0 0) := (blk_cell BK183.out 2).trans rfl; have hfz14_0 := blk_frozen BK183.out 0; have hfz14_1 := blk_frozen BK183.out 1; have hfz14_2 := blk_frozen BK183.out 2; have hnb15 := NB181_182.out; have hnc15 := NB182_181.out; have hcz16_0 : w10.cell? ⟨gb181, 0, none⟩ = some (.int .i64 a2_0) := (blk_cell BK181.out 0).trans rfl; have hcz16_1 : w10.cell? ⟨gb181, 1, none⟩ = some (.int .i64 a2_1) := (blk_cell BK181.out 1).trans rfl; have hcz16_2 : w10.cell? ⟨gb181, 2, none⟩ = some (.int .i64 a2_2) := (blk_cell BK181.out 2).trans rfl; have hcz16_3 : w10.cell? ⟨gb181, 3, none⟩ = some (.string a2_3) := (blk_cell BK181.out 3).trans rfl; have hfz16_0 := blk_frozen BK181.out 0; have hfz16_1 := blk_frozen BK181.out 1; have hfz16_2 := blk_frozen BK181.out 2; have hfz16_3 := blk_frozen BK181.out 3))
  go_loopg [8, 9] k (fun kq v8 v9 w' => ∃ (x8_1 : Bool) (x9_1 : Int) (x184002_1 : List (S45)) (u184002 : Value), v8 = .bool x8_1 ∧ v9 = .int .i64 x9_1 ∧ Aside0 (spec_l09Put.l0 kq a1 x8_1 x9_1 a0_0 a0_1 l0_2 a2_0 a2_1 a2_2 a2_3 a0_0 a0_1 x184002_1 = some (r1, r2, r3)) ∧ Aside0 (kq ≤ k) ∧ Aside0 (Kd.R k45 45 w' w.heap.size (fun k_ => k_ ≠ gb181) u184002 x184002_1) ∧ Aside0 (w'.heap[gb180]? = some (.cells #[.int .i64 a0_0, .int .i64 a0_1, (.slice A0_2 l0_2.length c0_2)] 29 (0, 0))) ∧ Aside0 (w'.heap[gb181]? = some (.cells #[.int .i64 a2_0, .int .i64 a2_1, .int .i64 a2_2, .string a2_3] 45 (0, 0))) ∧ Aside0 (w'.heap[gb182]? = some (.cells #[.int .i64 0, .int .i64 0, (.slice none 0 0)] 29 (0, 0))) ∧ Aside0 (w'.heap[gb183]? = some (.cells #[.int .i64 a0_0, .int .i64 a0_1, u184002] 29 (0, 0))) ∧ Aside0 (Below w.heap.size w w'))
  case atStart => exact ⟨((a2_0 == 0)), (0), (([] : List (S45))), (.slice none 0 0), u5_9, u5_9, H', ⟨Nat.le_refl _⟩, ⟨(by first | exact Kd.R_nil _ _ _ _ _ | exact Kd.N_nil _ _ _ _ _ | exact Kd.V_nil _ _ _ _ _ | exact Kd.Q_nil _ _ _ _ _ | exact Kd.S_nil _ _ _ _ _)⟩, ⟨(by (with_reducible repeat (first | refine blk_drewN ?_ _ | refine blk_drew ?_ | refine blk_alloc ?_ _)); refine blk_far ?_ NB180_183.out _; (with_reducible repeat (first | refine blk_drewN ?_ _ | refine blk_drew ?_ | refine blk_alloc ?_ _)); refine blk_far ?_ NB180_183.out _; (with_reducible repeat (first | refine blk_drewN ?_ _ | refine blk_drew ?_ | refine blk_alloc ?_ _)); refine blk_far ?_ NB180_183.out _; (with_reducible repeat (first | refine blk_drewN ?_ _ | refine blk_drew ?_ | refine blk_alloc ?_ _)); exact BK180.out)⟩, ⟨(by (with_reducible repeat (first | refine blk_drewN ?_ _ | refine blk_drew ?_ | refine blk_alloc ?_ _)); refine blk_far ?_ NB181_183.out _; (with_reducible repeat (first | refine blk_drewN ?_ _ | refine blk_drew ?_ | refine blk_alloc ?_ _)); refine blk_far ?_ NB181_183.out _; (with_reducible repeat (first | refine blk_drewN ?_ _ | refine blk_drew ?_ | refine blk_alloc ?_ _)); refine blk_far ?_ NB181_183.out _; (with_reducible repeat (first | refine blk_drewN ?_ _ | refine blk_drew ?_ | refine blk_alloc ?_ _)); exact BK181.out)⟩, ⟨(by (with_reducible repeat (first | refine blk_drewN ?_ _ | refine blk_drew ?_ | refine blk_alloc ?_ _)); refine blk_far ?_ NB182_183.out _; (with_reducible repeat (first | refine blk_drewN ?_ _ | refine blk_drew ?_ | refine blk_alloc ?_ _)); refine blk_far ?_ NB182_183.out _; (with_reducible repeat (first | refine blk_drewN ?_ _ | refine blk_drew ?_ | refine blk_alloc ?_ _)); refine blk_far ?_ NB182_183.out _; (with_reducible repeat (first | refine blk_drewN ?_ _ | refine blk_drew ?_ | refine blk_alloc ?_ _)); exact BK182.out)⟩, ⟨(by (with_reducible repeat (first | refine blk_drewN ?_ _ | refine blk_drew ?_ | refine blk_alloc ?_ _)); refine blk_put (cs := #[.int .i64 a0_0, .int .i64 a0_1, .slice none 0 0]) ?_ 2 _ rfl; (with_reducible repeat (first | refine blk_drewN ?_ _ | refine blk_drew ?_ | refine blk_alloc ?_ _)); refine blk_put (cs := #[.int .i64 a0_0, .int .i64 0, .slice none 0 0]) ?_ 1 _ rfl; (with_reducible repeat (first | refine blk_drewN ?_ _ | refine blk_drew ?_ | refine blk_alloc ?_ _)); refine blk_put (cs := #[.int .i64 0, .int .i64 0, .slice none 0 0]) ?_ 0 _ rfl; (with_reducible repeat (first | refine blk_drewN ?_ _ | refine blk_drew ?_ | refine blk_alloc ?_ _)); exact BK183.out)⟩, ⟨u5_0⟩⟩
  clear H'
  try clear c1
  try clear c2
  try clear p2
  try clear c7
  try clear c8
  try clear c11
  try clear c12
  try clear c13
  try clear c15
  try clear hcz14_0
  try clear hcz14_1
  try clear hcz14_2
  try clear hcz16_0
  try clear hcz16_1
  try clear hcz16_2
  try clear hcz16_3
  try clear hcz9_0
  try clear hcz9_1
  try clear hcz9_2
  try clear hfz14_0
  try clear hfz14_1
  try clear hfz14_2
  try clear hfz16_0
  try clear hfz16_1
  try clear hfz16_2
  try clear hfz16_3
  try clear hfz9_0
  try clear hfz9_1
  try clear hfz9_2
  obtain ⟨x8_1, x9_1, x184002_1, u184002, rfl, rfl, HA, HK1, HO_184002, BK180, BK181, BK182, BK183, HB⟩ := hrel
  cases gk with
  | zero => exact absurd HA.out (by simp [spec_l09Put.l0])
  | succ k1 =>
    have H := HA.out
    clear HA
    simp only [spec_l09Put.l0] at H
    by_cases c17 : x9_1 < (l0_2.length : Int)
    rotate_left
    · rw [if_neg c17] at H
      have c17b0 : decide (x9_1 < (l0_2.length : Int)) = false := decide_eq_false c17
      clear c17
      by_cases c62 : x8_1 = true
      · subst c62
        rw [if_pos rfl] at H
        simp only [Option.some.injEq, Prod.mk.injEq] at H
        obtain ⟨rfl, rfl, rfl⟩ := H
        have hnb63 := NB180_181.out
        have hnc63 := NB181_180.out
        have hnb64 := NB180_182.out
        have hnc64 := NB182_180.out
        have hnb65 := NB180_183.out
        have hnc65 := NB183_180.out
        have hcz66_0 : wr.cell? ⟨gb180, 0, none⟩ = some (.int .i64 a0_0) := (blk_cell BK180.out 0).trans rfl
        have hcz66_1 : wr.cell? ⟨gb180, 1, none⟩ = some (.int .i64 a0_1) := (blk_cell BK180.out 1).trans rfl
        have hcz66_2 : wr.cell? ⟨gb180, 2, none⟩ = some (.slice A0_2 l0_2.length c0_2) := (blk_cell BK180.out 2).trans rfl
        have hfz66_0 := blk_frozen BK180.out 0
        have hfz66_1 := blk_frozen BK180.out 1
        have hfz66_2 := blk_frozen BK180.out 2
        have hnb67 := NB183_181.out
        have hnc67 := NB181_183.out
        have hnb68 := NB183_182.out
        have hnc68 := NB182_183.out
        have hcz69_0 : wr.cell? ⟨gb183, 0, none⟩ = some (.int .i64 a0_0) := (blk_cell BK183.out 0).trans rfl
        have hcz69_1 : wr.cell? ⟨gb183, 1, none⟩ = some (.int .i64 a0_1) := (blk_cell BK183.out 1).trans rfl
        have hcz69_2 : wr.cell? ⟨gb183, 2, none⟩ = some (u184002) := (blk_cell BK183.out 2).trans rfl
        have hfz69_0 := blk_frozen BK183.out 0
        have hfz69_1 := blk_frozen BK183.out 1
        have hfz69_2 := blk_frozen BK183.out 2
        have hnb70 := NB182_181.out
        have hnc70 := NB181_182.out
        have hcz71_0 : wr.cell? ⟨gb182, 0, none⟩ = some (.int .i64 0) := (blk_cell BK182.out 0).trans rfl
        have hcz71_1 : wr.cell? ⟨gb182, 1, none⟩ = some (.int .i64 0) := (blk_cell BK182.out 1).trans rfl
        have hcz71_2 : wr.cell? ⟨gb182, 2, none⟩ = some (.slice none 0 0) := (blk_cell BK182.out 2).trans rfl
        have hfz71_0 := blk_frozen BK182.out 0
        have hfz71_1 := blk_frozen BK182.out 1
        have hfz71_2 := blk_frozen BK182.out 2
        obtain ⟨Ao72, co72, eo72⟩ := Kd.R_slice HO_184002.out
        subst eo72
        go_wp2
        refine bodyPost_ret (results_cell_row rfl _ _ gb182 29 #[.int .i64 a0_0, .int .i64 a0_1, .slice Ao72 x184002_1.length co72] (0, 0) _ rfl (by (with_reducible repeat (first | refine blk_drewN ?_ _ | refine blk_drew ?_ | refine blk_alloc ?_ _)); refine blk_put (cs := #[.int .i64 a0_0, .int .i64 a0_1, .slice none 0 0]) ?_ 2 _ rfl; (with_reducible repeat (first | refine blk_drewN ?_ _ | refine blk_drew ?_ | refine blk_alloc ?_ _)); refine blk_put (cs := #[.int .i64 a0_0, .int .i64 0, .slice none 0 0]) ?_ 1 _ rfl; (with_reducible repeat (first | refine blk_drewN ?_ _ | refine blk_drew ?_ | refine blk_alloc ?_ _)); refine blk_put (cs := #[.int .i64 0, .int .i64 0, .slice none 0 0]) ?_ 0 _ rfl; (with_reducible repeat (first | refine blk_drewN ?_ _ | refine blk_drew ?_ | refine blk_alloc ?_ _)); exact BK182.out) Try.underlying29 rfl (by kernel_rfl)) rfl ?_
        exact ⟨_, by first | rfl | (simp [errW_none, errW_some] <;> rfl) | (simp [*, errW_none, errW_some] <;> rfl), (by (with_reducible repeat (first | apply Kd.R_alloc | apply Kd.R_drewN | apply Kd.R_drew)); exact Kd.R_mono (Kd.R_far (p := ⟨gb182, 2, none⟩) (Kd.R_far (p := ⟨gb182, 1, none⟩) (Kd.R_far (p := ⟨gb182, 0, none⟩) (Kd.R_types HO_184002.out BK182.out (by decide)) (fun _ hk => hk.2) (.int .i64 a0_0)) (fun _ hk => hk.2) (.int .i64 a0_1)) (fun _ hk => hk.2) (.slice Ao72 x184002_1.length co72)) (fun _ hk => trivial)), u5_0⟩
      replace c62 := Bool.eq_false_iff.mpr c62
      subst c62
      rw [if_neg (show ¬ (false = true) by decide)] at H
      by_cases c73 : x184002_1.length < 3518437208883
      rotate_left
      · rw [if_neg c73] at H
        exact absurd H (by simp)
      rw [if_pos c73] at H
      have LMc73 := Aside0.mk c73
      clear c73
      obtain ⟨y184, hy184⟩ : ∃ y_ : List (S45), y_ = (x184002_1 ++ [(⟨a2_0, a2_1, a2_2, a2_3⟩ : S45)]) := ⟨_, rfl⟩
      replace H : (some (a0_0, a0_1, y184)) = some (r1, r2, r3) := by first | (rw [hy184]; with_reducible exact H) | (have H2_ := (Option.bind_some _ _).symm.trans H; rw [hy184]; with_reducible exact H2_) | (have H2_ := (Option.bind_some _ _).symm.trans H; with_reducible exact H2_) | with_reducible exact H | (rw [hy184]; exact H) | exact H
      have Ny184 := Aside0.mk hy184
      clear hy184
      simp only [Option.some.injEq, Prod.mk.injEq] at H
      obtain ⟨rfl, rfl, rfl⟩ := H
      have hnb74 := NB180_181.out
      have hnc74 := NB181_180.out
      have hnb75 := NB180_182.out
      have hnc75 := NB182_180.out
      have hnb76 := NB180_183.out
      have hnc76 := NB183_180.out
      have hcz77_0 : wr.cell? ⟨gb180, 0, none⟩ = some (.int .i64 a0_0) := (blk_cell BK180.out 0).trans rfl
      have hcz77_1 : wr.cell? ⟨gb180, 1, none⟩ = some (.int .i64 a0_1) := (blk_cell BK180.out 1).trans rfl
      have hcz77_2 : wr.cell? ⟨gb180, 2, none⟩ = some (.slice A0_2 l0_2.length c0_2) := (blk_cell BK180.out 2).trans rfl
      have hfz77_0 := blk_frozen BK180.out 0
      have hfz77_1 := blk_frozen BK180.out 1
      have hfz77_2 := blk_frozen BK180.out 2
      have hnb78 := NB183_181.out
      have hnc78 := NB181_183.out
      have hnb79 := NB183_182.out
      have hnc79 := NB182_183.out
      have hcz80_0 : wr.cell? ⟨gb183, 0, none⟩ = some (.int .i64 a0_0) := (blk_cell BK183.out 0).trans rfl
      have hcz80_1 : wr.cell? ⟨gb183, 1, none⟩ = some (.int .i64 a0_1) := (blk_cell BK183.out 1).trans rfl
      have hcz80_2 : wr.cell? ⟨gb183, 2, none⟩ = some (u184002) := (blk_cell BK183.out 2).trans rfl
      have hfz80_0 := blk_frozen BK183.out 0
      have hfz80_1 := blk_frozen BK183.out 1
      have hfz80_2 := blk_frozen BK183.out 2
      have hnb81 := NB181_182.out
      have hnc81 := NB182_181.out
      have hcz82_0 : wr.cell? ⟨gb181, 0, none⟩ = some (.int .i64 a2_0) := (blk_cell BK181.out 0).trans rfl
      have hcz82_1 : wr.cell? ⟨gb181, 1, none⟩ = some (.int .i64 a2_1) := (blk_cell BK181.out 1).trans rfl
      have hcz82_2 : wr.cell? ⟨gb181, 2, none⟩ = some (.int .i64 a2_2) := (blk_cell BK181.out 2).trans rfl
      have hcz82_3 : wr.cell? ⟨gb181, 3, none⟩ = some (.string a2_3) := (blk_cell BK181.out 3).trans rfl
      have hfz82_0 := blk_frozen BK181.out 0
      have hfz82_1 := blk_frozen BK181.out 1
      have hfz82_2 := blk_frozen BK181.out 2
      have hfz82_3 := blk_frozen BK181.out 3
      go_wp2_with (first | ((with_reducible refine gate_builtin (b := .append) (xs := #[.tmp 65, .tmp 67]) rfl ?_); at_builtin; refine Kd.R_append k45 (w0 := w) w.heap.size rfl (.tmp 65) (.tmp 67) 27 45 (.agg #[(.int .i64 0), (.int .i64 0), (.int .i64 0), (.string ⟨#[]⟩)]) 40 rfl Try.underlying27 info45 rfl (by decide) (by omega) u184002 x184002_1 (⟨a2_0, a2_1, a2_2, a2_3⟩ : S45) [.int .i64 a2_0, .int .i64 a2_1, .int .i64 a2_2, .string a2_3] (fun k_ => k_ ≠ gb181) (fun _ => False) rfl rfl ?aP (fun _ hk => hk.elim) ?aF ?aO ?aB ?aS ?aL ?_; (case aP => exact k45_mkM _ _ _ (⟨a2_0, a2_1, a2_2, a2_3⟩ : S45)); (case aB => exact u5_0); (case aF => exact (fun k_ hk => Kd.freshB (g := gb181) (o := .cells #[.int .i64 a2_0, .int .i64 a2_1, .int .i64 a2_2, .string a2_3] 45 (0, 0)) u5_1 k_ hk)); (case aO => exact u5_5); (case aS => exact (below_size u5_0)); (case aL => have := LMc73.out; omega); intro v185 w83 ho hb hg hat; rw [← Ny184.out] at ho; have n0_ := Aside0.mk (blk_grown (g := gb180) (o := .cells #[.int .i64 a0_0, .int .i64 a0_1, .slice A0_2 l0_2.length c0_2] 29 (0, 0)) u5_2 hg (Kd.R_ne HO_184002.out BK180.out (by decide))); have n1_ := Aside0.mk (blk_grown (g := gb181) (o := .cells #[.int .i64 a2_0, .int .i64 a2_1, .int .i64 a2_2, .string a2_3] 45 (0, 0)) u5_1 hg (Kd.R_away HO_184002.out (fun _ hk => hk))); have n2_ := Aside0.mk (blk_grown (g := gb182) (o := .cells #[.int .i64 0, .int .i64 0, .slice none 0 0] 29 (0, 0)) u5_3 hg (Kd.R_ne HO_184002.out BK182.out (by decide))); have n3_ := Aside0.mk (blk_grown (g := gb183) (o := .cells #[.int .i64 a0_0, .int .i64 a0_1, u184002] 29 (0, 0)) u5_4 hg (Kd.R_ne HO_184002.out BK183.out (by decide))); have n4_ := Aside0.mk (hb); have n5_ := Aside0.mk (ho); clear BK180; clear BK181; clear BK182; clear BK183; clear HB; clear HO_184002; have BK180 := n0_; have BK181 := n1_; have BK182 := n2_; have BK183 := n3_; have HB := n4_; have HO186 := n5_; clear n0_ n1_ n2_ n3_ n4_ n5_; clear ho hb hg hat; obtain ⟨Ao84, co84, eo84⟩ := Kd.R_slice HO186.out; subst eo84; have hcz85_0 : w83.cell? ⟨gb183, 0, none⟩ = some (.int .i64 a0_0) := (blk_cell BK183.out 0).trans rfl; have hcz85_1 : w83.cell? ⟨gb183, 1, none⟩ = some (.int .i64 a0_1) := (blk_cell BK183.out 1).trans rfl; have hcz85_2 : w83.cell? ⟨gb183, 2, none⟩ = some (u184002) := (blk_cell BK183.out 2).trans rfl; have hfz85_0 := blk_frozen BK183.out 0; have hfz85_1 := blk_frozen BK183.out 1; have hfz85_2 := blk_frozen BK183.out 2; have hcz86_0 : w83.cell? ⟨gb182, 0, none⟩ = some (.int .i64 0) := (blk_cell BK182.out 0).trans rfl; have hcz86_1 : w83.cell? ⟨gb182, 1, none⟩ = some (.int .i64 0) := (blk_cell BK182.out 1).trans rfl; have hcz86_2 : w83.cell? ⟨gb182, 2, none⟩ = some (.slice none 0 0) := (blk_cell BK182.out 2).trans rfl; have hfz86_0 := blk_frozen BK182.out 0; have hfz86_1 := blk_frozen BK182.out 1; have hfz86_2 := blk_frozen BK182.out 2))
      refine bodyPost_ret (results_cell_row rfl _ _ gb182 29 #[.int .i64 a0_0, .int .i64 a0_1, .slice Ao84 y184.length co84] (0, 0) _ rfl (by (with_reducible repeat (first | refine blk_drewN ?_ _ | refine blk_drew ?_ | refine blk_alloc ?_ _)); refine blk_put (cs := #[.int .i64 a0_0, .int .i64 a0_1, .slice none 0 0]) ?_ 2 _ rfl; (with_reducible repeat (first | refine blk_drewN ?_ _ | refine blk_drew ?_ | refine blk_alloc ?_ _)); refine blk_put (cs := #[.int .i64 a0_0, .int .i64 0, .slice none 0 0]) ?_ 1 _ rfl; (with_reducible repeat (first | refine blk_drewN ?_ _ | refine blk_drew ?_ | refine blk_alloc ?_ _)); refine blk_put (cs := #[.int .i64 0, .int .i64 0, .slice none 0 0]) ?_ 0 _ rfl; (with_reducible repeat (first | refine blk_drewN ?_ _ | refine blk_drew ?_ | refine blk_alloc ?_ _)); refine blk_far ?_ NB182_183.out _; (with_reducible repeat (first | refine blk_drewN ?_ _ | refine blk_drew ?_ | refine blk_alloc ?_ _)); exact BK182.out) Try.underlying29 rfl (by kernel_rfl)) rfl ?_
      exact ⟨_, by first | rfl | (simp [errW_none, errW_some] <;> rfl) | (simp [*, errW_none, errW_some] <;> rfl), (by (with_reducible repeat (first | apply Kd.R_alloc | apply Kd.R_drewN | apply Kd.R_drew)); exact Kd.R_mono (Kd.R_far (p := ⟨gb182, 2, none⟩) (Kd.R_far (p := ⟨gb182, 1, none⟩) (Kd.R_far (p := ⟨gb182, 0, none⟩) (Kd.R_far (p := ⟨gb183, 2, none⟩) (Kd.R_types (Kd.R_types HO186.out BK183.out (by decide)) BK182.out (by decide)) (fun _ hk => hk.1.2) (.slice Ao84 y184.length co84)) (fun _ hk => hk.2) (.int .i64 a0_0)) (fun _ hk => hk.2) (.int .i64 a0_1)) (fun _ hk => hk.2) (.slice Ao84 y184.length co84)) (fun _ hk => trivial)), u5_0⟩
    rw [if_pos c17] at H
    have c17b0 : decide (x9_1 < (l0_2.length : Int)) = true := decide_eq_true c17
    clear c17
    have HC18 := Aside0.mk H
    clear H
    have hnb19 := NB180_181.out
    have hnc19 := NB181_180.out
    have hnb20 := NB180_182.out
    have hnc20 := NB182_180.out
    have hnb21 := NB180_183.out
    have hnc21 := NB183_180.out
    have hcz22_0 : wr.cell? ⟨gb180, 0, none⟩ = some (.int .i64 a0_0) := (blk_cell BK180.out 0).trans rfl
    have hcz22_1 : wr.cell? ⟨gb180, 1, none⟩ = some (.int .i64 a0_1) := (blk_cell BK180.out 1).trans rfl
    have hcz22_2 : wr.cell? ⟨gb180, 2, none⟩ = some (.slice A0_2 l0_2.length c0_2) := (blk_cell BK180.out 2).trans rfl
    have hfz22_0 := blk_frozen BK180.out 0
    have hfz22_1 := blk_frozen BK180.out 1
    have hfz22_2 := blk_frozen BK180.out 2
    go_upto_region 6 with (fail)
    go_cut [37] (fun v37 wc => ∃ (kq : Nat) (x37_17 : Bool), v37 = .bool x37_17 ∧ Aside0 (spec_l09Put.j1 kq a1 x8_1 x9_1 x37_17 a0_0 a0_1 l0_2 a2_0 a2_1 a2_2 a2_3 a0_0 a0_1 x184002_1 = some (r1, r2, r3)) ∧ Aside0 (kq ≤ k1) ∧ Aside0 (Kd.R k45 45 wc w.heap.size (fun k_ => k_ ≠ gb181) u184002 x184002_1) ∧ Aside0 (wc.heap[gb180]? = some (.cells #[.int .i64 a0_0, .int .i64 a0_1, (.slice A0_2 l0_2.length c0_2)] 29 (0, 0))) ∧ Aside0 (wc.heap[gb181]? = some (.cells #[.int .i64 a2_0, .int .i64 a2_1, .int .i64 a2_2, .string a2_3] 45 (0, 0))) ∧ Aside0 (wc.heap[gb182]? = some (.cells #[.int .i64 0, .int .i64 0, (.slice none 0 0)] 29 (0, 0))) ∧ Aside0 (wc.heap[gb183]? = some (.cells #[.int .i64 a0_0, .int .i64 a0_1, u184002] 29 (0, 0))) ∧ Aside0 (Below w.heap.size w wc))
    case first =>
      have H := HC18.out
      clear HC18
      by_cases c23 : x8_1 = true
      · subst c23
        rw [if_pos rfl] at H
        have H' := Aside0.mk H
        clear H
        try go_wp2
        have n0_ := Aside0.mk (Kd.R_drew HO_184002.out)
        have n1_ := Aside0.mk (blk_drew BK180.out)
        have n2_ := Aside0.mk (blk_drew BK181.out)
        have n3_ := Aside0.mk (blk_drew BK182.out)
        have n4_ := Aside0.mk (blk_drew BK183.out)
        have n5_ := Aside0.mk (below_drew1 HB.out)
        clear HO_184002
        clear BK180
        clear BK181
        clear BK182
        clear BK183
        clear HB
        have HO_184002 := n0_
        have BK180 := n1_
        have BK181 := n2_
        have BK182 := n3_
        have BK183 := n4_
        have HB := n5_
        clear n0_ n1_ n2_ n3_ n4_ n5_
        refine start_ (n := 13) (S := fun w' => True) (ds := []) #[false, false, false, false, false, false, false, false, false, false, false, false, false] (by kernel_rfl) rfl rfl trivial (fun hHeld => ?_); refine with_tabW spec_l09Put.tab6 spec_l09Put.bits6 (fun HT_ HW_ => ?_)
        generalize wr.drew = w24 at HO_184002 BK180 BK181 BK182 BK183 HB hHeld ⊢
        refine pure_ (i := 0) (N := some 25) (v := ?_) (a' := ?_) #[true, false, false, false, false, false, false, false, false, false, false, false, false] rfl rfl (any_of HT_.out (by kernel_rfl)) (fun _ _ _ h => h) (Or.inl ⟨by rfl, ?_⟩) ?_ ?_
        rotate_left
        · intro w'
          go_simp
          with_reducible rfl
        rotate_left
        · simp only [Act.put, List.setIfInBounds_toArray, List.set_cons_zero, List.set_cons_succ, i64_w, i32_w]
          rfl
        refine pure_ (i := 1) (N := some 26) (v := ?_) (a' := ?_) #[true, true, false, false, false, false, false, false, false, false, false, false, false] rfl rfl (any_of HT_.out (by kernel_rfl)) (fun _ _ _ h => h) (Or.inl ⟨by rfl, ?_⟩) ?_ ?_
        rotate_left
        · intro w'
          go_simp
          with_reducible rfl
        rotate_left
        · simp only [Act.put, List.setIfInBounds_toArray, List.set_cons_zero, List.set_cons_succ, i64_w, i32_w]
          rfl
        refine pure_ (i := 2) (N := some 27) (v := ?_) (a' := ?_) #[true, true, true, false, false, false, false, false, false, false, false, false, false] rfl rfl (any_of HT_.out (by kernel_rfl)) (fun _ _ _ h => h) (Or.inl ⟨by rfl, ?_⟩) ?_ ?_
        rotate_left
        · intro w'
          go_simp
          with_reducible rfl
        rotate_left
        · simp only [Act.put, List.setIfInBounds_toArray, List.set_cons_zero, List.set_cons_succ, i64_w, i32_w]
          rfl
        refine pure_ (i := 3) (N := some 28) (v := undef) (a' := ?_) #[true, true, true, true, false, false, false, false, false, false, false, false, false] rfl rfl (any_of HT_.out (by kernel_rfl)) (fun _ _ _ h => h) (Or.inr ⟨by rfl, rfl⟩) ?_ ?_
        rotate_left
        · simp only [Act.put, List.setIfInBounds_toArray, List.set_cons_zero, List.set_cons_succ, i64_w, i32_w]
          rfl
        refine pure_ (i := 4) (N := some 29) (v := undef) (a' := ?_) #[true, true, true, true, true, false, false, false, false, false, false, false, false] rfl rfl (any_of HT_.out (by kernel_rfl)) (fun _ _ _ h => h) (Or.inr ⟨by rfl, rfl⟩) ?_ ?_
        rotate_left
        · simp only [Act.put, List.setIfInBounds_toArray, List.set_cons_zero, List.set_cons_succ, i64_w, i32_w]
          rfl
        refine pure_ (i := 5) (N := some 30) (v := undef) (a' := ?_) #[true, true, true, true, true, true, false, false, false, false, false, false, false] rfl rfl (any_of HT_.out (by kernel_rfl)) (fun _ _ _ h => h) (Or.inr ⟨by rfl, rfl⟩) ?_ ?_
        rotate_left
        · simp only [Act.put, List.setIfInBounds_toArray, List.set_cons_zero, List.set_cons_succ, i64_w, i32_w]
          rfl
        refine pure_ (i := 6) (N := some 31) (v := undef) (a' := ?_) #[true, true, true, true, true, true, true, false, false, false, false, false, false] rfl rfl (any_of HT_.out (by kernel_rfl)) (fun _ _ _ h => h) (Or.inr ⟨by rfl, rfl⟩) ?_ ?_
        rotate_left
        · simp only [Act.put, List.setIfInBounds_toArray, List.set_cons_zero, List.set_cons_succ, i64_w, i32_w]
          rfl
        refine pure_ (i := 7) (N := some 32) (v := undef) (a' := ?_) #[true, true, true, true, true, true, true, true, false, false, false, false, false] rfl rfl (any_of HT_.out (by kernel_rfl)) (fun _ _ _ h => h) (Or.inr ⟨by rfl, rfl⟩) ?_ ?_
        rotate_left
        · simp only [Act.put, List.setIfInBounds_toArray, List.set_cons_zero, List.set_cons_succ, i64_w, i32_w]
          rfl
        refine pure_ (i := 8) (N := some 33) (v := undef) (a' := ?_) #[true, true, true, true, true, true, true, true, true, false, false, false, false] rfl rfl (any_of HT_.out (by kernel_rfl)) (fun _ _ _ h => h) (Or.inr ⟨by rfl, rfl⟩) ?_ ?_
        rotate_left
        · simp only [Act.put, List.setIfInBounds_toArray, List.set_cons_zero, List.set_cons_succ, i64_w, i32_w]
          rfl
        refine pure_ (i := 9) (N := some 34) (v := undef) (a' := ?_) #[true, true, true, true, true, true, true, true, true, true, false, false, false] rfl rfl (any_of HT_.out (by kernel_rfl)) (fun _ _ _ h => h) (Or.inr ⟨by rfl, rfl⟩) ?_ ?_
        rotate_left
        · simp only [Act.put, List.setIfInBounds_toArray, List.set_cons_zero, List.set_cons_succ, i64_w, i32_w]
          rfl
        refine pure_ (i := 10) (N := some 35) (v := undef) (a' := ?_) #[true, true, true, true, true, true, true, true, true, true, true, false, false] rfl rfl (any_of HT_.out (by kernel_rfl)) (fun _ _ _ h => h) (Or.inr ⟨by rfl, rfl⟩) ?_ ?_
        rotate_left
        · simp only [Act.put, List.setIfInBounds_toArray, List.set_cons_zero, List.set_cons_succ, i64_w, i32_w]
          rfl
        refine pure_ (i := 11) (N := some 36) (v := undef) (a' := ?_) #[true, true, true, true, true, true, true, true, true, true, true, true, false] rfl rfl (any_of HT_.out (by kernel_rfl)) (fun _ _ _ h => h) (Or.inr ⟨by rfl, rfl⟩) ?_ ?_
        rotate_left
        · simp only [Act.put, List.setIfInBounds_toArray, List.set_cons_zero, List.set_cons_succ, i64_w, i32_w]
          rfl
        refine pure_ (i := 12) (N := some 37) (v := ?_) (a' := ?_) #[true, true, true, true, true, true, true, true, true, true, true, true, true] rfl rfl (any_of HT_.out (by kernel_rfl)) (fun _ _ _ h => h) (Or.inl ⟨by rfl, ?_⟩) ?_ ?_
        rotate_left
        · intro w'
          go_simp
          with_reducible rfl
        rotate_left
        · simp only [Act.put, List.setIfInBounds_toArray, List.set_cons_zero, List.set_cons_succ, i64_w, i32_w]
          rfl
        refine done_ (done_of HT_.out (by kernel_rfl)) ?_
        try go_wp2
        go_meet
        case rel => exact ⟨_, (false), u5_9, H', ⟨(by have := HK1.out; first | omega | exact Nat.le_refl _)⟩, ⟨u5_5⟩, ⟨u5_2⟩, ⟨u5_1⟩, ⟨u5_3⟩, ⟨u5_4⟩, ⟨u5_0⟩⟩
      replace c23 := Bool.eq_false_iff.mpr c23
      subst c23
      rw [if_neg (show ¬ (false = true) by decide)] at H
      by_cases c25 : 0 ≤ x9_1
      rotate_left
      · rw [if_neg c25] at H
        exact absurd H (by simp)
      rw [if_pos c25] at H
      have c25b0 : decide (0 ≤ x9_1) = true := decide_eq_true c25
      clear c25
      (first | rw [c25b0] | (simp only [i64_w, i32_w]; rw [c25b0]) | skip)
      have H' := Aside0.mk H
      clear H
      try go_wp2
      have n0_ := Aside0.mk (Kd.R_drew HO_184002.out)
      have n1_ := Aside0.mk (blk_drew BK180.out)
      have n2_ := Aside0.mk (blk_drew BK181.out)
      have n3_ := Aside0.mk (blk_drew BK182.out)
      have n4_ := Aside0.mk (blk_drew BK183.out)
      have n5_ := Aside0.mk (below_drew1 HB.out)
      clear HO_184002
      clear BK180
      clear BK181
      clear BK182
      clear BK183
      clear HB
      have HO_184002 := n0_
      have BK180 := n1_
      have BK181 := n2_
      have BK182 := n3_
      have BK183 := n4_
      have HB := n5_
      clear n0_ n1_ n2_ n3_ n4_ n5_
      have p187 : 0 ≤ (x9_1 : Int) := of_decide_eq_true u5_11
      have q187 : x9_1 < (l0_2.length : Int) := of_decide_eq_true u5_11
      obtain ⟨ad187, e187, hx187_0, hx187_1, hx187_2, hx187_3⟩ := at_T45 HR0_2.out x9_1 p187 q187
      have hw187_3 := hx187_3
      have hw187_2 := hx187_2
      have hw187_1 := hx187_1
      have hw187_0 := hx187_0
      cases e187
      replace hx187_0 := (HB.out.cell (World.block_lt_of_cell? w _ hx187_0)).trans hx187_0
      replace hx187_1 := (HB.out.cell (World.block_lt_of_cell? w _ hx187_1)).trans hx187_1
      replace hx187_2 := (HB.out.cell (World.block_lt_of_cell? w _ hx187_2)).trans hx187_2
      replace hx187_3 := (HB.out.cell (World.block_lt_of_cell? w _ hx187_3)).trans hx187_3
      replace p187 := eq_true p187
      replace q187 := eq_true q187
      refine start_ (n := 13) (S := fun w' => w'.cell? ⟨gb180, 0, none⟩ = some (.int .i64 a0_0) ∧ w'.cell? ⟨gb180, 1, none⟩ = some (.int .i64 a0_1) ∧ w'.cell? ⟨gb180, 2, none⟩ = some (.slice (some ad187) l0_2.length c0_2) ∧ w'.cell? ⟨gb181, 0, none⟩ = some (.int .i64 a2_0) ∧ w'.cell? ⟨gb181, 1, none⟩ = some (.int .i64 a2_1) ∧ w'.cell? ⟨gb181, 2, none⟩ = some (.int .i64 a2_2) ∧ w'.cell? ⟨gb181, 3, none⟩ = some (.string a2_3) ∧ w'.cell? (ad187.add ((x9_1).toNat * 4)) = some (.int .i64 ((rd_T45 l0_2 x9_1).f0)) ∧ w'.cell? ⟨(ad187.add ((x9_1).toNat * 4)).block, (ad187.add ((x9_1).toNat * 4)).off + 1, none⟩ = some (.int .i64 ((rd_T45 l0_2 x9_1).f1)) ∧ w'.cell? ⟨(ad187.add ((x9_1).toNat * 4)).block, (ad187.add ((x9_1).toNat * 4)).off + 2, none⟩ = some (.int .i64 ((rd_T45 l0_2 x9_1).f2)) ∧ w'.cell? ⟨(ad187.add ((x9_1).toNat * 4)).block, (ad187.add ((x9_1).toNat * 4)).off + 3, none⟩ = some (.string ((rd_T45 l0_2 x9_1).f3))) (ds := []) #[false, false, false, false, false, false, false, false, false, false, false, false, false] (by kernel_rfl) rfl rfl ⟨(blk_cell BK180.out 0).trans rfl, (blk_cell BK180.out 1).trans rfl, (blk_cell BK180.out 2).trans rfl, (blk_cell BK181.out 0).trans rfl, (blk_cell BK181.out 1).trans rfl, (blk_cell BK181.out 2).trans rfl, (blk_cell BK181.out 3).trans rfl, ((HB.out.cell (World.block_lt_of_cell? w _ hw187_0)).trans hw187_0), ((HB.out.cell (World.block_lt_of_cell? w _ hw187_1)).trans hw187_1), ((HB.out.cell (World.block_lt_of_cell? w _ hw187_2)).trans hw187_2), ((HB.out.cell (World.block_lt_of_cell? w _ hw187_3)).trans hw187_3)⟩ (fun hHeld => ?_); refine with_tabW spec_l09Put.tab6 spec_l09Put.bits6 (fun HT_ HW_ => ?_)
      generalize wr.drew = w26 at HO_184002 BK180 BK181 BK182 BK183 HB hx187_0 hx187_1 hx187_2 hx187_3 hHeld ⊢
      refine pure_ (i := 0) (N := some 25) (v := ?_) (a' := ?_) #[true, false, false, false, false, false, false, false, false, false, false, false, false] rfl rfl (any_of HT_.out (by kernel_rfl)) (fun _ _ _ h => h) (Or.inl ⟨by rfl, ?_⟩) ?_ ?_
      rotate_left
      · intro w'
        go_simp
        with_reducible rfl
      rotate_left
      · simp only [Act.put, List.setIfInBounds_toArray, List.set_cons_zero, List.set_cons_succ, i64_w, i32_w]
        rfl
      refine pure_ (i := 1) (N := some 26) (v := ?_) (a' := ?_) #[true, true, false, false, false, false, false, false, false, false, false, false, false] rfl rfl (any_of HT_.out (by kernel_rfl)) (fun _ _ _ h => h) (Or.inl ⟨by rfl, ?_⟩) ?_ ?_
      rotate_left
      · intro w'
        go_simp
        with_reducible rfl
      rotate_left
      · simp only [Act.put, List.setIfInBounds_toArray, List.set_cons_zero, List.set_cons_succ, i64_w, i32_w]
        rfl
      refine pure_ (i := 2) (N := some 27) (v := ?_) (a' := ?_) #[true, true, true, false, false, false, false, false, false, false, false, false, false] rfl rfl (any_of HT_.out (by kernel_rfl)) (fun _ _ _ h => h) (Or.inl ⟨by rfl, ?_⟩) ?_ ?_
      rotate_left
      · intro w'
        go_simp
        with_reducible rfl
      rotate_left
      · simp only [Act.put, List.setIfInBounds_toArray, List.set_cons_zero, List.set_cons_succ, i64_w, i32_w]
        rfl
      refine pure_ (i := 3) (N := some 28) (v := ?_) (a' := ?_) #[true, true, true, true, false, false, false, false, false, false, false, false, false] rfl rfl (any_of HT_.out (by kernel_rfl)) (fun _ _ _ h => h) (Or.inl ⟨by rfl, ?_⟩) ?_ ?_
      rotate_left
      · intro w'
        go_simp
        with_reducible rfl
      rotate_left
      · simp only [Act.put, List.setIfInBounds_toArray, List.set_cons_zero, List.set_cons_succ, i64_w, i32_w]
        rfl
      refine pure_ (i := 5) (N := some 30) (v := ?_) (a' := ?_) #[true, true, true, true, false, true, false, false, false, false, false, false, false] rfl rfl (any_of HT_.out (by kernel_rfl)) (fun _ _ _ h => h) (Or.inl ⟨by rfl, ?_⟩) ?_ ?_
      rotate_left
      · intro w'
        go_simp
        with_reducible rfl
      rotate_left
      · simp only [Act.put, List.setIfInBounds_toArray, List.set_cons_zero, List.set_cons_succ, i64_w, i32_w]
        rfl
      refine pure_ (i := 9) (N := some 34) (v := ?_) (a' := ?_) #[true, true, true, true, false, true, false, false, false, true, false, false, false] rfl rfl (any_of HT_.out (by kernel_rfl)) (fun _ _ _ h => h) (Or.inl ⟨by rfl, ?_⟩) ?_ ?_
      rotate_left
      · intro w'
        go_simp
        with_reducible rfl
      rotate_left
      · simp only [Act.put, List.setIfInBounds_toArray, List.set_cons_zero, List.set_cons_succ, i64_w, i32_w]
        rfl
      refine take_ (i := 4) (N := some 29) (v := ?_) (a' := ?_) #[true, true, true, true, true, true, false, false, false, true, false, false, false] rfl rfl (take_ofW HT_.out HW_.out (by kernel_rfl)) (fun _ _ _ h => h) (Or.inl ⟨by rfl, ?_⟩) hHeld ?_ ?_
      rotate_left
      · rintro w' ⟨s0, s1, s2, s3, s4, s5, s6, s7, s8, s9, s10⟩
        go_simp
        with_reducible rfl
      rotate_left
      · simp only [Act.put, List.setIfInBounds_toArray, List.set_cons_zero, List.set_cons_succ, i64_w, i32_w]
        rfl
      refine pure_ (i := 6) (N := some 31) (v := ?_) (a' := ?_) #[true, true, true, true, true, true, true, false, false, true, false, false, false] rfl rfl (any_of HT_.out (by kernel_rfl)) (fun _ _ _ h => h) (Or.inl ⟨by rfl, ?_⟩) ?_ ?_
      rotate_left
      · intro w'
        go_simp
        with_reducible rfl
      rotate_left
      · simp only [Act.put, List.setIfInBounds_toArray, List.set_cons_zero, List.set_cons_succ, i64_w, i32_w]
        rfl
      refine pure_ (i := 7) (N := some 32) (v := ?_) (a' := ?_) #[true, true, true, true, true, true, true, true, false, true, false, false, false] rfl rfl (any_of HT_.out (by kernel_rfl)) (fun _ _ _ h => h) (Or.inl ⟨by rfl, ?_⟩) ?_ ?_
      rotate_left
      · intro w'
        go_simp
        with_reducible rfl
      rotate_left
      · simp only [Act.put, List.setIfInBounds_toArray, List.set_cons_zero, List.set_cons_succ, i64_w, i32_w]
        rfl
      refine take_ (i := 8) (N := some 33) (v := ?_) (a' := ?_) #[true, true, true, true, true, true, true, true, true, true, false, false, false] rfl rfl (take_ofW HT_.out HW_.out (by kernel_rfl)) (fun _ _ _ h => h) (Or.inl ⟨by rfl, ?_⟩) hHeld ?_ ?_
      rotate_left
      · rintro w' ⟨s0, s1, s2, s3, s4, s5, s6, s7, s8, s9, s10⟩
        go_simp
        with_reducible rfl
      rotate_left
      · simp only [Act.put, List.setIfInBounds_toArray, List.set_cons_zero, List.set_cons_succ, i64_w, i32_w]
        rfl
      refine take_ (i := 10) (N := some 35) (v := ?_) (a' := ?_) #[true, true, true, true, true, true, true, true, true, true, true, false, false] rfl rfl (take_ofW HT_.out HW_.out (by kernel_rfl)) (fun _ _ _ h => h) (Or.inl ⟨by rfl, ?_⟩) hHeld ?_ ?_
      rotate_left
      · rintro w' ⟨s0, s1, s2, s3, s4, s5, s6, s7, s8, s9, s10⟩
        go_simp
        with_reducible rfl
      rotate_left
      · simp only [Act.put, List.setIfInBounds_toArray, List.set_cons_zero, List.set_cons_succ, i64_w, i32_w]
        rfl
      refine pure_ (i := 11) (N := some 36) (v := ?_) (a' := ?_) #[true, true, true, true, true, true, true, true, true, true, true, true, false] rfl rfl (any_of HT_.out (by kernel_rfl)) (fun _ _ _ h => h) (Or.inl ⟨by rfl, ?_⟩) ?_ ?_
      rotate_left
      · intro w'
        go_simp
        with_reducible rfl
      rotate_left
      · simp only [Act.put, List.setIfInBounds_toArray, List.set_cons_zero, List.set_cons_succ, i64_w, i32_w]
        rfl
      refine pure_ (i := 12) (N := some 37) (v := ?_) (a' := ?_) #[true, true, true, true, true, true, true, true, true, true, true, true, true] rfl rfl (any_of HT_.out (by kernel_rfl)) (fun _ _ _ h => h) (Or.inl ⟨by rfl, ?_⟩) ?_ ?_
      rotate_left
      · intro w'
        go_simp
        with_reducible rfl
      rotate_left
      · simp only [Act.put, List.setIfInBounds_toArray, List.set_cons_zero, List.set_cons_succ, i64_w, i32_w]
        rfl
      refine done_ (done_of HT_.out (by kernel_rfl)) ?_
      try go_wp2
      go_meet
      case rel => exact ⟨_, (decide (((rd_T45 l0_2 x9_1).f0) > a2_0)), u5_9, H', ⟨(by have := HK1.out; first | omega | exact Nat.le_refl _)⟩, ⟨u5_5⟩, ⟨u5_2⟩, ⟨u5_1⟩, ⟨u5_3⟩, ⟨u5_4⟩, ⟨u5_0⟩⟩
    clear HC18
    try clear c1
    try clear p1
    try clear q1
    try clear hx1
    try clear c2
    try clear p2
    try clear c7
    try clear c8
    try clear c11
    try clear c12
    try clear c13
    try clear c15
    try clear c17
    try clear c17b0
    try clear p18
    try clear q18
    try clear hx18
    try clear c19
    try clear c20
    try clear c21
    try clear c23
    try clear c25
    try clear c25b0
    try clear hcz14_0
    try clear hcz14_1
    try clear hcz14_2
    try clear hcz16_0
    try clear hcz16_1
    try clear hcz16_2
    try clear hcz16_3
    try clear hcz22_0
    try clear hcz22_1
    try clear hcz22_2
    try clear hcz9_0
    try clear hcz9_1
    try clear hcz9_2
    try clear hfz14_0
    try clear hfz14_1
    try clear hfz14_2
    try clear hfz16_0
    try clear hfz16_1
    try clear hfz16_2
    try clear hfz16_3
    try clear hfz22_0
    try clear hfz22_1
    try clear hfz22_2
    try clear hfz9_0
    try clear hfz9_1
    try clear hfz9_2
    try clear hx187_0
    try clear hx187_1
    try clear hx187_2
    try clear hx187_3
    try clear p187
    try clear p2
    try clear q187
    obtain ⟨kq, x37_17, rfl, HA, HJ17, HO_184002, BK180, BK181, BK182, BK183, HB⟩ := hcut
    cases kq with
    | zero => exact absurd HA.out (by simp [spec_l09Put.j1])
    | succ kj17 =>
      have H := HA.out
      clear HA
      simp only [spec_l09Put.j1] at H
      by_cases c27 : x37_17 = true
      rotate_left
      · replace c27 := Bool.eq_false_iff.mpr c27
        subst c27
        rw [if_neg (show ¬ (false = true) by decide)] at H
        by_cases c50 : 0 ≤ x9_1
        rotate_left
        · rw [if_neg c50] at H
          exact absurd H (by simp)
        rw [if_pos c50] at H
        have c50b0 : decide (0 ≤ x9_1) = true := decide_eq_true c50
        clear c50
        by_cases c51 : x9_1 < (l0_2.length : Int)
        rotate_left
        · rw [if_neg c51] at H
          exact absurd H (by simp)
        rw [if_pos c51] at H
        have c51b0 : decide (x9_1 < (l0_2.length : Int)) = true := decide_eq_true c51
        clear c51
        have H9 := Aside0.mk H
        clear H
        have hnb52 := NB180_181.out
        have hnc52 := NB181_180.out
        have hnb53 := NB180_182.out
        have hnc53 := NB182_180.out
        have hnb54 := NB180_183.out
        have hnc54 := NB183_180.out
        have hcz55_0 : wc.cell? ⟨gb180, 0, none⟩ = some (.int .i64 a0_0) := (blk_cell BK180.out 0).trans rfl
        have hcz55_1 : wc.cell? ⟨gb180, 1, none⟩ = some (.int .i64 a0_1) := (blk_cell BK180.out 1).trans rfl
        have hcz55_2 : wc.cell? ⟨gb180, 2, none⟩ = some (.slice A0_2 l0_2.length c0_2) := (blk_cell BK180.out 2).trans rfl
        have hfz55_0 := blk_frozen BK180.out 0
        have hfz55_1 := blk_frozen BK180.out 1
        have hfz55_2 := blk_frozen BK180.out 2
        have p196 : 0 ≤ (x9_1 : Int) := of_decide_eq_true u5_11
        have q196 : x9_1 < (l0_2.length : Int) := of_decide_eq_true u5_11
        obtain ⟨ad196, e196, hx196_0, hx196_1, hx196_2, hx196_3⟩ := at_T45 HR0_2.out x9_1 p196 q196
        cases e196
        replace hx196_0 := (HB.out.cell (World.block_lt_of_cell? w _ hx196_0)).trans hx196_0
        replace hx196_1 := (HB.out.cell (World.block_lt_of_cell? w _ hx196_1)).trans hx196_1
        replace hx196_2 := (HB.out.cell (World.block_lt_of_cell? w _ hx196_2)).trans hx196_2
        replace hx196_3 := (HB.out.cell (World.block_lt_of_cell? w _ hx196_3)).trans hx196_3
        replace p196 := eq_true p196
        replace q196 := eq_true q196
        go_upto_if 51 with (fail)
        have H := H9.out
        clear H9
        by_cases c56 : ((rd_T45 l0_2 x9_1).f0) = a1
        · rw [if_pos c56] at H
          have c56b0 : (((rd_T45 l0_2 x9_1).f0) == a1) = true := beq_iff_eq.mpr c56
          have c56b1 : (((rd_T45 l0_2 x9_1).f0) != a1) = false := bne_eq_false_iff_eq.mpr c56
          clear c56
          (first | rw [c56b0] | (simp only [i64_w, i32_w]; rw [c56b0]) | skip)
          have H' := Aside0.mk H
          clear H
          go_wp2
          go_roundg kj17
          case measure => have := HK1.out; have := HJ17.out; omega
          case rel => exact ⟨(x8_1), (wrap64 (x9_1 + 1)), (x184002_1), (u184002), u5_9, u5_9, H', ⟨u5_17⟩, ⟨u5_5⟩, ⟨u5_2⟩, ⟨u5_1⟩, ⟨u5_3⟩, ⟨u5_4⟩, ⟨u5_0⟩⟩
        rw [if_neg c56] at H
        have c56b0 : (((rd_T45 l0_2 x9_1).f0) == a1) = false := beq_eq_false_iff_ne.mpr c56
        have c56b1 : (((rd_T45 l0_2 x9_1).f0) != a1) = true := bne_iff_ne.mpr c56
        (first | rw [c56b0] | (simp only [i64_w, i32_w]; rw [c56b0]) | skip)
        by_cases c57 : x184002_1.length < 3518437208883
        rotate_left
        · rw [if_neg c57] at H
          exact absurd H (by simp)
        rw [if_pos c57] at H
        have LMc57 := Aside0.mk c57
        clear c57
        obtain ⟨y198, hy198⟩ : ∃ y_ : List (S45), y_ = (x184002_1 ++ [(⟨(rd_T45 l0_2 x9_1).f0, (rd_T45 l0_2 x9_1).f1, (rd_T45 l0_2 x9_1).f2, (rd_T45 l0_2 x9_1).f3⟩ : S45)]) := ⟨_, rfl⟩
        replace H : (spec_l09Put.l0 kj17 a1 x8_1 (wrap64 (x9_1 + 1)) a0_0 a0_1 l0_2 a2_0 a2_1 a2_2 a2_3 a0_0 a0_1 y198) = some (r1, r2, r3) := by first | (rw [hy198]; with_reducible exact H) | (have H2_ := (Option.bind_some _ _).symm.trans H; rw [hy198]; with_reducible exact H2_) | (have H2_ := (Option.bind_some _ _).symm.trans H; with_reducible exact H2_) | with_reducible exact H | (rw [hy198]; exact H) | exact H
        have Ny198 := Aside0.mk hy198
        clear hy198
        have H' := Aside0.mk H
        clear H
        try go_wp2
        have n0_ := Aside0.mk (Kd.R_drew HO_184002.out)
        have n1_ := Aside0.mk (blk_drew BK180.out)
        have n2_ := Aside0.mk (blk_drew BK181.out)
        have n3_ := Aside0.mk (blk_drew BK182.out)
        have n4_ := Aside0.mk (blk_drew BK183.out)
        have n5_ := Aside0.mk (below_drew1 HB.out)
        clear HO_184002
        clear BK180
        clear BK181
        clear BK182
        clear BK183
        clear HB
        have HO_184002 := n0_
        have BK180 := n1_
        have BK181 := n2_
        have BK182 := n3_
        have BK183 := n4_
        have HB := n5_
        clear n0_ n1_ n2_ n3_ n4_ n5_
        have p197 : 0 ≤ (x9_1 : Int) := of_decide_eq_true u5_11
        have q197 : x9_1 < (l0_2.length : Int) := of_decide_eq_true u5_11
        obtain ⟨ad197, e197, hx197_0, hx197_1, hx197_2, hx197_3⟩ := at_T45 HR0_2.out x9_1 p197 q197
        have hw197_3 := hx197_3
        have hw197_2 := hx197_2
        have hw197_1 := hx197_1
        have hw197_0 := hx197_0
        obtain rfl : ad196 = ad197 := (by injection e197)
        replace hx197_0 := (HB.out.cell (World.block_lt_of_cell? w _ hx197_0)).trans hx197_0
        replace hx197_1 := (HB.out.cell (World.block_lt_of_cell? w _ hx197_1)).trans hx197_1
        replace hx197_2 := (HB.out.cell (World.block_lt_of_cell? w _ hx197_2)).trans hx197_2
        replace hx197_3 := (HB.out.cell (World.block_lt_of_cell? w _ hx197_3)).trans hx197_3
        replace p197 := eq_true p197
        replace q197 := eq_true q197
        refine start_ (n := 11) (S := fun w' => w'.cell? ⟨gb183, 0, none⟩ = some (.int .i64 a0_0) ∧ w'.cell? ⟨gb183, 1, none⟩ = some (.int .i64 a0_1) ∧ w'.cell? ⟨gb183, 2, none⟩ = some (u184002) ∧ w'.cell? ⟨gb180, 0, none⟩ = some (.int .i64 a0_0) ∧ w'.cell? ⟨gb180, 1, none⟩ = some (.int .i64 a0_1) ∧ w'.cell? ⟨gb180, 2, none⟩ = some (.slice (some ad196) l0_2.length c0_2) ∧ w'.cell? (ad196.add ((x9_1).toNat * 4)) = some (.int .i64 ((rd_T45 l0_2 x9_1).f0)) ∧ w'.cell? ⟨(ad196.add ((x9_1).toNat * 4)).block, (ad196.add ((x9_1).toNat * 4)).off + 1, none⟩ = some (.int .i64 ((rd_T45 l0_2 x9_1).f1)) ∧ w'.cell? ⟨(ad196.add ((x9_1).toNat * 4)).block, (ad196.add ((x9_1).toNat * 4)).off + 2, none⟩ = some (.int .i64 ((rd_T45 l0_2 x9_1).f2)) ∧ w'.cell? ⟨(ad196.add ((x9_1).toNat * 4)).block, (ad196.add ((x9_1).toNat * 4)).off + 3, none⟩ = some (.string ((rd_T45 l0_2 x9_1).f3))) (ds := [10]) #[false, false, false, false, false, false, false, false, false, false, false] (by kernel_rfl) rfl rfl ⟨(blk_cell BK183.out 0).trans rfl, (blk_cell BK183.out 1).trans rfl, (blk_cell BK183.out 2).trans rfl, (blk_cell BK180.out 0).trans rfl, (blk_cell BK180.out 1).trans rfl, (blk_cell BK180.out 2).trans rfl, ((HB.out.cell (World.block_lt_of_cell? w _ hw197_0)).trans hw197_0), ((HB.out.cell (World.block_lt_of_cell? w _ hw197_1)).trans hw197_1), ((HB.out.cell (World.block_lt_of_cell? w _ hw197_2)).trans hw197_2), ((HB.out.cell (World.block_lt_of_cell? w _ hw197_3)).trans hw197_3)⟩ (fun hHeld => ?_); refine with_tabW spec_l09Put.tab10 spec_l09Put.bits10 (fun HT_ HW_ => ?_)
        generalize wc.drew = w58 at HO_184002 BK180 BK181 BK182 BK183 HB hx197_0 hx197_1 hx197_2 hx197_3 hHeld ⊢
        refine pure_ (i := 0) (N := some 52) (v := ?_) (a' := ?_) #[true, false, false, false, false, false, false, false, false, false, false] rfl rfl (any_of HT_.out (by kernel_rfl)) (fun _ _ _ h => h) (Or.inl ⟨by rfl, ?_⟩) ?_ ?_
        rotate_left
        · intro w'
          go_simp
          with_reducible rfl
        rotate_left
        · simp only [Act.put, List.setIfInBounds_toArray, List.set_cons_zero, List.set_cons_succ, i64_w, i32_w]
          rfl
        refine pure_ (i := 2) (N := some 54) (v := ?_) (a' := ?_) #[true, false, true, false, false, false, false, false, false, false, false] rfl rfl (any_of HT_.out (by kernel_rfl)) (fun _ _ _ h => h) (Or.inl ⟨by rfl, ?_⟩) ?_ ?_
        rotate_left
        · intro w'
          go_simp
          with_reducible rfl
        rotate_left
        · simp only [Act.put, List.setIfInBounds_toArray, List.set_cons_zero, List.set_cons_succ, i64_w, i32_w]
          rfl
        refine pure_ (i := 4) (N := some 56) (v := ?_) (a' := ?_) #[true, false, true, false, true, false, false, false, false, false, false] rfl rfl (any_of HT_.out (by kernel_rfl)) (fun _ _ _ h => h) (Or.inl ⟨by rfl, ?_⟩) ?_ ?_
        rotate_left
        · intro w'
          go_simp
          with_reducible rfl
        rotate_left
        · simp only [Act.put, List.setIfInBounds_toArray, List.set_cons_zero, List.set_cons_succ, i64_w, i32_w]
          rfl
        refine take_ (i := 1) (N := some 53) (v := ?_) (a' := ?_) #[true, true, true, false, true, false, false, false, false, false, false] rfl rfl (take_ofW HT_.out HW_.out (by kernel_rfl)) (fun _ _ _ h => h) (Or.inl ⟨by rfl, ?_⟩) hHeld ?_ ?_
        rotate_left
        · rintro w' ⟨s0, s1, s2, s3, s4, s5, s6, s7, s8, s9⟩
          go_simp
          with_reducible rfl
        rotate_left
        · simp only [Act.put, List.setIfInBounds_toArray, List.set_cons_zero, List.set_cons_succ, i64_w, i32_w]
          rfl
        refine take_ (i := 3) (N := some 55) (v := ?_) (a' := ?_) #[true, true, true, true, true, false, false, false, false, false, false] rfl rfl (take_ofW HT_.out HW_.out (by kernel_rfl)) (fun _ _ _ h => h) (Or.inl ⟨by rfl, ?_⟩) hHeld ?_ ?_
        rotate_left
        · rintro w' ⟨s0, s1, s2, s3, s4, s5, s6, s7, s8, s9⟩
          go_simp
          with_reducible rfl
        rotate_left
        · simp only [Act.put, List.setIfInBounds_toArray, List.set_cons_zero, List.set_cons_succ, i64_w, i32_w]
          rfl
        refine pure_ (i := 5) (N := some 57) (v := ?_) (a' := ?_) #[true, true, true, true, true, true, false, false, false, false, false] rfl rfl (any_of HT_.out (by kernel_rfl)) (fun _ _ _ h => h) (Or.inl ⟨by rfl, ?_⟩) ?_ ?_
        rotate_left
        · intro w'
          go_simp
          with_reducible rfl
        rotate_left
        · simp only [Act.put, List.setIfInBounds_toArray, List.set_cons_zero, List.set_cons_succ, i64_w, i32_w]
          rfl
        refine take_ (i := 6) (N := some 58) (v := ?_) (a' := ?_) #[true, true, true, true, true, true, true, false, false, false, false] rfl rfl (take_ofW HT_.out HW_.out (by kernel_rfl)) (fun _ _ _ h => h) (Or.inl ⟨by rfl, ?_⟩) hHeld ?_ ?_
        rotate_left
        · rintro w' ⟨s0, s1, s2, s3, s4, s5, s6, s7, s8, s9⟩
          go_simp
          with_reducible rfl
        rotate_left
        · simp only [Act.put, List.setIfInBounds_toArray, List.set_cons_zero, List.set_cons_succ, i64_w, i32_w]
          rfl
        refine one_ (i := 7) (N := some 59) #[true, true, true, true, true, true, true, true, false, false, false] rfl rfl (one_of HT_.out (by kernel_rfl)) (by decide) (fun K hK => ?_)
        refine value_ (w1 := ?_) (v := ?_) (by rfl) rfl ?_ ?_
        rotate_left 2
        · go_simp
          constructor
          · rfl
          rfl
        refine hK.out _ _ ⟨(blk_cell (blk_alloc BK183.out _) 0).trans rfl, (blk_cell (blk_alloc BK183.out _) 1).trans rfl, (blk_cell (blk_alloc BK183.out _) 2).trans rfl, (blk_cell (blk_alloc BK180.out _) 0).trans rfl, (blk_cell (blk_alloc BK180.out _) 1).trans rfl, (blk_cell (blk_alloc BK180.out _) 2).trans rfl, (World.cell?_alloc_lt _ _ _ (World.block_lt_of_cell? _ _ (((HB.out.cell (World.block_lt_of_cell? w _ hw197_0)).trans hw197_0)))).trans (((HB.out.cell (World.block_lt_of_cell? w _ hw197_0)).trans hw197_0)), (World.cell?_alloc_lt _ _ _ (World.block_lt_of_cell? _ _ (((HB.out.cell (World.block_lt_of_cell? w _ hw197_1)).trans hw197_1)))).trans (((HB.out.cell (World.block_lt_of_cell? w _ hw197_1)).trans hw197_1)), (World.cell?_alloc_lt _ _ _ (World.block_lt_of_cell? _ _ (((HB.out.cell (World.block_lt_of_cell? w _ hw197_2)).trans hw197_2)))).trans (((HB.out.cell (World.block_lt_of_cell? w _ hw197_2)).trans hw197_2)), (World.cell?_alloc_lt _ _ _ (World.block_lt_of_cell? _ _ (((HB.out.cell (World.block_lt_of_cell? w _ hw197_3)).trans hw197_3)))).trans (((HB.out.cell (World.block_lt_of_cell? w _ hw197_3)).trans hw197_3))⟩ (fun hHeld => ?_)
        clear hK K
        refine norm_ (a' := ?_) ?_ ?_
        rotate_left
        · show Act.put _ (some 59) _ = _
          simp only [Act.put, List.setIfInBounds_toArray, List.set_cons_zero, List.set_cons_succ, i64_w, i32_w]
          rfl
        refine one_ (i := 8) (N := some 60) #[true, true, true, true, true, true, true, true, true, false, false] rfl rfl (one_of HT_.out (by kernel_rfl)) (by decide) (fun K hK => ?_)
        refine Kd.R_append_step k45 (w0 := w) w.heap.size (by rfl) (.tmp 53) (.tmp 59) 27 45 (.agg #[(.int .i64 0), (.int .i64 0), (.int .i64 0), (.string ⟨#[]⟩)]) 40 rfl Try.underlying27 info45 rfl (by decide) (by omega) u184002 x184002_1 (⟨(rd_T45 l0_2 x9_1).f0, (rd_T45 l0_2 x9_1).f1, (rd_T45 l0_2 x9_1).f2, (rd_T45 l0_2 x9_1).f3⟩ : S45) [.int .i64 ((rd_T45 l0_2 x9_1).f0), .int .i64 ((rd_T45 l0_2 x9_1).f1), .int .i64 ((rd_T45 l0_2 x9_1).f2), .string ((rd_T45 l0_2 x9_1).f3)] (fun k_ => k_ ≠ gb181) (fun _ => False) rfl rfl ?aP (fun _ hk => hk.elim) ?aF ?aO ?aB ?aS ?aL ?_
        (case aP => exact k45_mkM _ _ _ (⟨(rd_T45 l0_2 x9_1).f0, (rd_T45 l0_2 x9_1).f1, (rd_T45 l0_2 x9_1).f2, (rd_T45 l0_2 x9_1).f3⟩ : S45))
        (case aB => exact u5_0)
        (case aF => exact (fun k_ hk => Kd.freshB (g := gb181) (o := .cells #[.int .i64 a2_0, .int .i64 a2_1, .int .i64 a2_2, .string a2_3] 45 (0, 0)) u5_1 k_ hk))
        (case aO => exact u5_5)
        (case aS => exact (below_size u5_0))
        (case aL => have := LMc57.out; omega)
        intro v199 w59 ho hb hg hat
        rw [← Ny198.out] at ho
        have n0_ := Aside0.mk (blk_grown (g := gb180) (o := .cells #[.int .i64 a0_0, .int .i64 a0_1, .slice (some ad196) l0_2.length c0_2] 29 (0, 0)) u5_2 hg (Kd.R_ne HO_184002.out BK180.out (by decide)))
        have n1_ := Aside0.mk (blk_grown (g := gb181) (o := .cells #[.int .i64 a2_0, .int .i64 a2_1, .int .i64 a2_2, .string a2_3] 45 (0, 0)) u5_1 hg (Kd.R_away HO_184002.out (fun _ hk => hk)))
        have n2_ := Aside0.mk (blk_grown (g := gb182) (o := .cells #[.int .i64 0, .int .i64 0, .slice none 0 0] 29 (0, 0)) u5_3 hg (Kd.R_ne HO_184002.out BK182.out (by decide)))
        have n3_ := Aside0.mk (blk_grown (g := gb183) (o := .cells #[.int .i64 a0_0, .int .i64 a0_1, u184002] 29 (0, 0)) u5_4 hg (Kd.R_ne HO_184002.out BK183.out (by decide)))
        have n4_ := Aside0.mk (hb)
        have n5_ := Aside0.mk (ho)
        clear BK180
        clear BK181
        clear BK182
        clear BK183
        clear HB
        clear HO_184002
        have BK180 := n0_
        have BK181 := n1_
        have BK182 := n2_
        have BK183 := n3_
        have HB := n4_
        have HO200 := n5_
        clear n0_ n1_ n2_ n3_ n4_ n5_
        clear ho hb hg hat
        obtain ⟨Ao60, co60, eo60⟩ := Kd.R_slice HO200.out
        (first | subst eo60 | (injection eo60 with f1_ f2_ f3_; have f4_ := f1_.symm; have f5_ := f3_.symm; clear f1_ f2_ f3_; subst f4_; subst f5_))
        refine hK.out _ _ ⟨(blk_cell BK183.out 0).trans rfl, (blk_cell BK183.out 1).trans rfl, (blk_cell BK183.out 2).trans rfl, (blk_cell BK180.out 0).trans rfl, (blk_cell BK180.out 1).trans rfl, (blk_cell BK180.out 2).trans rfl, ((HB.out.cell (World.block_lt_of_cell? w _ hw197_0)).trans hw197_0), ((HB.out.cell (World.block_lt_of_cell? w _ hw197_1)).trans hw197_1), ((HB.out.cell (World.block_lt_of_cell? w _ hw197_2)).trans hw197_2), ((HB.out.cell (World.block_lt_of_cell? w _ hw197_3)).trans hw197_3)⟩ (fun hHeld => ?_)
        clear hK K
        refine norm_ (a' := ?_) ?_ ?_
        rotate_left
        · show Act.put _ (some 60) _ = _
          simp only [Act.put, List.setIfInBounds_toArray, List.set_cons_zero, List.set_cons_succ, i64_w, i32_w]
          rfl
        refine pure_ (i := 9) (N := some 61) (v := ?_) (a' := ?_) #[true, true, true, true, true, true, true, true, true, true, false] rfl rfl (any_of HT_.out (by kernel_rfl)) (fun _ _ _ h => h) (Or.inl ⟨by rfl, ?_⟩) ?_ ?_
        rotate_left
        · intro w'
          go_simp
          with_reducible rfl
        rotate_left
        · simp only [Act.put, List.setIfInBounds_toArray, List.set_cons_zero, List.set_cons_succ, i64_w, i32_w]
          rfl
        refine last_ (i := 10) (N := none) #[true, true, true, true, true, true, true, true, true, true, true] rfl rfl (one_of HT_.out (by kernel_rfl)) (by decide) (fun K hK => ?_)
        have hs61 : w59.cell? ⟨gb183, 2, none⟩ = some (u184002) := (blk_cell BK183.out 2).trans rfl
        have hfs61 := blk_frozen BK183.out 2
        have hns61_0 := NB180_183.out
        have hns61_1 := NB181_183.out
        have hns61_2 := NB182_183.out
        have hms61_0 := NB183_180.out
        have hms61_1 := NB183_181.out
        have hms61_2 := NB183_182.out
        refine skip_ (w1 := ?_) (by rfl) rfl ?_ ?_
        rotate_left
        · go_simp
          rfl
        refine hK.out _ _ ?_
        clear hK K
        refine done_ (done_of HT_.out (by kernel_rfl)) ?_
        try go_wp2
        go_roundg kj17
        case measure => have := HK1.out; have := HJ17.out; omega
        case rel => exact ⟨(x8_1), (wrap64 (x9_1 + 1)), (y198), (.slice Ao60 y198.length co60), u5_9, u5_9, H', ⟨u5_17⟩, ⟨(by (with_reducible repeat (first | apply Kd.R_alloc | apply Kd.R_drewN | apply Kd.R_drew)); exact Kd.R_mono (Kd.R_far (p := ⟨gb183, 2, none⟩) (Kd.R_types HO200.out BK183.out (by decide)) (fun _ hk => hk.2) (.slice Ao60 y198.length co60)) (fun _ hk => hk.1))⟩, ⟨u5_6⟩, ⟨u5_7⟩, ⟨u5_8⟩, ⟨u5_15⟩, ⟨u5_0⟩⟩
      subst c27
      rw [if_pos rfl] at H
      by_cases c28 : x184002_1.length < 3518437208883
      rotate_left
      · rw [if_neg c28] at H
        exact absurd H (by simp)
      rw [if_pos c28] at H
      have LMc28 := Aside0.mk c28
      clear c28
      obtain ⟨y188, hy188⟩ : ∃ y_ : List (S45), y_ = (x184002_1 ++ [(⟨a2_0, a2_1, a2_2, a2_3⟩ : S45)]) := ⟨_, rfl⟩
      replace H : (if 0 ≤ x9_1 then (if x9_1 < (l0_2.length : Int) then (if ((rd_T45 l0_2 x9_1).f0) = a1 then (spec_l09Put.l0 kj17 a1 true (wrap64 (x9_1 + 1)) a0_0 a0_1 l0_2 a2_0 a2_1 a2_2 a2_3 a0_0 a0_1 y188) else (if y188.length < 3518437208883 then (spec_l09Put.l0 kj17 a1 true (wrap64 (x9_1 + 1)) a0_0 a0_1 l0_2 a2_0 a2_1 a2_2 a2_3 a0_0 a0_1 (y188 ++ [(⟨(rd_T45 l0_2 x9_1).f0, (rd_T45 l0_2 x9_1).f1, (rd_T45 l0_2 x9_1).f2, (rd_T45 l0_2 x9_1).f3⟩ : S45)])) else (none))) else (none)) else (none)) = some (r1, r2, r3) := by first | (rw [hy188]; with_reducible exact H) | (have H2_ := (Option.bind_some _ _).symm.trans H; rw [hy188]; with_reducible exact H2_) | (have H2_ := (Option.bind_some _ _).symm.trans H; with_reducible exact H2_) | with_reducible exact H | (rw [hy188]; exact H) | exact H
      have Ny188 := Aside0.mk hy188
      clear hy188
      by_cases c29 : 0 ≤ x9_1
      rotate_left
      · rw [if_neg c29] at H
        exact absurd H (by simp)
      rw [if_pos c29] at H
      have c29b0 : decide (0 ≤ x9_1) = true := decide_eq_true c29
      clear c29
      by_cases c30 : x9_1 < (l0_2.length : Int)
      rotate_left
      · rw [if_neg c30] at H
        exact absurd H (by simp)
      rw [if_pos c30] at H
      have c30b0 : decide (x9_1 < (l0_2.length : Int)) = true := decide_eq_true c30
      clear c30
      have H9 := Aside0.mk H
      clear H
      have hnb31 := NB183_180.out
      have hnc31 := NB180_183.out
      have hnb32 := NB183_181.out
      have hnc32 := NB181_183.out
      have hnb33 := NB183_182.out
      have hnc33 := NB182_183.out
      have hcz34_0 : wc.cell? ⟨gb183, 0, none⟩ = some (.int .i64 a0_0) := (blk_cell BK183.out 0).trans rfl
      have hcz34_1 : wc.cell? ⟨gb183, 1, none⟩ = some (.int .i64 a0_1) := (blk_cell BK183.out 1).trans rfl
      have hcz34_2 : wc.cell? ⟨gb183, 2, none⟩ = some (u184002) := (blk_cell BK183.out 2).trans rfl
      have hfz34_0 := blk_frozen BK183.out 0
      have hfz34_1 := blk_frozen BK183.out 1
      have hfz34_2 := blk_frozen BK183.out 2
      have hnb35 := NB181_180.out
      have hnc35 := NB180_181.out
      have hnb36 := NB181_182.out
      have hnc36 := NB182_181.out
      have hcz37_0 : wc.cell? ⟨gb181, 0, none⟩ = some (.int .i64 a2_0) := (blk_cell BK181.out 0).trans rfl
      have hcz37_1 : wc.cell? ⟨gb181, 1, none⟩ = some (.int .i64 a2_1) := (blk_cell BK181.out 1).trans rfl
      have hcz37_2 : wc.cell? ⟨gb181, 2, none⟩ = some (.int .i64 a2_2) := (blk_cell BK181.out 2).trans rfl
      have hcz37_3 : wc.cell? ⟨gb181, 3, none⟩ = some (.string a2_3) := (blk_cell BK181.out 3).trans rfl
      have hfz37_0 := blk_frozen BK181.out 0
      have hfz37_1 := blk_frozen BK181.out 1
      have hfz37_2 := blk_frozen BK181.out 2
      have hfz37_3 := blk_frozen BK181.out 3
      go_upto_if 51 with (first | ((with_reducible refine gate_builtin (b := .append) (xs := #[.tmp 39, .tmp 41]) rfl ?_); at_builtin; refine Kd.R_append k45 (w0 := w) w.heap.size rfl (.tmp 39) (.tmp 41) 27 45 (.agg #[(.int .i64 0), (.int .i64 0), (.int .i64 0), (.string ⟨#[]⟩)]) 40 rfl Try.underlying27 info45 rfl (by decide) (by omega) u184002 x184002_1 (⟨a2_0, a2_1, a2_2, a2_3⟩ : S45) [.int .i64 a2_0, .int .i64 a2_1, .int .i64 a2_2, .string a2_3] (fun k_ => k_ ≠ gb181) (fun _ => False) rfl rfl ?aP (fun _ hk => hk.elim) ?aF ?aO ?aB ?aS ?aL ?_; (case aP => exact k45_mkM _ _ _ (⟨a2_0, a2_1, a2_2, a2_3⟩ : S45)); (case aB => exact u5_0); (case aF => exact (fun k_ hk => Kd.freshB (g := gb181) (o := .cells #[.int .i64 a2_0, .int .i64 a2_1, .int .i64 a2_2, .string a2_3] 45 (0, 0)) u5_1 k_ hk)); (case aO => exact u5_5); (case aS => exact (below_size u5_0)); (case aL => have := LMc28.out; omega); intro v189 w38 ho hb hg hat; rw [← Ny188.out] at ho; have n0_ := Aside0.mk (blk_grown (g := gb180) (o := .cells #[.int .i64 a0_0, .int .i64 a0_1, .slice A0_2 l0_2.length c0_2] 29 (0, 0)) u5_2 hg (Kd.R_ne HO_184002.out BK180.out (by decide))); have n1_ := Aside0.mk (blk_grown (g := gb181) (o := .cells #[.int .i64 a2_0, .int .i64 a2_1, .int .i64 a2_2, .string a2_3] 45 (0, 0)) u5_1 hg (Kd.R_away HO_184002.out (fun _ hk => hk))); have n2_ := Aside0.mk (blk_grown (g := gb182) (o := .cells #[.int .i64 0, .int .i64 0, .slice none 0 0] 29 (0, 0)) u5_3 hg (Kd.R_ne HO_184002.out BK182.out (by decide))); have n3_ := Aside0.mk (blk_grown (g := gb183) (o := .cells #[.int .i64 a0_0, .int .i64 a0_1, u184002] 29 (0, 0)) u5_4 hg (Kd.R_ne HO_184002.out BK183.out (by decide))); have n4_ := Aside0.mk (hb); have n5_ := Aside0.mk (ho); clear BK180; clear BK181; clear BK182; clear BK183; clear HB; clear HO_184002; have BK180 := n0_; have BK181 := n1_; have BK182 := n2_; have BK183 := n3_; have HB := n4_; have HO190 := n5_; clear n0_ n1_ n2_ n3_ n4_ n5_; clear ho hb hg hat; obtain ⟨Ao39, co39, eo39⟩ := Kd.R_slice HO190.out; subst eo39; have hcz40_0 : w38.cell? ⟨gb183, 0, none⟩ = some (.int .i64 a0_0) := (blk_cell BK183.out 0).trans rfl; have hcz40_1 : w38.cell? ⟨gb183, 1, none⟩ = some (.int .i64 a0_1) := (blk_cell BK183.out 1).trans rfl; have hcz40_2 : w38.cell? ⟨gb183, 2, none⟩ = some (u184002) := (blk_cell BK183.out 2).trans rfl; have hfz40_0 := blk_frozen BK183.out 0; have hfz40_1 := blk_frozen BK183.out 1; have hfz40_2 := blk_frozen BK183.out 2; have hnb41 := NB180_182.out; have hnc41 := NB182_180.out; have hcz42_0 : w38.cell? ⟨gb180, 0, none⟩ = some (.int .i64 a0_0) := (blk_cell BK180.out 0).trans rfl; have hcz42_1 : w38.cell? ⟨gb180, 1, none⟩ = some (.int .i64 a0_1) := (blk_cell BK180.out 1).trans rfl; have hcz42_2 : w38.cell? ⟨gb180, 2, none⟩ = some (.slice A0_2 l0_2.length c0_2) := (blk_cell BK180.out 2).trans rfl; have hfz42_0 := blk_frozen BK180.out 0; have hfz42_1 := blk_frozen BK180.out 1; have hfz42_2 := blk_frozen BK180.out 2; have p191 : 0 ≤ (x9_1 : Int) := of_decide_eq_true u5_11; have q191 : x9_1 < (l0_2.length : Int) := of_decide_eq_true u5_11; obtain ⟨ad191, e191, hx191_0, hx191_1, hx191_2, hx191_3⟩ := at_T45 HR0_2.out x9_1 p191 q191; cases e191; have hn191_0 : ad191.block ≠ gb183 := Nat.ne_of_lt (Nat.lt_of_lt_of_le (by have := World.block_lt_of_cell? _ _ hx191_0; first | rwa [add_block] at this | exact this) GW183.out); replace hx191_0 := (HB.out.cell (World.block_lt_of_cell? w _ hx191_0)).trans hx191_0; replace hx191_1 := (HB.out.cell (World.block_lt_of_cell? w _ hx191_1)).trans hx191_1; replace hx191_2 := (HB.out.cell (World.block_lt_of_cell? w _ hx191_2)).trans hx191_2; replace hx191_3 := (HB.out.cell (World.block_lt_of_cell? w _ hx191_3)).trans hx191_3; replace hx191_0 := (cell_far (p := ⟨gb183, 2, none⟩) u5_13 (.slice Ao39 y188.length co39)).trans hx191_0; replace hx191_1 := (cell_far (p := ⟨gb183, 2, none⟩) u5_13 (.slice Ao39 y188.length co39)).trans hx191_1; replace hx191_2 := (cell_far (p := ⟨gb183, 2, none⟩) u5_13 (.slice Ao39 y188.length co39)).trans hx191_2; replace hx191_3 := (cell_far (p := ⟨gb183, 2, none⟩) u5_13 (.slice Ao39 y188.length co39)).trans hx191_3; clear hn191_0; replace p191 := eq_true p191; replace q191 := eq_true q191))
      have H := H9.out
      clear H9
      by_cases c43 : ((rd_T45 l0_2 x9_1).f0) = a1
      · rw [if_pos c43] at H
        have c43b0 : (((rd_T45 l0_2 x9_1).f0) == a1) = true := beq_iff_eq.mpr c43
        have c43b1 : (((rd_T45 l0_2 x9_1).f0) != a1) = false := bne_eq_false_iff_eq.mpr c43
        clear c43
        (first | rw [c43b0] | (simp only [i64_w, i32_w]; rw [c43b0]) | skip)
        have H' := Aside0.mk H
        clear H
        go_wp2
        go_roundg kj17
        case measure => have := HK1.out; have := HJ17.out; omega
        case rel => exact ⟨(true), (wrap64 (x9_1 + 1)), (y188), (.slice Ao39 y188.length co39), u5_9, u5_9, H', ⟨u5_17⟩, ⟨(by (with_reducible repeat (first | apply Kd.R_alloc | apply Kd.R_drewN | apply Kd.R_drew)); exact Kd.R_mono (Kd.R_far (p := ⟨gb183, 2, none⟩) (Kd.R_types HO190.out BK183.out (by decide)) (fun _ hk => hk.2) (.slice Ao39 y188.length co39)) (fun _ hk => hk.1))⟩, ⟨u5_6⟩, ⟨u5_7⟩, ⟨u5_8⟩, ⟨u5_15⟩, ⟨u5_0⟩⟩
      rw [if_neg c43] at H
      have c43b0 : (((rd_T45 l0_2 x9_1).f0) == a1) = false := beq_eq_false_iff_ne.mpr c43
      have c43b1 : (((rd_T45 l0_2 x9_1).f0) != a1) = true := bne_iff_ne.mpr c43
      (first | rw [c43b0] | (simp only [i64_w, i32_w]; rw [c43b0]) | skip)
      by_cases c44 : y188.length < 3518437208883
      rotate_left
      · rw [if_neg c44] at H
        exact absurd H (by simp)
      rw [if_pos c44] at H
      have LMc44 := Aside0.mk c44
      clear c44
      obtain ⟨y193, hy193⟩ : ∃ y_ : List (S45), y_ = (y188 ++ [(⟨(rd_T45 l0_2 x9_1).f0, (rd_T45 l0_2 x9_1).f1, (rd_T45 l0_2 x9_1).f2, (rd_T45 l0_2 x9_1).f3⟩ : S45)]) := ⟨_, rfl⟩
      replace H : (spec_l09Put.l0 kj17 a1 true (wrap64 (x9_1 + 1)) a0_0 a0_1 l0_2 a2_0 a2_1 a2_2 a2_3 a0_0 a0_1 y193) = some (r1, r2, r3) := by first | (rw [hy193]; with_reducible exact H) | (have H2_ := (Option.bind_some _ _).symm.trans H; rw [hy193]; with_reducible exact H2_) | (have H2_ := (Option.bind_some _ _).symm.trans H; with_reducible exact H2_) | with_reducible exact H | (rw [hy193]; exact H) | exact H
      have Ny193 := Aside0.mk hy193
      clear hy193
      have H' := Aside0.mk H
      clear H
      try go_wp2
      have n0_ : Aside0 (Kd.R k45 45 (w38.setCell ⟨gb183, 2, none⟩ (.slice Ao39 y188.length co39)) w.heap.size (fun k_ => k_ ≠ gb181) (.slice Ao39 y188.length co39) y188) := ⟨by (with_reducible repeat (first | apply Kd.R_alloc | apply Kd.R_drewN | apply Kd.R_drew)); exact Kd.R_mono (Kd.R_far (p := ⟨gb183, 2, none⟩) (Kd.R_types HO190.out BK183.out (by decide)) (fun _ hk => hk.2) (.slice Ao39 y188.length co39)) (fun _ hk => hk.1)⟩
      have n1_ : Aside0 ((w38.setCell ⟨gb183, 2, none⟩ (.slice Ao39 y188.length co39)).heap[gb180]? = some (.cells #[.int .i64 a0_0, .int .i64 a0_1, .slice (some ad191) l0_2.length c0_2] 29 (0, 0))) := ⟨by (with_reducible repeat (first | refine blk_drewN ?_ _ | refine blk_drew ?_ | refine blk_alloc ?_ _)); refine blk_far ?_ NB180_183.out _; (with_reducible repeat (first | refine blk_drewN ?_ _ | refine blk_drew ?_ | refine blk_alloc ?_ _)); exact BK180.out⟩
      have n2_ : Aside0 ((w38.setCell ⟨gb183, 2, none⟩ (.slice Ao39 y188.length co39)).heap[gb181]? = some (.cells #[.int .i64 a2_0, .int .i64 a2_1, .int .i64 a2_2, .string a2_3] 45 (0, 0))) := ⟨by (with_reducible repeat (first | refine blk_drewN ?_ _ | refine blk_drew ?_ | refine blk_alloc ?_ _)); refine blk_far ?_ NB181_183.out _; (with_reducible repeat (first | refine blk_drewN ?_ _ | refine blk_drew ?_ | refine blk_alloc ?_ _)); exact BK181.out⟩
      have n3_ : Aside0 ((w38.setCell ⟨gb183, 2, none⟩ (.slice Ao39 y188.length co39)).heap[gb182]? = some (.cells #[.int .i64 0, .int .i64 0, .slice none 0 0] 29 (0, 0))) := ⟨by (with_reducible repeat (first | refine blk_drewN ?_ _ | refine blk_drew ?_ | refine blk_alloc ?_ _)); refine blk_far ?_ NB182_183.out _; (with_reducible repeat (first | refine blk_drewN ?_ _ | refine blk_drew ?_ | refine blk_alloc ?_ _)); exact BK182.out⟩
      have n4_ : Aside0 ((w38.setCell ⟨gb183, 2, none⟩ (.slice Ao39 y188.length co39)).heap[gb183]? = some (.cells #[.int .i64 a0_0, .int .i64 a0_1, .slice Ao39 y188.length co39] 29 (0, 0))) := ⟨by (with_reducible repeat (first | refine blk_drewN ?_ _ | refine blk_drew ?_ | refine blk_alloc ?_ _)); refine blk_put (cs := #[.int .i64 a0_0, .int .i64 a0_1, u184002]) ?_ 2 _ rfl; (with_reducible repeat (first | refine blk_drewN ?_ _ | refine blk_drew ?_ | refine blk_alloc ?_ _)); exact BK183.out⟩
      have n5_ : Aside0 (Below w.heap.size w (w38.setCell ⟨gb183, 2, none⟩ (.slice Ao39 y188.length co39))) := ⟨by repeat (first | (with_reducible first | exact HB.out | apply below_alloc | apply pw_below_drewN | apply below_drew1 | refine below_set ?_ GE180.out | refine below_set ?_ GE181.out | refine below_set ?_ GE182.out | refine below_set ?_ GE183.out) | exact HB.out)⟩
      (try clear HO190)
      (try clear BK180)
      (try clear BK181)
      (try clear BK182)
      (try clear BK183)
      (try clear HB)
      generalize (w38.setCell ⟨gb183, 2, none⟩ (.slice Ao39 y188.length co39)) = w45 at n0_ n1_ n2_ n3_ n4_ n5_ ⊢
      have HO190 := n0_
      have BK180 := n1_
      have BK181 := n2_
      have BK182 := n3_
      have BK183 := n4_
      have HB := n5_
      clear n0_ n1_ n2_ n3_ n4_ n5_
      have n0_ := Aside0.mk (Kd.R_drew HO190.out)
      have n1_ := Aside0.mk (blk_drew BK180.out)
      have n2_ := Aside0.mk (blk_drew BK181.out)
      have n3_ := Aside0.mk (blk_drew BK182.out)
      have n4_ := Aside0.mk (blk_drew BK183.out)
      have n5_ := Aside0.mk (below_drew1 HB.out)
      clear HO190
      clear BK180
      clear BK181
      clear BK182
      clear BK183
      clear HB
      have HO190 := n0_
      have BK180 := n1_
      have BK181 := n2_
      have BK182 := n3_
      have BK183 := n4_
      have HB := n5_
      clear n0_ n1_ n2_ n3_ n4_ n5_
      have p192 : 0 ≤ (x9_1 : Int) := of_decide_eq_true u5_11
      have q192 : x9_1 < (l0_2.length : Int) := of_decide_eq_true u5_11
      obtain ⟨ad192, e192, hx192_0, hx192_1, hx192_2, hx192_3⟩ := at_T45 HR0_2.out x9_1 p192 q192
      have hw192_3 := hx192_3
      have hw192_2 := hx192_2
      have hw192_1 := hx192_1
      have hw192_0 := hx192_0
      obtain rfl : ad191 = ad192 := (by injection e192)
      replace hx192_0 := (HB.out.cell (World.block_lt_of_cell? w _ hx192_0)).trans hx192_0
      replace hx192_1 := (HB.out.cell (World.block_lt_of_cell? w _ hx192_1)).trans hx192_1
      replace hx192_2 := (HB.out.cell (World.block_lt_of_cell? w _ hx192_2)).trans hx192_2
      replace hx192_3 := (HB.out.cell (World.block_lt_of_cell? w _ hx192_3)).trans hx192_3
      replace p192 := eq_true p192
      replace q192 := eq_true q192
      refine start_ (n := 11) (S := fun w' => w'.cell? ⟨gb183, 0, none⟩ = some (.int .i64 a0_0) ∧ w'.cell? ⟨gb183, 1, none⟩ = some (.int .i64 a0_1) ∧ w'.cell? ⟨gb183, 2, none⟩ = some (.slice Ao39 y188.length co39) ∧ w'.cell? ⟨gb180, 0, none⟩ = some (.int .i64 a0_0) ∧ w'.cell? ⟨gb180, 1, none⟩ = some (.int .i64 a0_1) ∧ w'.cell? ⟨gb180, 2, none⟩ = some (.slice (some ad191) l0_2.length c0_2) ∧ w'.cell? (ad191.add ((x9_1).toNat * 4)) = some (.int .i64 ((rd_T45 l0_2 x9_1).f0)) ∧ w'.cell? ⟨(ad191.add ((x9_1).toNat * 4)).block, (ad191.add ((x9_1).toNat * 4)).off + 1, none⟩ = some (.int .i64 ((rd_T45 l0_2 x9_1).f1)) ∧ w'.cell? ⟨(ad191.add ((x9_1).toNat * 4)).block, (ad191.add ((x9_1).toNat * 4)).off + 2, none⟩ = some (.int .i64 ((rd_T45 l0_2 x9_1).f2)) ∧ w'.cell? ⟨(ad191.add ((x9_1).toNat * 4)).block, (ad191.add ((x9_1).toNat * 4)).off + 3, none⟩ = some (.string ((rd_T45 l0_2 x9_1).f3))) (ds := [10]) #[false, false, false, false, false, false, false, false, false, false, false] (by kernel_rfl) rfl rfl ⟨(blk_cell BK183.out 0).trans rfl, (blk_cell BK183.out 1).trans rfl, (blk_cell BK183.out 2).trans rfl, (blk_cell BK180.out 0).trans rfl, (blk_cell BK180.out 1).trans rfl, (blk_cell BK180.out 2).trans rfl, ((HB.out.cell (World.block_lt_of_cell? w _ hw192_0)).trans hw192_0), ((HB.out.cell (World.block_lt_of_cell? w _ hw192_1)).trans hw192_1), ((HB.out.cell (World.block_lt_of_cell? w _ hw192_2)).trans hw192_2), ((HB.out.cell (World.block_lt_of_cell? w _ hw192_3)).trans hw192_3)⟩ (fun hHeld => ?_); refine with_tabW spec_l09Put.tab10 spec_l09Put.bits10 (fun HT_ HW_ => ?_)
      generalize w45.drew = w46 at HO190 BK180 BK181 BK182 BK183 HB hx192_0 hx192_1 hx192_2 hx192_3 hHeld ⊢
      refine pure_ (i := 0) (N := some 52) (v := ?_) (a' := ?_) #[true, false, false, false, false, false, false, false, false, false, false] rfl rfl (any_of HT_.out (by kernel_rfl)) (fun _ _ _ h => h) (Or.inl ⟨by rfl, ?_⟩) ?_ ?_
      rotate_left
      · intro w'
        go_simp
        with_reducible rfl
      rotate_left
      · simp only [Act.put, List.setIfInBounds_toArray, List.set_cons_zero, List.set_cons_succ, i64_w, i32_w]
        rfl
      refine pure_ (i := 2) (N := some 54) (v := ?_) (a' := ?_) #[true, false, true, false, false, false, false, false, false, false, false] rfl rfl (any_of HT_.out (by kernel_rfl)) (fun _ _ _ h => h) (Or.inl ⟨by rfl, ?_⟩) ?_ ?_
      rotate_left
      · intro w'
        go_simp
        with_reducible rfl
      rotate_left
      · simp only [Act.put, List.setIfInBounds_toArray, List.set_cons_zero, List.set_cons_succ, i64_w, i32_w]
        rfl
      refine pure_ (i := 4) (N := some 56) (v := ?_) (a' := ?_) #[true, false, true, false, true, false, false, false, false, false, false] rfl rfl (any_of HT_.out (by kernel_rfl)) (fun _ _ _ h => h) (Or.inl ⟨by rfl, ?_⟩) ?_ ?_
      rotate_left
      · intro w'
        go_simp
        with_reducible rfl
      rotate_left
      · simp only [Act.put, List.setIfInBounds_toArray, List.set_cons_zero, List.set_cons_succ, i64_w, i32_w]
        rfl
      refine take_ (i := 1) (N := some 53) (v := ?_) (a' := ?_) #[true, true, true, false, true, false, false, false, false, false, false] rfl rfl (take_ofW HT_.out HW_.out (by kernel_rfl)) (fun _ _ _ h => h) (Or.inl ⟨by rfl, ?_⟩) hHeld ?_ ?_
      rotate_left
      · rintro w' ⟨s0, s1, s2, s3, s4, s5, s6, s7, s8, s9⟩
        go_simp
        with_reducible rfl
      rotate_left
      · simp only [Act.put, List.setIfInBounds_toArray, List.set_cons_zero, List.set_cons_succ, i64_w, i32_w]
        rfl
      refine take_ (i := 3) (N := some 55) (v := ?_) (a' := ?_) #[true, true, true, true, true, false, false, false, false, false, false] rfl rfl (take_ofW HT_.out HW_.out (by kernel_rfl)) (fun _ _ _ h => h) (Or.inl ⟨by rfl, ?_⟩) hHeld ?_ ?_
      rotate_left
      · rintro w' ⟨s0, s1, s2, s3, s4, s5, s6, s7, s8, s9⟩
        go_simp
        with_reducible rfl
      rotate_left
      · simp only [Act.put, List.setIfInBounds_toArray, List.set_cons_zero, List.set_cons_succ, i64_w, i32_w]
        rfl
      refine pure_ (i := 5) (N := some 57) (v := ?_) (a' := ?_) #[true, true, true, true, true, true, false, false, false, false, false] rfl rfl (any_of HT_.out (by kernel_rfl)) (fun _ _ _ h => h) (Or.inl ⟨by rfl, ?_⟩) ?_ ?_
      rotate_left
      · intro w'
        go_simp
        with_reducible rfl
      rotate_left
      · simp only [Act.put, List.setIfInBounds_toArray, List.set_cons_zero, List.set_cons_succ, i64_w, i32_w]
        rfl
      refine take_ (i := 6) (N := some 58) (v := ?_) (a' := ?_) #[true, true, true, true, true, true, true, false, false, false, false] rfl rfl (take_ofW HT_.out HW_.out (by kernel_rfl)) (fun _ _ _ h => h) (Or.inl ⟨by rfl, ?_⟩) hHeld ?_ ?_
      rotate_left
      · rintro w' ⟨s0, s1, s2, s3, s4, s5, s6, s7, s8, s9⟩
        go_simp
        with_reducible rfl
      rotate_left
      · simp only [Act.put, List.setIfInBounds_toArray, List.set_cons_zero, List.set_cons_succ, i64_w, i32_w]
        rfl
      refine one_ (i := 7) (N := some 59) #[true, true, true, true, true, true, true, true, false, false, false] rfl rfl (one_of HT_.out (by kernel_rfl)) (by decide) (fun K hK => ?_)
      refine value_ (w1 := ?_) (v := ?_) (by rfl) rfl ?_ ?_
      rotate_left 2
      · go_simp
        constructor
        · rfl
        rfl
      refine hK.out _ _ ⟨(blk_cell (blk_alloc BK183.out _) 0).trans rfl, (blk_cell (blk_alloc BK183.out _) 1).trans rfl, (blk_cell (blk_alloc BK183.out _) 2).trans rfl, (blk_cell (blk_alloc BK180.out _) 0).trans rfl, (blk_cell (blk_alloc BK180.out _) 1).trans rfl, (blk_cell (blk_alloc BK180.out _) 2).trans rfl, (World.cell?_alloc_lt _ _ _ (World.block_lt_of_cell? _ _ (((HB.out.cell (World.block_lt_of_cell? w _ hw192_0)).trans hw192_0)))).trans (((HB.out.cell (World.block_lt_of_cell? w _ hw192_0)).trans hw192_0)), (World.cell?_alloc_lt _ _ _ (World.block_lt_of_cell? _ _ (((HB.out.cell (World.block_lt_of_cell? w _ hw192_1)).trans hw192_1)))).trans (((HB.out.cell (World.block_lt_of_cell? w _ hw192_1)).trans hw192_1)), (World.cell?_alloc_lt _ _ _ (World.block_lt_of_cell? _ _ (((HB.out.cell (World.block_lt_of_cell? w _ hw192_2)).trans hw192_2)))).trans (((HB.out.cell (World.block_lt_of_cell? w _ hw192_2)).trans hw192_2)), (World.cell?_alloc_lt _ _ _ (World.block_lt_of_cell? _ _ (((HB.out.cell (World.block_lt_of_cell? w _ hw192_3)).trans hw192_3)))).trans (((HB.out.cell (World.block_lt_of_cell? w _ hw192_3)).trans hw192_3))⟩ (fun hHeld => ?_)
      clear hK K
      refine norm_ (a' := ?_) ?_ ?_
      rotate_left
      · show Act.put _ (some 59) _ = _
        simp only [Act.put, List.setIfInBounds_toArray, List.set_cons_zero, List.set_cons_succ, i64_w, i32_w]
        rfl
      refine one_ (i := 8) (N := some 60) #[true, true, true, true, true, true, true, true, true, false, false] rfl rfl (one_of HT_.out (by kernel_rfl)) (by decide) (fun K hK => ?_)
      refine Kd.R_append_step k45 (w0 := w) w.heap.size (by rfl) (.tmp 53) (.tmp 59) 27 45 (.agg #[(.int .i64 0), (.int .i64 0), (.int .i64 0), (.string ⟨#[]⟩)]) 40 rfl Try.underlying27 info45 rfl (by decide) (by omega) (.slice Ao39 y188.length co39) y188 (⟨(rd_T45 l0_2 x9_1).f0, (rd_T45 l0_2 x9_1).f1, (rd_T45 l0_2 x9_1).f2, (rd_T45 l0_2 x9_1).f3⟩ : S45) [.int .i64 ((rd_T45 l0_2 x9_1).f0), .int .i64 ((rd_T45 l0_2 x9_1).f1), .int .i64 ((rd_T45 l0_2 x9_1).f2), .string ((rd_T45 l0_2 x9_1).f3)] (fun k_ => k_ ≠ gb181) (fun _ => False) rfl rfl ?aP (fun _ hk => hk.elim) ?aF ?aO ?aB ?aS ?aL ?_
      (case aP => exact k45_mkM _ _ _ (⟨(rd_T45 l0_2 x9_1).f0, (rd_T45 l0_2 x9_1).f1, (rd_T45 l0_2 x9_1).f2, (rd_T45 l0_2 x9_1).f3⟩ : S45))
      (case aB => exact u5_0)
      (case aF => exact (fun k_ hk => Kd.freshB (g := gb181) (o := .cells #[.int .i64 a2_0, .int .i64 a2_1, .int .i64 a2_2, .string a2_3] 45 (0, 0)) u5_1 k_ hk))
      (case aO => exact (by (with_reducible repeat (first | apply Kd.R_alloc | apply Kd.R_drewN | apply Kd.R_drew)); exact HO190.out))
      (case aS => exact (below_size u5_0))
      (case aL => have := LMc44.out; omega)
      intro v194 w47 ho hb hg hat
      rw [← Ny193.out] at ho
      have n0_ := Aside0.mk (blk_grown (g := gb180) (o := .cells #[.int .i64 a0_0, .int .i64 a0_1, .slice (some ad191) l0_2.length c0_2] 29 (0, 0)) u5_2 hg (Kd.R_ne HO190.out BK180.out (by decide)))
      have n1_ := Aside0.mk (blk_grown (g := gb181) (o := .cells #[.int .i64 a2_0, .int .i64 a2_1, .int .i64 a2_2, .string a2_3] 45 (0, 0)) u5_1 hg (Kd.R_away HO190.out (fun _ hk => hk)))
      have n2_ := Aside0.mk (blk_grown (g := gb182) (o := .cells #[.int .i64 0, .int .i64 0, .slice none 0 0] 29 (0, 0)) u5_3 hg (Kd.R_ne HO190.out BK182.out (by decide)))
      have n3_ := Aside0.mk (blk_grown (g := gb183) (o := .cells #[.int .i64 a0_0, .int .i64 a0_1, .slice Ao39 y188.length co39] 29 (0, 0)) u5_4 hg (Kd.R_ne HO190.out BK183.out (by decide)))
      have n4_ := Aside0.mk (hb)
      have n5_ := Aside0.mk (ho)
      clear BK180
      clear BK181
      clear BK182
      clear BK183
      clear HB
      clear HO190
      have BK180 := n0_
      have BK181 := n1_
      have BK182 := n2_
      have BK183 := n3_
      have HB := n4_
      have HO195 := n5_
      clear n0_ n1_ n2_ n3_ n4_ n5_
      clear ho hb hg hat
      obtain ⟨Ao48, co48, eo48⟩ := Kd.R_slice HO195.out
      (first | subst eo48 | (injection eo48 with f1_ f2_ f3_; have f4_ := f1_.symm; have f5_ := f3_.symm; clear f1_ f2_ f3_; subst f4_; subst f5_))
      refine hK.out _ _ ⟨(blk_cell BK183.out 0).trans rfl, (blk_cell BK183.out 1).trans rfl, (blk_cell BK183.out 2).trans rfl, (blk_cell BK180.out 0).trans rfl, (blk_cell BK180.out 1).trans rfl, (blk_cell BK180.out 2).trans rfl, ((HB.out.cell (World.block_lt_of_cell? w _ hw192_0)).trans hw192_0), ((HB.out.cell (World.block_lt_of_cell? w _ hw192_1)).trans hw192_1), ((HB.out.cell (World.block_lt_of_cell? w _ hw192_2)).trans hw192_2), ((HB.out.cell (World.block_lt_of_cell? w _ hw192_3)).trans hw192_3)⟩ (fun hHeld => ?_)
      clear hK K
      refine norm_ (a' := ?_) ?_ ?_
      rotate_left
      · show Act.put _ (some 60) _ = _
        simp only [Act.put, List.setIfInBounds_toArray, List.set_cons_zero, List.set_cons_succ, i64_w, i32_w]
        rfl
      refine pure_ (i := 9) (N := some 61) (v := ?_) (a' := ?_) #[true, true, true, true, true, true, true, true, true, true, false] rfl rfl (any_of HT_.out (by kernel_rfl)) (fun _ _ _ h => h) (Or.inl ⟨by rfl, ?_⟩) ?_ ?_
      rotate_left
      · intro w'
        go_simp
        with_reducible rfl
      rotate_left
      · simp only [Act.put, List.setIfInBounds_toArray, List.set_cons_zero, List.set_cons_succ, i64_w, i32_w]
        rfl
      refine last_ (i := 10) (N := none) #[true, true, true, true, true, true, true, true, true, true, true] rfl rfl (one_of HT_.out (by kernel_rfl)) (by decide) (fun K hK => ?_)
      have hs49 : w47.cell? ⟨gb183, 2, none⟩ = some (.slice Ao39 y188.length co39) := (blk_cell BK183.out 2).trans rfl
      have hfs49 := blk_frozen BK183.out 2
      have hns49_0 := NB180_183.out
      have hns49_1 := NB181_183.out
      have hns49_2 := NB182_183.out
      have hms49_0 := NB183_180.out
      have hms49_1 := NB183_181.out
      have hms49_2 := NB183_182.out
      refine skip_ (w1 := ?_) (by rfl) rfl ?_ ?_
      rotate_left
      · go_simp
        rfl
      refine hK.out _ _ ?_
      clear hK K
      refine done_ (done_of HT_.out (by kernel_rfl)) ?_
      try go_wp2
      go_roundg kj17
      case measure => have := HK1.out; have := HJ17.out; omega
      case rel => exact ⟨(true), (wrap64 (x9_1 + 1)), (y193), (.slice Ao48 y193.length co48), u5_9, u5_9, H', ⟨u5_17⟩, ⟨(by (with_reducible repeat (first | apply Kd.R_alloc | apply Kd.R_drewN | apply Kd.R_drew)); exact Kd.R_mono (Kd.R_far (p := ⟨gb183, 2, none⟩) (Kd.R_types HO195.out BK183.out (by decide)) (fun _ hk => hk.2) (.slice Ao48 y193.length co48)) (fun _ hk => hk.1))⟩, ⟨u5_6⟩, ⟨u5_7⟩, ⟨u5_8⟩, ⟨(by (with_reducible repeat (first | refine blk_drewN ?_ _ | refine blk_drew ?_ | refine blk_alloc ?_ _)); refine blk_put (cs := #[.int .i64 a0_0, .int .i64 a0_1, .slice Ao39 y188.length co39]) ?_ 2 _ rfl; (with_reducible repeat (first | refine blk_drewN ?_ _ | refine blk_drew ?_ | refine blk_alloc ?_ _)); exact BK183.out)⟩, ⟨u5_0⟩⟩

end Go.Proofs.Ytjdpifafijcpbaa.QFnExactKeep
