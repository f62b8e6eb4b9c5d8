-- Printed by the session's own program wip/prx.py.
import Derived.Test.YtjdpifafijcpbaaDoorSqFnOnce
import Derived.Test.YtjdpifafijcpbaaDoorQFnOncex0
namespace Go.Proofs.YtjdpifafijcpbaaDoor.QFnOnce
open Go.RowKit Go.Proofs.YtjdpifafijcpbaaDoorW.PrintWords Go.Proofs.YtjdpifafijcpbaaDoorW.PrintLast Go.Proofs.YtjdpifafijcpbaaDoorW.PrintMore Go.Proofs.YtjdpifafijcpbaaDoor.SqFnOnce
attribute [local go_sem] max2_int min2_int max_two min_two max_three min_three max_four min_four Go.Proofs.YtjdpifafijcpbaaDoor.Set.isSome_setCell
set_option linter.unusedVariables false
set_option linter.unusedSimpArgs false

-- squeezed
theorem u4_1 {P : Prop} (h : P := by (with_reducible repeat (first | refine blk_drewN ?_ _ | refine blk_drew ?_ | refine blk_alloc ?_ _)); exact BK132.out) : P := h
theorem u4_2 {P : Prop} (h : P := by (with_reducible repeat (first | refine blk_drewN ?_ _ | refine blk_drew ?_ | refine blk_alloc ?_ _)); exact BK131.out) : P := h
theorem u4_3 {P : Prop} (h : P := by (with_reducible repeat (first | refine blk_drewN ?_ _ | refine blk_drew ?_ | refine blk_alloc ?_ _)); exact BK133.out) : P := h
theorem u4_4 {P : Prop} (h : P := by (with_reducible repeat (first | refine blk_drewN ?_ _ | refine blk_drew ?_ | refine blk_alloc ?_ _)); exact BK134.out) : P := h
theorem u4_5 {P : Prop} (h : P := by (with_reducible repeat (first | apply Kd.R_alloc | apply Kd.R_drewN | apply Kd.R_drew)); exact HO_135002.out) : P := h
theorem u4_6 {P : Prop} (h : P := by (with_reducible repeat (first | refine blk_drewN ?_ _ | refine blk_drew ?_ | refine blk_alloc ?_ _)); refine blk_far ?_ NB131_134.out _; (with_reducible repeat (first | refine blk_drewN ?_ _ | refine blk_drew ?_ | refine blk_alloc ?_ _)); exact BK131.out) : P := h
theorem u4_7 {P : Prop} (h : P := by (with_reducible repeat (first | refine blk_drewN ?_ _ | refine blk_drew ?_ | refine blk_alloc ?_ _)); refine blk_far ?_ NB132_134.out _; (with_reducible repeat (first | refine blk_drewN ?_ _ | refine blk_drew ?_ | refine blk_alloc ?_ _)); exact BK132.out) : P := h
theorem u4_8 {P : Prop} (h : P := by (with_reducible repeat (first | refine blk_drewN ?_ _ | refine blk_drew ?_ | refine blk_alloc ?_ _)); refine blk_far ?_ NB133_134.out _; (with_reducible repeat (first | refine blk_drewN ?_ _ | refine blk_drew ?_ | refine blk_alloc ?_ _)); exact BK133.out) : P := h
theorem u4_13 {P : Prop} (h : P := by first | (rw [add_block]; exact hn142_0) | (show (Addr.add _ _).block ≠ _; rw [add_block]; exact hn142_0) | exact hn142_0) : P := h
theorem u4_15 {P : Prop} (h : P := by (with_reducible repeat (first | refine blk_drewN ?_ _ | refine blk_drew ?_ | refine blk_alloc ?_ _)); refine blk_put (cs := #[.int .i64 a0_0, .int .i64 a0_1, u135002]) ?_ 2 _ rfl; (with_reducible repeat (first | refine blk_drewN ?_ _ | refine blk_drew ?_ | refine blk_alloc ?_ _)); exact BK134.out) : P := h
theorem u4_17 {P : Prop} (h : P := by have := HK1.out; have := HJ17.out; omega) : P := h
/-! ### spec_l09Put: function 52 -/
mutual
def spec_l09Put.l0 : Nat → Int → Bool → Int → Int → Int → List (S54) → Int → Int → Int → ByteArray → Int → Int → List (S54) → Option (Int × Int × (List (S54)))
 | 0, _, _, _, _, _, _, _, _, _, _, _, _, _ => none
 | k + 1, x1, x8, x9, x132000, x132001, x132002, x133000, x133001, x133002, x133003, x135000, x135001, x135002 => if x9 < (x132002.length : Int) then (if x8 = true then (spec_l09Put.j1 k x1 x8 x9 false x132000 x132001 x132002 x133000 x133001 x133002 x133003 x135000 x135001 x135002) else (if 0 ≤ x9 then (spec_l09Put.j1 k x1 x8 x9 (decide (((rd_T54 x132002 x9).f0) > x133000)) x132000 x132001 x132002 x133000 x133001 x133002 x133003 x135000 x135001 x135002) else (none))) else (if x8 = true then (some (x135000, x135001, x135002)) else (if x135002.length < 3518437208883 then (some (x135000, x135001, (x135002 ++ [(⟨x133000, x133001, x133002, x133003⟩ : S54)]))) else (none)))
def spec_l09Put.j1 : Nat → Int → Bool → Int → Bool → Int → Int → List (S54) → Int → Int → Int → ByteArray → Int → Int → List (S54) → Option (Int × Int × (List (S54)))
 | 0, _, _, _, _, _, _, _, _, _, _, _, _, _, _ => none
 | k + 1, x1, x8, x9, x37, x132000, x132001, x132002, x133000, x133001, x133002, x133003, x135000, x135001, x135002 => if x37 = true then (if x135002.length < 3518437208883 then ((some (x135002 ++ [(⟨x133000, x133001, x133002, x133003⟩ : S54)] : List (S54))).bind fun y139 => (if 0 ≤ x9 then (if x9 < (x132002.length : Int) then (if ((rd_T54 x132002 x9).f0) = x1 then (spec_l09Put.l0 k x1 true (wrap64 (x9 + 1)) x132000 x132001 x132002 x133000 x133001 x133002 x133003 x135000 x135001 y139) else (if y139.length < 3518437208883 then (spec_l09Put.l0 k x1 true (wrap64 (x9 + 1)) x132000 x132001 x132002 x133000 x133001 x133002 x133003 x135000 x135001 (y139 ++ [(⟨(rd_T54 x132002 x9).f0, (rd_T54 x132002 x9).f1, (rd_T54 x132002 x9).f2, (rd_T54 x132002 x9).f3⟩ : S54)])) else (none))) else (none)) else (none))) else (none)) else (if 0 ≤ x9 then (if x9 < (x132002.length : Int) then (if ((rd_T54 x132002 x9).f0) = x1 then (spec_l09Put.l0 k x1 x8 (wrap64 (x9 + 1)) x132000 x132001 x132002 x133000 x133001 x133002 x133003 x135000 x135001 x135002) else (if x135002.length < 3518437208883 then (spec_l09Put.l0 k x1 x8 (wrap64 (x9 + 1)) x132000 x132001 x132002 x133000 x133001 x133002 x133003 x135000 x135001 (x135002 ++ [(⟨(rd_T54 x132002 x9).f0, (rd_T54 x132002 x9).f1, (rd_T54 x132002 x9).f2, (rd_T54 x132002 x9).f3⟩ : S54)])) else (none))) else (none)) else (none))
end
def spec_l09Put.f (k : Nat) (a0_0 : Int) (a0_1 : Int) (l0_2 : List (S54)) (a1 : Int) (a2_0 : Int) (a2_1 : Int) (a2_2 : Int) (a2_3 : ByteArray) : Option (Int × Int × (List (S54))) := spec_l09Put.l0 k a1 (a2_0 == 0) 0 a0_0 a0_1 l0_2 a2_0 a2_1 a2_2 a2_3 a0_0 a0_1 ([] : List (S54))
theorem spec_l09Put.mono_l : ∀ k, (∀ y0 y1 y2 y3 y4 y5 y6 y7 y8 y9 y10 y11 y12, LeO (spec_l09Put.l0 k y0 y1 y2 y3 y4 y5 y6 y7 y8 y9 y10 y11 y12) (spec_l09Put.l0 (k + 1) y0 y1 y2 y3 y4 y5 y6 y7 y8 y9 y10 y11 y12)) ∧ (∀ y0 y1 y2 y3 y4 y5 y6 y7 y8 y9 y10 y11 y12 y13, LeO (spec_l09Put.j1 k y0 y1 y2 y3 y4 y5 y6 y7 y8 y9 y10 y11 y12 y13) (spec_l09Put.j1 (k + 1) y0 y1 y2 y3 y4 y5 y6 y7 y8 y9 y10 y11 y12 y13))
 | 0 => ⟨fun _ _ _ _ _ _ _ _ _ _ _ _ _ r h => by simp [spec_l09Put.l0] at h, fun _ _ _ _ _ _ _ _ _ _ _ _ _ _ r h => by simp [spec_l09Put.j1] at h⟩
 | k + 1 => by
   obtain ⟨ih0, ih1⟩ := spec_l09Put.mono_l k
   refine ⟨?_, ?_⟩ <;> intros <;> (first | unfold spec_l09Put.l0 | unfold spec_l09Put.j1) <;> repeat' first
   | (with_reducible exact ih0 _ _ _ _ _ _ _ _ _ _ _ _ _)
   | (with_reducible exact ih1 _ _ _ _ _ _ _ _ _ _ _ _ _ _)
   | (with_reducible exact LeO.refl _)
   | (with_reducible exact LeO.none _)
   | (with_reducible refine LeO.ite ?_ ?_)
   | (with_reducible refine LeO.bind ?_ (fun _ => ?_))
   | exact ih0 _ _ _ _ _ _ _ _ _ _ _ _ _
   | exact ih1 _ _ _ _ _ _ _ _ _ _ _ _ _ _
   | exact LeO.none _
   | refine LeO.ite ?_ ?_
   | refine LeO.bind ?_ (fun _ => ?_)
theorem spec_l09Put.mono : ∀ a0 a1 a2 a3 a4 a5 a6 a7 k, LeO (spec_l09Put.f k a0 a1 a2 a3 a4 a5 a6 a7) (spec_l09Put.f (k + 1) a0 a1 a2 a3 a4 a5 a6 a7) := by
 intro a0 a1 a2 a3 a4 a5 a6 a7 k
 obtain ⟨ih0, ih1⟩ := spec_l09Put.mono_l k
 unfold spec_l09Put.f
 repeat' first
     | (with_reducible exact ih0 _ _ _ _ _ _ _ _ _ _ _ _ _)
     | (with_reducible exact ih1 _ _ _ _ _ _ _ _ _ _ _ _ _ _)
     | (with_reducible exact LeO.refl _)
     | (with_reducible exact LeO.none _)
     | (with_reducible refine LeO.ite ?_ ?_)
     | (with_reducible refine LeO.bind ?_ (fun _ => ?_))
     | exact ih0 _ _ _ _ _ _ _ _ _ _ _ _ _
     | exact ih1 _ _ _ _ _ _ _ _ _ _ _ _ _ _
     | exact LeO.none _
     | refine LeO.ite ?_ ?_
     | refine LeO.bind ?_ (fun _ => ?_)
def spec_l09Put.T6 : Bool × List (List Nat × List Nat) := (true, [([], []), ([0], [0]), ([1], [1]), ([2], [2]), ([3, 2], [2, 3]), ([2], [2]), ([4, 5, 2], [2, 4, 5]), ([6, 2], [2, 6]), ([7, 2], [2, 7]), ([2], [2]), ([9, 2], [2, 9]), ([8, 10, 2], [2, 8, 10]), ([2, 11], [2, 11])])
def spec_l09Put.B6 : List Nat := [0, 1, 3, 7, 15, 7, 63, 127, 255, 7, 519, 2047, 4095]
theorem spec_l09Put.tab6 : rtab .any (opsOf Tryd.f52 6) = spec_l09Put.T6 := by kernel_rfl
theorem spec_l09Put.bits6 : waitsOk spec_l09Put.T6.2 spec_l09Put.B6 = true := by kernel_rfl
def spec_l09Put.T10 : Bool × List (List Nat × List Nat) := (true, [([], []), ([0], [0]), ([], []), ([2], [2]), ([], []), ([3, 4], [3, 4]), ([5], [5]), ([6], [6]), ([1, 7], [1, 7]), ([0, 1, 2, 3, 4, 5, 6, 7, 8], []), ([9, 8, 8, 0, 1, 2, 3, 4, 5, 6, 7, 8], [8, 9])])
def spec_l09Put.B10 : List Nat := [0, 1, 0, 4, 0, 28, 60, 124, 255, 511, 1023]
theorem spec_l09Put.tab10 : rtab .any (opsOf Tryd.f52 10) = spec_l09Put.T10 := by kernel_rfl
theorem spec_l09Put.bits10 : waitsOk spec_l09Put.T10.2 spec_l09Put.B10 = true := by kernel_rfl
set_option maxHeartbeats 8000000 in
set_option maxRecDepth 100000 in
theorem spec_l09Put.calls (k : Nat) (a0_0 : Int) (a0_1 : Int) (A0_2 : Option Addr) (c0_2 : Nat) (l0_2 : List (S54)) (a1 : Int) (a2_0 : Int) (a2_1 : Int) (a2_2 : Int) (a2_3 : ByteArray) (r1 : Int) (r2 : Int) (r3 : List (S54)) (w : World) (hr0_2 : Kd.C k54 w A0_2 l0_2.length l0_2) (hc0_2 : l0_2.length ≤ c0_2) (h : spec_l09Put.f k a0_0 a0_1 l0_2 a1 a2_0 a2_1 a2_2 a2_3 = some (r1, r2, r3)) :
   Calls Tryd.prog 52 #[.agg #[.int .i64 a0_0, .int .i64 a0_1, .slice A0_2 l0_2.length c0_2], .int .i64 a1, .agg #[.int .i64 a2_0, .int .i64 a2_1, .int .i64 a2_2, .string a2_3]] w fun e w' => ∃ v2_ : Value, e = .returned (.agg #[.int .i64 r1, .int .i64 r2, v2_]) ∧ Kd.R k54 54 w' w.heap.size (fun _ => True) v2_ r3 ∧ Below w.heap.size w w' := by
 have hu30 := Tryd.underlying30
 have hu54 := Tryd.underlying54
 have HR0_2 := am hr0_2
 have HC0_2 := am hc0_2
 clear hr0_2 hc0_2
 have HB := am (Below.refl w.heap.size w)
 have H : (spec_l09Put.l0 k a1 (a2_0 == 0) 0 a0_0 a0_1 l0_2 a2_0 a2_1 a2_2 a2_3 a0_0 a0_1 ([] : List (S54))) = some (r1, r2, r3) := h
 clear h
 have H' := am H
 clear H
 go_enter Tryd.func52, Tryd.ntmps52
 go_wp2_with (first | ((with_reducible refine gate_dst (N := 3) rfl ?_); refine box_event ?hg (N := 3) ?hd (cs := #[.int .i64 a0_0, .int .i64 a0_1, .slice A0_2 l0_2.length c0_2]) (t := 30) ?hr ?_; (case hd => rfl); (case hg => rfl); (case hr => first | (go_simp; done) | (go_simp; rfl)); intro gb131 hg w4 hbox hb; have BK131 := am (hbox); have GW131 := am ((by rw [hg]; exact (below_size q0) : w.heap.size ≤ gb131)); have GE131 := am ((by rw [hg]; exact (below_size q0) : w.heap.size ≤ gb131)); replace HB := am (below_step q0 hb); clear hb hbox hg) | ((with_reducible refine gate_dst (N := 5) rfl ?_); refine box_event ?hg (N := 5) ?hd (cs := #[.int .i64 a2_0, .int .i64 a2_1, .int .i64 a2_2, .string a2_3]) (t := 54) ?hr ?_; (case hd => rfl); (case hg => rfl); (case hr => first | (go_simp; done) | (go_simp; rfl)); intro gb132 hg w5 hbox hb; have BK132 := am (hbox); have GW132 := am ((by rw [hg]; exact (below_size q0) : w.heap.size ≤ gb132)); have GE132 := am ((by rw [hg]; exact (below_size q0) : w.heap.size ≤ gb132)); replace HB := am (below_step q0 hb); have NB131_132 := am ((by rw [hg]; exact Nat.ne_of_lt (blk_lt (g := gb131) (o := .cells #[.int .i64 a0_0, .int .i64 a0_1, .slice A0_2 l0_2.length c0_2] 30 (0, 0)) u4_2) : gb131 ≠ gb132)); have NB132_131 := am ((by rw [hg]; exact Nat.ne_of_gt (blk_lt (g := gb131) (o := .cells #[.int .i64 a0_0, .int .i64 a0_1, .slice A0_2 l0_2.length c0_2] 30 (0, 0)) u4_2) : gb132 ≠ gb131)); replace BK131 := am (blk_below (g := gb131) (o := .cells #[.int .i64 a0_0, .int .i64 a0_1, .slice A0_2 l0_2.length c0_2] 30 (0, 0)) u4_2 hb); clear hb hbox hg) | ((with_reducible refine gate_dst (N := 6) rfl ?_); refine box_event ?hg (N := 6) ?hd (cs := #[.int .i64 0, .int .i64 0, .slice none 0 0]) (t := 30) ?hr ?_; (case hd => rfl); (case hg => rfl); (case hr => first | (go_simp; done) | (go_simp; rfl)); intro gb133 hg w6 hbox hb; have BK133 := am (hbox); have GW133 := am ((by rw [hg]; exact (below_size q0) : w.heap.size ≤ gb133)); have GE133 := am ((by rw [hg]; exact (below_size q0) : w.heap.size ≤ gb133)); replace HB := am (below_step q0 hb); have NB131_133 := am ((by rw [hg]; exact Nat.ne_of_lt (blk_lt (g := gb131) (o := .cells #[.int .i64 a0_0, .int .i64 a0_1, .slice A0_2 l0_2.length c0_2] 30 (0, 0)) u4_2) : gb131 ≠ gb133)); have NB133_131 := am ((by rw [hg]; exact Nat.ne_of_gt (blk_lt (g := gb131) (o := .cells #[.int .i64 a0_0, .int .i64 a0_1, .slice A0_2 l0_2.length c0_2] 30 (0, 0)) u4_2) : gb133 ≠ gb131)); replace BK131 := am (blk_below (g := gb131) (o := .cells #[.int .i64 a0_0, .int .i64 a0_1, .slice A0_2 l0_2.length c0_2] 30 (0, 0)) u4_2 hb); have NB132_133 := am ((by rw [hg]; exact Nat.ne_of_lt (blk_lt (g := gb132) (o := .cells #[.int .i64 a2_0, .int .i64 a2_1, .int .i64 a2_2, .string a2_3] 54 (0, 0)) u4_1) : gb132 ≠ gb133)); have NB133_132 := am ((by rw [hg]; exact Nat.ne_of_gt (blk_lt (g := gb132) (o := .cells #[.int .i64 a2_0, .int .i64 a2_1, .int .i64 a2_2, .string a2_3] 54 (0, 0)) u4_1) : gb133 ≠ gb132)); replace BK132 := am (blk_below (g := gb132) (o := .cells #[.int .i64 a2_0, .int .i64 a2_1, .int .i64 a2_2, .string a2_3] 54 (0, 0)) u4_1 hb); clear hb hbox hg; have hnb7 := NB131_132.out; have hnc7 := NB132_131.out; have hnb8 := NB131_133.out; have hnc8 := NB133_131.out; obtain ⟨hcz9_0, hcz9_1, hcz9_2, hfz9_0, hfz9_1, hfz9_2⟩ := bc3f w6 BK131.out) | ((with_reducible refine gate_dst (N := 7) rfl ?_); refine box_event ?hg (N := 7) ?hd (cs := #[.int .i64 0, .int .i64 0, .slice none 0 0]) (t := 30) ?hr ?_; (case hd => rfl); (case hg => rfl); (case hr => first | (go_simp; done) | (go_simp; rfl)); intro gb134 hg w10 hbox hb; have BK134 := am (hbox); have GW134 := am ((by rw [hg]; exact (below_size q0) : w.heap.size ≤ gb134)); have GE134 := am ((by rw [hg]; exact (below_size q0) : w.heap.size ≤ gb134)); replace HB := am (below_step q0 hb); have NB131_134 := am ((by rw [hg]; exact Nat.ne_of_lt (blk_lt (g := gb131) (o := .cells #[.int .i64 a0_0, .int .i64 a0_1, .slice A0_2 l0_2.length c0_2] 30 (0, 0)) u4_2) : gb131 ≠ gb134)); have NB134_131 := am ((by rw [hg]; exact Nat.ne_of_gt (blk_lt (g := gb131) (o := .cells #[.int .i64 a0_0, .int .i64 a0_1, .slice A0_2 l0_2.length c0_2] 30 (0, 0)) u4_2) : gb134 ≠ gb131)); replace BK131 := am (blk_below (g := gb131) (o := .cells #[.int .i64 a0_0, .int .i64 a0_1, .slice A0_2 l0_2.length c0_2] 30 (0, 0)) u4_2 hb); have NB132_134 := am ((by rw [hg]; exact Nat.ne_of_lt (blk_lt (g := gb132) (o := .cells #[.int .i64 a2_0, .int .i64 a2_1, .int .i64 a2_2, .string a2_3] 54 (0, 0)) u4_1) : gb132 ≠ gb134)); have NB134_132 := am ((by rw [hg]; exact Nat.ne_of_gt (blk_lt (g := gb132) (o := .cells #[.int .i64 a2_0, .int .i64 a2_1, .int .i64 a2_2, .string a2_3] 54 (0, 0)) u4_1) : gb134 ≠ gb132)); replace BK132 := am (blk_below (g := gb132) (o := .cells #[.int .i64 a2_0, .int .i64 a2_1, .int .i64 a2_2, .string a2_3] 54 (0, 0)) u4_1 hb); have NB133_134 := am ((by rw [hg]; exact Nat.ne_of_lt (blk_lt (g := gb133) (o := .cells #[.int .i64 0, .int .i64 0, .slice none 0 0] 30 (0, 0)) u4_3) : gb133 ≠ gb134)); have NB134_133 := am ((by rw [hg]; exact Nat.ne_of_gt (blk_lt (g := gb133) (o := .cells #[.int .i64 0, .int .i64 0, .slice none 0 0] 30 (0, 0)) u4_3) : gb134 ≠ gb133)); replace BK133 := am (blk_below (g := gb133) (o := .cells #[.int .i64 0, .int .i64 0, .slice none 0 0] 30 (0, 0)) u4_3 hb); clear hb hbox hg; have hnb11 := NB134_131.out; have hnc11 := NB131_134.out; have hnb12 := NB134_132.out; have hnc12 := NB132_134.out; have hnb13 := NB134_133.out; have hnc13 := NB133_134.out; obtain ⟨hcz14_0, hcz14_1, hcz14_2, hfz14_0, hfz14_1, hfz14_2⟩ := bc3f w10 BK134.out; have hnb15 := NB132_133.out; have hnc15 := NB133_132.out; obtain ⟨hcz16_0, hcz16_1, hcz16_2, hcz16_3, hfz16_0, hfz16_1, hfz16_2, hfz16_3⟩ := bc4f w10 BK132.out))
 go_loopg [8, 9] k (fun kq v8 v9 w' => ∃ (x8_1 : Bool) (x9_1 : Int) (x135002_1 : List (S54)) (u135002 : Value), v8 = .bool x8_1 ∧ v9 = .int .i64 x9_1 ∧ Aside0 (spec_l09Put.l0 kq a1 x8_1 x9_1 a0_0 a0_1 l0_2 a2_0 a2_1 a2_2 a2_3 a0_0 a0_1 x135002_1 = some (r1, r2, r3)) ∧ Aside0 (kq ≤ k) ∧ Aside0 (Kd.R k54 54 w' w.heap.size (fun k_ => k_ ≠ gb132) u135002 x135002_1) ∧ Aside0 (w'.heap[gb131]? = some (.cells #[.int .i64 a0_0, .int .i64 a0_1, (.slice A0_2 l0_2.length c0_2)] 30 (0, 0))) ∧ Aside0 (w'.heap[gb132]? = some (.cells #[.int .i64 a2_0, .int .i64 a2_1, .int .i64 a2_2, .string a2_3] 54 (0, 0))) ∧ Aside0 (w'.heap[gb133]? = some (.cells #[.int .i64 0, .int .i64 0, (.slice none 0 0)] 30 (0, 0))) ∧ Aside0 (w'.heap[gb134]? = some (.cells #[.int .i64 a0_0, .int .i64 a0_1, u135002] 30 (0, 0))) ∧ Aside0 (Below w.heap.size w w'))
 case atStart => exact ⟨((a2_0 == 0)), (0), (([] : List (S54))), (.slice none 0 0), q4, q4, H', ⟨Nat.le_refl _⟩, ⟨(by first | exact Kd.R_nil _ _ _ _ _ | exact Kd.N_nil _ _ _ _ _ | exact Kd.V_nil _ _ _ _ _ | exact Kd.Q_nil _ _ _ _ _ | exact Kd.S_nil _ _ _ _ _)⟩, ⟨(by (with_reducible repeat (first | refine blk_drewN ?_ _ | refine blk_drew ?_ | refine blk_alloc ?_ _)); refine blk_far ?_ NB131_134.out _; (with_reducible repeat (first | refine blk_drewN ?_ _ | refine blk_drew ?_ | refine blk_alloc ?_ _)); refine blk_far ?_ NB131_134.out _; (with_reducible repeat (first | refine blk_drewN ?_ _ | refine blk_drew ?_ | refine blk_alloc ?_ _)); refine blk_far ?_ NB131_134.out _; (with_reducible repeat (first | refine blk_drewN ?_ _ | refine blk_drew ?_ | refine blk_alloc ?_ _)); exact BK131.out)⟩, ⟨(by (with_reducible repeat (first | refine blk_drewN ?_ _ | refine blk_drew ?_ | refine blk_alloc ?_ _)); refine blk_far ?_ NB132_134.out _; (with_reducible repeat (first | refine blk_drewN ?_ _ | refine blk_drew ?_ | refine blk_alloc ?_ _)); refine blk_far ?_ NB132_134.out _; (with_reducible repeat (first | refine blk_drewN ?_ _ | refine blk_drew ?_ | refine blk_alloc ?_ _)); refine blk_far ?_ NB132_134.out _; (with_reducible repeat (first | refine blk_drewN ?_ _ | refine blk_drew ?_ | refine blk_alloc ?_ _)); exact BK132.out)⟩, ⟨(by (with_reducible repeat (first | refine blk_drewN ?_ _ | refine blk_drew ?_ | refine blk_alloc ?_ _)); refine blk_far ?_ NB133_134.out _; (with_reducible repeat (first | refine blk_drewN ?_ _ | refine blk_drew ?_ | refine blk_alloc ?_ _)); refine blk_far ?_ NB133_134.out _; (with_reducible repeat (first | refine blk_drewN ?_ _ | refine blk_drew ?_ | refine blk_alloc ?_ _)); refine blk_far ?_ NB133_134.out _; (with_reducible repeat (first | refine blk_drewN ?_ _ | refine blk_drew ?_ | refine blk_alloc ?_ _)); exact BK133.out)⟩, ⟨(by (with_reducible repeat (first | refine blk_drewN ?_ _ | refine blk_drew ?_ | refine blk_alloc ?_ _)); refine blk_put (cs := #[.int .i64 a0_0, .int .i64 a0_1, .slice none 0 0]) ?_ 2 _ rfl; (with_reducible repeat (first | refine blk_drewN ?_ _ | refine blk_drew ?_ | refine blk_alloc ?_ _)); refine blk_put (cs := #[.int .i64 a0_0, .int .i64 0, .slice none 0 0]) ?_ 1 _ rfl; (with_reducible repeat (first | refine blk_drewN ?_ _ | refine blk_drew ?_ | refine blk_alloc ?_ _)); refine blk_put (cs := #[.int .i64 0, .int .i64 0, .slice none 0 0]) ?_ 0 _ rfl; (with_reducible repeat (first | refine blk_drewN ?_ _ | refine blk_drew ?_ | refine blk_alloc ?_ _)); exact BK134.out)⟩, ⟨q0⟩⟩
 clear H'
 try clear hcz14_0
 try clear hcz14_1
 try clear hcz14_2
 try clear hcz16_0
 try clear hcz16_1
 try clear hcz16_2
 try clear hcz16_3
 try clear hcz9_0
 try clear hcz9_1
 try clear hcz9_2
 try clear hfz14_0
 try clear hfz14_1
 try clear hfz14_2
 try clear hfz16_0
 try clear hfz16_1
 try clear hfz16_2
 try clear hfz16_3
 try clear hfz9_0
 try clear hfz9_1
 try clear hfz9_2
 obtain ⟨x8_1, x9_1, x135002_1, u135002, rfl, rfl, HA, HK1, HO_135002, BK131, BK132, BK133, BK134, HB⟩ := hrel
 cases gk with
 | zero => exact absurd HA.out (by simp [spec_l09Put.l0])
 | succ k1 =>
   have H := HA.out
   clear HA
   simp only [spec_l09Put.l0] at H
   by_cases c17 : x9_1 < (l0_2.length : Int)
   rotate_left
   · rw [if_neg c17] at H
     have c17b0 : decide (x9_1 < (l0_2.length : Int)) = false := decide_eq_false c17
     clear c17
     by_cases c62 : x8_1 = true
     · subst c62
       rw [if_pos rfl] at H
       simp only [Option.some.injEq, Prod.mk.injEq] at H
       obtain ⟨rfl, rfl, rfl⟩ := H
       have hnb63 := NB131_132.out
       have hnc63 := NB132_131.out
       have hnb64 := NB131_133.out
       have hnc64 := NB133_131.out
       have hnb65 := NB131_134.out
       have hnc65 := NB134_131.out
       obtain ⟨hcz66_0, hcz66_1, hcz66_2, hfz66_0, hfz66_1, hfz66_2⟩ := bc3f wr BK131.out
       have hnb67 := NB134_132.out
       have hnc67 := NB132_134.out
       have hnb68 := NB134_133.out
       have hnc68 := NB133_134.out
       obtain ⟨hcz69_0, hcz69_1, hcz69_2, hfz69_0, hfz69_1, hfz69_2⟩ := bc3f wr BK134.out
       have hnb70 := NB133_132.out
       have hnc70 := NB132_133.out
       obtain ⟨hcz71_0, hcz71_1, hcz71_2, hfz71_0, hfz71_1, hfz71_2⟩ := bc3f wr BK133.out
       obtain ⟨Ao72, co72, eo72⟩ := Kd.R_slice HO_135002.out
       subst eo72
       go_wp2
       refine bodyPost_ret (results_cell_row rfl _ _ gb133 30 #[.int .i64 a0_0, .int .i64 a0_1, .slice Ao72 x135002_1.length co72] (0, 0) _ rfl (by (with_reducible repeat (first | refine blk_drewN ?_ _ | refine blk_drew ?_ | refine blk_alloc ?_ _)); refine blk_put (cs := #[.int .i64 a0_0, .int .i64 a0_1, .slice none 0 0]) ?_ 2 _ rfl; (with_reducible repeat (first | refine blk_drewN ?_ _ | refine blk_drew ?_ | refine blk_alloc ?_ _)); refine blk_put (cs := #[.int .i64 a0_0, .int .i64 0, .slice none 0 0]) ?_ 1 _ rfl; (with_reducible repeat (first | refine blk_drewN ?_ _ | refine blk_drew ?_ | refine blk_alloc ?_ _)); refine blk_put (cs := #[.int .i64 0, .int .i64 0, .slice none 0 0]) ?_ 0 _ rfl; (with_reducible repeat (first | refine blk_drewN ?_ _ | refine blk_drew ?_ | refine blk_alloc ?_ _)); exact BK133.out) Tryd.underlying30 rfl kr) rfl ?_
       exact ⟨_, er, (by (with_reducible repeat (first | apply Kd.R_alloc | apply Kd.R_drewN | apply Kd.R_drew)); exact Kd.R_mono (Kd.R_far (p := ⟨gb133, 2, none⟩) (Kd.R_far (p := ⟨gb133, 1, none⟩) (Kd.R_far (p := ⟨gb133, 0, none⟩) (Kd.R_types HO_135002.out BK133.out (by decide)) (fun _ hk => hk.2) (.int .i64 a0_0)) (fun _ hk => hk.2) (.int .i64 a0_1)) (fun _ hk => hk.2) (.slice Ao72 x135002_1.length co72)) (fun _ hk => trivial)), q0⟩
     replace c62 := Bool.eq_false_iff.mpr c62
     subst c62
     rw [nf] at H
     by_cases c73 : x135002_1.length < 3518437208883
     rotate_left
     · rw [if_neg c73] at H
       exact absurd H (by simp)
     rw [if_pos c73] at H
     have LMc73 := am c73
     clear c73
     obtain ⟨y135, hy135⟩ : ∃ y_ : List (S54), y_ = (x135002_1 ++ [(⟨a2_0, a2_1, a2_2, a2_3⟩ : S54)]) := ⟨_, rfl⟩
     replace H : (some (a0_0, a0_1, y135)) = some (r1, r2, r3) := by first | (rw [hy135]; with_reducible exact H) | (have H2_ := (Option.bind_some _ _).symm.trans H; rw [hy135]; with_reducible exact H2_) | (have H2_ := (Option.bind_some _ _).symm.trans H; with_reducible exact H2_) | with_reducible exact H | (rw [hy135]; exact H) | exact H
     have Ny135 := am hy135
     clear hy135
     simp only [Option.some.injEq, Prod.mk.injEq] at H
     obtain ⟨rfl, rfl, rfl⟩ := H
     have hnb74 := NB131_132.out
     have hnc74 := NB132_131.out
     have hnb75 := NB131_133.out
     have hnc75 := NB133_131.out
     have hnb76 := NB131_134.out
     have hnc76 := NB134_131.out
     obtain ⟨hcz77_0, hcz77_1, hcz77_2, hfz77_0, hfz77_1, hfz77_2⟩ := bc3f wr BK131.out
     have hnb78 := NB134_132.out
     have hnc78 := NB132_134.out
     have hnb79 := NB134_133.out
     have hnc79 := NB133_134.out
     obtain ⟨hcz80_0, hcz80_1, hcz80_2, hfz80_0, hfz80_1, hfz80_2⟩ := bc3f wr BK134.out
     have hnb81 := NB132_133.out
     have hnc81 := NB133_132.out
     obtain ⟨hcz82_0, hcz82_1, hcz82_2, hcz82_3, hfz82_0, hfz82_1, hfz82_2, hfz82_3⟩ := bc4f wr BK132.out
     go_wp2_with (first | ((with_reducible refine gate_builtin (b := .append) (xs := #[.tmp 65, .tmp 67]) rfl ?_); at_builtin; refine Kd.R_append k54 (w0 := w) w.heap.size rfl (.tmp 65) (.tmp 67) 28 54 (.agg #[(.int .i64 0), (.int .i64 0), (.int .i64 0), (.string ⟨#[]⟩)]) 40 rfl Tryd.underlying28 info54 rfl (by decide) (by omega) u135002 x135002_1 (⟨a2_0, a2_1, a2_2, a2_3⟩ : S54) [.int .i64 a2_0, .int .i64 a2_1, .int .i64 a2_2, .string a2_3] (fun k_ => k_ ≠ gb132) (fun _ => False) rfl rfl ?aP (fun _ hk => hk.elim) ?aF ?aO ?aB ?aS ?aL ?_; (case aP => exact k54_mkM _ _ _ (⟨a2_0, a2_1, a2_2, a2_3⟩ : S54)); (case aB => exact q0); (case aF => exact (fun k_ hk => Kd.freshB (g := gb132) (o := .cells #[.int .i64 a2_0, .int .i64 a2_1, .int .i64 a2_2, .string a2_3] 54 (0, 0)) u4_1 k_ hk)); (case aO => exact u4_5); (case aS => exact (below_size q0)); (case aL => have := LMc73.out; omega); intro v136 w83 ho hb hg hat; rw [← Ny135.out] at ho; replace BK131 := am (blk_grown (g := gb131) (o := .cells #[.int .i64 a0_0, .int .i64 a0_1, .slice A0_2 l0_2.length c0_2] 30 (0, 0)) u4_2 hg (Kd.R_ne HO_135002.out BK131.out (by decide))); replace BK132 := am (blk_grown (g := gb132) (o := .cells #[.int .i64 a2_0, .int .i64 a2_1, .int .i64 a2_2, .string a2_3] 54 (0, 0)) u4_1 hg (Kd.R_away HO_135002.out (fun _ hk => hk))); replace BK133 := am (blk_grown (g := gb133) (o := .cells #[.int .i64 0, .int .i64 0, .slice none 0 0] 30 (0, 0)) u4_3 hg (Kd.R_ne HO_135002.out BK133.out (by decide))); replace BK134 := am (blk_grown (g := gb134) (o := .cells #[.int .i64 a0_0, .int .i64 a0_1, u135002] 30 (0, 0)) u4_4 hg (Kd.R_ne HO_135002.out BK134.out (by decide))); replace HB := am (hb); have HO137 := am (ho); clear HO_135002; clear ho hb hg hat; obtain ⟨Ao84, co84, eo84⟩ := Kd.R_slice HO137.out; subst eo84; obtain ⟨hcz85_0, hcz85_1, hcz85_2, hfz85_0, hfz85_1, hfz85_2⟩ := bc3f w83 BK134.out; obtain ⟨hcz86_0, hcz86_1, hcz86_2, hfz86_0, hfz86_1, hfz86_2⟩ := bc3f w83 BK133.out))
     refine bodyPost_ret (results_cell_row rfl _ _ gb133 30 #[.int .i64 a0_0, .int .i64 a0_1, .slice Ao84 y135.length co84] (0, 0) _ rfl (by (with_reducible repeat (first | refine blk_drewN ?_ _ | refine blk_drew ?_ | refine blk_alloc ?_ _)); refine blk_put (cs := #[.int .i64 a0_0, .int .i64 a0_1, .slice none 0 0]) ?_ 2 _ rfl; (with_reducible repeat (first | refine blk_drewN ?_ _ | refine blk_drew ?_ | refine blk_alloc ?_ _)); refine blk_put (cs := #[.int .i64 a0_0, .int .i64 0, .slice none 0 0]) ?_ 1 _ rfl; (with_reducible repeat (first | refine blk_drewN ?_ _ | refine blk_drew ?_ | refine blk_alloc ?_ _)); refine blk_put (cs := #[.int .i64 0, .int .i64 0, .slice none 0 0]) ?_ 0 _ rfl; (with_reducible repeat (first | refine blk_drewN ?_ _ | refine blk_drew ?_ | refine blk_alloc ?_ _)); refine blk_far ?_ NB133_134.out _; (with_reducible repeat (first | refine blk_drewN ?_ _ | refine blk_drew ?_ | refine blk_alloc ?_ _)); exact BK133.out) Tryd.underlying30 rfl kr) rfl ?_
     exact ⟨_, er, (by (with_reducible repeat (first | apply Kd.R_alloc | apply Kd.R_drewN | apply Kd.R_drew)); exact Kd.R_mono (Kd.R_far (p := ⟨gb133, 2, none⟩) (Kd.R_far (p := ⟨gb133, 1, none⟩) (Kd.R_far (p := ⟨gb133, 0, none⟩) (Kd.R_far (p := ⟨gb134, 2, none⟩) (Kd.R_types (Kd.R_types HO137.out BK134.out (by decide)) BK133.out (by decide)) (fun _ hk => hk.1.2) (.slice Ao84 y135.length co84)) (fun _ hk => hk.2) (.int .i64 a0_0)) (fun _ hk => hk.2) (.int .i64 a0_1)) (fun _ hk => hk.2) (.slice Ao84 y135.length co84)) (fun _ hk => trivial)), q0⟩
   rw [if_pos c17] at H
   have c17b0 : decide (x9_1 < (l0_2.length : Int)) = true := decide_eq_true c17
   clear c17
   have HC18 := am H
   clear H
   have hnb19 := NB131_132.out
   have hnc19 := NB132_131.out
   have hnb20 := NB131_133.out
   have hnc20 := NB133_131.out
   have hnb21 := NB131_134.out
   have hnc21 := NB134_131.out
   obtain ⟨hcz22_0, hcz22_1, hcz22_2, hfz22_0, hfz22_1, hfz22_2⟩ := bc3f wr BK131.out
   go_upto_region 6 with (fail)
   go_cut [37] (fun v37 wc => ∃ (kq : Nat) (x37_17 : Bool), v37 = .bool x37_17 ∧ Aside0 (spec_l09Put.j1 kq a1 x8_1 x9_1 x37_17 a0_0 a0_1 l0_2 a2_0 a2_1 a2_2 a2_3 a0_0 a0_1 x135002_1 = some (r1, r2, r3)) ∧ Aside0 (kq ≤ k1) ∧ Aside0 (Kd.R k54 54 wc w.heap.size (fun k_ => k_ ≠ gb132) u135002 x135002_1) ∧ Aside0 (wc.heap[gb131]? = some (.cells #[.int .i64 a0_0, .int .i64 a0_1, (.slice A0_2 l0_2.length c0_2)] 30 (0, 0))) ∧ Aside0 (wc.heap[gb132]? = some (.cells #[.int .i64 a2_0, .int .i64 a2_1, .int .i64 a2_2, .string a2_3] 54 (0, 0))) ∧ Aside0 (wc.heap[gb133]? = some (.cells #[.int .i64 0, .int .i64 0, (.slice none 0 0)] 30 (0, 0))) ∧ Aside0 (wc.heap[gb134]? = some (.cells #[.int .i64 a0_0, .int .i64 a0_1, u135002] 30 (0, 0))) ∧ Aside0 (Below w.heap.size w wc))
   case first =>
     have H := HC18.out
     clear HC18
     by_cases c23 : x8_1 = true
     · subst c23
       rw [if_pos rfl] at H
       have H' := am H
       clear H
       try go_wp2
       replace HO_135002 := am (Kd.R_drew HO_135002.out)
       replace BK131 := am (blk_drew BK131.out)
       replace BK132 := am (blk_drew BK132.out)
       replace BK133 := am (blk_drew BK133.out)
       replace BK134 := am (blk_drew BK134.out)
       replace HB := am (below_drew1 HB.out)
       refine start_ (n := 13) (S := fun w' => True) (ds := []) b0_13 kr rfl rfl trivial (fun hHeld => ?_); refine with_tabW spec_l09Put.tab6 spec_l09Put.bits6 (fun HT_ HW_ => ?_)
       generalize wr.drew = w24 at HO_135002 BK131 BK132 BK133 BK134 HB hHeld ⊢
       refine pV 0 25 (bt 1 13) ?_
       refine pV 1 26 (bt 2 13) ?_
       refine pV 2 27 (bt 3 13) ?_
       refine pU 3 28 (bt 4 13) ?_
       refine pU 4 29 (bt 5 13) ?_
       refine pU 5 30 (bt 6 13) ?_
       refine pU 6 31 (bt 7 13) ?_
       refine pU 7 32 (bt 8 13) ?_
       refine pU 8 33 (bt 9 13) ?_
       refine pU 9 34 (bt 10 13) ?_
       refine pU 10 35 (bt 11 13) ?_
       refine pU 11 36 (bt 12 13) ?_
       refine pV 12 37 (bt 13 13) ?_
       refine done_ (done_of HT_.out kr) ?_
       try go_wp2
       go_meet
       case rel => exact ⟨_, (false), q4, H', ⟨(by have := HK1.out; first | omega | exact Nat.le_refl _)⟩, ⟨u4_5⟩, ⟨u4_2⟩, ⟨u4_1⟩, ⟨u4_3⟩, ⟨u4_4⟩, ⟨q0⟩⟩
     replace c23 := Bool.eq_false_iff.mpr c23
     subst c23
     rw [nf] at H
     by_cases c25 : 0 ≤ x9_1
     rotate_left
     · rw [if_neg c25] at H
       exact absurd H (by simp)
     rw [if_pos c25] at H
     have c25b0 : decide (0 ≤ x9_1) = true := decide_eq_true c25
     clear c25
     (first | rw [c25b0] | (simp only [i64_w, i32_w]; rw [c25b0]) | skip)
     have H' := am H
     clear H
     try go_wp2
     replace HO_135002 := am (Kd.R_drew HO_135002.out)
     replace BK131 := am (blk_drew BK131.out)
     replace BK132 := am (blk_drew BK132.out)
     replace BK133 := am (blk_drew BK133.out)
     replace BK134 := am (blk_drew BK134.out)
     replace HB := am (below_drew1 HB.out)
     have p138 : 0 ≤ (x9_1 : Int) := of_decide_eq_true q3
     have q138 : x9_1 < (l0_2.length : Int) := of_decide_eq_true q3
     obtain ⟨ad138, e138, hx138_0, hx138_1, hx138_2, hx138_3⟩ := at_T54 HR0_2.out x9_1 p138 q138
     have hw138_3 := hx138_3
     have hw138_2 := hx138_2
     have hw138_1 := hx138_1
     have hw138_0 := hx138_0
     cases e138
     replace hx138_0 := cm HB.out hx138_0
     replace hx138_1 := cm HB.out hx138_1
     replace hx138_2 := cm HB.out hx138_2
     replace hx138_3 := cm HB.out hx138_3
     replace p138 := eq_true p138
     replace q138 := eq_true q138
     refine start_ (n := 13) (S := fun w' => w'.cell? ⟨gb131, 0, none⟩ = some (.int .i64 a0_0) ∧ w'.cell? ⟨gb131, 1, none⟩ = some (.int .i64 a0_1) ∧ w'.cell? ⟨gb131, 2, none⟩ = some (.slice (some ad138) l0_2.length c0_2) ∧ w'.cell? ⟨gb132, 0, none⟩ = some (.int .i64 a2_0) ∧ w'.cell? ⟨gb132, 1, none⟩ = some (.int .i64 a2_1) ∧ w'.cell? ⟨gb132, 2, none⟩ = some (.int .i64 a2_2) ∧ w'.cell? ⟨gb132, 3, none⟩ = some (.string a2_3) ∧ w'.cell? (ad138.add ((x9_1).toNat * 4)) = some (.int .i64 ((rd_T54 l0_2 x9_1).f0)) ∧ w'.cell? ⟨(ad138.add ((x9_1).toNat * 4)).block, (ad138.add ((x9_1).toNat * 4)).off + 1, none⟩ = some (.int .i64 ((rd_T54 l0_2 x9_1).f1)) ∧ w'.cell? ⟨(ad138.add ((x9_1).toNat * 4)).block, (ad138.add ((x9_1).toNat * 4)).off + 2, none⟩ = some (.int .i64 ((rd_T54 l0_2 x9_1).f2)) ∧ w'.cell? ⟨(ad138.add ((x9_1).toNat * 4)).block, (ad138.add ((x9_1).toNat * 4)).off + 3, none⟩ = some (.string ((rd_T54 l0_2 x9_1).f3))) (ds := []) b0_13 kr rfl rfl ⟨(blk_cell BK131.out 0).trans rfl, (blk_cell BK131.out 1).trans rfl, (blk_cell BK131.out 2).trans rfl, (blk_cell BK132.out 0).trans rfl, (blk_cell BK132.out 1).trans rfl, (blk_cell BK132.out 2).trans rfl, (blk_cell BK132.out 3).trans rfl, (cm HB.out hw138_0), (cm HB.out hw138_1), (cm HB.out hw138_2), (cm HB.out hw138_3)⟩ (fun hHeld => ?_); refine with_tabW spec_l09Put.tab6 spec_l09Put.bits6 (fun HT_ HW_ => ?_)
     generalize wr.drew = w26 at HO_135002 BK131 BK132 BK133 BK134 HB hx138_0 hx138_1 hx138_2 hx138_3 hHeld ⊢
     refine pV 0 25 (bt 1 13) ?_
     refine pV 1 26 (bt 2 13) ?_
     refine pV 2 27 (bt 3 13) ?_
     refine pV 3 28 (bt 4 13) ?_
     refine pV 5 30 #[true, true, true, true, false, true, false, false, false, false, false, false, false] ?_
     refine pV 9 34 #[true, true, true, true, false, true, false, false, false, true, false, false, false] ?_
     refine tV 4 29 #[true, true, true, true, true, true, false, false, false, true, false, false, false] ?_
     refine pV 6 31 #[true, true, true, true, true, true, true, false, false, true, false, false, false] ?_
     refine pV 7 32 #[true, true, true, true, true, true, true, true, false, true, false, false, false] ?_
     refine tV 8 33 (bt 10 13) ?_
     refine tV 10 35 (bt 11 13) ?_
     refine pV 11 36 (bt 12 13) ?_
     refine pV 12 37 (bt 13 13) ?_
     refine done_ (done_of HT_.out kr) ?_
     try go_wp2
     go_meet
     case rel => exact ⟨_, (decide (((rd_T54 l0_2 x9_1).f0) > a2_0)), q4, H', ⟨(by have := HK1.out; first | omega | exact Nat.le_refl _)⟩, ⟨u4_5⟩, ⟨u4_2⟩, ⟨u4_1⟩, ⟨u4_3⟩, ⟨u4_4⟩, ⟨q0⟩⟩
   clear HC18
   try clear c17
   try clear c17b0
   try clear hcz14_0
   try clear hcz14_1
   try clear hcz14_2
   try clear hcz16_0
   try clear hcz16_1
   try clear hcz16_2
   try clear hcz16_3
   try clear hcz22_0
   try clear hcz22_1
   try clear hcz22_2
   try clear hcz9_0
   try clear hcz9_1
   try clear hcz9_2
   try clear hfz14_0
   try clear hfz14_1
   try clear hfz14_2
   try clear hfz16_0
   try clear hfz16_1
   try clear hfz16_2
   try clear hfz16_3
   try clear hfz22_0
   try clear hfz22_1
   try clear hfz22_2
   try clear hfz9_0
   try clear hfz9_1
   try clear hfz9_2
   obtain ⟨kq, x37_17, rfl, HA, HJ17, HO_135002, BK131, BK132, BK133, BK134, HB⟩ := hcut
   cases kq with
   | zero => exact absurd HA.out (by simp [spec_l09Put.j1])
   | succ kj17 =>
     have H := HA.out
     clear HA
     simp only [spec_l09Put.j1] at H
     by_cases c27 : x37_17 = true
     rotate_left
     · replace c27 := Bool.eq_false_iff.mpr c27
       subst c27
       rw [nf] at H
       by_cases c50 : 0 ≤ x9_1
       rotate_left
       · rw [if_neg c50] at H
         exact absurd H (by simp)
       rw [if_pos c50] at H
       have c50b0 : decide (0 ≤ x9_1) = true := decide_eq_true c50
       clear c50
       by_cases c51 : x9_1 < (l0_2.length : Int)
       rotate_left
       · rw [if_neg c51] at H
         exact absurd H (by simp)
       rw [if_pos c51] at H
       have c51b0 : decide (x9_1 < (l0_2.length : Int)) = true := decide_eq_true c51
       clear c51
       have H9 := am H
       clear H
       have hnb52 := NB131_132.out
       have hnc52 := NB132_131.out
       have hnb53 := NB131_133.out
       have hnc53 := NB133_131.out
       have hnb54 := NB131_134.out
       have hnc54 := NB134_131.out
       obtain ⟨hcz55_0, hcz55_1, hcz55_2, hfz55_0, hfz55_1, hfz55_2⟩ := bc3f wc BK131.out
       have p147 : 0 ≤ (x9_1 : Int) := of_decide_eq_true q3
       have q147 : x9_1 < (l0_2.length : Int) := of_decide_eq_true q3
       obtain ⟨ad147, e147, hx147_0, hx147_1, hx147_2, hx147_3⟩ := at_T54 HR0_2.out x9_1 p147 q147
       cases e147
       replace hx147_0 := cm HB.out hx147_0
       replace hx147_1 := cm HB.out hx147_1
       replace hx147_2 := cm HB.out hx147_2
       replace hx147_3 := cm HB.out hx147_3
       replace p147 := eq_true p147
       replace q147 := eq_true q147
       go_upto_if 51 with (fail)
       have H := H9.out
       clear H9
       by_cases c56 : ((rd_T54 l0_2 x9_1).f0) = a1
       · rw [if_pos c56] at H
         have c56b0 : (((rd_T54 l0_2 x9_1).f0) == a1) = true := beq_iff_eq.mpr c56
         have c56b1 : (((rd_T54 l0_2 x9_1).f0) != a1) = false := bne_eq_false_iff_eq.mpr c56
         clear c56
         (first | rw [c56b0] | (simp only [i64_w, i32_w]; rw [c56b0]) | skip)
         have H' := am H
         clear H
         go_wp2
         go_roundg kj17
         case measure => have := HK1.out; have := HJ17.out; omega
         case rel => exact ⟨(x8_1), (wrap64 (x9_1 + 1)), (x135002_1), (u135002), q4, q4, H', ⟨u4_17⟩, ⟨u4_5⟩, ⟨u4_2⟩, ⟨u4_1⟩, ⟨u4_3⟩, ⟨u4_4⟩, ⟨q0⟩⟩
       rw [if_neg c56] at H
       have c56b0 : (((rd_T54 l0_2 x9_1).f0) == a1) = false := beq_eq_false_iff_ne.mpr c56
       have c56b1 : (((rd_T54 l0_2 x9_1).f0) != a1) = true := bne_iff_ne.mpr c56
       (first | rw [c56b0] | (simp only [i64_w, i32_w]; rw [c56b0]) | skip)
       by_cases c57 : x135002_1.length < 3518437208883
       rotate_left
       · rw [if_neg c57] at H
         exact absurd H (by simp)
       rw [if_pos c57] at H
       have LMc57 := am c57
       clear c57
       obtain ⟨y149, hy149⟩ : ∃ y_ : List (S54), y_ = (x135002_1 ++ [(⟨(rd_T54 l0_2 x9_1).f0, (rd_T54 l0_2 x9_1).f1, (rd_T54 l0_2 x9_1).f2, (rd_T54 l0_2 x9_1).f3⟩ : S54)]) := ⟨_, rfl⟩
       replace H : (spec_l09Put.l0 kj17 a1 x8_1 (wrap64 (x9_1 + 1)) a0_0 a0_1 l0_2 a2_0 a2_1 a2_2 a2_3 a0_0 a0_1 y149) = some (r1, r2, r3) := by first | (rw [hy149]; with_reducible exact H) | (have H2_ := (Option.bind_some _ _).symm.trans H; rw [hy149]; with_reducible exact H2_) | (have H2_ := (Option.bind_some _ _).symm.trans H; with_reducible exact H2_) | with_reducible exact H | (rw [hy149]; exact H) | exact H
       have Ny149 := am hy149
       clear hy149
       have H' := am H
       clear H
       try go_wp2
       replace HO_135002 := am (Kd.R_drew HO_135002.out)
       replace BK131 := am (blk_drew BK131.out)
       replace BK132 := am (blk_drew BK132.out)
       replace BK133 := am (blk_drew BK133.out)
       replace BK134 := am (blk_drew BK134.out)
       replace HB := am (below_drew1 HB.out)
       have p148 : 0 ≤ (x9_1 : Int) := of_decide_eq_true q3
       have q148 : x9_1 < (l0_2.length : Int) := of_decide_eq_true q3
       obtain ⟨ad148, e148, hx148_0, hx148_1, hx148_2, hx148_3⟩ := at_T54 HR0_2.out x9_1 p148 q148
       have hw148_3 := hx148_3
       have hw148_2 := hx148_2
       have hw148_1 := hx148_1
       have hw148_0 := hx148_0
       obtain rfl : ad147 = ad148 := (by injection e148)
       replace hx148_0 := cm HB.out hx148_0
       replace hx148_1 := cm HB.out hx148_1
       replace hx148_2 := cm HB.out hx148_2
       replace hx148_3 := cm HB.out hx148_3
       replace p148 := eq_true p148
       replace q148 := eq_true q148
       refine start_ (n := 11) (S := fun w' => w'.cell? ⟨gb134, 0, none⟩ = some (.int .i64 a0_0) ∧ w'.cell? ⟨gb134, 1, none⟩ = some (.int .i64 a0_1) ∧ w'.cell? ⟨gb134, 2, none⟩ = some (u135002) ∧ w'.cell? ⟨gb131, 0, none⟩ = some (.int .i64 a0_0) ∧ w'.cell? ⟨gb131, 1, none⟩ = some (.int .i64 a0_1) ∧ w'.cell? ⟨gb131, 2, none⟩ = some (.slice (some ad147) l0_2.length c0_2) ∧ w'.cell? (ad147.add ((x9_1).toNat * 4)) = some (.int .i64 ((rd_T54 l0_2 x9_1).f0)) ∧ w'.cell? ⟨(ad147.add ((x9_1).toNat * 4)).block, (ad147.add ((x9_1).toNat * 4)).off + 1, none⟩ = some (.int .i64 ((rd_T54 l0_2 x9_1).f1)) ∧ w'.cell? ⟨(ad147.add ((x9_1).toNat * 4)).block, (ad147.add ((x9_1).toNat * 4)).off + 2, none⟩ = some (.int .i64 ((rd_T54 l0_2 x9_1).f2)) ∧ w'.cell? ⟨(ad147.add ((x9_1).toNat * 4)).block, (ad147.add ((x9_1).toNat * 4)).off + 3, none⟩ = some (.string ((rd_T54 l0_2 x9_1).f3))) (ds := [10]) b0_11 kr rfl rfl ⟨(blk_cell BK134.out 0).trans rfl, (blk_cell BK134.out 1).trans rfl, (blk_cell BK134.out 2).trans rfl, (blk_cell BK131.out 0).trans rfl, (blk_cell BK131.out 1).trans rfl, (blk_cell BK131.out 2).trans rfl, (cm HB.out hw148_0), (cm HB.out hw148_1), (cm HB.out hw148_2), (cm HB.out hw148_3)⟩ (fun hHeld => ?_); refine with_tabW spec_l09Put.tab10 spec_l09Put.bits10 (fun HT_ HW_ => ?_)
       generalize wc.drew = w58 at HO_135002 BK131 BK132 BK133 BK134 HB hx148_0 hx148_1 hx148_2 hx148_3 hHeld ⊢
       refine pV 0 52 (bt 1 11) ?_
       refine pV 2 54 bx124 ?_
       refine pV 4 56 bx125 ?_
       refine tV 1 53 bx126 ?_
       refine tV 3 55 (bt 5 11) ?_
       refine pV 5 57 (bt 6 11) ?_
       refine tV 6 58 (bt 7 11) ?_
       refine one_ (i := 7) (N := some 59) b8_11 rfl rfl (one_of HT_.out kr) (by decide) (fun K hK => ?_)
       refine value_ (w1 := ?_) (v := ?_) (by rfl) rfl ?_ ?_
       rotate_left 2
       · go_simp
         constructor
         · rfl
         rfl
       refine hK.out _ _ ⟨(blk_cell (blk_alloc BK134.out _) 0).trans rfl, (blk_cell (blk_alloc BK134.out _) 1).trans rfl, (blk_cell (blk_alloc BK134.out _) 2).trans rfl, (blk_cell (blk_alloc BK131.out _) 0).trans rfl, (blk_cell (blk_alloc BK131.out _) 1).trans rfl, (blk_cell (blk_alloc BK131.out _) 2).trans rfl, (World.cell?_alloc_lt _ _ _ (World.block_lt_of_cell? _ _ ((cm HB.out hw148_0)))).trans ((cm HB.out hw148_0)), (World.cell?_alloc_lt _ _ _ (World.block_lt_of_cell? _ _ ((cm HB.out hw148_1)))).trans ((cm HB.out hw148_1)), (World.cell?_alloc_lt _ _ _ (World.block_lt_of_cell? _ _ ((cm HB.out hw148_2)))).trans ((cm HB.out hw148_2)), (World.cell?_alloc_lt _ _ _ (World.block_lt_of_cell? _ _ ((cm HB.out hw148_3)))).trans ((cm HB.out hw148_3))⟩ (fun hHeld => ?_)
       clear hK K
       refine norm_ (a' := ?_) ?_ ?_
       rotate_left
       · show Act.put _ (some 59) _ = _
         simp only [Act.put, la, lb, lc, i64_w, i32_w]
         rfl
       refine one_ (i := 8) (N := some 60) b9_11 rfl rfl (one_of HT_.out kr) (by decide) (fun K hK => ?_)
       refine Kd.R_append_step k54 (w0 := w) w.heap.size (by rfl) (.tmp 53) (.tmp 59) 28 54 (.agg #[(.int .i64 0), (.int .i64 0), (.int .i64 0), (.string ⟨#[]⟩)]) 40 rfl Tryd.underlying28 info54 rfl (by decide) (by omega) u135002 x135002_1 (⟨(rd_T54 l0_2 x9_1).f0, (rd_T54 l0_2 x9_1).f1, (rd_T54 l0_2 x9_1).f2, (rd_T54 l0_2 x9_1).f3⟩ : S54) [.int .i64 ((rd_T54 l0_2 x9_1).f0), .int .i64 ((rd_T54 l0_2 x9_1).f1), .int .i64 ((rd_T54 l0_2 x9_1).f2), .string ((rd_T54 l0_2 x9_1).f3)] (fun k_ => k_ ≠ gb132) (fun _ => False) rfl rfl ?aP (fun _ hk => hk.elim) ?aF ?aO ?aB ?aS ?aL ?_
       (case aP => exact k54_mkM _ _ _ (⟨(rd_T54 l0_2 x9_1).f0, (rd_T54 l0_2 x9_1).f1, (rd_T54 l0_2 x9_1).f2, (rd_T54 l0_2 x9_1).f3⟩ : S54))
       (case aB => exact q0)
       (case aF => exact (fun k_ hk => Kd.freshB (g := gb132) (o := .cells #[.int .i64 a2_0, .int .i64 a2_1, .int .i64 a2_2, .string a2_3] 54 (0, 0)) u4_1 k_ hk))
       (case aO => exact u4_5)
       (case aS => exact (below_size q0))
       (case aL => have := LMc57.out; omega)
       intro v150 w59 ho hb hg hat
       rw [← Ny149.out] at ho
       replace BK131 := am (blk_grown (g := gb131) (o := .cells #[.int .i64 a0_0, .int .i64 a0_1, .slice (some ad147) l0_2.length c0_2] 30 (0, 0)) u4_2 hg (Kd.R_ne HO_135002.out BK131.out (by decide)))
       replace BK132 := am (blk_grown (g := gb132) (o := .cells #[.int .i64 a2_0, .int .i64 a2_1, .int .i64 a2_2, .string a2_3] 54 (0, 0)) u4_1 hg (Kd.R_away HO_135002.out (fun _ hk => hk)))
       replace BK133 := am (blk_grown (g := gb133) (o := .cells #[.int .i64 0, .int .i64 0, .slice none 0 0] 30 (0, 0)) u4_3 hg (Kd.R_ne HO_135002.out BK133.out (by decide)))
       replace BK134 := am (blk_grown (g := gb134) (o := .cells #[.int .i64 a0_0, .int .i64 a0_1, u135002] 30 (0, 0)) u4_4 hg (Kd.R_ne HO_135002.out BK134.out (by decide)))
       replace HB := am (hb)
       have HO151 := am (ho)
       clear HO_135002
       clear ho hb hg hat
       obtain ⟨Ao60, co60, eo60⟩ := Kd.R_slice HO151.out
       (first | subst eo60 | (injection eo60 with f1_ f2_ f3_; have f4_ := f1_.symm; have f5_ := f3_.symm; clear f1_ f2_ f3_; subst f4_; subst f5_))
       refine hK.out _ _ ⟨(blk_cell BK134.out 0).trans rfl, (blk_cell BK134.out 1).trans rfl, (blk_cell BK134.out 2).trans rfl, (blk_cell BK131.out 0).trans rfl, (blk_cell BK131.out 1).trans rfl, (blk_cell BK131.out 2).trans rfl, (cm HB.out hw148_0), (cm HB.out hw148_1), (cm HB.out hw148_2), (cm HB.out hw148_3)⟩ (fun hHeld => ?_)
       clear hK K
       refine norm_ (a' := ?_) ?_ ?_
       rotate_left
       · show Act.put _ (some 60) _ = _
         simp only [Act.put, la, lb, lc, i64_w, i32_w]
         rfl
       refine pV 9 61 (bt 10 11) ?_
       refine last_ (i := 10) (N := none) b11_11 rfl rfl (one_of HT_.out kr) (by decide) (fun K hK => ?_)
       have hs61 : w59.cell? ⟨gb134, 2, none⟩ = some (u135002) := (blk_cell BK134.out 2).trans rfl
       have hfs61 := blk_frozen BK134.out 2
       have hns61_0 := NB131_134.out
       have hns61_1 := NB132_134.out
       have hns61_2 := NB133_134.out
       have hms61_0 := NB134_131.out
       have hms61_1 := NB134_132.out
       have hms61_2 := NB134_133.out
       refine skip_ (w1 := ?_) (by rfl) rfl ?_ ?_
       rotate_left
       · go_simp
         rfl
       refine hK.out _ _ ?_
       clear hK K
       refine done_ (done_of HT_.out kr) ?_
       try go_wp2
       go_roundg kj17
       case measure => have := HK1.out; have := HJ17.out; omega
       case rel => exact ⟨(x8_1), (wrap64 (x9_1 + 1)), (y149), (.slice Ao60 y149.length co60), q4, q4, H', ⟨u4_17⟩, ⟨(by (with_reducible repeat (first | apply Kd.R_alloc | apply Kd.R_drewN | apply Kd.R_drew)); exact Kd.R_mono (Kd.R_far (p := ⟨gb134, 2, none⟩) (Kd.R_types HO151.out BK134.out (by decide)) (fun _ hk => hk.2) (.slice Ao60 y149.length co60)) (fun _ hk => hk.1))⟩, ⟨u4_6⟩, ⟨u4_7⟩, ⟨u4_8⟩, ⟨u4_15⟩, ⟨q0⟩⟩
     subst c27
     rw [if_pos rfl] at H
     by_cases c28 : x135002_1.length < 3518437208883
     rotate_left
     · rw [if_neg c28] at H
       exact absurd H (by simp)
     rw [if_pos c28] at H
     have LMc28 := am c28
     clear c28
     obtain ⟨y139, hy139⟩ : ∃ y_ : List (S54), y_ = (x135002_1 ++ [(⟨a2_0, a2_1, a2_2, a2_3⟩ : S54)]) := ⟨_, rfl⟩
     replace H : (if 0 ≤ x9_1 then (if x9_1 < (l0_2.length : Int) then (if ((rd_T54 l0_2 x9_1).f0) = a1 then (spec_l09Put.l0 kj17 a1 true (wrap64 (x9_1 + 1)) a0_0 a0_1 l0_2 a2_0 a2_1 a2_2 a2_3 a0_0 a0_1 y139) else (if y139.length < 3518437208883 then (spec_l09Put.l0 kj17 a1 true (wrap64 (x9_1 + 1)) a0_0 a0_1 l0_2 a2_0 a2_1 a2_2 a2_3 a0_0 a0_1 (y139 ++ [(⟨(rd_T54 l0_2 x9_1).f0, (rd_T54 l0_2 x9_1).f1, (rd_T54 l0_2 x9_1).f2, (rd_T54 l0_2 x9_1).f3⟩ : S54)])) else (none))) else (none)) else (none)) = some (r1, r2, r3) := by first | (rw [hy139]; with_reducible exact H) | (have H2_ := (Option.bind_some _ _).symm.trans H; rw [hy139]; with_reducible exact H2_) | (have H2_ := (Option.bind_some _ _).symm.trans H; with_reducible exact H2_) | with_reducible exact H | (rw [hy139]; exact H) | exact H
     have Ny139 := am hy139
     clear hy139
     by_cases c29 : 0 ≤ x9_1
     rotate_left
     · rw [if_neg c29] at H
       exact absurd H (by simp)
     rw [if_pos c29] at H
     have c29b0 : decide (0 ≤ x9_1) = true := decide_eq_true c29
     clear c29
     by_cases c30 : x9_1 < (l0_2.length : Int)
     rotate_left
     · rw [if_neg c30] at H
       exact absurd H (by simp)
     rw [if_pos c30] at H
     have c30b0 : decide (x9_1 < (l0_2.length : Int)) = true := decide_eq_true c30
     clear c30
     have H9 := am H
     clear H
     have hnb31 := NB134_131.out
     have hnc31 := NB131_134.out
     have hnb32 := NB134_132.out
     have hnc32 := NB132_134.out
     have hnb33 := NB134_133.out
     have hnc33 := NB133_134.out
     obtain ⟨hcz34_0, hcz34_1, hcz34_2, hfz34_0, hfz34_1, hfz34_2⟩ := bc3f wc BK134.out
     have hnb35 := NB132_131.out
     have hnc35 := NB131_132.out
     have hnb36 := NB132_133.out
     have hnc36 := NB133_132.out
     obtain ⟨hcz37_0, hcz37_1, hcz37_2, hcz37_3, hfz37_0, hfz37_1, hfz37_2, hfz37_3⟩ := bc4f wc BK132.out
     go_upto_if 51 with (first | ((with_reducible refine gate_builtin (b := .append) (xs := #[.tmp 39, .tmp 41]) rfl ?_); at_builtin; refine Kd.R_append k54 (w0 := w) w.heap.size rfl (.tmp 39) (.tmp 41) 28 54 (.agg #[(.int .i64 0), (.int .i64 0), (.int .i64 0), (.string ⟨#[]⟩)]) 40 rfl Tryd.underlying28 info54 rfl (by decide) (by omega) u135002 x135002_1 (⟨a2_0, a2_1, a2_2, a2_3⟩ : S54) [.int .i64 a2_0, .int .i64 a2_1, .int .i64 a2_2, .string a2_3] (fun k_ => k_ ≠ gb132) (fun _ => False) rfl rfl ?aP (fun _ hk => hk.elim) ?aF ?aO ?aB ?aS ?aL ?_; (case aP => exact k54_mkM _ _ _ (⟨a2_0, a2_1, a2_2, a2_3⟩ : S54)); (case aB => exact q0); (case aF => exact (fun k_ hk => Kd.freshB (g := gb132) (o := .cells #[.int .i64 a2_0, .int .i64 a2_1, .int .i64 a2_2, .string a2_3] 54 (0, 0)) u4_1 k_ hk)); (case aO => exact u4_5); (case aS => exact (below_size q0)); (case aL => have := LMc28.out; omega); intro v140 w38 ho hb hg hat; rw [← Ny139.out] at ho; replace BK131 := am (blk_grown (g := gb131) (o := .cells #[.int .i64 a0_0, .int .i64 a0_1, .slice A0_2 l0_2.length c0_2] 30 (0, 0)) u4_2 hg (Kd.R_ne HO_135002.out BK131.out (by decide))); replace BK132 := am (blk_grown (g := gb132) (o := .cells #[.int .i64 a2_0, .int .i64 a2_1, .int .i64 a2_2, .string a2_3] 54 (0, 0)) u4_1 hg (Kd.R_away HO_135002.out (fun _ hk => hk))); replace BK133 := am (blk_grown (g := gb133) (o := .cells #[.int .i64 0, .int .i64 0, .slice none 0 0] 30 (0, 0)) u4_3 hg (Kd.R_ne HO_135002.out BK133.out (by decide))); replace BK134 := am (blk_grown (g := gb134) (o := .cells #[.int .i64 a0_0, .int .i64 a0_1, u135002] 30 (0, 0)) u4_4 hg (Kd.R_ne HO_135002.out BK134.out (by decide))); replace HB := am (hb); have HO141 := am (ho); clear HO_135002; clear ho hb hg hat; obtain ⟨Ao39, co39, eo39⟩ := Kd.R_slice HO141.out; subst eo39; obtain ⟨hcz40_0, hcz40_1, hcz40_2, hfz40_0, hfz40_1, hfz40_2⟩ := bc3f w38 BK134.out; have hnb41 := NB131_133.out; have hnc41 := NB133_131.out; obtain ⟨hcz42_0, hcz42_1, hcz42_2, hfz42_0, hfz42_1, hfz42_2⟩ := bc3f w38 BK131.out; have p142 : 0 ≤ (x9_1 : Int) := of_decide_eq_true q3; have q142 : x9_1 < (l0_2.length : Int) := of_decide_eq_true q3; obtain ⟨ad142, e142, hx142_0, hx142_1, hx142_2, hx142_3⟩ := at_T54 HR0_2.out x9_1 p142 q142; cases e142; have hn142_0 : ad142.block ≠ gb134 := Nat.ne_of_lt (Nat.lt_of_lt_of_le (by have := World.block_lt_of_cell? _ _ hx142_0; first | rwa [add_block] at this | exact this) GW134.out); replace hx142_0 := cm HB.out hx142_0; replace hx142_1 := cm HB.out hx142_1; replace hx142_2 := cm HB.out hx142_2; replace hx142_3 := cm HB.out hx142_3; replace hx142_0 := (cell_far (p := ⟨gb134, 2, none⟩) u4_13 (.slice Ao39 y139.length co39)).trans hx142_0; replace hx142_1 := (cell_far (p := ⟨gb134, 2, none⟩) u4_13 (.slice Ao39 y139.length co39)).trans hx142_1; replace hx142_2 := (cell_far (p := ⟨gb134, 2, none⟩) u4_13 (.slice Ao39 y139.length co39)).trans hx142_2; replace hx142_3 := (cell_far (p := ⟨gb134, 2, none⟩) u4_13 (.slice Ao39 y139.length co39)).trans hx142_3; clear hn142_0; replace p142 := eq_true p142; replace q142 := eq_true q142))
     have H := H9.out
     clear H9
     by_cases c43 : ((rd_T54 l0_2 x9_1).f0) = a1
     · rw [if_pos c43] at H
       have c43b0 : (((rd_T54 l0_2 x9_1).f0) == a1) = true := beq_iff_eq.mpr c43
       have c43b1 : (((rd_T54 l0_2 x9_1).f0) != a1) = false := bne_eq_false_iff_eq.mpr c43
       clear c43
       (first | rw [c43b0] | (simp only [i64_w, i32_w]; rw [c43b0]) | skip)
       have H' := am H
       clear H
       go_wp2
       go_roundg kj17
       case measure => have := HK1.out; have := HJ17.out; omega
       case rel => exact ⟨(true), (wrap64 (x9_1 + 1)), (y139), (.slice Ao39 y139.length co39), q4, q4, H', ⟨u4_17⟩, ⟨(by (with_reducible repeat (first | apply Kd.R_alloc | apply Kd.R_drewN | apply Kd.R_drew)); exact Kd.R_mono (Kd.R_far (p := ⟨gb134, 2, none⟩) (Kd.R_types HO141.out BK134.out (by decide)) (fun _ hk => hk.2) (.slice Ao39 y139.length co39)) (fun _ hk => hk.1))⟩, ⟨u4_6⟩, ⟨u4_7⟩, ⟨u4_8⟩, ⟨u4_15⟩, ⟨q0⟩⟩
     rw [if_neg c43] at H
     have c43b0 : (((rd_T54 l0_2 x9_1).f0) == a1) = false := beq_eq_false_iff_ne.mpr c43
     have c43b1 : (((rd_T54 l0_2 x9_1).f0) != a1) = true := bne_iff_ne.mpr c43
     (first | rw [c43b0] | (simp only [i64_w, i32_w]; rw [c43b0]) | skip)
     by_cases c44 : y139.length < 3518437208883
     rotate_left
     · rw [if_neg c44] at H
       exact absurd H (by simp)
     rw [if_pos c44] at H
     have LMc44 := am c44
     clear c44
     obtain ⟨y144, hy144⟩ : ∃ y_ : List (S54), y_ = (y139 ++ [(⟨(rd_T54 l0_2 x9_1).f0, (rd_T54 l0_2 x9_1).f1, (rd_T54 l0_2 x9_1).f2, (rd_T54 l0_2 x9_1).f3⟩ : S54)]) := ⟨_, rfl⟩
     replace H : (spec_l09Put.l0 kj17 a1 true (wrap64 (x9_1 + 1)) a0_0 a0_1 l0_2 a2_0 a2_1 a2_2 a2_3 a0_0 a0_1 y144) = some (r1, r2, r3) := by first | (rw [hy144]; with_reducible exact H) | (have H2_ := (Option.bind_some _ _).symm.trans H; rw [hy144]; with_reducible exact H2_) | (have H2_ := (Option.bind_some _ _).symm.trans H; with_reducible exact H2_) | with_reducible exact H | (rw [hy144]; exact H) | exact H
     have Ny144 := am hy144
     clear hy144
     have H' := am H
     clear H
     try go_wp2
     have n0_ : Aside0 (Kd.R k54 54 (w38.setCell ⟨gb134, 2, none⟩ (.slice Ao39 y139.length co39)) w.heap.size (fun k_ => k_ ≠ gb132) (.slice Ao39 y139.length co39) y139) := ⟨by (with_reducible repeat (first | apply Kd.R_alloc | apply Kd.R_drewN | apply Kd.R_drew)); exact Kd.R_mono (Kd.R_far (p := ⟨gb134, 2, none⟩) (Kd.R_types HO141.out BK134.out (by decide)) (fun _ hk => hk.2) (.slice Ao39 y139.length co39)) (fun _ hk => hk.1)⟩
     have n1_ : Aside0 ((w38.setCell ⟨gb134, 2, none⟩ (.slice Ao39 y139.length co39)).heap[gb131]? = some (.cells #[.int .i64 a0_0, .int .i64 a0_1, .slice (some ad142) l0_2.length c0_2] 30 (0, 0))) := ⟨by (with_reducible repeat (first | refine blk_drewN ?_ _ | refine blk_drew ?_ | refine blk_alloc ?_ _)); refine blk_far ?_ NB131_134.out _; (with_reducible repeat (first | refine blk_drewN ?_ _ | refine blk_drew ?_ | refine blk_alloc ?_ _)); exact BK131.out⟩
     have n2_ : Aside0 ((w38.setCell ⟨gb134, 2, none⟩ (.slice Ao39 y139.length co39)).heap[gb132]? = some (.cells #[.int .i64 a2_0, .int .i64 a2_1, .int .i64 a2_2, .string a2_3] 54 (0, 0))) := ⟨by (with_reducible repeat (first | refine blk_drewN ?_ _ | refine blk_drew ?_ | refine blk_alloc ?_ _)); refine blk_far ?_ NB132_134.out _; (with_reducible repeat (first | refine blk_drewN ?_ _ | refine blk_drew ?_ | refine blk_alloc ?_ _)); exact BK132.out⟩
     have n3_ : Aside0 ((w38.setCell ⟨gb134, 2, none⟩ (.slice Ao39 y139.length co39)).heap[gb133]? = some (.cells #[.int .i64 0, .int .i64 0, .slice none 0 0] 30 (0, 0))) := ⟨by (with_reducible repeat (first | refine blk_drewN ?_ _ | refine blk_drew ?_ | refine blk_alloc ?_ _)); refine blk_far ?_ NB133_134.out _; (with_reducible repeat (first | refine blk_drewN ?_ _ | refine blk_drew ?_ | refine blk_alloc ?_ _)); exact BK133.out⟩
     have n4_ : Aside0 ((w38.setCell ⟨gb134, 2, none⟩ (.slice Ao39 y139.length co39)).heap[gb134]? = some (.cells #[.int .i64 a0_0, .int .i64 a0_1, .slice Ao39 y139.length co39] 30 (0, 0))) := ⟨by (with_reducible repeat (first | refine blk_drewN ?_ _ | refine blk_drew ?_ | refine blk_alloc ?_ _)); refine blk_put (cs := #[.int .i64 a0_0, .int .i64 a0_1, u135002]) ?_ 2 _ rfl; (with_reducible repeat (first | refine blk_drewN ?_ _ | refine blk_drew ?_ | refine blk_alloc ?_ _)); exact BK134.out⟩
     have n5_ : Aside0 (Below w.heap.size w (w38.setCell ⟨gb134, 2, none⟩ (.slice Ao39 y139.length co39))) := ⟨by repeat (first | (with_reducible first | exact HB.out | apply below_alloc | apply pw_below_drewN | apply below_drew1 | refine below_set ?_ GE131.out | refine below_set ?_ GE132.out | refine below_set ?_ GE133.out | refine below_set ?_ GE134.out) | exact HB.out)⟩
     (try clear HO141)
     (try clear BK131)
     (try clear BK132)
     (try clear BK133)
     (try clear BK134)
     (try clear HB)
     generalize (w38.setCell ⟨gb134, 2, none⟩ (.slice Ao39 y139.length co39)) = w45 at n0_ n1_ n2_ n3_ n4_ n5_ ⊢
     have HO141 := n0_
     have BK131 := n1_
     have BK132 := n2_
     have BK133 := n3_
     have BK134 := n4_
     have HB := n5_
     clear n0_ n1_ n2_ n3_ n4_ n5_
     replace HO141 := am (Kd.R_drew HO141.out)
     replace BK131 := am (blk_drew BK131.out)
     replace BK132 := am (blk_drew BK132.out)
     replace BK133 := am (blk_drew BK133.out)
     replace BK134 := am (blk_drew BK134.out)
     replace HB := am (below_drew1 HB.out)
     have p143 : 0 ≤ (x9_1 : Int) := of_decide_eq_true q3
     have q143 : x9_1 < (l0_2.length : Int) := of_decide_eq_true q3
     obtain ⟨ad143, e143, hx143_0, hx143_1, hx143_2, hx143_3⟩ := at_T54 HR0_2.out x9_1 p143 q143
     have hw143_3 := hx143_3
     have hw143_2 := hx143_2
     have hw143_1 := hx143_1
     have hw143_0 := hx143_0
     obtain rfl : ad142 = ad143 := (by injection e143)
     replace hx143_0 := cm HB.out hx143_0
     replace hx143_1 := cm HB.out hx143_1
     replace hx143_2 := cm HB.out hx143_2
     replace hx143_3 := cm HB.out hx143_3
     replace p143 := eq_true p143
     replace q143 := eq_true q143
     refine start_ (n := 11) (S := fun w' => w'.cell? ⟨gb134, 0, none⟩ = some (.int .i64 a0_0) ∧ w'.cell? ⟨gb134, 1, none⟩ = some (.int .i64 a0_1) ∧ w'.cell? ⟨gb134, 2, none⟩ = some (.slice Ao39 y139.length co39) ∧ w'.cell? ⟨gb131, 0, none⟩ = some (.int .i64 a0_0) ∧ w'.cell? ⟨gb131, 1, none⟩ = some (.int .i64 a0_1) ∧ w'.cell? ⟨gb131, 2, none⟩ = some (.slice (some ad142) l0_2.length c0_2) ∧ w'.cell? (ad142.add ((x9_1).toNat * 4)) = some (.int .i64 ((rd_T54 l0_2 x9_1).f0)) ∧ w'.cell? ⟨(ad142.add ((x9_1).toNat * 4)).block, (ad142.add ((x9_1).toNat * 4)).off + 1, none⟩ = some (.int .i64 ((rd_T54 l0_2 x9_1).f1)) ∧ w'.cell? ⟨(ad142.add ((x9_1).toNat * 4)).block, (ad142.add ((x9_1).toNat * 4)).off + 2, none⟩ = some (.int .i64 ((rd_T54 l0_2 x9_1).f2)) ∧ w'.cell? ⟨(ad142.add ((x9_1).toNat * 4)).block, (ad142.add ((x9_1).toNat * 4)).off + 3, none⟩ = some (.string ((rd_T54 l0_2 x9_1).f3))) (ds := [10]) b0_11 kr rfl rfl ⟨(blk_cell BK134.out 0).trans rfl, (blk_cell BK134.out 1).trans rfl, (blk_cell BK134.out 2).trans rfl, (blk_cell BK131.out 0).trans rfl, (blk_cell BK131.out 1).trans rfl, (blk_cell BK131.out 2).trans rfl, (cm HB.out hw143_0), (cm HB.out hw143_1), (cm HB.out hw143_2), (cm HB.out hw143_3)⟩ (fun hHeld => ?_); refine with_tabW spec_l09Put.tab10 spec_l09Put.bits10 (fun HT_ HW_ => ?_)
     generalize w45.drew = w46 at HO141 BK131 BK132 BK133 BK134 HB hx143_0 hx143_1 hx143_2 hx143_3 hHeld ⊢
     refine pV 0 52 (bt 1 11) ?_
     refine pV 2 54 bx124 ?_
     refine pV 4 56 bx125 ?_
     refine tV 1 53 bx126 ?_
     refine tV 3 55 (bt 5 11) ?_
     refine pV 5 57 (bt 6 11) ?_
     refine tV 6 58 (bt 7 11) ?_
     refine one_ (i := 7) (N := some 59) b8_11 rfl rfl (one_of HT_.out kr) (by decide) (fun K hK => ?_)
     refine value_ (w1 := ?_) (v := ?_) (by rfl) rfl ?_ ?_
     rotate_left 2
     · go_simp
       constructor
       · rfl
       rfl
     refine hK.out _ _ ⟨(blk_cell (blk_alloc BK134.out _) 0).trans rfl, (blk_cell (blk_alloc BK134.out _) 1).trans rfl, (blk_cell (blk_alloc BK134.out _) 2).trans rfl, (blk_cell (blk_alloc BK131.out _) 0).trans rfl, (blk_cell (blk_alloc BK131.out _) 1).trans rfl, (blk_cell (blk_alloc BK131.out _) 2).trans rfl, (World.cell?_alloc_lt _ _ _ (World.block_lt_of_cell? _ _ ((cm HB.out hw143_0)))).trans ((cm HB.out hw143_0)), (World.cell?_alloc_lt _ _ _ (World.block_lt_of_cell? _ _ ((cm HB.out hw143_1)))).trans ((cm HB.out hw143_1)), (World.cell?_alloc_lt _ _ _ (World.block_lt_of_cell? _ _ ((cm HB.out hw143_2)))).trans ((cm HB.out hw143_2)), (World.cell?_alloc_lt _ _ _ (World.block_lt_of_cell? _ _ ((cm HB.out hw143_3)))).trans ((cm HB.out hw143_3))⟩ (fun hHeld => ?_)
     clear hK K
     refine norm_ (a' := ?_) ?_ ?_
     rotate_left
     · show Act.put _ (some 59) _ = _
       simp only [Act.put, la, lb, lc, i64_w, i32_w]
       rfl
     refine one_ (i := 8) (N := some 60) b9_11 rfl rfl (one_of HT_.out kr) (by decide) (fun K hK => ?_)
     refine Kd.R_append_step k54 (w0 := w) w.heap.size (by rfl) (.tmp 53) (.tmp 59) 28 54 (.agg #[(.int .i64 0), (.int .i64 0), (.int .i64 0), (.string ⟨#[]⟩)]) 40 rfl Tryd.underlying28 info54 rfl (by decide) (by omega) (.slice Ao39 y139.length co39) y139 (⟨(rd_T54 l0_2 x9_1).f0, (rd_T54 l0_2 x9_1).f1, (rd_T54 l0_2 x9_1).f2, (rd_T54 l0_2 x9_1).f3⟩ : S54) [.int .i64 ((rd_T54 l0_2 x9_1).f0), .int .i64 ((rd_T54 l0_2 x9_1).f1), .int .i64 ((rd_T54 l0_2 x9_1).f2), .string ((rd_T54 l0_2 x9_1).f3)] (fun k_ => k_ ≠ gb132) (fun _ => False) rfl rfl ?aP (fun _ hk => hk.elim) ?aF ?aO ?aB ?aS ?aL ?_
     (case aP => exact k54_mkM _ _ _ (⟨(rd_T54 l0_2 x9_1).f0, (rd_T54 l0_2 x9_1).f1, (rd_T54 l0_2 x9_1).f2, (rd_T54 l0_2 x9_1).f3⟩ : S54))
     (case aB => exact q0)
     (case aF => exact (fun k_ hk => Kd.freshB (g := gb132) (o := .cells #[.int .i64 a2_0, .int .i64 a2_1, .int .i64 a2_2, .string a2_3] 54 (0, 0)) u4_1 k_ hk))
     (case aO => exact (by (with_reducible repeat (first | apply Kd.R_alloc | apply Kd.R_drewN | apply Kd.R_drew)); exact HO141.out))
     (case aS => exact (below_size q0))
     (case aL => have := LMc44.out; omega)
     intro v145 w47 ho hb hg hat
     rw [← Ny144.out] at ho
     replace BK131 := am (blk_grown (g := gb131) (o := .cells #[.int .i64 a0_0, .int .i64 a0_1, .slice (some ad142) l0_2.length c0_2] 30 (0, 0)) u4_2 hg (Kd.R_ne HO141.out BK131.out (by decide)))
     replace BK132 := am (blk_grown (g := gb132) (o := .cells #[.int .i64 a2_0, .int .i64 a2_1, .int .i64 a2_2, .string a2_3] 54 (0, 0)) u4_1 hg (Kd.R_away HO141.out (fun _ hk => hk)))
     replace BK133 := am (blk_grown (g := gb133) (o := .cells #[.int .i64 0, .int .i64 0, .slice none 0 0] 30 (0, 0)) u4_3 hg (Kd.R_ne HO141.out BK133.out (by decide)))
     replace BK134 := am (blk_grown (g := gb134) (o := .cells #[.int .i64 a0_0, .int .i64 a0_1, .slice Ao39 y139.length co39] 30 (0, 0)) u4_4 hg (Kd.R_ne HO141.out BK134.out (by decide)))
     replace HB := am (hb)
     have HO146 := am (ho)
     clear HO141
     clear ho hb hg hat
     obtain ⟨Ao48, co48, eo48⟩ := Kd.R_slice HO146.out
     (first | subst eo48 | (injection eo48 with f1_ f2_ f3_; have f4_ := f1_.symm; have f5_ := f3_.symm; clear f1_ f2_ f3_; subst f4_; subst f5_))
     refine hK.out _ _ ⟨(blk_cell BK134.out 0).trans rfl, (blk_cell BK134.out 1).trans rfl, (blk_cell BK134.out 2).trans rfl, (blk_cell BK131.out 0).trans rfl, (blk_cell BK131.out 1).trans rfl, (blk_cell BK131.out 2).trans rfl, (cm HB.out hw143_0), (cm HB.out hw143_1), (cm HB.out hw143_2), (cm HB.out hw143_3)⟩ (fun hHeld => ?_)
     clear hK K
     refine norm_ (a' := ?_) ?_ ?_
     rotate_left
     · show Act.put _ (some 60) _ = _
       simp only [Act.put, la, lb, lc, i64_w, i32_w]
       rfl
     refine pV 9 61 (bt 10 11) ?_
     refine last_ (i := 10) (N := none) b11_11 rfl rfl (one_of HT_.out kr) (by decide) (fun K hK => ?_)
     have hs49 : w47.cell? ⟨gb134, 2, none⟩ = some (.slice Ao39 y139.length co39) := (blk_cell BK134.out 2).trans rfl
     have hfs49 := blk_frozen BK134.out 2
     have hns49_0 := NB131_134.out
     have hns49_1 := NB132_134.out
     have hns49_2 := NB133_134.out
     have hms49_0 := NB134_131.out
     have hms49_1 := NB134_132.out
     have hms49_2 := NB134_133.out
     refine skip_ (w1 := ?_) (by rfl) rfl ?_ ?_
     rotate_left
     · go_simp
       rfl
     refine hK.out _ _ ?_
     clear hK K
     refine done_ (done_of HT_.out kr) ?_
     try go_wp2
     go_roundg kj17
     case measure => have := HK1.out; have := HJ17.out; omega
     case rel => exact ⟨(true), (wrap64 (x9_1 + 1)), (y144), (.slice Ao48 y144.length co48), q4, q4, H', ⟨u4_17⟩, ⟨(by (with_reducible repeat (first | apply Kd.R_alloc | apply Kd.R_drewN | apply Kd.R_drew)); exact Kd.R_mono (Kd.R_far (p := ⟨gb134, 2, none⟩) (Kd.R_types HO146.out BK134.out (by decide)) (fun _ hk => hk.2) (.slice Ao48 y144.length co48)) (fun _ hk => hk.1))⟩, ⟨u4_6⟩, ⟨u4_7⟩, ⟨u4_8⟩, ⟨(by (with_reducible repeat (first | refine blk_drewN ?_ _ | refine blk_drew ?_ | refine blk_alloc ?_ _)); refine blk_put (cs := #[.int .i64 a0_0, .int .i64 a0_1, .slice Ao39 y139.length co39]) ?_ 2 _ rfl; (with_reducible repeat (first | refine blk_drewN ?_ _ | refine blk_drew ?_ | refine blk_alloc ?_ _)); exact BK134.out)⟩, ⟨q0⟩⟩

end Go.Proofs.YtjdpifafijcpbaaDoor.QFnOnce
