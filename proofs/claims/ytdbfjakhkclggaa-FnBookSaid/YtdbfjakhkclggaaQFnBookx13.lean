-- Printed by the session's own program wip/prx.py.
import Derived.Test.YtdbfjakhkclggaaQFnBookx0
import Derived.Test.YtdbfjakhkclggaaQFnBookx1
import Derived.Test.YtdbfjakhkclggaaQFnBookx8
import Derived.Test.YtdbfjakhkclggaaQFnBookx11
import Derived.Test.YtdbfjakhkclggaaQFnBookx12
namespace Go.Proofs.Ytdbfjakhkclggaa.QFnBook
open Go.RowKit Go.Proofs.YtdbfjakhkclggaaW.PrintWords Go.Proofs.YtdbfjakhkclggaaW.PrintLast Go.Proofs.YtdbfjakhkclggaaW.PrintMore
attribute [local go_sem] max2_int min2_int max_two min_two max_three min_three max_four min_four Go.Proofs.Ytdbfjakhkclggaa.Set.isSome_setCell Go.Proofs.Ytdbfjakhkclggaa.Add.add64   -- for this text's walks alone
set_option linter.unusedVariables false
set_option linter.unusedSimpArgs false

attribute [local go_sem high] eqA53
-- squeezed
theorem u13_0 {P : Prop} (h : P := by repeat (first | (with_reducible first | exact HB.out | apply below_alloc | apply pw_below_drewN | apply below_drew1) | exact HB.out)) : P := h
theorem u13_1 {P : Prop} (h : P := by repeat (first | (with_reducible first | exact HB.out | apply below_alloc | apply pw_below_drewN | apply below_drew1 | refine below_set ?_ GE498.out) | exact HB.out)) : P := h
theorem u13_2 {P : Prop} (h : P := by (with_reducible repeat (first | refine blk_drewN ?_ _ | refine blk_drew ?_ | refine blk_alloc ?_ _)); exact BK498.out) : P := h
theorem u13_3 {P : Prop} (h : P := by (with_reducible repeat (first | refine blk_drewN ?_ _ | refine blk_drew ?_ | refine blk_alloc ?_ _)); exact BK471.out) : P := h
theorem u13_4 {P : Prop} (h : P := by repeat (first | (with_reducible first | exact HB.out | apply below_alloc | apply pw_below_drewN | apply below_drew1 | refine below_set ?_ (IsS83.ge HI475.out) | refine below_set ?_ GE471.out | refine below_set ?_ GE481.out) | exact HB.out)) : P := h
theorem u13_5 {P : Prop} (h : P := by repeat (first | (with_reducible first | exact HB.out | apply below_alloc | apply pw_below_drewN | apply below_drew1 | refine below_set ?_ (IsS83.ge HI475.out) | refine below_set ?_ GE471.out) | exact HB.out)) : P := h
theorem u13_6 {P : Prop} (h : P := by repeat (first | (with_reducible first | exact HB.out | apply below_alloc | apply pw_below_drewN | apply below_drew1 | refine below_set ?_ GE498.out | refine below_set ?_ GE499.out) | exact HB.out)) : P := h
theorem u13_7 {P : Prop} (h : P := by repeat (first | (with_reducible first | exact HI475.out | apply IsS83.alloc | apply IsS83.drewN | apply IsS83.drew | apply IsS83.set_1 | apply IsS83.set_2 | refine IsS83.far ?_ NB475_471.out _ | refine IsS83.far ?_ NB475_481.out _) | exact HI475.out)) : P := h
theorem u13_8 {P : Prop} (h : P := by (try simp only [List.map_toArray, List.map_cons, List.map_nil]); first | done | rfl | (simp only [List.length_drop, List.length_take]; rfl)) : P := h
theorem u13_9 {P : Prop} (h : P := by repeat (first | (with_reducible first | exact HB.out | apply below_alloc | apply pw_below_drewN | apply below_drew1 | refine below_set ?_ GE494.out | refine below_set ?_ GE495.out) | exact HB.out)) : P := h
theorem u13_10 {P : Prop} (h : P := by (with_reducible repeat (first | refine blk_drewN ?_ _ | refine blk_drew ?_ | refine blk_alloc ?_ _)); exact BK494.out) : P := h
theorem u13_11 {P : Prop} (h : P := by repeat (first | (with_reducible first | exact HB.out | apply below_alloc | apply pw_below_drewN | apply below_drew1 | refine below_set ?_ GE494.out) | exact HB.out)) : P := h
theorem u13_12 {P : Prop} (h : P := by first | (with_reducible assumption) | assumption) : P := h
theorem u13_13 {P : Prop} (h : P := by (with_reducible repeat (first | apply Kd.R_alloc | apply Kd.R_drewN | apply Kd.R_drew)); exact HO478.out) : P := h
theorem u13_14 {P : Prop} (h : P := by (with_reducible repeat (first | refine blk_drewN ?_ _ | refine blk_drew ?_ | refine blk_alloc ?_ _)); exact BK481.out) : P := h
theorem u13_15 {P : Prop} (h : P := by repeat (first | (with_reducible first | exact HI475.out | apply IsS83.alloc | apply IsS83.drewN | apply IsS83.drew | apply IsS83.set_1 | apply IsS83.set_2 | refine IsS83.far ?_ NB475_471.out _) | exact HI475.out)) : P := h
theorem u13_16 {P : Prop} (h : P := by first | rfl | (simp; done) | (simp [*]; done)) : P := h
theorem u13_17 {P : Prop} (h : P := by (with_reducible repeat (first | refine blk_drewN ?_ _ | refine blk_drew ?_ | refine blk_alloc ?_ _)); exact BK495.out) : P := h
theorem u13_18 {P : Prop} (h : P := by (with_reducible repeat (first | refine blk_drewN ?_ _ | refine blk_drew ?_ | refine blk_alloc ?_ _)); exact BK499.out) : P := h
/-! ### spec_DrawRightBook: function 45 -/
def spec_DrawRightBook.f (k : Nat) (l0 : List Int) : Option ((List (S53)) × Int × Int × Int × Int) := (spec_l01New.f k l0).bind fun bt472 => ((spec_l10DrawRight.f k bt472.1 bt472.2.1 bt472.2.2 l0).bind fun bt476 => ((spec_l10DrawId.f bt472.1 bt476.2.1 bt476.2.2).bind fun bt482 => ((spec_l10DrawId.f bt472.1 bt482.2.1 bt482.2.2).bind fun bt485 => ((spec_l10DrawAmount.f k bt472.1 bt485.2.1 bt485.2.2).bind fun bt488 => ((spec_l01Below.f bt472.1 bt488.2.1 bt488.2.2 4).bind fun bt491 => (some (bt476.1, bt482.1, bt485.1, bt488.1, wrap64 (1 + bt491.1))))))))
theorem spec_DrawRightBook.mono : ∀ a0 k, LeO (spec_DrawRightBook.f k a0) (spec_DrawRightBook.f (k + 1) a0) := by
  intro a0 k
  unfold spec_DrawRightBook.f
  repeat' first
      | (with_reducible exact spec_l01New.mono _ _)
      | (with_reducible exact spec_l10DrawAmount.mono _ _ _ _)
      | (with_reducible exact spec_l10DrawRight.mono _ _ _ _ _)
      | (with_reducible exact LeO.refl _)
      | (with_reducible exact LeO.none _)
      | (with_reducible refine LeO.ite ?_ ?_)
      | (with_reducible refine LeO.bind ?_ (fun _ => ?_))
      | exact spec_l01New.mono _ _
      | exact spec_l10DrawAmount.mono _ _ _ _
      | exact spec_l10DrawRight.mono _ _ _ _ _
      | exact LeO.none _
      | refine LeO.ite ?_ ?_
      | refine LeO.bind ?_ (fun _ => ?_)
def spec_DrawRightBook.T6 : Bool × List (List Nat × List Nat) := (true, [([], []), ([], []), ([], []), ([], []), ([], []), ([4], [4]), ([5], [5]), ([0, 5, 0], [0]), ([1, 7, 0, 1, 7], [1]), ([2, 8, 0, 1, 2, 7, 8], [2]), ([3, 9, 0, 1, 2, 3, 7, 8, 9], [3]), ([6, 10, 0, 1, 2, 3, 4, 5, 6, 7, 8, 9, 10], [6])])
def spec_DrawRightBook.B6 : List Nat := [0, 0, 0, 0, 0, 16, 48, 49, 179, 439, 959, 2047]
theorem spec_DrawRightBook.tab6 : rtab .any (opsOf Try.f45 6) = spec_DrawRightBook.T6 := by kernel_rfl
theorem spec_DrawRightBook.bits6 : waitsOk spec_DrawRightBook.T6.2 spec_DrawRightBook.B6 = true := by kernel_rfl
set_option maxHeartbeats 8000000 in
set_option maxRecDepth 100000 in
theorem spec_DrawRightBook.calls (k : Nat) (A0 : Option Addr) (c0 : Nat) (l0 : List Int) (r1 : List (S53)) (r2 : Int) (r3 : Int) (r4 : Int) (r5 : Int) (w : World) (hr0 : Kd.C (Kd.int .u8) w A0 l0.length l0) (hc0 : l0.length ≤ c0) (h : spec_DrawRightBook.f k l0 = some (r1, r2, r3, r4, r5)) :
    Calls Try.prog 45 #[.slice A0 l0.length c0] w fun e w' => ∃ v0_ : Value, e = .returned (.tuple #[.agg #[v0_], .int .u64 r2, .int .u64 r3, .int .u64 r4, .int .i64 r5]) ∧ Kd.R k53 53 w' w.heap.size (fun _ => True) v0_ r1 ∧ Below w.heap.size w w' := by
  have hu29 := Try.underlying29
  have HR0 := Aside0.mk hr0
  have HC0 := Aside0.mk hc0
  clear hr0 hc0
  have HB := Aside0.mk (Below.refl w.heap.size w)
  have H : ((spec_l01New.f k l0).bind fun bt472 => ((spec_l10DrawRight.f k bt472.1 bt472.2.1 bt472.2.2 l0).bind fun bt476 => ((spec_l10DrawId.f bt472.1 bt476.2.1 bt476.2.2).bind fun bt482 => ((spec_l10DrawId.f bt472.1 bt482.2.1 bt482.2.2).bind fun bt485 => ((spec_l10DrawAmount.f k bt472.1 bt485.2.1 bt485.2.2).bind fun bt488 => ((spec_l01Below.f bt472.1 bt488.2.1 bt488.2.2 4).bind fun bt491 => (some (bt476.1, bt482.1, bt485.1, bt488.1, wrap64 (1 + bt491.1))))))))) = some (r1, r2, r3, r4, r5) := h
  clear h
  replace H := Option.bind_eq_some_iff.mp H
  obtain ⟨⟨t472, t473, t474⟩, A20, H⟩ := H
  (try dsimp only at H)
  have A2 := Aside0.mk A20
  clear A20
  replace H := Option.bind_eq_some_iff.mp H
  obtain ⟨⟨t476, t479, t480⟩, A30, H⟩ := H
  (try dsimp only at H)
  have A3 := Aside0.mk A30
  clear A30
  replace H := Option.bind_eq_some_iff.mp H
  obtain ⟨⟨t482, t483, t484⟩, A40, H⟩ := H
  (try dsimp only at H)
  have A4 := Aside0.mk A40
  clear A40
  replace H := Option.bind_eq_some_iff.mp H
  obtain ⟨⟨t485, t486, t487⟩, A50, H⟩ := H
  (try dsimp only at H)
  have A5 := Aside0.mk A50
  clear A50
  replace H := Option.bind_eq_some_iff.mp H
  obtain ⟨⟨t488, t489, t490⟩, A60, H⟩ := H
  (try dsimp only at H)
  have A6 := Aside0.mk A60
  clear A60
  replace H := Option.bind_eq_some_iff.mp H
  obtain ⟨⟨t491, t492, t493⟩, A70, H⟩ := H
  replace H : (some (t476, t482, t485, t488, wrap64 (1 + t491))) = some (r1, r2, r3, r4, r5) := H
  have A7 := Aside0.mk A70
  clear A70
  simp only [Option.some.injEq, Prod.mk.injEq] at H
  obtain ⟨rfl, rfl, rfl, rfl, rfl⟩ := H
  go_enter Try.func45, Try.ntmps45
  try go_wp2_with (first | ((with_reducible refine gate_dst (N := 2) rfl ?_); refine box_event ?hg (N := 2) ?hd (cs := #[.slice none 0 0]) (t := 29) ?hr ?_; (case hd => rfl); (case hg => rfl); (case hr => first | (go_simp; done) | (go_simp; rfl)); intro gb471 hg w8 hbox hb; have n0_ := Aside0.mk (below_step u13_0 hb); have n1_ := Aside0.mk (hbox); have n2_ := Aside0.mk ((by rw [hg]; exact (below_size u13_0) : w.heap.size ≤ gb471)); have n3_ := Aside0.mk ((by rw [hg]; exact (below_size u13_0) : w.heap.size ≤ gb471)); clear HB; have HB := n0_; have BK471 := n1_; have GW471 := n2_; have GE471 := n3_; clear n0_ n1_ n2_ n3_; clear hb hbox hg) | ((with_reducible refine gate_callee (f := 70) rfl ?_); refine goesL_ (some 13) rfl rfl Try.func70 (by kernel_rfl) rfl #[.slice A0 l0.length c0] rfl u13_8 ?_; (with_reducible refine (spec_l01New.calls k _ _ l0 t472 t473 t474 w _ ?side1 ?side2 ?side3 A2.out).mono ?_); (case side1 => exact (by repeat (first | (with_reducible first | exact HB.out | apply below_alloc | apply pw_below_drewN | apply below_drew1 | refine below_set ?_ GE471.out) | exact HB.out))); (case side2 => exact HR0.out); (case side3 => exact HC0.out); rintro e w9 ⟨g475, rfl, hi, hb, hb2⟩; refine ⟨_, rfl, ?_⟩; have n0_ := Aside0.mk (blk_below (g := gb471) (o := .cells #[.slice none 0 0] 29 (0, 0)) u13_3 hb2); have n1_ := Aside0.mk (hb); have n2_ := Aside0.mk (hi); have n3_ := Aside0.mk (IsS83.ne_blk hi (blk_below (g := gb471) (o := .cells #[.slice none 0 0] 29 (0, 0)) u13_3 hb2) (by decide)); have n4_ := Aside0.mk (Ne.symm (IsS83.ne_blk hi (blk_below (g := gb471) (o := .cells #[.slice none 0 0] 29 (0, 0)) u13_3 hb2) (by decide))); clear BK471; clear HB; have BK471 := n0_; have HB := n1_; have HI475 := n2_; have NB475_471 := n3_; have NB471_475 := n4_; clear n0_ n1_ n2_ n3_ n4_; (try clear hb); (try clear hb2); (try clear hk); (try clear hi)) | ((with_reducible refine gate_callee (f := 71) rfl ?_); refine goesL_ (some 16) rfl rfl Try.func71 (by kernel_rfl) rfl #[.pointer (some ⟨g475, 0, none⟩), .slice A0 l0.length c0] rfl u13_8 ?_; (with_reducible refine (spec_l10DrawRight.calls k g475 t472 t473 t474 _ _ l0 t476 t479 t480 w _ ?side1 ?side2 ?side3 ?side4 ?side5 A3.out).mono ?_); (case side1 => exact u13_15); (case side2 => exact u13_5); (case side3 => exact (by repeat (first | exact (Kd.C_below HR0.out HB.out) | (with_reducible refine Kd.C_alloc ?_ _) | (with_reducible refine Kd.C_drewN ?_ _) | (with_reducible refine Kd.C_drew ?_)))); (case side4 => exact HC0.out); (case side5 => exact Kd.far_C 0 HR0.out (IsS83.ge HI475.out)); rintro e w10 ⟨v477, rfl, ho0, hi, hb, hk⟩; refine ⟨_, rfl, ?_⟩; have n0_ := Aside0.mk (KeepBut.blk hk (g' := gb471) (o := .cells #[.slice none 0 0] 29 (0, 0)) u13_3 NB471_475.out (by simp)); have n1_ := Aside0.mk (Kd.R_lower ho0 (below_size u13_5)); have n2_ := Aside0.mk (hb); have n3_ := Aside0.mk (hi); clear BK471; clear HB; clear HI475; have BK471 := n0_; have HO478 := n1_; have HB := n2_; have HI475 := n3_; clear n0_ n1_ n2_ n3_; (try clear hb); (try clear hb2); (try clear hk); (try clear hi); (try clear ho0)) | ((with_reducible refine gate_dst (N := 8) rfl ?_); refine box_event ?hg (N := 8) ?hd (cs := #[.slice none 0 0]) (t := 29) ?hr ?_; (case hd => rfl); (case hg => rfl); (case hr => first | (go_simp; done) | (go_simp; rfl)); intro gb481 hg w11 hbox hb; have n0_ := Aside0.mk (Kd.R_below u13_13 hb); have n1_ := Aside0.mk (blk_below (g := gb471) (o := .cells #[.slice none 0 0] 29 (0, 0)) u13_3 hb); have n2_ := Aside0.mk (IsS83.below u13_15 hb); have n3_ := Aside0.mk (below_step u13_5 hb); have n4_ := Aside0.mk (hbox); have n5_ := Aside0.mk ((by rw [hg]; exact (below_size u13_5) : w.heap.size ≤ gb481)); have n6_ := Aside0.mk ((by rw [hg]; exact (below_size u13_5) : w.heap.size ≤ gb481)); have n7_ := Aside0.mk ((by rw [hg]; exact Nat.ne_of_lt (blk_lt (g := gb471) (o := .cells #[.slice none 0 0] 29 (0, 0)) u13_3) : gb471 ≠ gb481)); have n8_ := Aside0.mk ((by rw [hg]; exact Nat.ne_of_gt (blk_lt (g := gb471) (o := .cells #[.slice none 0 0] 29 (0, 0)) u13_3) : gb481 ≠ gb471)); have n9_ := Aside0.mk ((by rw [hg]; exact Nat.ne_of_lt (IsS83.lt (show IsS83 w _ g475 t472 t479 t480 from by repeat (first | (with_reducible first | exact HI475.out | apply IsS83.alloc | apply IsS83.drewN | apply IsS83.drew | apply IsS83.set_1 | apply IsS83.set_2 | refine IsS83.far ?_ NB475_471.out _) | exact HI475.out))) : g475 ≠ gb481)); have n10_ := Aside0.mk ((by rw [hg]; exact Nat.ne_of_gt (IsS83.lt (show IsS83 w _ g475 t472 t479 t480 from by repeat (first | (with_reducible first | exact HI475.out | apply IsS83.alloc | apply IsS83.drewN | apply IsS83.drew | apply IsS83.set_1 | apply IsS83.set_2 | refine IsS83.far ?_ NB475_471.out _) | exact HI475.out))) : gb481 ≠ g475)); clear HO478; clear BK471; clear HI475; clear HB; have HO478 := n0_; have BK471 := n1_; have HI475 := n2_; have HB := n3_; have BK481 := n4_; have GW481 := n5_; have GE481 := n6_; have NB471_481 := n7_; have NB481_471 := n8_; have NB475_481 := n9_; have NB481_475 := n10_; clear n0_ n1_ n2_ n3_ n4_ n5_ n6_ n7_ n8_ n9_ n10_; clear hb hbox hg; obtain ⟨Ao12, co12, eo12⟩ := Kd.R_slice HO478.out; subst eo12; have hnb13 := NB481_471.out; have hnc13 := NB471_481.out; have hnb14 := NB481_475.out; have hnc14 := NB475_481.out; have hcz15_0 : w11.cell? ⟨gb481, 0, none⟩ = some (.slice none 0 0) := (blk_cell BK481.out 0).trans rfl; have hfz15_0 := blk_frozen BK481.out 0) | ((with_reducible refine gate_callee (f := 72) rfl ?_); refine goesL_ (some 18) rfl rfl Try.func72 (by kernel_rfl) rfl #[.pointer (some ⟨g475, 0, none⟩)] rfl u13_8 ?_; (with_reducible refine (spec_l10DrawId.calls g475 t472 t479 t480 t482 t483 t484 w _ ?side1 ?side2 A4.out).mono ?_); (case side1 => exact u13_7); (case side2 => exact u13_4); rintro e w16 ⟨rfl, hi, hb, hk⟩; refine ⟨_, rfl, ?_⟩; have n0_ := Aside0.mk (KeepBut.blk hk (g' := gb471) (o := .cells #[.slice none 0 0] 29 (0, 0)) (by (with_reducible repeat (first | refine blk_drewN ?_ _ | refine blk_drew ?_ | refine blk_alloc ?_ _)); refine blk_far ?_ NB471_481.out _; (with_reducible repeat (first | refine blk_drewN ?_ _ | refine blk_drew ?_ | refine blk_alloc ?_ _)); exact BK471.out) NB471_475.out (by simp)); have n1_ := Aside0.mk (Kd.R_mono (Kd.R_keep (IsS83.apart (show IsS83 w _ g475 t472 t479 t480 from by repeat (first | (with_reducible first | exact HI475.out | apply IsS83.alloc | apply IsS83.drewN | apply IsS83.drew | apply IsS83.set_1 | apply IsS83.set_2 | refine IsS83.far ?_ NB475_471.out _ | refine IsS83.far ?_ NB475_481.out _) | exact HI475.out)) (by (with_reducible repeat (first | apply Kd.R_alloc | apply Kd.R_drewN | apply Kd.R_drew)); exact (Kd.R_mono (Kd.R_far (p := ⟨gb481, 0, none⟩) (Kd.R_types HO478.out BK481.out (by decide)) (fun _ hk => hk.2) (.slice Ao12 t476.length co12)) (fun _ h_ => h_.1))) (by decide)) hk (fun _ h => h.2)) (fun _ h => h.1)); have n2_ := Aside0.mk (KeepBut.blk hk (g' := gb481) (o := .cells #[.slice Ao12 t476.length co12] 29 (0, 0)) (by (with_reducible repeat (first | refine blk_drewN ?_ _ | refine blk_drew ?_ | refine blk_alloc ?_ _)); refine blk_put (cs := #[.slice none 0 0]) ?_ 0 _ rfl; (with_reducible repeat (first | refine blk_drewN ?_ _ | refine blk_drew ?_ | refine blk_alloc ?_ _)); exact BK481.out) NB481_475.out (by simp)); have n3_ := Aside0.mk (hb); have n4_ := Aside0.mk (hi); clear BK471; clear HO478; clear BK481; clear HB; clear HI475; have BK471 := n0_; have HO478 := n1_; have BK481 := n2_; have HB := n3_; have HI475 := n4_; clear n0_ n1_ n2_ n3_ n4_; (try clear hb); (try clear hb2); (try clear hk); (try clear hi)) | ((with_reducible refine gate_callee (f := 72) rfl ?_); refine goesL_ (some 20) rfl rfl Try.func72 (by kernel_rfl) rfl #[.pointer (some ⟨g475, 0, none⟩)] rfl u13_8 ?_; (with_reducible refine (spec_l10DrawId.calls g475 t472 t483 t484 t485 t486 t487 w _ ?side1 ?side2 A5.out).mono ?_); (case side1 => exact u13_7); (case side2 => exact u13_4); rintro e w17 ⟨rfl, hi, hb, hk⟩; refine ⟨_, rfl, ?_⟩; have n0_ := Aside0.mk (KeepBut.blk hk (g' := gb471) (o := .cells #[.slice none 0 0] 29 (0, 0)) u13_3 NB471_475.out (by simp)); have n1_ := Aside0.mk (Kd.R_mono (Kd.R_keep (IsS83.apart (show IsS83 w _ g475 t472 t483 t484 from by repeat (first | (with_reducible first | exact HI475.out | apply IsS83.alloc | apply IsS83.drewN | apply IsS83.drew | apply IsS83.set_1 | apply IsS83.set_2 | refine IsS83.far ?_ NB475_471.out _ | refine IsS83.far ?_ NB475_481.out _) | exact HI475.out)) u13_13 (by decide)) hk (fun _ h => h.2)) (fun _ h => h.1)); have n2_ := Aside0.mk (KeepBut.blk hk (g' := gb481) (o := .cells #[.slice Ao12 t476.length co12] 29 (0, 0)) u13_14 NB481_475.out (by simp)); have n3_ := Aside0.mk (hb); have n4_ := Aside0.mk (hi); clear BK471; clear HO478; clear BK481; clear HB; clear HI475; have BK471 := n0_; have HO478 := n1_; have BK481 := n2_; have HB := n3_; have HI475 := n4_; clear n0_ n1_ n2_ n3_ n4_; (try clear hb); (try clear hb2); (try clear hk); (try clear hi)) | ((with_reducible refine gate_callee (f := 73) rfl ?_); refine goesL_ (some 22) rfl rfl Try.func73 (by kernel_rfl) rfl #[.pointer (some ⟨g475, 0, none⟩)] rfl u13_8 ?_; (with_reducible refine (spec_l10DrawAmount.calls k g475 t472 t486 t487 t488 t489 t490 w _ ?side1 ?side2 A6.out).mono ?_); (case side1 => exact u13_7); (case side2 => exact u13_4); rintro e w18 ⟨rfl, hi, hb, hk⟩; refine ⟨_, rfl, ?_⟩; have n0_ := Aside0.mk (KeepBut.blk hk (g' := gb471) (o := .cells #[.slice none 0 0] 29 (0, 0)) u13_3 NB471_475.out (by simp)); have n1_ := Aside0.mk (Kd.R_mono (Kd.R_keep (IsS83.apart (show IsS83 w _ g475 t472 t486 t487 from by repeat (first | (with_reducible first | exact HI475.out | apply IsS83.alloc | apply IsS83.drewN | apply IsS83.drew | apply IsS83.set_1 | apply IsS83.set_2 | refine IsS83.far ?_ NB475_471.out _ | refine IsS83.far ?_ NB475_481.out _) | exact HI475.out)) u13_13 (by decide)) hk (fun _ h => h.2)) (fun _ h => h.1)); have n2_ := Aside0.mk (KeepBut.blk hk (g' := gb481) (o := .cells #[.slice Ao12 t476.length co12] 29 (0, 0)) u13_14 NB481_475.out (by simp)); have n3_ := Aside0.mk (hb); have n4_ := Aside0.mk (hi); clear BK471; clear HO478; clear BK481; clear HB; clear HI475; have BK471 := n0_; have HO478 := n1_; have BK481 := n2_; have HB := n3_; have HI475 := n4_; clear n0_ n1_ n2_ n3_ n4_; (try clear hb); (try clear hb2); (try clear hk); (try clear hi)))
  have n0_ := Aside0.mk (Kd.R_drew HO478.out)
  have n1_ := Aside0.mk (blk_drew BK471.out)
  have n2_ := Aside0.mk (blk_drew BK481.out)
  have n3_ := Aside0.mk (IsS83.drew HI475.out)
  have n4_ := Aside0.mk (below_drew1 HB.out)
  clear HO478
  clear BK471
  clear BK481
  clear HI475
  clear HB
  have HO478 := n0_
  have BK471 := n1_
  have BK481 := n2_
  have HI475 := n3_
  have HB := n4_
  clear n0_ n1_ n2_ n3_ n4_
  refine start_ (n := 12) (S := fun w' => w'.cell? ⟨gb481, 0, none⟩ = some (.slice Ao12 t476.length co12)) (ds := []) #[false, false, false, false, false, false, false, false, false, false, false, false] (by kernel_rfl) rfl rfl ((blk_cell BK481.out 0).trans rfl) (fun hHeld => ?_); refine with_tabW spec_DrawRightBook.tab6 spec_DrawRightBook.bits6 (fun HT_ HW_ => ?_)
  generalize w18.drew = w19 at HO478 BK471 BK481 HI475 HB hHeld ⊢
  refine pure_ (i := 1) (N := some 24) (v := ?_) (a' := ?_) #[false, true, false, false, false, false, false, false, false, false, false, false] rfl rfl (any_of HT_.out (by kernel_rfl)) (fun _ _ _ h => h) (Or.inl ⟨by rfl, ?_⟩) ?_ ?_
  rotate_left
  · intro w'
    go_simp
    with_reducible rfl
  rotate_left
  · simp only [Act.put, List.setIfInBounds_toArray, List.set_cons_zero, List.set_cons_succ, i64_w, i32_w]
    rfl
  refine pure_ (i := 2) (N := some 25) (v := ?_) (a' := ?_) #[false, true, true, false, false, false, false, false, false, false, false, false] rfl rfl (any_of HT_.out (by kernel_rfl)) (fun _ _ _ h => h) (Or.inl ⟨by rfl, ?_⟩) ?_ ?_
  rotate_left
  · intro w'
    go_simp
    with_reducible rfl
  rotate_left
  · simp only [Act.put, List.setIfInBounds_toArray, List.set_cons_zero, List.set_cons_succ, i64_w, i32_w]
    rfl
  refine pure_ (i := 3) (N := some 26) (v := ?_) (a' := ?_) #[false, true, true, true, false, false, false, false, false, false, false, false] rfl rfl (any_of HT_.out (by kernel_rfl)) (fun _ _ _ h => h) (Or.inl ⟨by rfl, ?_⟩) ?_ ?_
  rotate_left
  · intro w'
    go_simp
    with_reducible rfl
  rotate_left
  · simp only [Act.put, List.setIfInBounds_toArray, List.set_cons_zero, List.set_cons_succ, i64_w, i32_w]
    rfl
  refine pure_ (i := 4) (N := some 27) (v := ?_) (a' := ?_) #[false, true, true, true, true, false, false, false, false, false, false, false] rfl rfl (any_of HT_.out (by kernel_rfl)) (fun _ _ _ h => h) (Or.inl ⟨by rfl, ?_⟩) ?_ ?_
  rotate_left
  · intro w'
    go_simp
    with_reducible rfl
  rotate_left
  · simp only [Act.put, List.setIfInBounds_toArray, List.set_cons_zero, List.set_cons_succ, i64_w, i32_w]
    rfl
  refine take_ (i := 0) (N := some 23) (v := ?_) (a' := ?_) #[true, true, true, true, true, false, false, false, false, false, false, false] rfl rfl (take_ofW HT_.out HW_.out (by kernel_rfl)) (fun _ _ _ h => h) (Or.inl ⟨by rfl, ?_⟩) hHeld ?_ ?_
  rotate_left
  · intro w' s0
    go_simp
    with_reducible rfl
  rotate_left
  · simp only [Act.put, List.setIfInBounds_toArray, List.set_cons_zero, List.set_cons_succ, i64_w, i32_w]
    rfl
  refine one_ (i := 5) (N := some 28) #[true, true, true, true, true, true, false, false, false, false, false, false] rfl rfl (one_of HT_.out (by kernel_rfl)) (by decide) (fun K hK => ?_)
  refine goes_ Try.func74 (by kernel_rfl) rfl #[.pointer (some ⟨g475, 0, none⟩), .int .i64 4] (by rfl) rfl rfl u13_8 ?_
  with_reducible refine (spec_l01Below.calls g475 t472 t489 t490 4 t491 t492 t493 w _ ?side1 ?side2 A7.out).mono ?_
  (case side1 => exact u13_7)
  (case side2 => exact u13_4)
  rintro e w20 ⟨rfl, hi, hb, hk⟩
  refine ⟨_, rfl, ?_⟩
  have n0_ := Aside0.mk (KeepBut.blk hk (g' := gb471) (o := .cells #[.slice none 0 0] 29 (0, 0)) u13_3 NB471_475.out (by simp))
  have n1_ := Aside0.mk (Kd.R_mono (Kd.R_keep (IsS83.apart (show IsS83 w _ g475 t472 t489 t490 from by repeat (first | (with_reducible first | exact HI475.out | apply IsS83.alloc | apply IsS83.drewN | apply IsS83.drew | apply IsS83.set_1 | apply IsS83.set_2 | refine IsS83.far ?_ NB475_471.out _ | refine IsS83.far ?_ NB475_481.out _) | exact HI475.out)) u13_13 (by decide)) hk (fun _ h => h.2)) (fun _ h => h.1))
  have n2_ := Aside0.mk (KeepBut.blk hk (g' := gb481) (o := .cells #[.slice Ao12 t476.length co12] 29 (0, 0)) u13_14 NB481_475.out (by simp))
  have n3_ := Aside0.mk (hb)
  have n4_ := Aside0.mk (hi)
  clear BK471
  clear HO478
  clear BK481
  clear HB
  clear HI475
  have BK471 := n0_
  have HO478 := n1_
  have BK481 := n2_
  have HB := n3_
  have HI475 := n4_
  clear n0_ n1_ n2_ n3_ n4_
  (try clear hb)
  (try clear hb2)
  (try clear hk)
  (try clear hi)
  refine hK.out _ _ ((blk_cell BK481.out 0).trans rfl) (fun hHeld => ?_)
  clear hK K
  refine norm_ (a' := ?_) ?_ ?_
  rotate_left
  · show Act.put _ (some 28) _ = _
    simp only [Act.put, List.setIfInBounds_toArray, List.set_cons_zero, List.set_cons_succ, i64_w, i32_w]
    rfl
  refine pure_ (i := 6) (N := some 29) (v := ?_) (a' := ?_) #[true, true, true, true, true, true, true, false, false, false, false, false] rfl rfl (any_of HT_.out (by kernel_rfl)) (fun _ _ _ h => h) (Or.inl ⟨by rfl, ?_⟩) ?_ ?_
  rotate_left
  · intro w'
    go_simp
    with_reducible rfl
  rotate_left
  · simp only [Act.put, List.setIfInBounds_toArray, List.set_cons_zero, List.set_cons_succ, i64_w, i32_w]
    rfl
  refine one_ (i := 7) (N := none) #[true, true, true, true, true, true, true, true, false, false, false, false] rfl rfl (one_of HT_.out (by kernel_rfl)) (by decide) (fun K hK => ?_)
  have hs21 : w20.cell? ⟨gb471, 0, none⟩ = some (.slice none 0 0) := (blk_cell BK471.out 0).trans rfl
  have hfs21 := blk_frozen BK471.out 0
  have hns21_1 := NB481_471.out
  have hms21_1 := NB471_481.out
  refine skip_ (w1 := ?_) (by rfl) rfl ?_ ?_
  rotate_left
  · go_simp
    rfl
  refine hK.out _ _ (((cell_far (p := ⟨gb471, _, none⟩) NB481_471.out _).trans (hHeld))) (fun hHeld => ?_)
  clear hK K
  refine pure_ (i := 8) (N := some 3) (v := ?_) (a' := ?_) #[true, true, true, true, true, true, true, true, true, false, false, false] rfl rfl (any_of HT_.out (by kernel_rfl)) (fun _ _ _ h => h) (Or.inl ⟨by rfl, ?_⟩) ?_ ?_
  rotate_left
  · intro w'
    go_simp
    with_reducible rfl
  rotate_left
  · simp only [Act.put, List.setIfInBounds_toArray, List.set_cons_zero, List.set_cons_succ, i64_w, i32_w]
    rfl
  refine pure_ (i := 9) (N := some 4) (v := ?_) (a' := ?_) #[true, true, true, true, true, true, true, true, true, true, false, false] rfl rfl (any_of HT_.out (by kernel_rfl)) (fun _ _ _ h => h) (Or.inl ⟨by rfl, ?_⟩) ?_ ?_
  rotate_left
  · intro w'
    go_simp
    with_reducible rfl
  rotate_left
  · simp only [Act.put, List.setIfInBounds_toArray, List.set_cons_zero, List.set_cons_succ, i64_w, i32_w]
    rfl
  refine pure_ (i := 10) (N := some 5) (v := ?_) (a' := ?_) #[true, true, true, true, true, true, true, true, true, true, true, false] rfl rfl (any_of HT_.out (by kernel_rfl)) (fun _ _ _ h => h) (Or.inl ⟨by rfl, ?_⟩) ?_ ?_
  rotate_left
  · intro w'
    go_simp
    with_reducible rfl
  rotate_left
  · simp only [Act.put, List.setIfInBounds_toArray, List.set_cons_zero, List.set_cons_succ, i64_w, i32_w]
    rfl
  refine pure_ (i := 11) (N := some 6) (v := ?_) (a' := ?_) #[true, true, true, true, true, true, true, true, true, true, true, true] rfl rfl (any_of HT_.out (by kernel_rfl)) (fun _ _ _ h => h) (Or.inl ⟨by rfl, ?_⟩) ?_ ?_
  rotate_left
  · intro w'
    go_simp
    with_reducible rfl
  rotate_left
  · simp only [Act.put, List.setIfInBounds_toArray, List.set_cons_zero, List.set_cons_succ, i64_w, i32_w]
    rfl
  refine done_ (done_of HT_.out (by kernel_rfl)) ?_
  try go_wp2
  refine bodyPost_ret (results_list (rs := [.cell 2 29, .tmp 3, .tmp 4, .tmp 5, .tmp 6]) rfl (by simp) (.cell gb471 29 #[.slice Ao12 t476.length co12] (0, 0) _ rfl (by (with_reducible repeat (first | refine blk_drewN ?_ _ | refine blk_drew ?_ | refine blk_alloc ?_ _)); refine blk_put (cs := #[.slice none 0 0]) ?_ 0 _ rfl; (with_reducible repeat (first | refine blk_drewN ?_ _ | refine blk_drew ?_ | refine blk_alloc ?_ _)); exact BK471.out) Try.underlying29 rfl (by kernel_rfl) (.tmp (.tmp (.tmp (.tmp .nil)))))) rfl ?_
  exact ⟨_, by first | rfl | (simp [errW_none, errW_some] <;> rfl) | (simp [*, errW_none, errW_some] <;> rfl), (by (with_reducible repeat (first | apply Kd.R_alloc | apply Kd.R_drewN | apply Kd.R_drew)); exact Kd.R_mono (Kd.R_far (p := ⟨gb471, 0, none⟩) (Kd.R_types HO478.out BK471.out (by decide)) (fun _ hk => hk.2) (.slice Ao12 t476.length co12)) (fun _ hk => trivial)), u13_4⟩

/-! ### laws_find: function 46 -/
def laws_find.l0 : Nat → Int → Int → List (S53) → Option (Int × Int × Int × Int × Int × Bool)
  | 0, _, _, _ => none
  | k + 1, x1, x6, x495000 => if x6 < (x495000.length : Int) then (if 0 ≤ x6 then (if ((rd_T53 x495000 x6).f0) = x1 then (some ((rd_T53 x495000 x6).f0, (rd_T53 x495000 x6).f1, (rd_T53 x495000 x6).f2, (rd_T53 x495000 x6).f3, (rd_T53 x495000 x6).f4, true)) else (laws_find.l0 k x1 (wrap64 (x6 + 1)) x495000)) else (none)) else (some (0, 0, 0, 0, 0, false))
def laws_find.f (k : Nat) (l0_0 : List (S53)) (a1 : Int) : Option (Int × Int × Int × Int × Int × Bool) := laws_find.l0 k a1 0 l0_0
theorem laws_find.mono_l : ∀ k, (∀ y0 y1 y2, LeO (laws_find.l0 k y0 y1 y2) (laws_find.l0 (k + 1) y0 y1 y2))
  | 0 => fun _ _ _ r h => by simp [laws_find.l0] at h
  | k + 1 => by
    have ih0 := laws_find.mono_l k
    · intro y0 y1 y2
      unfold laws_find.l0
      repeat' first
      | (with_reducible exact ih0 _ _ _)
      | (with_reducible exact LeO.refl _)
      | (with_reducible exact LeO.none _)
      | (with_reducible refine LeO.ite ?_ ?_)
      | (with_reducible refine LeO.bind ?_ (fun _ => ?_))
      | exact ih0 _ _ _
      | exact LeO.none _
      | refine LeO.ite ?_ ?_
      | refine LeO.bind ?_ (fun _ => ?_)
theorem laws_find.mono : ∀ a0 a1 k, LeO (laws_find.f k a0 a1) (laws_find.f (k + 1) a0 a1) := by
  intro a0 a1 k
  have ih0 := laws_find.mono_l k
  unfold laws_find.f
  repeat' first
      | (with_reducible exact ih0 _ _ _)
      | (with_reducible exact LeO.refl _)
      | (with_reducible exact LeO.none _)
      | (with_reducible refine LeO.ite ?_ ?_)
      | (with_reducible refine LeO.bind ?_ (fun _ => ?_))
      | exact ih0 _ _ _
      | exact LeO.none _
      | refine LeO.ite ?_ ?_
      | refine LeO.bind ?_ (fun _ => ?_)
set_option maxHeartbeats 8000000 in
set_option maxRecDepth 100000 in
theorem laws_find.calls (k : Nat) (A0_0 : Option Addr) (c0_0 : Nat) (l0_0 : List (S53)) (a1 : Int) (r1 : Int) (r2 : Int) (r3 : Int) (r4 : Int) (r5 : Int) (r6 : Bool) (w : World) (hr0_0 : Kd.C k53 w A0_0 l0_0.length l0_0) (hc0_0 : l0_0.length ≤ c0_0) (h : laws_find.f k l0_0 a1 = some (r1, r2, r3, r4, r5, r6)) :
    Calls Try.prog 46 #[.agg #[.slice A0_0 l0_0.length c0_0], .int .u64 a1] w fun e w' => e = .returned (.tuple #[.agg #[.int .u64 r1, .int .u64 r2, .int .u64 r3, .int .u64 r4, .int .i64 r5], .bool r6]) ∧ Below w.heap.size w w' := by
  have hu29 := Try.underlying29
  have hu53 := Try.underlying53
  have HR0_0 := Aside0.mk hr0_0
  have HC0_0 := Aside0.mk hc0_0
  clear hr0_0 hc0_0
  have HB := Aside0.mk (Below.refl w.heap.size w)
  have H : (laws_find.l0 k a1 0 l0_0) = some (r1, r2, r3, r4, r5, r6) := h
  clear h
  have H' := Aside0.mk H
  clear H
  go_enter Try.func46, Try.ntmps46
  go_wp2_with (first | ((with_reducible refine gate_dst (N := 2) rfl ?_); refine box_event ?hg (N := 2) ?hd (cs := #[.slice A0_0 l0_0.length c0_0]) (t := 29) ?hr ?_; (case hd => rfl); (case hg => rfl); (case hr => first | (go_simp; done) | (go_simp; rfl)); intro gb494 hg w3 hbox hb; have n0_ := Aside0.mk (below_step u13_0 hb); have n1_ := Aside0.mk (hbox); have n2_ := Aside0.mk ((by rw [hg]; exact (below_size u13_0) : w.heap.size ≤ gb494)); have n3_ := Aside0.mk ((by rw [hg]; exact (below_size u13_0) : w.heap.size ≤ gb494)); clear HB; have HB := n0_; have BK494 := n1_; have GW494 := n2_; have GE494 := n3_; clear n0_ n1_ n2_ n3_; clear hb hbox hg) | ((with_reducible refine gate_dst (N := 4) rfl ?_); refine box_event ?hg (N := 4) ?hd (cs := #[.int .u64 0, .int .u64 0, .int .u64 0, .int .u64 0, .int .i64 0]) (t := 53) ?hr ?_; (case hd => rfl); (case hg => rfl); (case hr => first | (go_simp; done) | (go_simp; rfl)); intro gb495 hg w4 hbox hb; have n0_ := Aside0.mk (blk_below (g := gb494) (o := .cells #[.slice A0_0 l0_0.length c0_0] 29 (0, 0)) u13_10 hb); have n1_ := Aside0.mk (below_step u13_11 hb); have n2_ := Aside0.mk (hbox); have n3_ := Aside0.mk ((by rw [hg]; exact (below_size u13_11) : w.heap.size ≤ gb495)); have n4_ := Aside0.mk ((by rw [hg]; exact (below_size u13_11) : w.heap.size ≤ gb495)); have n5_ := Aside0.mk ((by rw [hg]; exact Nat.ne_of_lt (blk_lt (g := gb494) (o := .cells #[.slice A0_0 l0_0.length c0_0] 29 (0, 0)) u13_10) : gb494 ≠ gb495)); have n6_ := Aside0.mk ((by rw [hg]; exact Nat.ne_of_gt (blk_lt (g := gb494) (o := .cells #[.slice A0_0 l0_0.length c0_0] 29 (0, 0)) u13_10) : gb495 ≠ gb494)); clear BK494; clear HB; have BK494 := n0_; have HB := n1_; have BK495 := n2_; have GW495 := n3_; have GE495 := n4_; have NB494_495 := n5_; have NB495_494 := n6_; clear n0_ n1_ n2_ n3_ n4_ n5_ n6_; clear hb hbox hg))
  go_loopg [6] k (fun kq v6 w' => ∃ (x6_1 : Int) (x496000_1 : Int) (x496001_1 : Int) (x496002_1 : Int) (x496003_1 : Int) (x496004_1 : Int), v6 = .int .i64 x6_1 ∧ Aside0 (laws_find.l0 kq a1 x6_1 l0_0 = some (r1, r2, r3, r4, r5, r6)) ∧ Aside0 (kq ≤ k) ∧ Aside0 (w'.heap[gb494]? = some (.cells #[(.slice A0_0 l0_0.length c0_0)] 29 (0, 0))) ∧ Aside0 (w'.heap[gb495]? = some (.cells #[.int .u64 x496000_1, .int .u64 x496001_1, .int .u64 x496002_1, .int .u64 x496003_1, .int .i64 x496004_1] 53 (0, 0))) ∧ Aside0 (Below w.heap.size w w'))
  case atStart => exact ⟨(0), (0), (0), (0), (0), (0), u13_16, H', ⟨Nat.le_refl _⟩, ⟨u13_10⟩, ⟨u13_17⟩, ⟨u13_9⟩⟩
  clear H'
  try clear p2
  try clear c4
  obtain ⟨x6_1, x496000_1, x496001_1, x496002_1, x496003_1, x496004_1, rfl, HA, HK1, BK494, BK495, HB⟩ := hrel
  cases gk with
  | zero => exact absurd HA.out (by simp [laws_find.l0])
  | succ k1 =>
    have H := HA.out
    clear HA
    simp only [laws_find.l0] at H
    by_cases c5 : x6_1 < (l0_0.length : Int)
    rotate_left
    · rw [if_neg c5] at H
      have c5b0 : decide (x6_1 < (l0_0.length : Int)) = false := decide_eq_false c5
      clear c5
      simp only [Option.some.injEq, Prod.mk.injEq] at H
      obtain ⟨rfl, rfl, rfl, rfl, rfl, rfl⟩ := H
      have hnb13 := NB494_495.out
      have hnc13 := NB495_494.out
      have hcz14_0 : wr.cell? ⟨gb494, 0, none⟩ = some (.slice A0_0 l0_0.length c0_0) := (blk_cell BK494.out 0).trans rfl
      have hfz14_0 := blk_frozen BK494.out 0
      have hcz15_0 : wr.cell? ⟨gb495, 0, none⟩ = some (.int .u64 x496000_1) := (blk_cell BK495.out 0).trans rfl
      have hcz15_1 : wr.cell? ⟨gb495, 1, none⟩ = some (.int .u64 x496001_1) := (blk_cell BK495.out 1).trans rfl
      have hcz15_2 : wr.cell? ⟨gb495, 2, none⟩ = some (.int .u64 x496002_1) := (blk_cell BK495.out 2).trans rfl
      have hcz15_3 : wr.cell? ⟨gb495, 3, none⟩ = some (.int .u64 x496003_1) := (blk_cell BK495.out 3).trans rfl
      have hcz15_4 : wr.cell? ⟨gb495, 4, none⟩ = some (.int .i64 x496004_1) := (blk_cell BK495.out 4).trans rfl
      have hfz15_0 := blk_frozen BK495.out 0
      have hfz15_1 := blk_frozen BK495.out 1
      have hfz15_2 := blk_frozen BK495.out 2
      have hfz15_3 := blk_frozen BK495.out 3
      have hfz15_4 := blk_frozen BK495.out 4
      go_wp2
      refine bodyPost_ret (results_ct rfl _ _ gb495 53 #[.int .u64 0, .int .u64 0, .int .u64 0, .int .u64 0, .int .i64 0] (0, 0) _ rfl (by (with_reducible repeat (first | refine blk_drewN ?_ _ | refine blk_drew ?_ | refine blk_alloc ?_ _)); refine blk_put (cs := #[.int .u64 0, .int .u64 0, .int .u64 0, .int .u64 0, .int .i64 x496004_1]) ?_ 4 _ rfl; (with_reducible repeat (first | refine blk_drewN ?_ _ | refine blk_drew ?_ | refine blk_alloc ?_ _)); refine blk_put (cs := #[.int .u64 0, .int .u64 0, .int .u64 0, .int .u64 x496003_1, .int .i64 x496004_1]) ?_ 3 _ rfl; (with_reducible repeat (first | refine blk_drewN ?_ _ | refine blk_drew ?_ | refine blk_alloc ?_ _)); refine blk_put (cs := #[.int .u64 0, .int .u64 0, .int .u64 x496002_1, .int .u64 x496003_1, .int .i64 x496004_1]) ?_ 2 _ rfl; (with_reducible repeat (first | refine blk_drewN ?_ _ | refine blk_drew ?_ | refine blk_alloc ?_ _)); refine blk_put (cs := #[.int .u64 0, .int .u64 x496001_1, .int .u64 x496002_1, .int .u64 x496003_1, .int .i64 x496004_1]) ?_ 1 _ rfl; (with_reducible repeat (first | refine blk_drewN ?_ _ | refine blk_drew ?_ | refine blk_alloc ?_ _)); refine blk_put (cs := #[.int .u64 x496000_1, .int .u64 x496001_1, .int .u64 x496002_1, .int .u64 x496003_1, .int .i64 x496004_1]) ?_ 0 _ rfl; (with_reducible repeat (first | refine blk_drewN ?_ _ | refine blk_drew ?_ | refine blk_alloc ?_ _)); exact BK495.out) Try.underlying53 rfl (by kernel_rfl)) rfl ?_
      exact ⟨by first | rfl | (simp [errW_none, errW_some] <;> rfl) | (simp [*, errW_none, errW_some] <;> rfl), u13_9⟩
    rw [if_pos c5] at H
    have c5b0 : decide (x6_1 < (l0_0.length : Int)) = true := decide_eq_true c5
    clear c5
    by_cases c6 : 0 ≤ x6_1
    rotate_left
    · rw [if_neg c6] at H
      exact absurd H (by simp)
    rw [if_pos c6] at H
    have c6b0 : decide (0 ≤ x6_1) = true := decide_eq_true c6
    clear c6
    have H9 := Aside0.mk H
    clear H
    have hnb7 := NB494_495.out
    have hnc7 := NB495_494.out
    have hcz8_0 : wr.cell? ⟨gb494, 0, none⟩ = some (.slice A0_0 l0_0.length c0_0) := (blk_cell BK494.out 0).trans rfl
    have hfz8_0 := blk_frozen BK494.out 0
    have p496 : 0 ≤ (x6_1 : Int) := of_decide_eq_true u13_12
    have q496 : x6_1 < (l0_0.length : Int) := of_decide_eq_true u13_12
    obtain ⟨ad496, e496, hx496_0, hx496_1, hx496_2, hx496_3, hx496_4⟩ := at_T53 HR0_0.out x6_1 p496 q496
    cases e496
    replace hx496_0 := (HB.out.cell (World.block_lt_of_cell? w _ hx496_0)).trans hx496_0
    replace hx496_1 := (HB.out.cell (World.block_lt_of_cell? w _ hx496_1)).trans hx496_1
    replace hx496_2 := (HB.out.cell (World.block_lt_of_cell? w _ hx496_2)).trans hx496_2
    replace hx496_3 := (HB.out.cell (World.block_lt_of_cell? w _ hx496_3)).trans hx496_3
    replace hx496_4 := (HB.out.cell (World.block_lt_of_cell? w _ hx496_4)).trans hx496_4
    replace p496 := eq_true p496
    replace q496 := eq_true q496
    go_upto_if 21 with (fail)
    have H := H9.out
    clear H9
    by_cases c9 : ((rd_T53 l0_0 x6_1).f0) = a1
    rotate_left
    · rw [if_neg c9] at H
      have c9b0 : (((rd_T53 l0_0 x6_1).f0) == a1) = false := beq_eq_false_iff_ne.mpr c9
      have c9b1 : (((rd_T53 l0_0 x6_1).f0) != a1) = true := bne_iff_ne.mpr c9
      (first | rw [c9b0] | (simp only [i64_w, i32_w]; rw [c9b0]) | skip)
      have H' := Aside0.mk H
      clear H
      go_wp2
      go_roundg k1
      case measure => have := HK1.out; omega
      case rel => exact ⟨(wrap64 (x6_1 + 1)), (x496000_1), (x496001_1), (x496002_1), (x496003_1), (x496004_1), u13_16, H', ⟨by have := HK1.out; omega⟩, ⟨u13_10⟩, ⟨u13_17⟩, ⟨u13_9⟩⟩
    rw [if_pos c9] at H
    have c9b0 : (((rd_T53 l0_0 x6_1).f0) == a1) = true := beq_iff_eq.mpr c9
    have c9b1 : (((rd_T53 l0_0 x6_1).f0) != a1) = false := bne_eq_false_iff_eq.mpr c9
    clear c9
    (first | rw [c9b0] | (simp only [i64_w, i32_w]; rw [c9b0]) | skip)
    simp only [Option.some.injEq, Prod.mk.injEq] at H
    obtain ⟨rfl, rfl, rfl, rfl, rfl, rfl⟩ := H
    have hnb10 := NB494_495.out
    have hnc10 := NB495_494.out
    have hcz11_0 : wr.cell? ⟨gb494, 0, none⟩ = some (.slice (some ad496) l0_0.length c0_0) := (blk_cell BK494.out 0).trans rfl
    have hfz11_0 := blk_frozen BK494.out 0
    have p497 : 0 ≤ (x6_1 : Int) := of_decide_eq_true u13_12
    have q497 : x6_1 < (l0_0.length : Int) := of_decide_eq_true u13_12
    obtain ⟨ad497, e497, hx497_0, hx497_1, hx497_2, hx497_3, hx497_4⟩ := at_T53 HR0_0.out x6_1 p497 q497
    obtain rfl : ad496 = ad497 := (by injection e497)
    replace hx497_0 := (HB.out.cell (World.block_lt_of_cell? w _ hx497_0)).trans hx497_0
    replace hx497_1 := (HB.out.cell (World.block_lt_of_cell? w _ hx497_1)).trans hx497_1
    replace hx497_2 := (HB.out.cell (World.block_lt_of_cell? w _ hx497_2)).trans hx497_2
    replace hx497_3 := (HB.out.cell (World.block_lt_of_cell? w _ hx497_3)).trans hx497_3
    replace hx497_4 := (HB.out.cell (World.block_lt_of_cell? w _ hx497_4)).trans hx497_4
    replace p497 := eq_true p497
    replace q497 := eq_true q497
    have hcz12_0 : wr.cell? ⟨gb495, 0, none⟩ = some (.int .u64 x496000_1) := (blk_cell BK495.out 0).trans rfl
    have hcz12_1 : wr.cell? ⟨gb495, 1, none⟩ = some (.int .u64 x496001_1) := (blk_cell BK495.out 1).trans rfl
    have hcz12_2 : wr.cell? ⟨gb495, 2, none⟩ = some (.int .u64 x496002_1) := (blk_cell BK495.out 2).trans rfl
    have hcz12_3 : wr.cell? ⟨gb495, 3, none⟩ = some (.int .u64 x496003_1) := (blk_cell BK495.out 3).trans rfl
    have hcz12_4 : wr.cell? ⟨gb495, 4, none⟩ = some (.int .i64 x496004_1) := (blk_cell BK495.out 4).trans rfl
    have hfz12_0 := blk_frozen BK495.out 0
    have hfz12_1 := blk_frozen BK495.out 1
    have hfz12_2 := blk_frozen BK495.out 2
    have hfz12_3 := blk_frozen BK495.out 3
    have hfz12_4 := blk_frozen BK495.out 4
    go_wp2
    refine bodyPost_ret (results_ct rfl _ _ gb495 53 #[.int .u64 ((rd_T53 l0_0 x6_1).f0), .int .u64 ((rd_T53 l0_0 x6_1).f1), .int .u64 ((rd_T53 l0_0 x6_1).f2), .int .u64 ((rd_T53 l0_0 x6_1).f3), .int .i64 ((rd_T53 l0_0 x6_1).f4)] (0, 0) _ rfl (by (with_reducible repeat (first | refine blk_drewN ?_ _ | refine blk_drew ?_ | refine blk_alloc ?_ _)); refine blk_put (cs := #[.int .u64 ((rd_T53 l0_0 x6_1).f0), .int .u64 ((rd_T53 l0_0 x6_1).f1), .int .u64 ((rd_T53 l0_0 x6_1).f2), .int .u64 ((rd_T53 l0_0 x6_1).f3), .int .i64 x496004_1]) ?_ 4 _ rfl; (with_reducible repeat (first | refine blk_drewN ?_ _ | refine blk_drew ?_ | refine blk_alloc ?_ _)); refine blk_put (cs := #[.int .u64 ((rd_T53 l0_0 x6_1).f0), .int .u64 ((rd_T53 l0_0 x6_1).f1), .int .u64 ((rd_T53 l0_0 x6_1).f2), .int .u64 x496003_1, .int .i64 x496004_1]) ?_ 3 _ rfl; (with_reducible repeat (first | refine blk_drewN ?_ _ | refine blk_drew ?_ | refine blk_alloc ?_ _)); refine blk_put (cs := #[.int .u64 ((rd_T53 l0_0 x6_1).f0), .int .u64 ((rd_T53 l0_0 x6_1).f1), .int .u64 x496002_1, .int .u64 x496003_1, .int .i64 x496004_1]) ?_ 2 _ rfl; (with_reducible repeat (first | refine blk_drewN ?_ _ | refine blk_drew ?_ | refine blk_alloc ?_ _)); refine blk_put (cs := #[.int .u64 ((rd_T53 l0_0 x6_1).f0), .int .u64 x496001_1, .int .u64 x496002_1, .int .u64 x496003_1, .int .i64 x496004_1]) ?_ 1 _ rfl; (with_reducible repeat (first | refine blk_drewN ?_ _ | refine blk_drew ?_ | refine blk_alloc ?_ _)); refine blk_put (cs := #[.int .u64 x496000_1, .int .u64 x496001_1, .int .u64 x496002_1, .int .u64 x496003_1, .int .i64 x496004_1]) ?_ 0 _ rfl; (with_reducible repeat (first | refine blk_drewN ?_ _ | refine blk_drew ?_ | refine blk_alloc ?_ _)); exact BK495.out) Try.underlying53 rfl (by kernel_rfl)) rfl ?_
    exact ⟨by first | rfl | (simp [errW_none, errW_some] <;> rfl) | (simp [*, errW_none, errW_some] <;> rfl), u13_9⟩

/-! ### laws_sameBook: function 47 -/
def laws_sameBook.l0 : Nat → Int → List (S53) → List (S53) → Option (Bool)
  | 0, _, _, _ => none
  | k + 1, x5, x499000, x500000 => if x5 < (x499000.length : Int) then (if 0 ≤ x5 then (if x5 < (x500000.length : Int) then (if (!(((rd_T53 x499000 x5).f0) == ((rd_T53 x500000 x5).f0)) || (!(((rd_T53 x499000 x5).f1) == ((rd_T53 x500000 x5).f1)) || (!(((rd_T53 x499000 x5).f2) == ((rd_T53 x500000 x5).f2)) || (!(((rd_T53 x499000 x5).f3) == ((rd_T53 x500000 x5).f3)) || (!(((rd_T53 x499000 x5).f4) == ((rd_T53 x500000 x5).f4))))))) = true then (some false) else (laws_sameBook.l0 k (wrap64 (x5 + 1)) x499000 x500000)) else (none)) else (none)) else (some true)
def laws_sameBook.f (k : Nat) (l0_0 : List (S53)) (l1_0 : List (S53)) : Option (Bool) := if (l0_0.length : Int) = (l1_0.length : Int) then (laws_sameBook.l0 k 0 l0_0 l1_0) else (some false)
theorem laws_sameBook.mono_l : ∀ k, (∀ y0 y1 y2, LeO (laws_sameBook.l0 k y0 y1 y2) (laws_sameBook.l0 (k + 1) y0 y1 y2))
  | 0 => fun _ _ _ r h => by simp [laws_sameBook.l0] at h
  | k + 1 => by
    have ih0 := laws_sameBook.mono_l k
    · intro y0 y1 y2
      unfold laws_sameBook.l0
      repeat' first
      | (with_reducible exact ih0 _ _ _)
      | (with_reducible exact LeO.refl _)
      | (with_reducible exact LeO.none _)
      | (with_reducible refine LeO.ite ?_ ?_)
      | (with_reducible refine LeO.bind ?_ (fun _ => ?_))
      | exact ih0 _ _ _
      | exact LeO.none _
      | refine LeO.ite ?_ ?_
      | refine LeO.bind ?_ (fun _ => ?_)
theorem laws_sameBook.mono : ∀ a0 a1 k, LeO (laws_sameBook.f k a0 a1) (laws_sameBook.f (k + 1) a0 a1) := by
  intro a0 a1 k
  have ih0 := laws_sameBook.mono_l k
  unfold laws_sameBook.f
  repeat' first
      | (with_reducible exact ih0 _ _ _)
      | (with_reducible exact LeO.refl _)
      | (with_reducible exact LeO.none _)
      | (with_reducible refine LeO.ite ?_ ?_)
      | (with_reducible refine LeO.bind ?_ (fun _ => ?_))
      | exact ih0 _ _ _
      | exact LeO.none _
      | refine LeO.ite ?_ ?_
      | refine LeO.bind ?_ (fun _ => ?_)
set_option maxHeartbeats 8000000 in
set_option maxRecDepth 100000 in
theorem laws_sameBook.calls (k : Nat) (A0_0 : Option Addr) (c0_0 : Nat) (l0_0 : List (S53)) (A1_0 : Option Addr) (c1_0 : Nat) (l1_0 : List (S53)) (r : Bool) (w : World) (hr0_0 : Kd.C k53 w A0_0 l0_0.length l0_0) (hc0_0 : l0_0.length ≤ c0_0) (hr1_0 : Kd.C k53 w A1_0 l1_0.length l1_0) (hc1_0 : l1_0.length ≤ c1_0) (h : laws_sameBook.f k l0_0 l1_0 = some r) :
    Calls Try.prog 47 #[.agg #[.slice A0_0 l0_0.length c0_0], .agg #[.slice A1_0 l1_0.length c1_0]] w fun e w' => e = .returned (.bool r) ∧ Below w.heap.size w w' := by
  have hu29 := Try.underlying29
  have hu53 := Try.underlying53
  have HR0_0 := Aside0.mk hr0_0
  have HC0_0 := Aside0.mk hc0_0
  clear hr0_0 hc0_0
  have HR1_0 := Aside0.mk hr1_0
  have HC1_0 := Aside0.mk hc1_0
  clear hr1_0 hc1_0
  have HB := Aside0.mk (Below.refl w.heap.size w)
  have H : (if (l0_0.length : Int) = (l1_0.length : Int) then (laws_sameBook.l0 k 0 l0_0 l1_0) else (some false)) = some r := h
  clear h
  have H9 := Aside0.mk H
  clear H
  go_enter Try.func47, Try.ntmps47
  go_upto_if 12 with (first | ((with_reducible refine gate_dst (N := 2) rfl ?_); refine box_event ?hg (N := 2) ?hd (cs := #[.slice A0_0 l0_0.length c0_0]) (t := 29) ?hr ?_; (case hd => rfl); (case hg => rfl); (case hr => first | (go_simp; done) | (go_simp; rfl)); intro gb498 hg w3 hbox hb; have n0_ := Aside0.mk (below_step u13_0 hb); have n1_ := Aside0.mk (hbox); have n2_ := Aside0.mk ((by rw [hg]; exact (below_size u13_0) : w.heap.size ≤ gb498)); have n3_ := Aside0.mk ((by rw [hg]; exact (below_size u13_0) : w.heap.size ≤ gb498)); clear HB; have HB := n0_; have BK498 := n1_; have GW498 := n2_; have GE498 := n3_; clear n0_ n1_ n2_ n3_; clear hb hbox hg) | ((with_reducible refine gate_dst (N := 3) rfl ?_); refine box_event ?hg (N := 3) ?hd (cs := #[.slice A1_0 l1_0.length c1_0]) (t := 29) ?hr ?_; (case hd => rfl); (case hg => rfl); (case hr => first | (go_simp; done) | (go_simp; rfl)); intro gb499 hg w4 hbox hb; have n0_ := Aside0.mk (blk_below (g := gb498) (o := .cells #[.slice A0_0 l0_0.length c0_0] 29 (0, 0)) u13_2 hb); have n1_ := Aside0.mk (below_step u13_1 hb); have n2_ := Aside0.mk (hbox); have n3_ := Aside0.mk ((by rw [hg]; exact (below_size u13_1) : w.heap.size ≤ gb499)); have n4_ := Aside0.mk ((by rw [hg]; exact (below_size u13_1) : w.heap.size ≤ gb499)); have n5_ := Aside0.mk ((by rw [hg]; exact Nat.ne_of_lt (blk_lt (g := gb498) (o := .cells #[.slice A0_0 l0_0.length c0_0] 29 (0, 0)) u13_2) : gb498 ≠ gb499)); have n6_ := Aside0.mk ((by rw [hg]; exact Nat.ne_of_gt (blk_lt (g := gb498) (o := .cells #[.slice A0_0 l0_0.length c0_0] 29 (0, 0)) u13_2) : gb499 ≠ gb498)); clear BK498; clear HB; have BK498 := n0_; have HB := n1_; have BK499 := n2_; have GW499 := n3_; have GE499 := n4_; have NB498_499 := n5_; have NB499_498 := n6_; clear n0_ n1_ n2_ n3_ n4_ n5_ n6_; clear hb hbox hg; have hnb5 := NB498_499.out; have hnc5 := NB499_498.out; have hcz6_0 : w4.cell? ⟨gb498, 0, none⟩ = some (.slice A0_0 l0_0.length c0_0) := (blk_cell BK498.out 0).trans rfl; have hfz6_0 := blk_frozen BK498.out 0; have hcz7_0 : w4.cell? ⟨gb499, 0, none⟩ = some (.slice A1_0 l1_0.length c1_0) := (blk_cell BK499.out 0).trans rfl; have hfz7_0 := blk_frozen BK499.out 0))
  repeat (go_quiet (first | ((with_reducible refine gate_dst (N := 2) rfl ?_); refine box_event ?hg (N := 2) ?hd (cs := #[.slice A0_0 l0_0.length c0_0]) (t := 29) ?hr ?_; (case hd => rfl); (case hg => rfl); (case hr => first | (go_simp; done) | (go_simp; rfl)); intro gb498 hg w3 hbox hb; have n0_ := Aside0.mk (below_step u13_0 hb); have n1_ := Aside0.mk (hbox); have n2_ := Aside0.mk ((by rw [hg]; exact (below_size u13_0) : w.heap.size ≤ gb498)); have n3_ := Aside0.mk ((by rw [hg]; exact (below_size u13_0) : w.heap.size ≤ gb498)); clear HB; have HB := n0_; have BK498 := n1_; have GW498 := n2_; have GE498 := n3_; clear n0_ n1_ n2_ n3_; clear hb hbox hg) | ((with_reducible refine gate_dst (N := 3) rfl ?_); refine box_event ?hg (N := 3) ?hd (cs := #[.slice A1_0 l1_0.length c1_0]) (t := 29) ?hr ?_; (case hd => rfl); (case hg => rfl); (case hr => first | (go_simp; done) | (go_simp; rfl)); intro gb499 hg w4 hbox hb; have n0_ := Aside0.mk (blk_below (g := gb498) (o := .cells #[.slice A0_0 l0_0.length c0_0] 29 (0, 0)) u13_2 hb); have n1_ := Aside0.mk (below_step u13_1 hb); have n2_ := Aside0.mk (hbox); have n3_ := Aside0.mk ((by rw [hg]; exact (below_size u13_1) : w.heap.size ≤ gb499)); have n4_ := Aside0.mk ((by rw [hg]; exact (below_size u13_1) : w.heap.size ≤ gb499)); have n5_ := Aside0.mk ((by rw [hg]; exact Nat.ne_of_lt (blk_lt (g := gb498) (o := .cells #[.slice A0_0 l0_0.length c0_0] 29 (0, 0)) u13_2) : gb498 ≠ gb499)); have n6_ := Aside0.mk ((by rw [hg]; exact Nat.ne_of_gt (blk_lt (g := gb498) (o := .cells #[.slice A0_0 l0_0.length c0_0] 29 (0, 0)) u13_2) : gb499 ≠ gb498)); clear BK498; clear HB; have BK498 := n0_; have HB := n1_; have BK499 := n2_; have GW499 := n3_; have GE499 := n4_; have NB498_499 := n5_; have NB499_498 := n6_; clear n0_ n1_ n2_ n3_ n4_ n5_ n6_; clear hb hbox hg; have hnb5 := NB498_499.out; have hnc5 := NB499_498.out; have hcz6_0 : w4.cell? ⟨gb498, 0, none⟩ = some (.slice A0_0 l0_0.length c0_0) := (blk_cell BK498.out 0).trans rfl; have hfz6_0 := blk_frozen BK498.out 0; have hcz7_0 : w4.cell? ⟨gb499, 0, none⟩ = some (.slice A1_0 l1_0.length c1_0) := (blk_cell BK499.out 0).trans rfl; have hfz7_0 := blk_frozen BK499.out 0)); go_upto_if 12 with (first | ((with_reducible refine gate_dst (N := 2) rfl ?_); refine box_event ?hg (N := 2) ?hd (cs := #[.slice A0_0 l0_0.length c0_0]) (t := 29) ?hr ?_; (case hd => rfl); (case hg => rfl); (case hr => first | (go_simp; done) | (go_simp; rfl)); intro gb498 hg w3 hbox hb; have n0_ := Aside0.mk (below_step u13_0 hb); have n1_ := Aside0.mk (hbox); have n2_ := Aside0.mk ((by rw [hg]; exact (below_size u13_0) : w.heap.size ≤ gb498)); have n3_ := Aside0.mk ((by rw [hg]; exact (below_size u13_0) : w.heap.size ≤ gb498)); clear HB; have HB := n0_; have BK498 := n1_; have GW498 := n2_; have GE498 := n3_; clear n0_ n1_ n2_ n3_; clear hb hbox hg) | ((with_reducible refine gate_dst (N := 3) rfl ?_); refine box_event ?hg (N := 3) ?hd (cs := #[.slice A1_0 l1_0.length c1_0]) (t := 29) ?hr ?_; (case hd => rfl); (case hg => rfl); (case hr => first | (go_simp; done) | (go_simp; rfl)); intro gb499 hg w4 hbox hb; have n0_ := Aside0.mk (blk_below (g := gb498) (o := .cells #[.slice A0_0 l0_0.length c0_0] 29 (0, 0)) u13_2 hb); have n1_ := Aside0.mk (below_step u13_1 hb); have n2_ := Aside0.mk (hbox); have n3_ := Aside0.mk ((by rw [hg]; exact (below_size u13_1) : w.heap.size ≤ gb499)); have n4_ := Aside0.mk ((by rw [hg]; exact (below_size u13_1) : w.heap.size ≤ gb499)); have n5_ := Aside0.mk ((by rw [hg]; exact Nat.ne_of_lt (blk_lt (g := gb498) (o := .cells #[.slice A0_0 l0_0.length c0_0] 29 (0, 0)) u13_2) : gb498 ≠ gb499)); have n6_ := Aside0.mk ((by rw [hg]; exact Nat.ne_of_gt (blk_lt (g := gb498) (o := .cells #[.slice A0_0 l0_0.length c0_0] 29 (0, 0)) u13_2) : gb499 ≠ gb498)); clear BK498; clear HB; have BK498 := n0_; have HB := n1_; have BK499 := n2_; have GW499 := n3_; have GE499 := n4_; have NB498_499 := n5_; have NB499_498 := n6_; clear n0_ n1_ n2_ n3_ n4_ n5_ n6_; clear hb hbox hg; have hnb5 := NB498_499.out; have hnc5 := NB499_498.out; have hcz6_0 : w4.cell? ⟨gb498, 0, none⟩ = some (.slice A0_0 l0_0.length c0_0) := (blk_cell BK498.out 0).trans rfl; have hfz6_0 := blk_frozen BK498.out 0; have hcz7_0 : w4.cell? ⟨gb499, 0, none⟩ = some (.slice A1_0 l1_0.length c1_0) := (blk_cell BK499.out 0).trans rfl; have hfz7_0 := blk_frozen BK499.out 0)))
  have H := H9.out
  clear H9
  by_cases c8 : (l0_0.length : Int) = (l1_0.length : Int)
  rotate_left
  · rw [if_neg c8] at H
    have c8b0 : ((l0_0.length : Int) == (l1_0.length : Int)) = false := beq_eq_false_iff_ne.mpr c8
    have c8b1 : ((l0_0.length : Int) != (l1_0.length : Int)) = true := bne_iff_ne.mpr c8
    have c8b2 : (l0_0.length == l1_0.length) = false := by first | simpa using c8 | (simp at c8 ⊢; omega)
    (first | rw [c8b0] | (simp only [i64_w, i32_w]; rw [c8b0]) | skip)
    obtain rfl := Option.some.inj H
    go_wp2
    repeat (go_quiet (fail); try go_wp2)
    go_ret
    exact ⟨by first | rfl | (simp [errW_none, errW_some] <;> rfl) | (simp [*, errW_none, errW_some] <;> rfl), u13_6⟩
  rw [if_pos c8] at H
  have c8b0 : ((l0_0.length : Int) == (l1_0.length : Int)) = true := beq_iff_eq.mpr c8
  have c8b1 : ((l0_0.length : Int) != (l1_0.length : Int)) = false := bne_eq_false_iff_eq.mpr c8
  have c8b2 : (l0_0.length == l1_0.length) = true := by first | simpa using c8 | (simp at c8 ⊢; omega)
  clear c8
  (first | rw [c8b0] | (simp only [i64_w, i32_w]; rw [c8b0]) | skip)
  have H' := Aside0.mk H
  clear H
  go_wp2
  repeat (go_quiet (fail); try go_wp2)
  go_loopg [5] k (fun kq v5 w' => ∃ (x5_1 : Int), v5 = .int .i64 x5_1 ∧ Aside0 (laws_sameBook.l0 kq x5_1 l0_0 l1_0 = some r) ∧ Aside0 (kq ≤ k) ∧ Aside0 (w'.heap[gb498]? = some (.cells #[(.slice A0_0 l0_0.length c0_0)] 29 (0, 0))) ∧ Aside0 (w'.heap[gb499]? = some (.cells #[(.slice A1_0 l1_0.length c1_0)] 29 (0, 0))) ∧ Aside0 (Below w.heap.size w w'))
  case atStart => exact ⟨(0), u13_16, H', ⟨Nat.le_refl _⟩, ⟨u13_2⟩, ⟨u13_18⟩, ⟨u13_6⟩⟩
  clear H'
  try clear c1
  try clear p2
  try clear c4
  try clear c5
  try clear c8
  try clear c8b0
  try clear c8b1
  try clear c8b2
  try clear hcz6_0
  try clear hcz7_0
  try clear hfz6_0
  try clear hfz7_0
  obtain ⟨x5_1, rfl, HA, HK1, BK498, BK499, HB⟩ := hrel
  cases gk with
  | zero => exact absurd HA.out (by simp [laws_sameBook.l0])
  | succ k1 =>
    have H := HA.out
    clear HA
    simp only [laws_sameBook.l0] at H
    by_cases c9 : x5_1 < (l0_0.length : Int)
    rotate_left
    · rw [if_neg c9] at H
      have c9b0 : decide (x5_1 < (l0_0.length : Int)) = false := decide_eq_false c9
      clear c9
      obtain rfl := Option.some.inj H
      have hnb16 := NB498_499.out
      have hnc16 := NB499_498.out
      have hcz17_0 : wr.cell? ⟨gb498, 0, none⟩ = some (.slice A0_0 l0_0.length c0_0) := (blk_cell BK498.out 0).trans rfl
      have hfz17_0 := blk_frozen BK498.out 0
      go_wp2
      repeat (go_quiet (fail); try go_wp2)
      go_ret
      exact ⟨by first | rfl | (simp [errW_none, errW_some] <;> rfl) | (simp [*, errW_none, errW_some] <;> rfl), u13_6⟩
    rw [if_pos c9] at H
    have c9b0 : decide (x5_1 < (l0_0.length : Int)) = true := decide_eq_true c9
    clear c9
    by_cases c10 : 0 ≤ x5_1
    rotate_left
    · rw [if_neg c10] at H
      exact absurd H (by simp)
    rw [if_pos c10] at H
    have c10b0 : decide (0 ≤ x5_1) = true := decide_eq_true c10
    clear c10
    by_cases c11 : x5_1 < (l1_0.length : Int)
    rotate_left
    · rw [if_neg c11] at H
      exact absurd H (by simp)
    rw [if_pos c11] at H
    have c11b0 : decide (x5_1 < (l1_0.length : Int)) = true := decide_eq_true c11
    clear c11
    have H9 := Aside0.mk H
    clear H
    have hnb12 := NB498_499.out
    have hnc12 := NB499_498.out
    have hcz13_0 : wr.cell? ⟨gb498, 0, none⟩ = some (.slice A0_0 l0_0.length c0_0) := (blk_cell BK498.out 0).trans rfl
    have hfz13_0 := blk_frozen BK498.out 0
    have p500 : 0 ≤ (x5_1 : Int) := of_decide_eq_true u13_12
    have q500 : x5_1 < (l0_0.length : Int) := of_decide_eq_true u13_12
    obtain ⟨ad500, e500, hx500_0, hx500_1, hx500_2, hx500_3, hx500_4⟩ := at_T53 HR0_0.out x5_1 p500 q500
    cases e500
    replace hx500_0 := (HB.out.cell (World.block_lt_of_cell? w _ hx500_0)).trans hx500_0
    replace hx500_1 := (HB.out.cell (World.block_lt_of_cell? w _ hx500_1)).trans hx500_1
    replace hx500_2 := (HB.out.cell (World.block_lt_of_cell? w _ hx500_2)).trans hx500_2
    replace hx500_3 := (HB.out.cell (World.block_lt_of_cell? w _ hx500_3)).trans hx500_3
    replace hx500_4 := (HB.out.cell (World.block_lt_of_cell? w _ hx500_4)).trans hx500_4
    replace p500 := eq_true p500
    replace q500 := eq_true q500
    have hcz14_0 : wr.cell? ⟨gb499, 0, none⟩ = some (.slice A1_0 l1_0.length c1_0) := (blk_cell BK499.out 0).trans rfl
    have hfz14_0 := blk_frozen BK499.out 0
    have p501 : 0 ≤ (x5_1 : Int) := of_decide_eq_true u13_12
    have q501 : x5_1 < (l1_0.length : Int) := of_decide_eq_true u13_12
    obtain ⟨ad501, e501, hx501_0, hx501_1, hx501_2, hx501_3, hx501_4⟩ := at_T53 HR1_0.out x5_1 p501 q501
    cases e501
    replace hx501_0 := (HB.out.cell (World.block_lt_of_cell? w _ hx501_0)).trans hx501_0
    replace hx501_1 := (HB.out.cell (World.block_lt_of_cell? w _ hx501_1)).trans hx501_1
    replace hx501_2 := (HB.out.cell (World.block_lt_of_cell? w _ hx501_2)).trans hx501_2
    replace hx501_3 := (HB.out.cell (World.block_lt_of_cell? w _ hx501_3)).trans hx501_3
    replace hx501_4 := (HB.out.cell (World.block_lt_of_cell? w _ hx501_4)).trans hx501_4
    replace p501 := eq_true p501
    replace q501 := eq_true q501
    go_upto_if 30 with (fail)
    repeat (go_quiet (fail); go_upto_if 30 with (fail))
    have H := H9.out
    clear H9
    by_cases c15 : (!(((rd_T53 l0_0 x5_1).f0) == ((rd_T53 l1_0 x5_1).f0)) || (!(((rd_T53 l0_0 x5_1).f1) == ((rd_T53 l1_0 x5_1).f1)) || (!(((rd_T53 l0_0 x5_1).f2) == ((rd_T53 l1_0 x5_1).f2)) || (!(((rd_T53 l0_0 x5_1).f3) == ((rd_T53 l1_0 x5_1).f3)) || (!(((rd_T53 l0_0 x5_1).f4) == ((rd_T53 l1_0 x5_1).f4))))))) = true
    · rw [if_pos c15] at H
      have c15b0 : (!(((rd_T53 l0_0 x5_1).f0) == ((rd_T53 l1_0 x5_1).f0)) || (!(((rd_T53 l0_0 x5_1).f1) == ((rd_T53 l1_0 x5_1).f1)) || (!(((rd_T53 l0_0 x5_1).f2) == ((rd_T53 l1_0 x5_1).f2)) || (!(((rd_T53 l0_0 x5_1).f3) == ((rd_T53 l1_0 x5_1).f3)) || (!(((rd_T53 l0_0 x5_1).f4) == ((rd_T53 l1_0 x5_1).f4))))))) = true := c15
      clear c15
      (first | rw [c15b0] | (simp only [i64_w, i32_w]; rw [c15b0]) | skip)
      obtain rfl := Option.some.inj H
      go_wp2
      repeat (go_quiet (fail); try go_wp2)
      go_ret
      exact ⟨by first | rfl | (simp [errW_none, errW_some] <;> rfl) | (simp [*, errW_none, errW_some] <;> rfl), u13_6⟩
    rw [if_neg c15] at H
    have c15b0 : (!(((rd_T53 l0_0 x5_1).f0) == ((rd_T53 l1_0 x5_1).f0)) || (!(((rd_T53 l0_0 x5_1).f1) == ((rd_T53 l1_0 x5_1).f1)) || (!(((rd_T53 l0_0 x5_1).f2) == ((rd_T53 l1_0 x5_1).f2)) || (!(((rd_T53 l0_0 x5_1).f3) == ((rd_T53 l1_0 x5_1).f3)) || (!(((rd_T53 l0_0 x5_1).f4) == ((rd_T53 l1_0 x5_1).f4))))))) = false := by simpa using c15
    clear c15
    (first | rw [c15b0] | (simp only [i64_w, i32_w]; rw [c15b0]) | skip)
    have H' := Aside0.mk H
    clear H
    go_wp2
    repeat (go_quiet (fail); try go_wp2)
    go_roundg k1
    case measure => have := HK1.out; omega
    case rel => exact ⟨(wrap64 (x5_1 + 1)), u13_16, H', ⟨by have := HK1.out; omega⟩, ⟨u13_2⟩, ⟨u13_18⟩, ⟨u13_6⟩⟩

end Go.Proofs.Ytdbfjakhkclggaa.QFnBook
