-- Printed by the session's own program wip/prx.py.
import Derived.Test.YtdbfjakhkclggaaQFnExactCloseAccountx0
import Derived.Test.YtdbfjakhkclggaaQFnExactCloseAccountx4
namespace Go.Proofs.Ytdbfjakhkclggaa.QFnExactCloseAccount
open Go.RowKit Go.Proofs.YtdbfjakhkclggaaW.PrintWords Go.Proofs.YtdbfjakhkclggaaW.PrintLast Go.Proofs.YtdbfjakhkclggaaW.PrintMore
attribute [local go_sem] max2_int min2_int max_two min_two max_three min_three max_four min_four Go.Proofs.Ytdbfjakhkclggaa.Set.isSome_setCell Go.Proofs.Ytdbfjakhkclggaa.Add.add64   -- for this text's walks alone
set_option linter.unusedVariables false
set_option linter.unusedSimpArgs false

-- squeezed
theorem u5_0 {P : Prop} (h : P := by (with_reducible repeat (first | refine blk_drewN ?_ _ | refine blk_drew ?_ | refine blk_alloc ?_ _)); refine blk_put (cs := #[.int .u64 t165, .int .u64 t166, .int .u64 t167, .int .u64 t168, .int .i64 0]) ?_ 4 _ rfl; (with_reducible repeat (first | refine blk_drewN ?_ _ | refine blk_drew ?_ | refine blk_alloc ?_ _)); refine blk_put (cs := #[.int .u64 t165, .int .u64 t166, .int .u64 t167, .int .u64 0, .int .i64 0]) ?_ 3 _ rfl; (with_reducible repeat (first | refine blk_drewN ?_ _ | refine blk_drew ?_ | refine blk_alloc ?_ _)); refine blk_put (cs := #[.int .u64 t165, .int .u64 t166, .int .u64 0, .int .u64 0, .int .i64 0]) ?_ 2 _ rfl; (with_reducible repeat (first | refine blk_drewN ?_ _ | refine blk_drew ?_ | refine blk_alloc ?_ _)); refine blk_put (cs := #[.int .u64 t165, .int .u64 0, .int .u64 0, .int .u64 0, .int .i64 0]) ?_ 1 _ rfl; (with_reducible repeat (first | refine blk_drewN ?_ _ | refine blk_drew ?_ | refine blk_alloc ?_ _)); refine blk_put (cs := #[.int .u64 0, .int .u64 0, .int .u64 0, .int .u64 0, .int .i64 0]) ?_ 0 _ rfl; (with_reducible repeat (first | refine blk_drewN ?_ _ | refine blk_drew ?_ | refine blk_alloc ?_ _)); exact BK171.out) : P := h
theorem u5_1 {P : Prop} (h : P := by (with_reducible repeat (first | refine blk_drewN ?_ _ | refine blk_drew ?_ | refine blk_alloc ?_ _)); refine blk_far ?_ NB163_171.out _; (with_reducible repeat (first | refine blk_drewN ?_ _ | refine blk_drew ?_ | refine blk_alloc ?_ _)); refine blk_far ?_ NB163_171.out _; (with_reducible repeat (first | refine blk_drewN ?_ _ | refine blk_drew ?_ | refine blk_alloc ?_ _)); refine blk_far ?_ NB163_171.out _; (with_reducible repeat (first | refine blk_drewN ?_ _ | refine blk_drew ?_ | refine blk_alloc ?_ _)); refine blk_far ?_ NB163_171.out _; (with_reducible repeat (first | refine blk_drewN ?_ _ | refine blk_drew ?_ | refine blk_alloc ?_ _)); refine blk_far ?_ NB163_171.out _; (with_reducible repeat (first | refine blk_drewN ?_ _ | refine blk_drew ?_ | refine blk_alloc ?_ _)); exact BK163.out) : P := h
theorem u5_2 {P : Prop} (h : P := by (with_reducible repeat (first | refine blk_drewN ?_ _ | refine blk_drew ?_ | refine blk_alloc ?_ _)); refine blk_far ?_ NB164_171.out _; (with_reducible repeat (first | refine blk_drewN ?_ _ | refine blk_drew ?_ | refine blk_alloc ?_ _)); refine blk_far ?_ NB164_171.out _; (with_reducible repeat (first | refine blk_drewN ?_ _ | refine blk_drew ?_ | refine blk_alloc ?_ _)); refine blk_far ?_ NB164_171.out _; (with_reducible repeat (first | refine blk_drewN ?_ _ | refine blk_drew ?_ | refine blk_alloc ?_ _)); refine blk_far ?_ NB164_171.out _; (with_reducible repeat (first | refine blk_drewN ?_ _ | refine blk_drew ?_ | refine blk_alloc ?_ _)); refine blk_far ?_ NB164_171.out _; (with_reducible repeat (first | refine blk_drewN ?_ _ | refine blk_drew ?_ | refine blk_alloc ?_ _)); exact BK164.out) : P := h
theorem u5_3 {P : Prop} (h : P := by (with_reducible repeat (first | refine blk_drewN ?_ _ | refine blk_drew ?_ | refine blk_alloc ?_ _)); exact BK163.out) : P := h
theorem u5_4 {P : Prop} (h : P := by repeat (first | (with_reducible first | exact HB.out | apply below_alloc | apply pw_below_drewN | apply below_drew1 | refine below_set ?_ GE163.out | refine below_set ?_ GE164.out) | exact HB.out)) : P := h
theorem u5_5 {P : Prop} (h : P := by repeat (first | (with_reducible first | exact HB.out | apply below_alloc | apply pw_below_drewN | apply below_drew1 | refine below_set ?_ GE163.out | refine below_set ?_ GE164.out | refine below_set ?_ GE171.out) | exact HB.out)) : P := h
theorem u5_6 {P : Prop} (h : P := by (with_reducible repeat (first | refine blk_drewN ?_ _ | refine blk_drew ?_ | refine blk_alloc ?_ _)); exact BK164.out) : P := h
theorem u5_7 {P : Prop} (h : P := by repeat (first | (with_reducible first | exact HB.out | apply below_alloc | apply pw_below_drewN | apply below_drew1 | refine below_set ?_ GE163.out) | exact HB.out)) : P := h
theorem u5_8 {P : Prop} (h : P := by repeat (first | (with_reducible first | exact HB.out | apply below_alloc | apply pw_below_drewN | apply below_drew1) | exact HB.out)) : P := h
theorem u5_9 {P : Prop} (h : P := by (try simp only [List.map_toArray, List.map_cons, List.map_nil]); first | done | rfl | (simp only [List.length_drop, List.length_take]; rfl)) : P := h
theorem u5_10 {P : Prop} (h : P := by (with_reducible repeat (first | refine blk_drewN ?_ _ | refine blk_drew ?_ | refine blk_alloc ?_ _)); refine blk_put (cs := #[.slice none 0 0]) ?_ 0 _ rfl; (with_reducible repeat (first | refine blk_drewN ?_ _ | refine blk_drew ?_ | refine blk_alloc ?_ _)); exact BK164.out) : P := h
theorem u5_11 {P : Prop} (h : P := by repeat (first | (with_reducible first | exact HB.out | apply below_alloc | apply pw_below_drewN | apply below_drew1 | refine below_set ?_ GE163.out | refine below_set ?_ GE164.out | refine below_set ?_ GE171.out | refine below_set ?_ GE181.out) | exact HB.out)) : P := h
theorem u5_12 {P : Prop} (h : P := by first | (with_reducible assumption) | assumption) : P := h
theorem u5_13 {P : Prop} (h : P := by (with_reducible repeat (first | refine blk_drewN ?_ _ | refine blk_drew ?_ | refine blk_alloc ?_ _)); exact BK171.out) : P := h
theorem u5_14 {P : Prop} (h : P := by first | rfl | (simp; done) | (simp [*]; done)) : P := h
/-! ### spec_CloseAccount: function 28 -/
def spec_CloseAccount.l0 : Nat → Int → Int → List (S53) → List (S53) → Option ((List (S53)) × Int)
  | 0, _, _, _, _ => none
  | k + 1, x1, x9, x164000, x182000 => if x9 < (x164000.length : Int) then (if 0 ≤ x9 then (if ((rd_T53 x164000 x9).f0) = x1 then (spec_CloseAccount.l0 k x1 (wrap64 (x9 + 1)) x164000 x182000) else (if x182000.length < 3518437208883 then (spec_CloseAccount.l0 k x1 (wrap64 (x9 + 1)) x164000 (x182000 ++ [(⟨(rd_T53 x164000 x9).f0, (rd_T53 x164000 x9).f1, (rd_T53 x164000 x9).f2, (rd_T53 x164000 x9).f3, (rd_T53 x164000 x9).f4⟩ : S53)])) else (none))) else (none)) else (some (x182000, 0))
def spec_CloseAccount.f (k : Nat) (l0_0 : List (S53)) (a1 : Int) : Option ((List (S53)) × Int) := (spec_l10Of.f k l0_0 a1 1).bind fun bt165 => (if bt165.2.2.2.2.2 = 0 then (if bt165.2.2.2.2.1 = 0 then (if bt165.2.1 = 0 then (spec_CloseAccount.l0 k a1 0 l0_0 ([] : List (S53))) else ((spec_l10Copy.f k l0_0).bind fun t172 => (some (t172, 4)))) else ((spec_l10Copy.f k l0_0).bind fun t175 => (some (t175, 6)))) else ((spec_l10Copy.f k l0_0).bind fun t178 => (some (t178, bt165.2.2.2.2.2))))
theorem spec_CloseAccount.mono_l : ∀ k, (∀ y0 y1 y2 y3, LeO (spec_CloseAccount.l0 k y0 y1 y2 y3) (spec_CloseAccount.l0 (k + 1) y0 y1 y2 y3))
  | 0 => fun _ _ _ _ r h => by simp [spec_CloseAccount.l0] at h
  | k + 1 => by
    have ih0 := spec_CloseAccount.mono_l k
    · intro y0 y1 y2 y3
      unfold spec_CloseAccount.l0
      repeat' first
      | (with_reducible exact ih0 _ _ _ _)
      | (with_reducible exact spec_l10Copy.mono _ _)
      | (with_reducible exact spec_l10Of.mono _ _ _ _)
      | (with_reducible exact LeO.refl _)
      | (with_reducible exact LeO.none _)
      | (with_reducible refine LeO.ite ?_ ?_)
      | (with_reducible refine LeO.bind ?_ (fun _ => ?_))
      | exact ih0 _ _ _ _
      | exact spec_l10Copy.mono _ _
      | exact spec_l10Of.mono _ _ _ _
      | exact LeO.none _
      | refine LeO.ite ?_ ?_
      | refine LeO.bind ?_ (fun _ => ?_)
theorem spec_CloseAccount.mono : ∀ a0 a1 k, LeO (spec_CloseAccount.f k a0 a1) (spec_CloseAccount.f (k + 1) a0 a1) := by
  intro a0 a1 k
  have ih0 := spec_CloseAccount.mono_l k
  unfold spec_CloseAccount.f
  repeat' first
      | (with_reducible exact ih0 _ _ _ _)
      | (with_reducible exact spec_l10Copy.mono _ _)
      | (with_reducible exact spec_l10Of.mono _ _ _ _)
      | (with_reducible exact LeO.refl _)
      | (with_reducible exact LeO.none _)
      | (with_reducible refine LeO.ite ?_ ?_)
      | (with_reducible refine LeO.bind ?_ (fun _ => ?_))
      | exact ih0 _ _ _ _
      | exact spec_l10Copy.mono _ _
      | exact spec_l10Of.mono _ _ _ _
      | exact LeO.none _
      | refine LeO.ite ?_ ?_
      | refine LeO.bind ?_ (fun _ => ?_)
def spec_CloseAccount.T13 : Bool × List (List Nat × List Nat) := (true, [([], []), ([0], [0]), ([], []), ([2], [2]), ([], []), ([3, 4], [3, 4]), ([5], [5]), ([6], [6]), ([1, 7], [1, 7]), ([0, 1, 2, 3, 4, 5, 6, 7, 8], []), ([9, 8, 8, 0, 1, 2, 3, 4, 5, 6, 7, 8], [8, 9])])
def spec_CloseAccount.B13 : List Nat := [0, 1, 0, 4, 0, 28, 60, 124, 255, 511, 1023]
theorem spec_CloseAccount.tab13 : rtab .any (opsOf Try.f28 13) = spec_CloseAccount.T13 := by kernel_rfl
theorem spec_CloseAccount.bits13 : waitsOk spec_CloseAccount.T13.2 spec_CloseAccount.B13 = true := by kernel_rfl
set_option maxHeartbeats 8000000 in
set_option maxRecDepth 100000 in
theorem spec_CloseAccount.calls (k : Nat) (A0_0 : Option Addr) (c0_0 : Nat) (l0_0 : List (S53)) (a1 : Int) (r1 : List (S53)) (r2 : Int) (w : World) (hr0_0 : Kd.C k53 w A0_0 l0_0.length l0_0) (hc0_0 : l0_0.length ≤ c0_0) (h : spec_CloseAccount.f k l0_0 a1 = some (r1, r2)) :
    Calls Try.prog 28 #[.agg #[.slice A0_0 l0_0.length c0_0], .int .u64 a1] w fun e w' => ∃ v0_ : Value, e = .returned (.tuple #[.agg #[v0_], .int .i64 r2]) ∧ Kd.R k53 53 w' w.heap.size (fun _ => True) v0_ r1 ∧ Below w.heap.size w w' := by
  have hu29 := Try.underlying29
  have hu53 := Try.underlying53
  have HR0_0 := Aside0.mk hr0_0
  have HC0_0 := Aside0.mk hc0_0
  clear hr0_0 hc0_0
  have HB := Aside0.mk (Below.refl w.heap.size w)
  have H : ((spec_l10Of.f k l0_0 a1 1).bind fun bt165 => (if bt165.2.2.2.2.2 = 0 then (if bt165.2.2.2.2.1 = 0 then (if bt165.2.1 = 0 then (spec_CloseAccount.l0 k a1 0 l0_0 ([] : List (S53))) else ((spec_l10Copy.f k l0_0).bind fun t172 => (some (t172, 4)))) else ((spec_l10Copy.f k l0_0).bind fun t175 => (some (t175, 6)))) else ((spec_l10Copy.f k l0_0).bind fun t178 => (some (t178, bt165.2.2.2.2.2))))) = some (r1, r2) := h
  clear h
  replace H := Option.bind_eq_some_iff.mp H
  obtain ⟨⟨t165, t166, t167, t168, t169, t170⟩, A30, H⟩ := H
  replace H : (if t170 = 0 then (if t169 = 0 then (if t166 = 0 then (spec_CloseAccount.l0 k a1 0 l0_0 ([] : List (S53))) else ((spec_l10Copy.f k l0_0).bind fun t172 => (some (t172, 4)))) else ((spec_l10Copy.f k l0_0).bind fun t175 => (some (t175, 6)))) else ((spec_l10Copy.f k l0_0).bind fun t178 => (some (t178, t170)))) = some (r1, r2) := H
  have A3 := Aside0.mk A30
  clear A30
  by_cases c4 : t170 = 0
  · rw [if_pos c4] at H
    have c4b0 : (t170 == 0) = true := beq_iff_eq.mpr c4
    have c4b1 : (t170 != 0) = false := bne_eq_false_iff_eq.mpr c4
    clear c4
    by_cases c5 : t169 = 0
    · rw [if_pos c5] at H
      have c5b0 : (t169 == 0) = true := beq_iff_eq.mpr c5
      have c5b1 : (t169 != 0) = false := bne_eq_false_iff_eq.mpr c5
      clear c5
      by_cases c6 : t166 = 0
      · rw [if_pos c6] at H
        have c6b0 : (t166 == 0) = true := beq_iff_eq.mpr c6
        have c6b1 : (t166 != 0) = false := bne_eq_false_iff_eq.mpr c6
        clear c6
        have H' := Aside0.mk H
        clear H
        go_enter Try.func28, Try.ntmps28
        go_wp2_with (first | ((with_reducible refine gate_dst (N := 2) rfl ?_); refine box_event ?hg (N := 2) ?hd (cs := #[.slice A0_0 l0_0.length c0_0]) (t := 29) ?hr ?_; (case hd => rfl); (case hg => rfl); (case hr => first | (go_simp; done) | (go_simp; rfl)); intro gb163 hg w7 hbox hb; have n0_ := Aside0.mk (below_step u5_8 hb); have n1_ := Aside0.mk (hbox); have n2_ := Aside0.mk ((by rw [hg]; exact (below_size u5_8) : w.heap.size ≤ gb163)); have n3_ := Aside0.mk ((by rw [hg]; exact (below_size u5_8) : w.heap.size ≤ gb163)); clear HB; have HB := n0_; have BK163 := n1_; have GW163 := n2_; have GE163 := n3_; clear n0_ n1_ n2_ n3_; clear hb hbox hg) | ((with_reducible refine gate_dst (N := 4) rfl ?_); refine box_event ?hg (N := 4) ?hd (cs := #[.slice none 0 0]) (t := 29) ?hr ?_; (case hd => rfl); (case hg => rfl); (case hr => first | (go_simp; done) | (go_simp; rfl)); intro gb164 hg w8 hbox hb; have n0_ := Aside0.mk (blk_below (g := gb163) (o := .cells #[.slice A0_0 l0_0.length c0_0] 29 (0, 0)) u5_3 hb); have n1_ := Aside0.mk (below_step u5_7 hb); have n2_ := Aside0.mk (hbox); have n3_ := Aside0.mk ((by rw [hg]; exact (below_size u5_7) : w.heap.size ≤ gb164)); have n4_ := Aside0.mk ((by rw [hg]; exact (below_size u5_7) : w.heap.size ≤ gb164)); have n5_ := Aside0.mk ((by rw [hg]; exact Nat.ne_of_lt (blk_lt (g := gb163) (o := .cells #[.slice A0_0 l0_0.length c0_0] 29 (0, 0)) u5_3) : gb163 ≠ gb164)); have n6_ := Aside0.mk ((by rw [hg]; exact Nat.ne_of_gt (blk_lt (g := gb163) (o := .cells #[.slice A0_0 l0_0.length c0_0] 29 (0, 0)) u5_3) : gb164 ≠ gb163)); clear BK163; clear HB; have BK163 := n0_; have HB := n1_; have BK164 := n2_; have GW164 := n3_; have GE164 := n4_; have NB163_164 := n5_; have NB164_163 := n6_; clear n0_ n1_ n2_ n3_ n4_ n5_ n6_; clear hb hbox hg; have hnb9 := NB163_164.out; have hnc9 := NB164_163.out; have hcz10_0 : w8.cell? ⟨gb163, 0, none⟩ = some (.slice A0_0 l0_0.length c0_0) := (blk_cell BK163.out 0).trans rfl; have hfz10_0 := blk_frozen BK163.out 0) | ((with_reducible refine gate_callee (f := 53) rfl ?_); refine goesL_ (some 13) rfl rfl Try.func53 (by kernel_rfl) rfl #[.agg #[.slice A0_0 l0_0.length c0_0], .int .u64 a1, .int .i64 1] rfl u5_9 ?_; (with_reducible refine (spec_l10Of.calls k _ _ l0_0 a1 1 t165 t166 t167 t168 t169 t170 _ ?side1 ?side2 A3.out).mono ?_); (case side1 => repeat (first | exact (Kd.C_below HR0_0.out HB.out) | (with_reducible refine Kd.C_alloc ?_ _) | (with_reducible refine Kd.C_drewN ?_ _) | (with_reducible refine Kd.C_drew ?_))); (case side2 => exact HC0_0.out); rintro e w11 ⟨rfl, hb⟩; refine ⟨_, rfl, ?_⟩; have n0_ := Aside0.mk (blk_below (g := gb163) (o := .cells #[.slice A0_0 l0_0.length c0_0] 29 (0, 0)) u5_3 hb); have n1_ := Aside0.mk (blk_below (g := gb164) (o := .cells #[.slice none 0 0] 29 (0, 0)) u5_6 hb); have n2_ := Aside0.mk (below_step u5_4 hb); clear BK163; clear BK164; clear HB; have BK163 := n0_; have BK164 := n1_; have HB := n2_; clear n0_ n1_ n2_; (try clear hb); (try clear hb2); (try clear hk); (try clear hi)) | ((with_reducible refine gate_dst (N := 6) rfl ?_); refine box_event ?hg (N := 6) ?hd (cs := #[.int .u64 0, .int .u64 0, .int .u64 0, .int .u64 0, .int .i64 0]) (t := 53) ?hr ?_; (case hd => rfl); (case hg => rfl); (case hr => first | (go_simp; done) | (go_simp; rfl)); intro gb171 hg w12 hbox hb; have n0_ := Aside0.mk (blk_below (g := gb163) (o := .cells #[.slice A0_0 l0_0.length c0_0] 29 (0, 0)) u5_3 hb); have n1_ := Aside0.mk (blk_below (g := gb164) (o := .cells #[.slice none 0 0] 29 (0, 0)) u5_6 hb); have n2_ := Aside0.mk (below_step u5_4 hb); have n3_ := Aside0.mk (hbox); have n4_ := Aside0.mk ((by rw [hg]; exact (below_size u5_4) : w.heap.size ≤ gb171)); have n5_ := Aside0.mk ((by rw [hg]; exact (below_size u5_4) : w.heap.size ≤ gb171)); have n6_ := Aside0.mk ((by rw [hg]; exact Nat.ne_of_lt (blk_lt (g := gb163) (o := .cells #[.slice A0_0 l0_0.length c0_0] 29 (0, 0)) u5_3) : gb163 ≠ gb171)); have n7_ := Aside0.mk ((by rw [hg]; exact Nat.ne_of_gt (blk_lt (g := gb163) (o := .cells #[.slice A0_0 l0_0.length c0_0] 29 (0, 0)) u5_3) : gb171 ≠ gb163)); have n8_ := Aside0.mk ((by rw [hg]; exact Nat.ne_of_lt (blk_lt (g := gb164) (o := .cells #[.slice none 0 0] 29 (0, 0)) u5_6) : gb164 ≠ gb171)); have n9_ := Aside0.mk ((by rw [hg]; exact Nat.ne_of_gt (blk_lt (g := gb164) (o := .cells #[.slice none 0 0] 29 (0, 0)) u5_6) : gb171 ≠ gb164)); clear BK163; clear BK164; clear HB; have BK163 := n0_; have BK164 := n1_; have HB := n2_; have BK171 := n3_; have GW171 := n4_; have GE171 := n5_; have NB163_171 := n6_; have NB171_163 := n7_; have NB164_171 := n8_; have NB171_164 := n9_; clear n0_ n1_ n2_ n3_ n4_ n5_ n6_ n7_ n8_ n9_; clear hb hbox hg; have hnb13 := NB171_163.out; have hnc13 := NB163_171.out; have hnb14 := NB171_164.out; have hnc14 := NB164_171.out; have hcz15_0 : w12.cell? ⟨gb171, 0, none⟩ = some (.int .u64 0) := (blk_cell BK171.out 0).trans rfl; have hcz15_1 : w12.cell? ⟨gb171, 1, none⟩ = some (.int .u64 0) := (blk_cell BK171.out 1).trans rfl; have hcz15_2 : w12.cell? ⟨gb171, 2, none⟩ = some (.int .u64 0) := (blk_cell BK171.out 2).trans rfl; have hcz15_3 : w12.cell? ⟨gb171, 3, none⟩ = some (.int .u64 0) := (blk_cell BK171.out 3).trans rfl; have hcz15_4 : w12.cell? ⟨gb171, 4, none⟩ = some (.int .i64 0) := (blk_cell BK171.out 4).trans rfl; have hfz15_0 := blk_frozen BK171.out 0; have hfz15_1 := blk_frozen BK171.out 1; have hfz15_2 := blk_frozen BK171.out 2; have hfz15_3 := blk_frozen BK171.out 3; have hfz15_4 := blk_frozen BK171.out 4) | ((with_reducible refine gate_dst (N := 8) rfl ?_); refine box_event ?hg (N := 8) ?hd (cs := #[.slice none 0 0]) (t := 29) ?hr ?_; (case hd => rfl); (case hg => rfl); (case hr => first | (go_simp; done) | (go_simp; rfl)); intro gb181 hg w16 hbox hb; have n0_ := Aside0.mk (blk_below (g := gb163) (o := .cells #[.slice A0_0 l0_0.length c0_0] 29 (0, 0)) u5_1 hb); have n1_ := Aside0.mk (blk_below (g := gb164) (o := .cells #[.slice none 0 0] 29 (0, 0)) u5_2 hb); have n2_ := Aside0.mk (blk_below (g := gb171) (o := .cells #[.int .u64 t165, .int .u64 t166, .int .u64 t167, .int .u64 t168, .int .i64 t169] 53 (0, 0)) u5_0 hb); have n3_ := Aside0.mk (below_step u5_5 hb); have n4_ := Aside0.mk (hbox); have n5_ := Aside0.mk ((by rw [hg]; exact (below_size u5_5) : w.heap.size ≤ gb181)); have n6_ := Aside0.mk ((by rw [hg]; exact (below_size u5_5) : w.heap.size ≤ gb181)); have n7_ := Aside0.mk ((by rw [hg]; exact Nat.ne_of_lt (blk_lt (g := gb163) (o := .cells #[.slice A0_0 l0_0.length c0_0] 29 (0, 0)) u5_1) : gb163 ≠ gb181)); have n8_ := Aside0.mk ((by rw [hg]; exact Nat.ne_of_gt (blk_lt (g := gb163) (o := .cells #[.slice A0_0 l0_0.length c0_0] 29 (0, 0)) u5_1) : gb181 ≠ gb163)); have n9_ := Aside0.mk ((by rw [hg]; exact Nat.ne_of_lt (blk_lt (g := gb164) (o := .cells #[.slice none 0 0] 29 (0, 0)) u5_2) : gb164 ≠ gb181)); have n10_ := Aside0.mk ((by rw [hg]; exact Nat.ne_of_gt (blk_lt (g := gb164) (o := .cells #[.slice none 0 0] 29 (0, 0)) u5_2) : gb181 ≠ gb164)); have n11_ := Aside0.mk ((by rw [hg]; exact Nat.ne_of_lt (blk_lt (g := gb171) (o := .cells #[.int .u64 t165, .int .u64 t166, .int .u64 t167, .int .u64 t168, .int .i64 t169] 53 (0, 0)) u5_0) : gb171 ≠ gb181)); have n12_ := Aside0.mk ((by rw [hg]; exact Nat.ne_of_gt (blk_lt (g := gb171) (o := .cells #[.int .u64 t165, .int .u64 t166, .int .u64 t167, .int .u64 t168, .int .i64 t169] 53 (0, 0)) u5_0) : gb181 ≠ gb171)); clear BK163; clear BK164; clear BK171; clear HB; have BK163 := n0_; have BK164 := n1_; have BK171 := n2_; have HB := n3_; have BK181 := n4_; have GW181 := n5_; have GE181 := n6_; have NB163_181 := n7_; have NB181_163 := n8_; have NB164_181 := n9_; have NB181_164 := n10_; have NB171_181 := n11_; have NB181_171 := n12_; clear n0_ n1_ n2_ n3_ n4_ n5_ n6_ n7_ n8_ n9_ n10_ n11_ n12_; clear hb hbox hg; have hnb17 := NB181_163.out; have hnc17 := NB163_181.out; have hnb18 := NB181_164.out; have hnc18 := NB164_181.out; have hnb19 := NB181_171.out; have hnc19 := NB171_181.out; have hcz20_0 : w16.cell? ⟨gb181, 0, none⟩ = some (.slice none 0 0) := (blk_cell BK181.out 0).trans rfl; have hfz20_0 := blk_frozen BK181.out 0))
        go_loopg [9] k (fun kq v9 w' => ∃ (x9_1 : Int) (x182000_1 : List (S53)) (u182000 : Value), v9 = .int .i64 x9_1 ∧ Aside0 (spec_CloseAccount.l0 kq a1 x9_1 l0_0 x182000_1 = some (r1, r2)) ∧ Aside0 (kq ≤ k) ∧ Aside0 (Kd.R k53 53 w' w.heap.size (fun k_ => k_ ≠ gb171) u182000 x182000_1) ∧ Aside0 (w'.heap[gb163]? = some (.cells #[(.slice A0_0 l0_0.length c0_0)] 29 (0, 0))) ∧ Aside0 (w'.heap[gb164]? = some (.cells #[(.slice none 0 0)] 29 (0, 0))) ∧ Aside0 (w'.heap[gb171]? = some (.cells #[.int .u64 t165, .int .u64 t166, .int .u64 t167, .int .u64 t168, .int .i64 t169] 53 (0, 0))) ∧ Aside0 (w'.heap[gb181]? = some (.cells #[u182000] 29 (0, 0))) ∧ Aside0 (Below w.heap.size w w'))
        case atStart => exact ⟨(0), (([] : List (S53))), (.slice none 0 0), u5_14, H', ⟨Nat.le_refl _⟩, ⟨by first | exact Kd.R_nil _ _ _ _ _ | exact Kd.N_nil _ _ _ _ _ | exact Kd.V_nil _ _ _ _ _ | exact Kd.Q_nil _ _ _ _ _ | exact Kd.S_nil _ _ _ _ _⟩, ⟨by (with_reducible repeat (first | refine blk_drewN ?_ _ | refine blk_drew ?_ | refine blk_alloc ?_ _)); refine blk_far ?_ NB163_181.out _; (with_reducible repeat (first | refine blk_drewN ?_ _ | refine blk_drew ?_ | refine blk_alloc ?_ _)); exact BK163.out⟩, ⟨by (with_reducible repeat (first | refine blk_drewN ?_ _ | refine blk_drew ?_ | refine blk_alloc ?_ _)); refine blk_far ?_ NB164_181.out _; (with_reducible repeat (first | refine blk_drewN ?_ _ | refine blk_drew ?_ | refine blk_alloc ?_ _)); exact BK164.out⟩, ⟨by (with_reducible repeat (first | refine blk_drewN ?_ _ | refine blk_drew ?_ | refine blk_alloc ?_ _)); refine blk_far ?_ NB171_181.out _; (with_reducible repeat (first | refine blk_drewN ?_ _ | refine blk_drew ?_ | refine blk_alloc ?_ _)); exact BK171.out⟩, ⟨by (with_reducible repeat (first | refine blk_drewN ?_ _ | refine blk_drew ?_ | refine blk_alloc ?_ _)); refine blk_put (cs := #[.slice none 0 0]) ?_ 0 _ rfl; (with_reducible repeat (first | refine blk_drewN ?_ _ | refine blk_drew ?_ | refine blk_alloc ?_ _)); exact BK181.out⟩, ⟨by repeat (first | (with_reducible first | exact HB.out | apply below_alloc | apply pw_below_drewN | apply below_drew1 | refine below_set ?_ GE163.out | refine below_set ?_ GE164.out | refine below_set ?_ GE171.out | refine below_set ?_ GE181.out) | exact HB.out)⟩⟩
        case round =>
          clear H'
          try clear c1
          try clear c2
          try clear p2
          try clear c4
          try clear c4b0
          try clear c4b1
          try clear c5
          try clear c5b0
          try clear c5b1
          try clear c6
          try clear c6b0
          try clear c6b1
          try clear c9
          try clear c13
          try clear c14
          try clear c17
          try clear c18
          try clear c19
          try clear hcz10_0
          try clear hcz15_0
          try clear hcz15_1
          try clear hcz15_2
          try clear hcz15_3
          try clear hcz15_4
          try clear hcz20_0
          try clear hfz10_0
          try clear hfz15_0
          try clear hfz15_1
          try clear hfz15_2
          try clear hfz15_3
          try clear hfz15_4
          try clear hfz20_0
          obtain ⟨x9_1, x182000_1, u182000, rfl, HA, HK1, HO_182000, BK163, BK164, BK171, BK181, HB⟩ := hrel
          cases gk with
          | zero => exact absurd HA.out (by simp [spec_CloseAccount.l0])
          | succ k1 =>
            have H := HA.out
            clear HA
            simp only [spec_CloseAccount.l0] at H
            by_cases c21 : x9_1 < (l0_0.length : Int)
            · rw [if_pos c21] at H
              have c21b0 : decide (x9_1 < (l0_0.length : Int)) = true := decide_eq_true c21
              clear c21
              by_cases c22 : 0 ≤ x9_1
              · rw [if_pos c22] at H
                have c22b0 : decide (0 ≤ x9_1) = true := decide_eq_true c22
                clear c22
                by_cases c23 : ((rd_T53 l0_0 x9_1).f0) = a1
                · rw [if_pos c23] at H
                  have c23b0 : (((rd_T53 l0_0 x9_1).f0) == a1) = true := beq_iff_eq.mpr c23
                  have c23b1 : (((rd_T53 l0_0 x9_1).f0) != a1) = false := bne_eq_false_iff_eq.mpr c23
                  clear c23
                  have H' := Aside0.mk H
                  clear H
                  have hnb24 := NB163_164.out
                  have hnc24 := NB164_163.out
                  have hnb25 := NB163_171.out
                  have hnc25 := NB171_163.out
                  have hnb26 := NB163_181.out
                  have hnc26 := NB181_163.out
                  have hcz27_0 : wr.cell? ⟨gb163, 0, none⟩ = some (.slice A0_0 l0_0.length c0_0) := (blk_cell BK163.out 0).trans rfl
                  have hfz27_0 := blk_frozen BK163.out 0
                  have p182 : 0 ≤ (x9_1 : Int) := of_decide_eq_true u5_12
                  have q182 : x9_1 < (l0_0.length : Int) := of_decide_eq_true u5_12
                  obtain ⟨ad182, e182, hx182_0, hx182_1, hx182_2, hx182_3, hx182_4⟩ := at_T53 HR0_0.out x9_1 p182 q182
                  cases e182
                  replace hx182_0 := (HB.out.cell (World.block_lt_of_cell? w _ hx182_0)).trans hx182_0
                  replace hx182_1 := (HB.out.cell (World.block_lt_of_cell? w _ hx182_1)).trans hx182_1
                  replace hx182_2 := (HB.out.cell (World.block_lt_of_cell? w _ hx182_2)).trans hx182_2
                  replace hx182_3 := (HB.out.cell (World.block_lt_of_cell? w _ hx182_3)).trans hx182_3
                  replace hx182_4 := (HB.out.cell (World.block_lt_of_cell? w _ hx182_4)).trans hx182_4
                  replace p182 := eq_true p182
                  replace q182 := eq_true q182
                  go_wp2
                  go_roundg k1
                  case measure => have := HK1.out; omega
                  case rel => exact ⟨(wrap64 (x9_1 + 1)), (x182000_1), (u182000), u5_14, H', ⟨by have := HK1.out; omega⟩, ⟨by (with_reducible repeat (first | apply Kd.R_alloc | apply Kd.R_drewN | apply Kd.R_drew)); exact HO_182000.out⟩, ⟨by (with_reducible repeat (first | refine blk_drewN ?_ _ | refine blk_drew ?_ | refine blk_alloc ?_ _)); exact BK163.out⟩, ⟨by (with_reducible repeat (first | refine blk_drewN ?_ _ | refine blk_drew ?_ | refine blk_alloc ?_ _)); exact BK164.out⟩, ⟨by (with_reducible repeat (first | refine blk_drewN ?_ _ | refine blk_drew ?_ | refine blk_alloc ?_ _)); exact BK171.out⟩, ⟨by (with_reducible repeat (first | refine blk_drewN ?_ _ | refine blk_drew ?_ | refine blk_alloc ?_ _)); exact BK181.out⟩, ⟨by repeat (first | (with_reducible first | exact HB.out | apply below_alloc | apply pw_below_drewN | apply below_drew1 | refine below_set ?_ GE163.out | refine below_set ?_ GE164.out | refine below_set ?_ GE171.out | refine below_set ?_ GE181.out) | exact HB.out)⟩⟩
                · rw [if_neg c23] at H
                  have c23b0 : (((rd_T53 l0_0 x9_1).f0) == a1) = false := beq_eq_false_iff_ne.mpr c23
                  have c23b1 : (((rd_T53 l0_0 x9_1).f0) != a1) = true := bne_iff_ne.mpr c23
                  by_cases c28 : x182000_1.length < 3518437208883
                  · rw [if_pos c28] at H
                    have LMc28 := Aside0.mk c28
                    clear c28
                    obtain ⟨y184, hy184⟩ : ∃ y_ : List (S53), y_ = (x182000_1 ++ [(⟨(rd_T53 l0_0 x9_1).f0, (rd_T53 l0_0 x9_1).f1, (rd_T53 l0_0 x9_1).f2, (rd_T53 l0_0 x9_1).f3, (rd_T53 l0_0 x9_1).f4⟩ : S53)]) := ⟨_, rfl⟩
                    replace H : (spec_CloseAccount.l0 k1 a1 (wrap64 (x9_1 + 1)) l0_0 y184) = some (r1, r2) := by first | (rw [hy184]; with_reducible exact H) | (have H2_ := (Option.bind_some _ _).symm.trans H; rw [hy184]; with_reducible exact H2_) | (have H2_ := (Option.bind_some _ _).symm.trans H; with_reducible exact H2_) | with_reducible exact H | (rw [hy184]; exact H) | exact H
                    have Ny184 := Aside0.mk hy184
                    clear hy184
                    have H' := Aside0.mk H
                    clear H
                    have hnb29 := NB163_164.out
                    have hnc29 := NB164_163.out
                    have hnb30 := NB163_171.out
                    have hnc30 := NB171_163.out
                    have hnb31 := NB163_181.out
                    have hnc31 := NB181_163.out
                    have hcz32_0 : wr.cell? ⟨gb163, 0, none⟩ = some (.slice A0_0 l0_0.length c0_0) := (blk_cell BK163.out 0).trans rfl
                    have hfz32_0 := blk_frozen BK163.out 0
                    have p182 : 0 ≤ (x9_1 : Int) := of_decide_eq_true u5_12
                    have q182 : x9_1 < (l0_0.length : Int) := of_decide_eq_true u5_12
                    obtain ⟨ad182, e182, hx182_0, hx182_1, hx182_2, hx182_3, hx182_4⟩ := at_T53 HR0_0.out x9_1 p182 q182
                    cases e182
                    replace hx182_0 := (HB.out.cell (World.block_lt_of_cell? w _ hx182_0)).trans hx182_0
                    replace hx182_1 := (HB.out.cell (World.block_lt_of_cell? w _ hx182_1)).trans hx182_1
                    replace hx182_2 := (HB.out.cell (World.block_lt_of_cell? w _ hx182_2)).trans hx182_2
                    replace hx182_3 := (HB.out.cell (World.block_lt_of_cell? w _ hx182_3)).trans hx182_3
                    replace hx182_4 := (HB.out.cell (World.block_lt_of_cell? w _ hx182_4)).trans hx182_4
                    replace p182 := eq_true p182
                    replace q182 := eq_true q182
                    try go_wp2
                    have n0_ := Aside0.mk (Kd.R_drew HO_182000.out)
                    have n1_ := Aside0.mk (blk_drew BK163.out)
                    have n2_ := Aside0.mk (blk_drew BK164.out)
                    have n3_ := Aside0.mk (blk_drew BK171.out)
                    have n4_ := Aside0.mk (blk_drew BK181.out)
                    have n5_ := Aside0.mk (below_drew1 HB.out)
                    clear HO_182000
                    clear BK163
                    clear BK164
                    clear BK171
                    clear BK181
                    clear HB
                    have HO_182000 := n0_
                    have BK163 := n1_
                    have BK164 := n2_
                    have BK171 := n3_
                    have BK181 := n4_
                    have HB := n5_
                    clear n0_ n1_ n2_ n3_ n4_ n5_
                    have p183 : 0 ≤ (x9_1 : Int) := of_decide_eq_true u5_12
                    have q183 : x9_1 < (l0_0.length : Int) := of_decide_eq_true u5_12
                    obtain ⟨ad183, e183, hx183_0, hx183_1, hx183_2, hx183_3, hx183_4⟩ := at_T53 HR0_0.out x9_1 p183 q183
                    have hw183_4 := hx183_4
                    have hw183_3 := hx183_3
                    have hw183_2 := hx183_2
                    have hw183_1 := hx183_1
                    have hw183_0 := hx183_0
                    obtain rfl : ad182 = ad183 := (by injection e183)
                    replace hx183_0 := (HB.out.cell (World.block_lt_of_cell? w _ hx183_0)).trans hx183_0
                    replace hx183_1 := (HB.out.cell (World.block_lt_of_cell? w _ hx183_1)).trans hx183_1
                    replace hx183_2 := (HB.out.cell (World.block_lt_of_cell? w _ hx183_2)).trans hx183_2
                    replace hx183_3 := (HB.out.cell (World.block_lt_of_cell? w _ hx183_3)).trans hx183_3
                    replace hx183_4 := (HB.out.cell (World.block_lt_of_cell? w _ hx183_4)).trans hx183_4
                    replace p183 := eq_true p183
                    replace q183 := eq_true q183
                    refine start_ (n := 11) (S := fun w' => w'.cell? ⟨gb181, 0, none⟩ = some (u182000) ∧ w'.cell? ⟨gb163, 0, none⟩ = some (.slice (some ad182) l0_0.length c0_0) ∧ w'.cell? (ad182.add ((x9_1).toNat * 5)) = some (.int .u64 ((rd_T53 l0_0 x9_1).f0)) ∧ w'.cell? ⟨(ad182.add ((x9_1).toNat * 5)).block, (ad182.add ((x9_1).toNat * 5)).off + 1, none⟩ = some (.int .u64 ((rd_T53 l0_0 x9_1).f1)) ∧ w'.cell? ⟨(ad182.add ((x9_1).toNat * 5)).block, (ad182.add ((x9_1).toNat * 5)).off + 2, none⟩ = some (.int .u64 ((rd_T53 l0_0 x9_1).f2)) ∧ w'.cell? ⟨(ad182.add ((x9_1).toNat * 5)).block, (ad182.add ((x9_1).toNat * 5)).off + 3, none⟩ = some (.int .u64 ((rd_T53 l0_0 x9_1).f3)) ∧ w'.cell? ⟨(ad182.add ((x9_1).toNat * 5)).block, (ad182.add ((x9_1).toNat * 5)).off + 4, none⟩ = some (.int .i64 ((rd_T53 l0_0 x9_1).f4))) (ds := [10]) #[false, false, false, false, false, false, false, false, false, false, false] (by kernel_rfl) rfl rfl ⟨(blk_cell BK181.out 0).trans rfl, (blk_cell BK163.out 0).trans rfl, ((HB.out.cell (World.block_lt_of_cell? w _ hw183_0)).trans hw183_0), ((HB.out.cell (World.block_lt_of_cell? w _ hw183_1)).trans hw183_1), ((HB.out.cell (World.block_lt_of_cell? w _ hw183_2)).trans hw183_2), ((HB.out.cell (World.block_lt_of_cell? w _ hw183_3)).trans hw183_3), ((HB.out.cell (World.block_lt_of_cell? w _ hw183_4)).trans hw183_4)⟩ (fun hHeld => ?_); refine with_tabW spec_CloseAccount.tab13 spec_CloseAccount.bits13 (fun HT_ HW_ => ?_)
                    generalize wr.drew = w33 at HO_182000 BK163 BK164 BK171 BK181 HB hx183_0 hx183_1 hx183_2 hx183_3 hx183_4 hHeld ⊢
                    refine pure_ (i := 0) (N := some 50) (v := ?_) (a' := ?_) #[true, false, false, false, false, false, false, false, false, false, false] rfl rfl (any_of HT_.out (by kernel_rfl)) (fun _ _ _ h => h) (Or.inl ⟨by rfl, ?_⟩) ?_ ?_
                    rotate_left
                    · intro w'
                      go_simp
                      with_reducible rfl
                    rotate_left
                    · simp only [Act.put, List.setIfInBounds_toArray, List.set_cons_zero, List.set_cons_succ, i64_w, i32_w]
                      rfl
                    refine pure_ (i := 2) (N := some 52) (v := ?_) (a' := ?_) #[true, false, true, false, false, false, false, false, false, false, false] rfl rfl (any_of HT_.out (by kernel_rfl)) (fun _ _ _ h => h) (Or.inl ⟨by rfl, ?_⟩) ?_ ?_
                    rotate_left
                    · intro w'
                      go_simp
                      with_reducible rfl
                    rotate_left
                    · simp only [Act.put, List.setIfInBounds_toArray, List.set_cons_zero, List.set_cons_succ, i64_w, i32_w]
                      rfl
                    refine pure_ (i := 4) (N := some 54) (v := ?_) (a' := ?_) #[true, false, true, false, true, false, false, false, false, false, false] rfl rfl (any_of HT_.out (by kernel_rfl)) (fun _ _ _ h => h) (Or.inl ⟨by rfl, ?_⟩) ?_ ?_
                    rotate_left
                    · intro w'
                      go_simp
                      with_reducible rfl
                    rotate_left
                    · simp only [Act.put, List.setIfInBounds_toArray, List.set_cons_zero, List.set_cons_succ, i64_w, i32_w]
                      rfl
                    refine take_ (i := 1) (N := some 51) (v := ?_) (a' := ?_) #[true, true, true, false, true, false, false, false, false, false, false] rfl rfl (take_ofW HT_.out HW_.out (by kernel_rfl)) (fun _ _ _ h => h) (Or.inl ⟨by rfl, ?_⟩) hHeld ?_ ?_
                    rotate_left
                    · rintro w' ⟨s0, s1, s2, s3, s4, s5, s6⟩
                      go_simp
                      with_reducible rfl
                    rotate_left
                    · simp only [Act.put, List.setIfInBounds_toArray, List.set_cons_zero, List.set_cons_succ, i64_w, i32_w]
                      rfl
                    refine take_ (i := 3) (N := some 53) (v := ?_) (a' := ?_) #[true, true, true, true, true, false, false, false, false, false, false] rfl rfl (take_ofW HT_.out HW_.out (by kernel_rfl)) (fun _ _ _ h => h) (Or.inl ⟨by rfl, ?_⟩) hHeld ?_ ?_
                    rotate_left
                    · rintro w' ⟨s0, s1, s2, s3, s4, s5, s6⟩
                      go_simp
                      with_reducible rfl
                    rotate_left
                    · simp only [Act.put, List.setIfInBounds_toArray, List.set_cons_zero, List.set_cons_succ, i64_w, i32_w]
                      rfl
                    refine pure_ (i := 5) (N := some 55) (v := ?_) (a' := ?_) #[true, true, true, true, true, true, false, false, false, false, false] rfl rfl (any_of HT_.out (by kernel_rfl)) (fun _ _ _ h => h) (Or.inl ⟨by rfl, ?_⟩) ?_ ?_
                    rotate_left
                    · intro w'
                      go_simp
                      with_reducible rfl
                    rotate_left
                    · simp only [Act.put, List.setIfInBounds_toArray, List.set_cons_zero, List.set_cons_succ, i64_w, i32_w]
                      rfl
                    refine take_ (i := 6) (N := some 56) (v := ?_) (a' := ?_) #[true, true, true, true, true, true, true, false, false, false, false] rfl rfl (take_ofW HT_.out HW_.out (by kernel_rfl)) (fun _ _ _ h => h) (Or.inl ⟨by rfl, ?_⟩) hHeld ?_ ?_
                    rotate_left
                    · rintro w' ⟨s0, s1, s2, s3, s4, s5, s6⟩
                      go_simp
                      with_reducible rfl
                    rotate_left
                    · simp only [Act.put, List.setIfInBounds_toArray, List.set_cons_zero, List.set_cons_succ, i64_w, i32_w]
                      rfl
                    refine one_ (i := 7) (N := some 57) #[true, true, true, true, true, true, true, true, false, false, false] rfl rfl (one_of HT_.out (by kernel_rfl)) (by decide) (fun K hK => ?_)
                    refine value_ (w1 := ?_) (v := ?_) (by rfl) rfl ?_ ?_
                    rotate_left 2
                    · go_simp
                      constructor
                      · rfl
                      · rfl
                    refine hK.out _ _ ⟨(blk_cell (blk_alloc BK181.out _) 0).trans rfl, (blk_cell (blk_alloc BK163.out _) 0).trans rfl, (World.cell?_alloc_lt _ _ _ (World.block_lt_of_cell? _ _ (((HB.out.cell (World.block_lt_of_cell? w _ hw183_0)).trans hw183_0)))).trans (((HB.out.cell (World.block_lt_of_cell? w _ hw183_0)).trans hw183_0)), (World.cell?_alloc_lt _ _ _ (World.block_lt_of_cell? _ _ (((HB.out.cell (World.block_lt_of_cell? w _ hw183_1)).trans hw183_1)))).trans (((HB.out.cell (World.block_lt_of_cell? w _ hw183_1)).trans hw183_1)), (World.cell?_alloc_lt _ _ _ (World.block_lt_of_cell? _ _ (((HB.out.cell (World.block_lt_of_cell? w _ hw183_2)).trans hw183_2)))).trans (((HB.out.cell (World.block_lt_of_cell? w _ hw183_2)).trans hw183_2)), (World.cell?_alloc_lt _ _ _ (World.block_lt_of_cell? _ _ (((HB.out.cell (World.block_lt_of_cell? w _ hw183_3)).trans hw183_3)))).trans (((HB.out.cell (World.block_lt_of_cell? w _ hw183_3)).trans hw183_3)), (World.cell?_alloc_lt _ _ _ (World.block_lt_of_cell? _ _ (((HB.out.cell (World.block_lt_of_cell? w _ hw183_4)).trans hw183_4)))).trans (((HB.out.cell (World.block_lt_of_cell? w _ hw183_4)).trans hw183_4))⟩ (fun hHeld => ?_)
                    clear hK K
                    refine norm_ (a' := ?_) ?_ ?_
                    rotate_left
                    · show Act.put _ (some 57) _ = _
                      simp only [Act.put, List.setIfInBounds_toArray, List.set_cons_zero, List.set_cons_succ, i64_w, i32_w]
                      rfl
                    refine one_ (i := 8) (N := some 58) #[true, true, true, true, true, true, true, true, true, false, false] rfl rfl (one_of HT_.out (by kernel_rfl)) (by decide) (fun K hK => ?_)
                    refine Kd.R_append_step k53 (w0 := w) w.heap.size (by rfl) (.tmp 51) (.tmp 57) 27 53 (.agg #[(.int .u64 0), (.int .u64 0), (.int .u64 0), (.int .u64 0), (.int .i64 0)]) 40 rfl Try.underlying27 info53 rfl (by decide) (by omega) u182000 x182000_1 (⟨(rd_T53 l0_0 x9_1).f0, (rd_T53 l0_0 x9_1).f1, (rd_T53 l0_0 x9_1).f2, (rd_T53 l0_0 x9_1).f3, (rd_T53 l0_0 x9_1).f4⟩ : S53) [.int .u64 ((rd_T53 l0_0 x9_1).f0), .int .u64 ((rd_T53 l0_0 x9_1).f1), .int .u64 ((rd_T53 l0_0 x9_1).f2), .int .u64 ((rd_T53 l0_0 x9_1).f3), .int .i64 ((rd_T53 l0_0 x9_1).f4)] (fun k_ => k_ ≠ gb171) (fun _ => False) rfl rfl ?aP (fun _ hk => hk.elim) ?aF ?aO ?aB ?aS ?aL ?_
                    (case aP => exact k53_mkM _ _ _ (⟨(rd_T53 l0_0 x9_1).f0, (rd_T53 l0_0 x9_1).f1, (rd_T53 l0_0 x9_1).f2, (rd_T53 l0_0 x9_1).f3, (rd_T53 l0_0 x9_1).f4⟩ : S53))
                    (case aB => exact u5_11)
                    (case aF => exact (fun k_ hk => Kd.freshB (g := gb171) (o := .cells #[.int .u64 t165, .int .u64 t166, .int .u64 t167, .int .u64 t168, .int .i64 t169] 53 (0, 0)) u5_13 k_ hk))
                    (case aO => exact (by (with_reducible repeat (first | apply Kd.R_alloc | apply Kd.R_drewN | apply Kd.R_drew)); exact HO_182000.out))
                    (case aS => exact (below_size u5_11))
                    (case aL => have := LMc28.out; omega)
                    intro v185 w34 ho hb hg hat
                    rw [← Ny184.out] at ho
                    have n0_ := Aside0.mk (blk_grown (g := gb163) (o := .cells #[.slice (some ad182) l0_0.length c0_0] 29 (0, 0)) u5_3 hg (Kd.R_ne HO_182000.out BK163.out (by decide)))
                    have n1_ := Aside0.mk (blk_grown (g := gb164) (o := .cells #[.slice none 0 0] 29 (0, 0)) u5_6 hg (Kd.R_ne HO_182000.out BK164.out (by decide)))
                    have n2_ := Aside0.mk (blk_grown (g := gb171) (o := .cells #[.int .u64 t165, .int .u64 t166, .int .u64 t167, .int .u64 t168, .int .i64 t169] 53 (0, 0)) u5_13 hg (Kd.R_away HO_182000.out (fun _ hk => hk)))
                    have n3_ := Aside0.mk (blk_grown (g := gb181) (o := .cells #[u182000] 29 (0, 0)) (by (with_reducible repeat (first | refine blk_drewN ?_ _ | refine blk_drew ?_ | refine blk_alloc ?_ _)); exact BK181.out) hg (Kd.R_ne HO_182000.out BK181.out (by decide)))
                    have n4_ := Aside0.mk (hb)
                    have n5_ := Aside0.mk (ho)
                    clear BK163
                    clear BK164
                    clear BK171
                    clear BK181
                    clear HB
                    clear HO_182000
                    have BK163 := n0_
                    have BK164 := n1_
                    have BK171 := n2_
                    have BK181 := n3_
                    have HB := n4_
                    have HO186 := n5_
                    clear n0_ n1_ n2_ n3_ n4_ n5_
                    clear ho hb hg hat
                    obtain ⟨Ao35, co35, eo35⟩ := Kd.R_slice HO186.out
                    (first | subst eo35 | (injection eo35 with f1_ f2_ f3_; have f4_ := f1_.symm; have f5_ := f3_.symm; clear f1_ f2_ f3_; subst f4_; subst f5_))
                    refine hK.out _ _ ⟨(blk_cell BK181.out 0).trans rfl, (blk_cell BK163.out 0).trans rfl, ((HB.out.cell (World.block_lt_of_cell? w _ hw183_0)).trans hw183_0), ((HB.out.cell (World.block_lt_of_cell? w _ hw183_1)).trans hw183_1), ((HB.out.cell (World.block_lt_of_cell? w _ hw183_2)).trans hw183_2), ((HB.out.cell (World.block_lt_of_cell? w _ hw183_3)).trans hw183_3), ((HB.out.cell (World.block_lt_of_cell? w _ hw183_4)).trans hw183_4)⟩ (fun hHeld => ?_)
                    clear hK K
                    refine norm_ (a' := ?_) ?_ ?_
                    rotate_left
                    · show Act.put _ (some 58) _ = _
                      simp only [Act.put, List.setIfInBounds_toArray, List.set_cons_zero, List.set_cons_succ, i64_w, i32_w]
                      rfl
                    refine pure_ (i := 9) (N := some 59) (v := ?_) (a' := ?_) #[true, true, true, true, true, true, true, true, true, true, false] rfl rfl (any_of HT_.out (by kernel_rfl)) (fun _ _ _ h => h) (Or.inl ⟨by rfl, ?_⟩) ?_ ?_
                    rotate_left
                    · intro w'
                      go_simp
                      with_reducible rfl
                    rotate_left
                    · simp only [Act.put, List.setIfInBounds_toArray, List.set_cons_zero, List.set_cons_succ, i64_w, i32_w]
                      rfl
                    refine last_ (i := 10) (N := none) #[true, true, true, true, true, true, true, true, true, true, true] rfl rfl (one_of HT_.out (by kernel_rfl)) (by decide) (fun K hK => ?_)
                    have hs36 : w34.cell? ⟨gb181, 0, none⟩ = some (u182000) := (blk_cell BK181.out 0).trans rfl
                    have hfs36 := blk_frozen BK181.out 0
                    have hns36_0 := NB163_181.out
                    have hns36_1 := NB164_181.out
                    have hns36_2 := NB171_181.out
                    have hms36_0 := NB181_163.out
                    have hms36_1 := NB181_164.out
                    have hms36_2 := NB181_171.out
                    refine skip_ (w1 := ?_) (by rfl) rfl ?_ ?_
                    rotate_left
                    · go_simp
                      rfl
                    refine hK.out _ _ ?_
                    clear hK K
                    refine done_ (done_of HT_.out (by kernel_rfl)) ?_
                    try go_wp2
                    go_roundg k1
                    case measure => have := HK1.out; omega
                    case rel => exact ⟨(wrap64 (x9_1 + 1)), (y184), (.slice Ao35 y184.length co35), u5_14, H', ⟨by have := HK1.out; omega⟩, ⟨by (with_reducible repeat (first | apply Kd.R_alloc | apply Kd.R_drewN | apply Kd.R_drew)); exact Kd.R_mono (Kd.R_far (p := ⟨gb181, 0, none⟩) (Kd.R_types HO186.out BK181.out (by decide)) (fun _ hk => hk.2) (.slice Ao35 y184.length co35)) (fun _ hk => hk.1)⟩, ⟨by (with_reducible repeat (first | refine blk_drewN ?_ _ | refine blk_drew ?_ | refine blk_alloc ?_ _)); refine blk_far ?_ NB163_181.out _; (with_reducible repeat (first | refine blk_drewN ?_ _ | refine blk_drew ?_ | refine blk_alloc ?_ _)); exact BK163.out⟩, ⟨by (with_reducible repeat (first | refine blk_drewN ?_ _ | refine blk_drew ?_ | refine blk_alloc ?_ _)); refine blk_far ?_ NB164_181.out _; (with_reducible repeat (first | refine blk_drewN ?_ _ | refine blk_drew ?_ | refine blk_alloc ?_ _)); exact BK164.out⟩, ⟨by (with_reducible repeat (first | refine blk_drewN ?_ _ | refine blk_drew ?_ | refine blk_alloc ?_ _)); refine blk_far ?_ NB171_181.out _; (with_reducible repeat (first | refine blk_drewN ?_ _ | refine blk_drew ?_ | refine blk_alloc ?_ _)); exact BK171.out⟩, ⟨by (with_reducible repeat (first | refine blk_drewN ?_ _ | refine blk_drew ?_ | refine blk_alloc ?_ _)); refine blk_put (cs := #[u182000]) ?_ 0 _ rfl; (with_reducible repeat (first | refine blk_drewN ?_ _ | refine blk_drew ?_ | refine blk_alloc ?_ _)); exact BK181.out⟩, ⟨by repeat (first | (with_reducible first | exact HB.out | apply below_alloc | apply pw_below_drewN | apply below_drew1 | refine below_set ?_ GE163.out | refine below_set ?_ GE164.out | refine below_set ?_ GE171.out | refine below_set ?_ GE181.out) | exact HB.out)⟩⟩
                  · rw [if_neg c28] at H
                    exact absurd H (by simp)
              · rw [if_neg c22] at H
                exact absurd H (by simp)
            · rw [if_neg c21] at H
              have c21b0 : decide (x9_1 < (l0_0.length : Int)) = false := decide_eq_false c21
              clear c21
              simp only [Option.some.injEq, Prod.mk.injEq] at H
              obtain ⟨rfl, rfl⟩ := H
              have hnb37 := NB163_164.out
              have hnc37 := NB164_163.out
              have hnb38 := NB163_171.out
              have hnc38 := NB171_163.out
              have hnb39 := NB163_181.out
              have hnc39 := NB181_163.out
              have hcz40_0 : wr.cell? ⟨gb163, 0, none⟩ = some (.slice A0_0 l0_0.length c0_0) := (blk_cell BK163.out 0).trans rfl
              have hfz40_0 := blk_frozen BK163.out 0
              have hnb41 := NB181_164.out
              have hnc41 := NB164_181.out
              have hnb42 := NB181_171.out
              have hnc42 := NB171_181.out
              have hcz43_0 : wr.cell? ⟨gb181, 0, none⟩ = some (u182000) := (blk_cell BK181.out 0).trans rfl
              have hfz43_0 := blk_frozen BK181.out 0
              obtain ⟨Ao44, co44, eo44⟩ := Kd.R_slice HO_182000.out
              subst eo44
              have hnb45 := NB164_171.out
              have hnc45 := NB171_164.out
              have hcz46_0 : wr.cell? ⟨gb164, 0, none⟩ = some (.slice none 0 0) := (blk_cell BK164.out 0).trans rfl
              have hfz46_0 := blk_frozen BK164.out 0
              go_wp2
              refine bodyPost_ret (results_ct rfl _ _ gb164 29 #[.slice Ao44 x182000_1.length co44] (0, 0) _ rfl u5_10 Try.underlying29 rfl (by kernel_rfl)) rfl ?_
              exact ⟨_, by first | rfl | (simp [errW_none, errW_some] <;> rfl) | (simp [*, errW_none, errW_some] <;> rfl), by (with_reducible repeat (first | apply Kd.R_alloc | apply Kd.R_drewN | apply Kd.R_drew)); exact Kd.R_mono (Kd.R_far (p := ⟨gb164, 0, none⟩) (Kd.R_types HO_182000.out BK164.out (by decide)) (fun _ hk => hk.2) (.slice Ao44 x182000_1.length co44)) (fun _ hk => trivial), by repeat (first | (with_reducible first | exact HB.out | apply below_alloc | apply pw_below_drewN | apply below_drew1 | refine below_set ?_ GE163.out | refine below_set ?_ GE164.out | refine below_set ?_ GE171.out | refine below_set ?_ GE181.out) | exact HB.out)⟩
      · rw [if_neg c6] at H
        have c6b0 : (t166 == 0) = false := beq_eq_false_iff_ne.mpr c6
        have c6b1 : (t166 != 0) = true := bne_iff_ne.mpr c6
        replace H := Option.bind_eq_some_iff.mp H
        obtain ⟨t172, A470, H⟩ := H
        replace H : (some (t172, 4)) = some (r1, r2) := H
        have A47 := Aside0.mk A470
        clear A470
        simp only [Option.some.injEq, Prod.mk.injEq] at H
        obtain ⟨rfl, rfl⟩ := H
        go_enter Try.func28, Try.ntmps28
        go_wp2_with (first | ((with_reducible refine gate_dst (N := 2) rfl ?_); refine box_event ?hg (N := 2) ?hd (cs := #[.slice A0_0 l0_0.length c0_0]) (t := 29) ?hr ?_; (case hd => rfl); (case hg => rfl); (case hr => first | (go_simp; done) | (go_simp; rfl)); intro gb163 hg w48 hbox hb; have n0_ := Aside0.mk (below_step u5_8 hb); have n1_ := Aside0.mk (hbox); have n2_ := Aside0.mk ((by rw [hg]; exact (below_size u5_8) : w.heap.size ≤ gb163)); have n3_ := Aside0.mk ((by rw [hg]; exact (below_size u5_8) : w.heap.size ≤ gb163)); clear HB; have HB := n0_; have BK163 := n1_; have GW163 := n2_; have GE163 := n3_; clear n0_ n1_ n2_ n3_; clear hb hbox hg) | ((with_reducible refine gate_dst (N := 4) rfl ?_); refine box_event ?hg (N := 4) ?hd (cs := #[.slice none 0 0]) (t := 29) ?hr ?_; (case hd => rfl); (case hg => rfl); (case hr => first | (go_simp; done) | (go_simp; rfl)); intro gb164 hg w49 hbox hb; have n0_ := Aside0.mk (blk_below (g := gb163) (o := .cells #[.slice A0_0 l0_0.length c0_0] 29 (0, 0)) u5_3 hb); have n1_ := Aside0.mk (below_step u5_7 hb); have n2_ := Aside0.mk (hbox); have n3_ := Aside0.mk ((by rw [hg]; exact (below_size u5_7) : w.heap.size ≤ gb164)); have n4_ := Aside0.mk ((by rw [hg]; exact (below_size u5_7) : w.heap.size ≤ gb164)); have n5_ := Aside0.mk ((by rw [hg]; exact Nat.ne_of_lt (blk_lt (g := gb163) (o := .cells #[.slice A0_0 l0_0.length c0_0] 29 (0, 0)) u5_3) : gb163 ≠ gb164)); have n6_ := Aside0.mk ((by rw [hg]; exact Nat.ne_of_gt (blk_lt (g := gb163) (o := .cells #[.slice A0_0 l0_0.length c0_0] 29 (0, 0)) u5_3) : gb164 ≠ gb163)); clear BK163; clear HB; have BK163 := n0_; have HB := n1_; have BK164 := n2_; have GW164 := n3_; have GE164 := n4_; have NB163_164 := n5_; have NB164_163 := n6_; clear n0_ n1_ n2_ n3_ n4_ n5_ n6_; clear hb hbox hg; have hnb50 := NB163_164.out; have hnc50 := NB164_163.out; have hcz51_0 : w49.cell? ⟨gb163, 0, none⟩ = some (.slice A0_0 l0_0.length c0_0) := (blk_cell BK163.out 0).trans rfl; have hfz51_0 := blk_frozen BK163.out 0) | ((with_reducible refine gate_callee (f := 53) rfl ?_); refine goesL_ (some 13) rfl rfl Try.func53 (by kernel_rfl) rfl #[.agg #[.slice A0_0 l0_0.length c0_0], .int .u64 a1, .int .i64 1] rfl u5_9 ?_; (with_reducible refine (spec_l10Of.calls k _ _ l0_0 a1 1 t165 t166 t167 t168 t169 t170 _ ?side1 ?side2 A3.out).mono ?_); (case side1 => repeat (first | exact (Kd.C_below HR0_0.out HB.out) | (with_reducible refine Kd.C_alloc ?_ _) | (with_reducible refine Kd.C_drewN ?_ _) | (with_reducible refine Kd.C_drew ?_))); (case side2 => exact HC0_0.out); rintro e w52 ⟨rfl, hb⟩; refine ⟨_, rfl, ?_⟩; have n0_ := Aside0.mk (blk_below (g := gb163) (o := .cells #[.slice A0_0 l0_0.length c0_0] 29 (0, 0)) u5_3 hb); have n1_ := Aside0.mk (blk_below (g := gb164) (o := .cells #[.slice none 0 0] 29 (0, 0)) u5_6 hb); have n2_ := Aside0.mk (below_step u5_4 hb); clear BK163; clear BK164; clear HB; have BK163 := n0_; have BK164 := n1_; have HB := n2_; clear n0_ n1_ n2_; (try clear hb); (try clear hb2); (try clear hk); (try clear hi)) | ((with_reducible refine gate_dst (N := 6) rfl ?_); refine box_event ?hg (N := 6) ?hd (cs := #[.int .u64 0, .int .u64 0, .int .u64 0, .int .u64 0, .int .i64 0]) (t := 53) ?hr ?_; (case hd => rfl); (case hg => rfl); (case hr => first | (go_simp; done) | (go_simp; rfl)); intro gb171 hg w53 hbox hb; have n0_ := Aside0.mk (blk_below (g := gb163) (o := .cells #[.slice A0_0 l0_0.length c0_0] 29 (0, 0)) u5_3 hb); have n1_ := Aside0.mk (blk_below (g := gb164) (o := .cells #[.slice none 0 0] 29 (0, 0)) u5_6 hb); have n2_ := Aside0.mk (below_step u5_4 hb); have n3_ := Aside0.mk (hbox); have n4_ := Aside0.mk ((by rw [hg]; exact (below_size u5_4) : w.heap.size ≤ gb171)); have n5_ := Aside0.mk ((by rw [hg]; exact (below_size u5_4) : w.heap.size ≤ gb171)); have n6_ := Aside0.mk ((by rw [hg]; exact Nat.ne_of_lt (blk_lt (g := gb163) (o := .cells #[.slice A0_0 l0_0.length c0_0] 29 (0, 0)) u5_3) : gb163 ≠ gb171)); have n7_ := Aside0.mk ((by rw [hg]; exact Nat.ne_of_gt (blk_lt (g := gb163) (o := .cells #[.slice A0_0 l0_0.length c0_0] 29 (0, 0)) u5_3) : gb171 ≠ gb163)); have n8_ := Aside0.mk ((by rw [hg]; exact Nat.ne_of_lt (blk_lt (g := gb164) (o := .cells #[.slice none 0 0] 29 (0, 0)) u5_6) : gb164 ≠ gb171)); have n9_ := Aside0.mk ((by rw [hg]; exact Nat.ne_of_gt (blk_lt (g := gb164) (o := .cells #[.slice none 0 0] 29 (0, 0)) u5_6) : gb171 ≠ gb164)); clear BK163; clear BK164; clear HB; have BK163 := n0_; have BK164 := n1_; have HB := n2_; have BK171 := n3_; have GW171 := n4_; have GE171 := n5_; have NB163_171 := n6_; have NB171_163 := n7_; have NB164_171 := n8_; have NB171_164 := n9_; clear n0_ n1_ n2_ n3_ n4_ n5_ n6_ n7_ n8_ n9_; clear hb hbox hg; have hnb54 := NB171_163.out; have hnc54 := NB163_171.out; have hnb55 := NB171_164.out; have hnc55 := NB164_171.out; have hcz56_0 : w53.cell? ⟨gb171, 0, none⟩ = some (.int .u64 0) := (blk_cell BK171.out 0).trans rfl; have hcz56_1 : w53.cell? ⟨gb171, 1, none⟩ = some (.int .u64 0) := (blk_cell BK171.out 1).trans rfl; have hcz56_2 : w53.cell? ⟨gb171, 2, none⟩ = some (.int .u64 0) := (blk_cell BK171.out 2).trans rfl; have hcz56_3 : w53.cell? ⟨gb171, 3, none⟩ = some (.int .u64 0) := (blk_cell BK171.out 3).trans rfl; have hcz56_4 : w53.cell? ⟨gb171, 4, none⟩ = some (.int .i64 0) := (blk_cell BK171.out 4).trans rfl; have hfz56_0 := blk_frozen BK171.out 0; have hfz56_1 := blk_frozen BK171.out 1; have hfz56_2 := blk_frozen BK171.out 2; have hfz56_3 := blk_frozen BK171.out 3; have hfz56_4 := blk_frozen BK171.out 4; have hcz57_0 : w53.cell? ⟨gb163, 0, none⟩ = some (.slice A0_0 l0_0.length c0_0) := (blk_cell BK163.out 0).trans rfl; have hfz57_0 := blk_frozen BK163.out 0) | ((with_reducible refine gate_callee (f := 54) rfl ?_); refine goesL_ (some 33) rfl rfl Try.func54 (by kernel_rfl) rfl #[.agg #[.slice A0_0 l0_0.length c0_0]] rfl u5_9 ?_; (with_reducible refine (spec_l10Copy.calls k _ _ l0_0 t172 _ ?side1 ?side2 A47.out).mono ?_); (case side1 => exact Kd.C_below HR0_0.out u5_5); (case side2 => exact HC0_0.out); rintro e w58 ⟨v173, rfl, ho0, hb⟩; refine ⟨_, rfl, ?_⟩; have n0_ := Aside0.mk (Kd.R_lower (Kd.R_newB ho0 (g := gb171) (o := .cells #[.int .u64 t165, .int .u64 t166, .int .u64 t167, .int .u64 t168, .int .i64 t169] 53 (0, 0)) u5_0) (below_size u5_5)); have n1_ := Aside0.mk (blk_below (g := gb163) (o := .cells #[.slice A0_0 l0_0.length c0_0] 29 (0, 0)) u5_1 hb); have n2_ := Aside0.mk (blk_below (g := gb164) (o := .cells #[.slice none 0 0] 29 (0, 0)) u5_2 hb); have n3_ := Aside0.mk (blk_below (g := gb171) (o := .cells #[.int .u64 t165, .int .u64 t166, .int .u64 t167, .int .u64 t168, .int .i64 t169] 53 (0, 0)) u5_0 hb); have n4_ := Aside0.mk (below_step u5_5 hb); clear BK163; clear BK164; clear BK171; clear HB; have HO174 := n0_; have BK163 := n1_; have BK164 := n2_; have BK171 := n3_; have HB := n4_; clear n0_ n1_ n2_ n3_ n4_; (try clear hb); (try clear hb2); (try clear hk); (try clear hi); (try clear ho0); obtain ⟨Ao59, co59, eo59⟩ := Kd.R_slice HO174.out; subst eo59; have hcz60_0 : w58.cell? ⟨gb164, 0, none⟩ = some (.slice none 0 0) := (blk_cell BK164.out 0).trans rfl; have hfz60_0 := blk_frozen BK164.out 0))
        refine bodyPost_ret (results_ct rfl _ _ gb164 29 #[.slice Ao59 t172.length co59] (0, 0) _ rfl u5_10 Try.underlying29 rfl (by kernel_rfl)) rfl ?_
        exact ⟨_, by first | rfl | (simp [errW_none, errW_some] <;> rfl) | (simp [*, errW_none, errW_some] <;> rfl), by (with_reducible repeat (first | apply Kd.R_alloc | apply Kd.R_drewN | apply Kd.R_drew)); exact Kd.R_mono (Kd.R_far (p := ⟨gb164, 0, none⟩) (Kd.R_types HO174.out BK164.out (by decide)) (fun _ hk => hk.2) (.slice Ao59 t172.length co59)) (fun _ hk => trivial), by repeat (first | (with_reducible first | exact HB.out | apply below_alloc | apply pw_below_drewN | apply below_drew1 | refine below_set ?_ GE163.out | refine below_set ?_ GE164.out | refine below_set ?_ GE171.out) | exact HB.out)⟩
    · rw [if_neg c5] at H
      have c5b0 : (t169 == 0) = false := beq_eq_false_iff_ne.mpr c5
      have c5b1 : (t169 != 0) = true := bne_iff_ne.mpr c5
      replace H := Option.bind_eq_some_iff.mp H
      obtain ⟨t175, A610, H⟩ := H
      replace H : (some (t175, 6)) = some (r1, r2) := H
      have A61 := Aside0.mk A610
      clear A610
      simp only [Option.some.injEq, Prod.mk.injEq] at H
      obtain ⟨rfl, rfl⟩ := H
      go_enter Try.func28, Try.ntmps28
      go_wp2_with (first | ((with_reducible refine gate_dst (N := 2) rfl ?_); refine box_event ?hg (N := 2) ?hd (cs := #[.slice A0_0 l0_0.length c0_0]) (t := 29) ?hr ?_; (case hd => rfl); (case hg => rfl); (case hr => first | (go_simp; done) | (go_simp; rfl)); intro gb163 hg w62 hbox hb; have n0_ := Aside0.mk (below_step u5_8 hb); have n1_ := Aside0.mk (hbox); have n2_ := Aside0.mk ((by rw [hg]; exact (below_size u5_8) : w.heap.size ≤ gb163)); have n3_ := Aside0.mk ((by rw [hg]; exact (below_size u5_8) : w.heap.size ≤ gb163)); clear HB; have HB := n0_; have BK163 := n1_; have GW163 := n2_; have GE163 := n3_; clear n0_ n1_ n2_ n3_; clear hb hbox hg) | ((with_reducible refine gate_dst (N := 4) rfl ?_); refine box_event ?hg (N := 4) ?hd (cs := #[.slice none 0 0]) (t := 29) ?hr ?_; (case hd => rfl); (case hg => rfl); (case hr => first | (go_simp; done) | (go_simp; rfl)); intro gb164 hg w63 hbox hb; have n0_ := Aside0.mk (blk_below (g := gb163) (o := .cells #[.slice A0_0 l0_0.length c0_0] 29 (0, 0)) u5_3 hb); have n1_ := Aside0.mk (below_step u5_7 hb); have n2_ := Aside0.mk (hbox); have n3_ := Aside0.mk ((by rw [hg]; exact (below_size u5_7) : w.heap.size ≤ gb164)); have n4_ := Aside0.mk ((by rw [hg]; exact (below_size u5_7) : w.heap.size ≤ gb164)); have n5_ := Aside0.mk ((by rw [hg]; exact Nat.ne_of_lt (blk_lt (g := gb163) (o := .cells #[.slice A0_0 l0_0.length c0_0] 29 (0, 0)) u5_3) : gb163 ≠ gb164)); have n6_ := Aside0.mk ((by rw [hg]; exact Nat.ne_of_gt (blk_lt (g := gb163) (o := .cells #[.slice A0_0 l0_0.length c0_0] 29 (0, 0)) u5_3) : gb164 ≠ gb163)); clear BK163; clear HB; have BK163 := n0_; have HB := n1_; have BK164 := n2_; have GW164 := n3_; have GE164 := n4_; have NB163_164 := n5_; have NB164_163 := n6_; clear n0_ n1_ n2_ n3_ n4_ n5_ n6_; clear hb hbox hg; have hnb64 := NB163_164.out; have hnc64 := NB164_163.out; have hcz65_0 : w63.cell? ⟨gb163, 0, none⟩ = some (.slice A0_0 l0_0.length c0_0) := (blk_cell BK163.out 0).trans rfl; have hfz65_0 := blk_frozen BK163.out 0) | ((with_reducible refine gate_callee (f := 53) rfl ?_); refine goesL_ (some 13) rfl rfl Try.func53 (by kernel_rfl) rfl #[.agg #[.slice A0_0 l0_0.length c0_0], .int .u64 a1, .int .i64 1] rfl u5_9 ?_; (with_reducible refine (spec_l10Of.calls k _ _ l0_0 a1 1 t165 t166 t167 t168 t169 t170 _ ?side1 ?side2 A3.out).mono ?_); (case side1 => repeat (first | exact (Kd.C_below HR0_0.out HB.out) | (with_reducible refine Kd.C_alloc ?_ _) | (with_reducible refine Kd.C_drewN ?_ _) | (with_reducible refine Kd.C_drew ?_))); (case side2 => exact HC0_0.out); rintro e w66 ⟨rfl, hb⟩; refine ⟨_, rfl, ?_⟩; have n0_ := Aside0.mk (blk_below (g := gb163) (o := .cells #[.slice A0_0 l0_0.length c0_0] 29 (0, 0)) u5_3 hb); have n1_ := Aside0.mk (blk_below (g := gb164) (o := .cells #[.slice none 0 0] 29 (0, 0)) u5_6 hb); have n2_ := Aside0.mk (below_step u5_4 hb); clear BK163; clear BK164; clear HB; have BK163 := n0_; have BK164 := n1_; have HB := n2_; clear n0_ n1_ n2_; (try clear hb); (try clear hb2); (try clear hk); (try clear hi)) | ((with_reducible refine gate_dst (N := 6) rfl ?_); refine box_event ?hg (N := 6) ?hd (cs := #[.int .u64 0, .int .u64 0, .int .u64 0, .int .u64 0, .int .i64 0]) (t := 53) ?hr ?_; (case hd => rfl); (case hg => rfl); (case hr => first | (go_simp; done) | (go_simp; rfl)); intro gb171 hg w67 hbox hb; have n0_ := Aside0.mk (blk_below (g := gb163) (o := .cells #[.slice A0_0 l0_0.length c0_0] 29 (0, 0)) u5_3 hb); have n1_ := Aside0.mk (blk_below (g := gb164) (o := .cells #[.slice none 0 0] 29 (0, 0)) u5_6 hb); have n2_ := Aside0.mk (below_step u5_4 hb); have n3_ := Aside0.mk (hbox); have n4_ := Aside0.mk ((by rw [hg]; exact (below_size u5_4) : w.heap.size ≤ gb171)); have n5_ := Aside0.mk ((by rw [hg]; exact (below_size u5_4) : w.heap.size ≤ gb171)); have n6_ := Aside0.mk ((by rw [hg]; exact Nat.ne_of_lt (blk_lt (g := gb163) (o := .cells #[.slice A0_0 l0_0.length c0_0] 29 (0, 0)) u5_3) : gb163 ≠ gb171)); have n7_ := Aside0.mk ((by rw [hg]; exact Nat.ne_of_gt (blk_lt (g := gb163) (o := .cells #[.slice A0_0 l0_0.length c0_0] 29 (0, 0)) u5_3) : gb171 ≠ gb163)); have n8_ := Aside0.mk ((by rw [hg]; exact Nat.ne_of_lt (blk_lt (g := gb164) (o := .cells #[.slice none 0 0] 29 (0, 0)) u5_6) : gb164 ≠ gb171)); have n9_ := Aside0.mk ((by rw [hg]; exact Nat.ne_of_gt (blk_lt (g := gb164) (o := .cells #[.slice none 0 0] 29 (0, 0)) u5_6) : gb171 ≠ gb164)); clear BK163; clear BK164; clear HB; have BK163 := n0_; have BK164 := n1_; have HB := n2_; have BK171 := n3_; have GW171 := n4_; have GE171 := n5_; have NB163_171 := n6_; have NB171_163 := n7_; have NB164_171 := n8_; have NB171_164 := n9_; clear n0_ n1_ n2_ n3_ n4_ n5_ n6_ n7_ n8_ n9_; clear hb hbox hg; have hnb68 := NB171_163.out; have hnc68 := NB163_171.out; have hnb69 := NB171_164.out; have hnc69 := NB164_171.out; have hcz70_0 : w67.cell? ⟨gb171, 0, none⟩ = some (.int .u64 0) := (blk_cell BK171.out 0).trans rfl; have hcz70_1 : w67.cell? ⟨gb171, 1, none⟩ = some (.int .u64 0) := (blk_cell BK171.out 1).trans rfl; have hcz70_2 : w67.cell? ⟨gb171, 2, none⟩ = some (.int .u64 0) := (blk_cell BK171.out 2).trans rfl; have hcz70_3 : w67.cell? ⟨gb171, 3, none⟩ = some (.int .u64 0) := (blk_cell BK171.out 3).trans rfl; have hcz70_4 : w67.cell? ⟨gb171, 4, none⟩ = some (.int .i64 0) := (blk_cell BK171.out 4).trans rfl; have hfz70_0 := blk_frozen BK171.out 0; have hfz70_1 := blk_frozen BK171.out 1; have hfz70_2 := blk_frozen BK171.out 2; have hfz70_3 := blk_frozen BK171.out 3; have hfz70_4 := blk_frozen BK171.out 4; have hcz71_0 : w67.cell? ⟨gb163, 0, none⟩ = some (.slice A0_0 l0_0.length c0_0) := (blk_cell BK163.out 0).trans rfl; have hfz71_0 := blk_frozen BK163.out 0) | ((with_reducible refine gate_callee (f := 54) rfl ?_); refine goesL_ (some 27) rfl rfl Try.func54 (by kernel_rfl) rfl #[.agg #[.slice A0_0 l0_0.length c0_0]] rfl u5_9 ?_; (with_reducible refine (spec_l10Copy.calls k _ _ l0_0 t175 _ ?side1 ?side2 A61.out).mono ?_); (case side1 => exact Kd.C_below HR0_0.out u5_5); (case side2 => exact HC0_0.out); rintro e w72 ⟨v176, rfl, ho0, hb⟩; refine ⟨_, rfl, ?_⟩; have n0_ := Aside0.mk (Kd.R_lower (Kd.R_newB ho0 (g := gb171) (o := .cells #[.int .u64 t165, .int .u64 t166, .int .u64 t167, .int .u64 t168, .int .i64 t169] 53 (0, 0)) u5_0) (below_size u5_5)); have n1_ := Aside0.mk (blk_below (g := gb163) (o := .cells #[.slice A0_0 l0_0.length c0_0] 29 (0, 0)) u5_1 hb); have n2_ := Aside0.mk (blk_below (g := gb164) (o := .cells #[.slice none 0 0] 29 (0, 0)) u5_2 hb); have n3_ := Aside0.mk (blk_below (g := gb171) (o := .cells #[.int .u64 t165, .int .u64 t166, .int .u64 t167, .int .u64 t168, .int .i64 t169] 53 (0, 0)) u5_0 hb); have n4_ := Aside0.mk (below_step u5_5 hb); clear BK163; clear BK164; clear BK171; clear HB; have HO177 := n0_; have BK163 := n1_; have BK164 := n2_; have BK171 := n3_; have HB := n4_; clear n0_ n1_ n2_ n3_ n4_; (try clear hb); (try clear hb2); (try clear hk); (try clear hi); (try clear ho0); obtain ⟨Ao73, co73, eo73⟩ := Kd.R_slice HO177.out; subst eo73; have hcz74_0 : w72.cell? ⟨gb164, 0, none⟩ = some (.slice none 0 0) := (blk_cell BK164.out 0).trans rfl; have hfz74_0 := blk_frozen BK164.out 0))
      refine bodyPost_ret (results_ct rfl _ _ gb164 29 #[.slice Ao73 t175.length co73] (0, 0) _ rfl u5_10 Try.underlying29 rfl (by kernel_rfl)) rfl ?_
      exact ⟨_, by first | rfl | (simp [errW_none, errW_some] <;> rfl) | (simp [*, errW_none, errW_some] <;> rfl), by (with_reducible repeat (first | apply Kd.R_alloc | apply Kd.R_drewN | apply Kd.R_drew)); exact Kd.R_mono (Kd.R_far (p := ⟨gb164, 0, none⟩) (Kd.R_types HO177.out BK164.out (by decide)) (fun _ hk => hk.2) (.slice Ao73 t175.length co73)) (fun _ hk => trivial), by repeat (first | (with_reducible first | exact HB.out | apply below_alloc | apply pw_below_drewN | apply below_drew1 | refine below_set ?_ GE163.out | refine below_set ?_ GE164.out | refine below_set ?_ GE171.out) | exact HB.out)⟩
  · rw [if_neg c4] at H
    have c4b0 : (t170 == 0) = false := beq_eq_false_iff_ne.mpr c4
    have c4b1 : (t170 != 0) = true := bne_iff_ne.mpr c4
    replace H := Option.bind_eq_some_iff.mp H
    obtain ⟨t178, A750, H⟩ := H
    replace H : (some (t178, t170)) = some (r1, r2) := H
    have A75 := Aside0.mk A750
    clear A750
    simp only [Option.some.injEq, Prod.mk.injEq] at H
    obtain ⟨rfl, rfl⟩ := H
    go_enter Try.func28, Try.ntmps28
    go_wp2_with (first | ((with_reducible refine gate_dst (N := 2) rfl ?_); refine box_event ?hg (N := 2) ?hd (cs := #[.slice A0_0 l0_0.length c0_0]) (t := 29) ?hr ?_; (case hd => rfl); (case hg => rfl); (case hr => first | (go_simp; done) | (go_simp; rfl)); intro gb163 hg w76 hbox hb; have n0_ := Aside0.mk (below_step u5_8 hb); have n1_ := Aside0.mk (hbox); have n2_ := Aside0.mk ((by rw [hg]; exact (below_size u5_8) : w.heap.size ≤ gb163)); have n3_ := Aside0.mk ((by rw [hg]; exact (below_size u5_8) : w.heap.size ≤ gb163)); clear HB; have HB := n0_; have BK163 := n1_; have GW163 := n2_; have GE163 := n3_; clear n0_ n1_ n2_ n3_; clear hb hbox hg) | ((with_reducible refine gate_dst (N := 4) rfl ?_); refine box_event ?hg (N := 4) ?hd (cs := #[.slice none 0 0]) (t := 29) ?hr ?_; (case hd => rfl); (case hg => rfl); (case hr => first | (go_simp; done) | (go_simp; rfl)); intro gb164 hg w77 hbox hb; have n0_ := Aside0.mk (blk_below (g := gb163) (o := .cells #[.slice A0_0 l0_0.length c0_0] 29 (0, 0)) u5_3 hb); have n1_ := Aside0.mk (below_step u5_7 hb); have n2_ := Aside0.mk (hbox); have n3_ := Aside0.mk ((by rw [hg]; exact (below_size u5_7) : w.heap.size ≤ gb164)); have n4_ := Aside0.mk ((by rw [hg]; exact (below_size u5_7) : w.heap.size ≤ gb164)); have n5_ := Aside0.mk ((by rw [hg]; exact Nat.ne_of_lt (blk_lt (g := gb163) (o := .cells #[.slice A0_0 l0_0.length c0_0] 29 (0, 0)) u5_3) : gb163 ≠ gb164)); have n6_ := Aside0.mk ((by rw [hg]; exact Nat.ne_of_gt (blk_lt (g := gb163) (o := .cells #[.slice A0_0 l0_0.length c0_0] 29 (0, 0)) u5_3) : gb164 ≠ gb163)); clear BK163; clear HB; have BK163 := n0_; have HB := n1_; have BK164 := n2_; have GW164 := n3_; have GE164 := n4_; have NB163_164 := n5_; have NB164_163 := n6_; clear n0_ n1_ n2_ n3_ n4_ n5_ n6_; clear hb hbox hg; have hnb78 := NB163_164.out; have hnc78 := NB164_163.out; have hcz79_0 : w77.cell? ⟨gb163, 0, none⟩ = some (.slice A0_0 l0_0.length c0_0) := (blk_cell BK163.out 0).trans rfl; have hfz79_0 := blk_frozen BK163.out 0) | ((with_reducible refine gate_callee (f := 53) rfl ?_); refine goesL_ (some 13) rfl rfl Try.func53 (by kernel_rfl) rfl #[.agg #[.slice A0_0 l0_0.length c0_0], .int .u64 a1, .int .i64 1] rfl u5_9 ?_; (with_reducible refine (spec_l10Of.calls k _ _ l0_0 a1 1 t165 t166 t167 t168 t169 t170 _ ?side1 ?side2 A3.out).mono ?_); (case side1 => repeat (first | exact (Kd.C_below HR0_0.out HB.out) | (with_reducible refine Kd.C_alloc ?_ _) | (with_reducible refine Kd.C_drewN ?_ _) | (with_reducible refine Kd.C_drew ?_))); (case side2 => exact HC0_0.out); rintro e w80 ⟨rfl, hb⟩; refine ⟨_, rfl, ?_⟩; have n0_ := Aside0.mk (blk_below (g := gb163) (o := .cells #[.slice A0_0 l0_0.length c0_0] 29 (0, 0)) u5_3 hb); have n1_ := Aside0.mk (blk_below (g := gb164) (o := .cells #[.slice none 0 0] 29 (0, 0)) u5_6 hb); have n2_ := Aside0.mk (below_step u5_4 hb); clear BK163; clear BK164; clear HB; have BK163 := n0_; have BK164 := n1_; have HB := n2_; clear n0_ n1_ n2_; (try clear hb); (try clear hb2); (try clear hk); (try clear hi)) | ((with_reducible refine gate_dst (N := 6) rfl ?_); refine box_event ?hg (N := 6) ?hd (cs := #[.int .u64 0, .int .u64 0, .int .u64 0, .int .u64 0, .int .i64 0]) (t := 53) ?hr ?_; (case hd => rfl); (case hg => rfl); (case hr => first | (go_simp; done) | (go_simp; rfl)); intro gb171 hg w81 hbox hb; have n0_ := Aside0.mk (blk_below (g := gb163) (o := .cells #[.slice A0_0 l0_0.length c0_0] 29 (0, 0)) u5_3 hb); have n1_ := Aside0.mk (blk_below (g := gb164) (o := .cells #[.slice none 0 0] 29 (0, 0)) u5_6 hb); have n2_ := Aside0.mk (below_step u5_4 hb); have n3_ := Aside0.mk (hbox); have n4_ := Aside0.mk ((by rw [hg]; exact (below_size u5_4) : w.heap.size ≤ gb171)); have n5_ := Aside0.mk ((by rw [hg]; exact (below_size u5_4) : w.heap.size ≤ gb171)); have n6_ := Aside0.mk ((by rw [hg]; exact Nat.ne_of_lt (blk_lt (g := gb163) (o := .cells #[.slice A0_0 l0_0.length c0_0] 29 (0, 0)) u5_3) : gb163 ≠ gb171)); have n7_ := Aside0.mk ((by rw [hg]; exact Nat.ne_of_gt (blk_lt (g := gb163) (o := .cells #[.slice A0_0 l0_0.length c0_0] 29 (0, 0)) u5_3) : gb171 ≠ gb163)); have n8_ := Aside0.mk ((by rw [hg]; exact Nat.ne_of_lt (blk_lt (g := gb164) (o := .cells #[.slice none 0 0] 29 (0, 0)) u5_6) : gb164 ≠ gb171)); have n9_ := Aside0.mk ((by rw [hg]; exact Nat.ne_of_gt (blk_lt (g := gb164) (o := .cells #[.slice none 0 0] 29 (0, 0)) u5_6) : gb171 ≠ gb164)); clear BK163; clear BK164; clear HB; have BK163 := n0_; have BK164 := n1_; have HB := n2_; have BK171 := n3_; have GW171 := n4_; have GE171 := n5_; have NB163_171 := n6_; have NB171_163 := n7_; have NB164_171 := n8_; have NB171_164 := n9_; clear n0_ n1_ n2_ n3_ n4_ n5_ n6_ n7_ n8_ n9_; clear hb hbox hg; have hnb82 := NB171_163.out; have hnc82 := NB163_171.out; have hnb83 := NB171_164.out; have hnc83 := NB164_171.out; have hcz84_0 : w81.cell? ⟨gb171, 0, none⟩ = some (.int .u64 0) := (blk_cell BK171.out 0).trans rfl; have hcz84_1 : w81.cell? ⟨gb171, 1, none⟩ = some (.int .u64 0) := (blk_cell BK171.out 1).trans rfl; have hcz84_2 : w81.cell? ⟨gb171, 2, none⟩ = some (.int .u64 0) := (blk_cell BK171.out 2).trans rfl; have hcz84_3 : w81.cell? ⟨gb171, 3, none⟩ = some (.int .u64 0) := (blk_cell BK171.out 3).trans rfl; have hcz84_4 : w81.cell? ⟨gb171, 4, none⟩ = some (.int .i64 0) := (blk_cell BK171.out 4).trans rfl; have hfz84_0 := blk_frozen BK171.out 0; have hfz84_1 := blk_frozen BK171.out 1; have hfz84_2 := blk_frozen BK171.out 2; have hfz84_3 := blk_frozen BK171.out 3; have hfz84_4 := blk_frozen BK171.out 4; have hcz85_0 : w81.cell? ⟨gb163, 0, none⟩ = some (.slice A0_0 l0_0.length c0_0) := (blk_cell BK163.out 0).trans rfl; have hfz85_0 := blk_frozen BK163.out 0) | ((with_reducible refine gate_callee (f := 54) rfl ?_); refine goesL_ (some 20) rfl rfl Try.func54 (by kernel_rfl) rfl #[.agg #[.slice A0_0 l0_0.length c0_0]] rfl u5_9 ?_; (with_reducible refine (spec_l10Copy.calls k _ _ l0_0 t178 _ ?side1 ?side2 A75.out).mono ?_); (case side1 => exact Kd.C_below HR0_0.out u5_5); (case side2 => exact HC0_0.out); rintro e w86 ⟨v179, rfl, ho0, hb⟩; refine ⟨_, rfl, ?_⟩; have n0_ := Aside0.mk (Kd.R_lower (Kd.R_newB ho0 (g := gb171) (o := .cells #[.int .u64 t165, .int .u64 t166, .int .u64 t167, .int .u64 t168, .int .i64 t169] 53 (0, 0)) u5_0) (below_size u5_5)); have n1_ := Aside0.mk (blk_below (g := gb163) (o := .cells #[.slice A0_0 l0_0.length c0_0] 29 (0, 0)) u5_1 hb); have n2_ := Aside0.mk (blk_below (g := gb164) (o := .cells #[.slice none 0 0] 29 (0, 0)) u5_2 hb); have n3_ := Aside0.mk (blk_below (g := gb171) (o := .cells #[.int .u64 t165, .int .u64 t166, .int .u64 t167, .int .u64 t168, .int .i64 t169] 53 (0, 0)) u5_0 hb); have n4_ := Aside0.mk (below_step u5_5 hb); clear BK163; clear BK164; clear BK171; clear HB; have HO180 := n0_; have BK163 := n1_; have BK164 := n2_; have BK171 := n3_; have HB := n4_; clear n0_ n1_ n2_ n3_ n4_; (try clear hb); (try clear hb2); (try clear hk); (try clear hi); (try clear ho0); obtain ⟨Ao87, co87, eo87⟩ := Kd.R_slice HO180.out; subst eo87; have hcz88_0 : w86.cell? ⟨gb164, 0, none⟩ = some (.slice none 0 0) := (blk_cell BK164.out 0).trans rfl; have hfz88_0 := blk_frozen BK164.out 0))
    refine bodyPost_ret (results_ct rfl _ _ gb164 29 #[.slice Ao87 t178.length co87] (0, 0) _ rfl u5_10 Try.underlying29 rfl (by kernel_rfl)) rfl ?_
    exact ⟨_, by first | rfl | (simp [errW_none, errW_some] <;> rfl) | (simp [*, errW_none, errW_some] <;> rfl), by (with_reducible repeat (first | apply Kd.R_alloc | apply Kd.R_drewN | apply Kd.R_drew)); exact Kd.R_mono (Kd.R_far (p := ⟨gb164, 0, none⟩) (Kd.R_types HO180.out BK164.out (by decide)) (fun _ hk => hk.2) (.slice Ao87 t178.length co87)) (fun _ hk => trivial), by repeat (first | (with_reducible first | exact HB.out | apply below_alloc | apply pw_below_drewN | apply below_drew1 | refine below_set ?_ GE163.out | refine below_set ?_ GE164.out | refine below_set ?_ GE171.out) | exact HB.out)⟩

-- NOT PRINTED: function 76 (bits_Add64)

end Go.Proofs.Ytdbfjakhkclggaa.QFnExactCloseAccount
