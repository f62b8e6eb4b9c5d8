-- Printed by the session's own program wip/prx.py.
import Derived.Test.YtdbfjakhkclggaaQFnBookx0
import Derived.Test.YtdbfjakhkclggaaQFnBookx3
import Derived.Test.YtdbfjakhkclggaaQFnBookx4
namespace Go.Proofs.Ytdbfjakhkclggaa.QFnBook
open Go.RowKit Go.Proofs.YtdbfjakhkclggaaW.PrintWords Go.Proofs.YtdbfjakhkclggaaW.PrintLast Go.Proofs.YtdbfjakhkclggaaW.PrintMore
attribute [local go_sem] max2_int min2_int max_two min_two max_three min_three max_four min_four Go.Proofs.Ytdbfjakhkclggaa.Set.isSome_setCell Go.Proofs.Ytdbfjakhkclggaa.Add.add64   -- for this text's walks alone
set_option linter.unusedVariables false
set_option linter.unusedSimpArgs false

-- squeezed
theorem u10_0 {P : Prop} (h : P := by repeat (first | (with_reducible first | exact HB.out | apply below_alloc | apply pw_below_drewN | apply below_drew1 | refine below_set ?_ GE332.out | refine below_set ?_ GE333.out | refine below_set ?_ GE345.out) | exact HB.out)) : P := h
theorem u10_1 {P : Prop} (h : P := by repeat (first | (with_reducible first | exact HB.out | apply below_alloc | apply pw_below_drewN | apply below_drew1 | refine below_set ?_ GE332.out | refine below_set ?_ GE333.out) | exact HB.out)) : P := h
theorem u10_2 {P : Prop} (h : P := by (with_reducible repeat (first | refine blk_drewN ?_ _ | refine blk_drew ?_ | refine blk_alloc ?_ _)); exact BK332.out) : P := h
theorem u10_3 {P : Prop} (h : P := by (with_reducible repeat (first | refine blk_drewN ?_ _ | refine blk_drew ?_ | refine blk_alloc ?_ _)); exact BK333.out) : P := h
theorem u10_4 {P : Prop} (h : P := by (with_reducible repeat (first | refine blk_drewN ?_ _ | refine blk_drew ?_ | refine blk_alloc ?_ _)); refine blk_put (cs := #[.slice none 0 0]) ?_ 0 _ rfl; (with_reducible repeat (first | refine blk_drewN ?_ _ | refine blk_drew ?_ | refine blk_alloc ?_ _)); exact BK333.out) : P := h
theorem u10_5 {P : Prop} (h : P := by (with_reducible repeat (first | refine blk_drewN ?_ _ | refine blk_drew ?_ | refine blk_alloc ?_ _)); refine blk_far ?_ NB332_345.out _; (with_reducible repeat (first | refine blk_drewN ?_ _ | refine blk_drew ?_ | refine blk_alloc ?_ _)); exact BK332.out) : P := h
theorem u10_6 {P : Prop} (h : P := by (with_reducible repeat (first | refine blk_drewN ?_ _ | refine blk_drew ?_ | refine blk_alloc ?_ _)); refine blk_far ?_ NB333_345.out _; (with_reducible repeat (first | refine blk_drewN ?_ _ | refine blk_drew ?_ | refine blk_alloc ?_ _)); exact BK333.out) : P := h
theorem u10_7 {P : Prop} (h : P := by repeat (first | exact (Kd.C_below HR0_0.out HB.out) | (with_reducible refine Kd.C_alloc ?_ _) | (with_reducible refine Kd.C_drewN ?_ _) | (with_reducible refine Kd.C_drew ?_))) : P := h
theorem u10_8 {P : Prop} (h : P := by (try simp only [List.map_toArray, List.map_cons, List.map_nil]); first | done | rfl | (simp only [List.length_drop, List.length_take]; rfl)) : P := h
theorem u10_9 {P : Prop} (h : P := by (with_reducible repeat (first | refine blk_drewN ?_ _ | refine blk_drew ?_ | refine blk_alloc ?_ _)); exact BK345.out) : P := h
theorem u10_10 {P : Prop} (h : P := by repeat (first | (with_reducible first | exact HB.out | apply below_alloc | apply pw_below_drewN | apply below_drew1 | refine below_set ?_ GE332.out) | exact HB.out)) : P := h
theorem u10_11 {P : Prop} (h : P := by (with_reducible repeat (first | apply Kd.R_alloc | apply Kd.R_drewN | apply Kd.R_drew)); exact HO_346000.out) : P := h
theorem u10_12 {P : Prop} (h : P := by first | (with_reducible assumption) | assumption) : P := h
theorem u10_13 {P : Prop} (h : P := by first | rfl | (simp; done) | (simp [*]; done)) : P := h
theorem u10_14 {P : Prop} (h : P := by (with_reducible repeat (first | refine blk_drewN ?_ _ | refine blk_drew ?_ | refine blk_alloc ?_ _)); refine blk_put (cs := #[u346000]) ?_ 0 _ rfl; (with_reducible repeat (first | refine blk_drewN ?_ _ | refine blk_drew ?_ | refine blk_alloc ?_ _)); exact BK345.out) : P := h
theorem u10_15 {P : Prop} (h : P := by repeat (first | (with_reducible first | exact HB.out | apply below_alloc | apply pw_below_drewN | apply below_drew1) | exact HB.out)) : P := h
/-! ### spec_OpenAccount: function 42 -/
def spec_OpenAccount.l0 : Nat → Int → Bool → Int → List (S53) → List (S53) → Option ((List (S53)) × Int)
  | 0, _, _, _, _, _ => none
  | k + 1, x1, x7, x8, x333000, x346000 => if x8 < (x333000.length : Int) then (if x7 = true then (if 0 ≤ x8 then (if x346000.length < 3518437208883 then (spec_OpenAccount.l0 k x1 x7 (wrap64 (x8 + 1)) x333000 (x346000 ++ [(⟨(rd_T53 x333000 x8).f0, (rd_T53 x333000 x8).f1, (rd_T53 x333000 x8).f2, (rd_T53 x333000 x8).f3, (rd_T53 x333000 x8).f4⟩ : S53)])) else (none)) else (none)) else (if 0 ≤ x8 then (if ((rd_T53 x333000 x8).f0) > x1 then (if x346000.length < 3518437208883 then ((some (x346000 ++ [(⟨x1, 0, 0, 0, 0⟩ : S53)] : List (S53))).bind fun y351 => (if y351.length < 3518437208883 then (spec_OpenAccount.l0 k x1 true (wrap64 (x8 + 1)) x333000 (y351 ++ [(⟨(rd_T53 x333000 x8).f0, (rd_T53 x333000 x8).f1, (rd_T53 x333000 x8).f2, (rd_T53 x333000 x8).f3, (rd_T53 x333000 x8).f4⟩ : S53)])) else (none))) else (none)) else (if x346000.length < 3518437208883 then (spec_OpenAccount.l0 k x1 x7 (wrap64 (x8 + 1)) x333000 (x346000 ++ [(⟨(rd_T53 x333000 x8).f0, (rd_T53 x333000 x8).f1, (rd_T53 x333000 x8).f2, (rd_T53 x333000 x8).f3, (rd_T53 x333000 x8).f4⟩ : S53)])) else (none))) else (none))) else (if x7 = true then (some (x346000, 0)) else (if x346000.length < 3518437208883 then (some ((x346000 ++ [(⟨x1, 0, 0, 0, 0⟩ : S53)]), 0)) else (none)))
def spec_OpenAccount.f (k : Nat) (l0_0 : List (S53)) (a1 : Int) : Option ((List (S53)) × Int) := (spec_BookOk.f k l0_0).bind fun t334 => (if t334 = true then ((spec_l10Find.f k l0_0 a1).bind fun t338 => (if t338 ≥ 0 then ((spec_l10Copy.f k l0_0).bind fun t339 => (some (t339, 3))) else (if (l0_0.length : Int) = 40 then ((spec_l10Copy.f k l0_0).bind fun t342 => (some (t342, 1))) else (spec_OpenAccount.l0 k a1 false 0 l0_0 ([] : List (S53)))))) else ((spec_l10Copy.f k l0_0).bind fun t335 => (some (t335, 1))))
theorem spec_OpenAccount.mono_l : ∀ k, (∀ y0 y1 y2 y3 y4, LeO (spec_OpenAccount.l0 k y0 y1 y2 y3 y4) (spec_OpenAccount.l0 (k + 1) y0 y1 y2 y3 y4))
  | 0 => fun _ _ _ _ _ r h => by simp [spec_OpenAccount.l0] at h
  | k + 1 => by
    have ih0 := spec_OpenAccount.mono_l k
    · intro y0 y1 y2 y3 y4
      unfold spec_OpenAccount.l0
      repeat' first
      | (with_reducible exact ih0 _ _ _ _ _)
      | (with_reducible exact spec_BookOk.mono _ _)
      | (with_reducible exact spec_l10Copy.mono _ _)
      | (with_reducible exact spec_l10Find.mono _ _ _)
      | (with_reducible exact LeO.refl _)
      | (with_reducible exact LeO.none _)
      | (with_reducible refine LeO.ite ?_ ?_)
      | (with_reducible refine LeO.bind ?_ (fun _ => ?_))
      | exact ih0 _ _ _ _ _
      | exact spec_BookOk.mono _ _
      | exact spec_l10Copy.mono _ _
      | exact spec_l10Find.mono _ _ _
      | exact LeO.none _
      | refine LeO.ite ?_ ?_
      | refine LeO.bind ?_ (fun _ => ?_)
theorem spec_OpenAccount.mono : ∀ a0 a1 k, LeO (spec_OpenAccount.f k a0 a1) (spec_OpenAccount.f (k + 1) a0 a1) := by
  intro a0 a1 k
  have ih0 := spec_OpenAccount.mono_l k
  unfold spec_OpenAccount.f
  repeat' first
      | (with_reducible exact ih0 _ _ _ _ _)
      | (with_reducible exact spec_BookOk.mono _ _)
      | (with_reducible exact spec_l10Copy.mono _ _)
      | (with_reducible exact spec_l10Find.mono _ _ _)
      | (with_reducible exact LeO.refl _)
      | (with_reducible exact LeO.none _)
      | (with_reducible refine LeO.ite ?_ ?_)
      | (with_reducible refine LeO.bind ?_ (fun _ => ?_))
      | exact ih0 _ _ _ _ _
      | exact spec_BookOk.mono _ _
      | exact spec_l10Copy.mono _ _
      | exact spec_l10Find.mono _ _ _
      | exact LeO.none _
      | refine LeO.ite ?_ ?_
      | refine LeO.bind ?_ (fun _ => ?_)
def spec_OpenAccount.T15 : Bool × List (List Nat × List Nat) := (true, [([], []), ([0], [0]), ([], []), ([2], [2]), ([], []), ([3, 4], [3, 4]), ([5], [5]), ([6], [6]), ([1, 7], [1, 7]), ([0, 1, 2, 3, 4, 5, 6, 7, 8], []), ([9, 8, 8, 0, 1, 2, 3, 4, 5, 6, 7, 8], [8, 9])])
def spec_OpenAccount.B15 : List Nat := [0, 1, 0, 4, 0, 28, 60, 124, 255, 511, 1023]
theorem spec_OpenAccount.tab15 : rtab .any (opsOf Try.f42 15) = spec_OpenAccount.T15 := by kernel_rfl
theorem spec_OpenAccount.bits15 : waitsOk spec_OpenAccount.T15.2 spec_OpenAccount.B15 = true := by kernel_rfl
set_option maxHeartbeats 8000000 in
set_option maxRecDepth 100000 in
theorem spec_OpenAccount.calls (k : Nat) (A0_0 : Option Addr) (c0_0 : Nat) (l0_0 : List (S53)) (a1 : Int) (r1 : List (S53)) (r2 : Int) (w : World) (hr0_0 : Kd.C k53 w A0_0 l0_0.length l0_0) (hc0_0 : l0_0.length ≤ c0_0) (h : spec_OpenAccount.f k l0_0 a1 = some (r1, r2)) :
    Calls Try.prog 42 #[.agg #[.slice A0_0 l0_0.length c0_0], .int .u64 a1] w fun e w' => ∃ v0_ : Value, e = .returned (.tuple #[.agg #[v0_], .int .i64 r2]) ∧ Kd.R k53 53 w' w.heap.size (fun _ => True) v0_ r1 ∧ Below w.heap.size w w' := by
  have hu29 := Try.underlying29
  have hu53 := Try.underlying53
  have HR0_0 := Aside0.mk hr0_0
  have HC0_0 := Aside0.mk hc0_0
  clear hr0_0 hc0_0
  have HB := Aside0.mk (Below.refl w.heap.size w)
  have H : ((spec_BookOk.f k l0_0).bind fun t334 => (if t334 = true then ((spec_l10Find.f k l0_0 a1).bind fun t338 => (if t338 ≥ 0 then ((spec_l10Copy.f k l0_0).bind fun t339 => (some (t339, 3))) else (if (l0_0.length : Int) = 40 then ((spec_l10Copy.f k l0_0).bind fun t342 => (some (t342, 1))) else (spec_OpenAccount.l0 k a1 false 0 l0_0 ([] : List (S53)))))) else ((spec_l10Copy.f k l0_0).bind fun t335 => (some (t335, 1))))) = some (r1, r2) := h
  clear h
  replace H := Option.bind_eq_some_iff.mp H
  obtain ⟨t334, A30, H⟩ := H
  have A3 := Aside0.mk A30
  clear A30
  have H9 := Aside0.mk H
  clear H
  go_enter Try.func42, Try.ntmps42
  go_upto_if 11 with (first | ((with_reducible refine gate_dst (N := 2) rfl ?_); refine box_event ?hg (N := 2) ?hd (cs := #[.slice A0_0 l0_0.length c0_0]) (t := 29) ?hr ?_; (case hd => rfl); (case hg => rfl); (case hr => first | (go_simp; done) | (go_simp; rfl)); intro gb332 hg w4 hbox hb; have n0_ := Aside0.mk (below_step u10_15 hb); have n1_ := Aside0.mk (hbox); have n2_ := Aside0.mk ((by rw [hg]; exact (below_size u10_15) : w.heap.size ≤ gb332)); have n3_ := Aside0.mk ((by rw [hg]; exact (below_size u10_15) : w.heap.size ≤ gb332)); clear HB; have HB := n0_; have BK332 := n1_; have GW332 := n2_; have GE332 := n3_; clear n0_ n1_ n2_ n3_; clear hb hbox hg) | ((with_reducible refine gate_dst (N := 4) rfl ?_); refine box_event ?hg (N := 4) ?hd (cs := #[.slice none 0 0]) (t := 29) ?hr ?_; (case hd => rfl); (case hg => rfl); (case hr => first | (go_simp; done) | (go_simp; rfl)); intro gb333 hg w5 hbox hb; have n0_ := Aside0.mk (blk_below (g := gb332) (o := .cells #[.slice A0_0 l0_0.length c0_0] 29 (0, 0)) u10_2 hb); have n1_ := Aside0.mk (below_step u10_10 hb); have n2_ := Aside0.mk (hbox); have n3_ := Aside0.mk ((by rw [hg]; exact (below_size u10_10) : w.heap.size ≤ gb333)); have n4_ := Aside0.mk ((by rw [hg]; exact (below_size u10_10) : w.heap.size ≤ gb333)); have n5_ := Aside0.mk ((by rw [hg]; exact Nat.ne_of_lt (blk_lt (g := gb332) (o := .cells #[.slice A0_0 l0_0.length c0_0] 29 (0, 0)) u10_2) : gb332 ≠ gb333)); have n6_ := Aside0.mk ((by rw [hg]; exact Nat.ne_of_gt (blk_lt (g := gb332) (o := .cells #[.slice A0_0 l0_0.length c0_0] 29 (0, 0)) u10_2) : gb333 ≠ gb332)); clear BK332; clear HB; have BK332 := n0_; have HB := n1_; have BK333 := n2_; have GW333 := n3_; have GE333 := n4_; have NB332_333 := n5_; have NB333_332 := n6_; clear n0_ n1_ n2_ n3_ n4_ n5_ n6_; clear hb hbox hg; have hnb6 := NB332_333.out; have hnc6 := NB333_332.out; have hcz7_0 : w5.cell? ⟨gb332, 0, none⟩ = some (.slice A0_0 l0_0.length c0_0) := (blk_cell BK332.out 0).trans rfl; have hfz7_0 := blk_frozen BK332.out 0) | ((with_reducible refine gate_callee (f := 18) rfl ?_); refine goesL_ (some 10) rfl rfl Try.func18 (by kernel_rfl) rfl #[.agg #[.slice A0_0 l0_0.length c0_0]] rfl u10_8 ?_; (with_reducible refine (spec_BookOk.calls k _ _ l0_0 t334 _ ?side1 ?side2 A3.out).mono ?_); (case side1 => exact u10_7); (case side2 => exact HC0_0.out); rintro e w8 ⟨rfl, hb⟩; refine ⟨_, rfl, ?_⟩; have n0_ := Aside0.mk (blk_below (g := gb332) (o := .cells #[.slice A0_0 l0_0.length c0_0] 29 (0, 0)) u10_2 hb); have n1_ := Aside0.mk (blk_below (g := gb333) (o := .cells #[.slice none 0 0] 29 (0, 0)) u10_3 hb); have n2_ := Aside0.mk (below_step u10_1 hb); clear BK332; clear BK333; clear HB; have BK332 := n0_; have BK333 := n1_; have HB := n2_; clear n0_ n1_ n2_; (try clear hb); (try clear hb2); (try clear hk); (try clear hi)))
  have H := H9.out
  clear H9
  by_cases c9 : t334 = true
  rotate_left
  · replace c9 := Bool.eq_false_iff.mpr c9
    subst c9
    rw [if_neg (show ¬ (false = true) by decide)] at H
    replace H := Option.bind_eq_some_iff.mp H
    obtain ⟨t335, A860, H⟩ := H
    replace H : (some (t335, 1)) = some (r1, r2) := H
    have A86 := Aside0.mk A860
    clear A860
    simp only [Option.some.injEq, Prod.mk.injEq] at H
    obtain ⟨rfl, rfl⟩ := H
    have hnb87 := NB332_333.out
    have hnc87 := NB333_332.out
    have hcz88_0 : w8.cell? ⟨gb332, 0, none⟩ = some (.slice A0_0 l0_0.length c0_0) := (blk_cell BK332.out 0).trans rfl
    have hfz88_0 := blk_frozen BK332.out 0
    go_wp2_with (first | ((with_reducible refine gate_callee (f := 54) rfl ?_); refine goesL_ (some 13) rfl rfl Try.func54 (by kernel_rfl) rfl #[.agg #[.slice A0_0 l0_0.length c0_0]] rfl u10_8 ?_; (with_reducible refine (spec_l10Copy.calls k _ _ l0_0 t335 _ ?side1 ?side2 A86.out).mono ?_); (case side1 => exact u10_7); (case side2 => exact HC0_0.out); rintro e w89 ⟨v336, rfl, ho0, hb⟩; refine ⟨_, rfl, ?_⟩; have n0_ := Aside0.mk (Kd.R_lower ho0 (below_size u10_1)); have n1_ := Aside0.mk (blk_below (g := gb332) (o := .cells #[.slice A0_0 l0_0.length c0_0] 29 (0, 0)) u10_2 hb); have n2_ := Aside0.mk (blk_below (g := gb333) (o := .cells #[.slice none 0 0] 29 (0, 0)) u10_3 hb); have n3_ := Aside0.mk (below_step u10_1 hb); clear BK332; clear BK333; clear HB; have HO337 := n0_; have BK332 := n1_; have BK333 := n2_; have HB := n3_; clear n0_ n1_ n2_ n3_; (try clear hb); (try clear hb2); (try clear hk); (try clear hi); (try clear ho0); obtain ⟨Ao90, co90, eo90⟩ := Kd.R_slice HO337.out; subst eo90; have hcz91_0 : w89.cell? ⟨gb333, 0, none⟩ = some (.slice none 0 0) := (blk_cell BK333.out 0).trans rfl; have hfz91_0 := blk_frozen BK333.out 0))
    refine bodyPost_ret (results_ct rfl _ _ gb333 29 #[.slice Ao90 t335.length co90] (0, 0) _ rfl u10_4 Try.underlying29 rfl (by kernel_rfl)) rfl ?_
    exact ⟨_, by first | rfl | (simp [errW_none, errW_some] <;> rfl) | (simp [*, errW_none, errW_some] <;> rfl), (by (with_reducible repeat (first | apply Kd.R_alloc | apply Kd.R_drewN | apply Kd.R_drew)); exact Kd.R_mono (Kd.R_far (p := ⟨gb333, 0, none⟩) (Kd.R_types HO337.out BK333.out (by decide)) (fun _ hk => hk.2) (.slice Ao90 t335.length co90)) (fun _ hk => trivial)), u10_1⟩
  subst c9
  rw [if_pos rfl] at H
  replace H := Option.bind_eq_some_iff.mp H
  obtain ⟨t338, A100, H⟩ := H
  have A10 := Aside0.mk A100
  clear A100
  have H9 := Aside0.mk H
  clear H
  have hnb11 := NB332_333.out
  have hnc11 := NB333_332.out
  have hcz12_0 : w8.cell? ⟨gb332, 0, none⟩ = some (.slice A0_0 l0_0.length c0_0) := (blk_cell BK332.out 0).trans rfl
  have hfz12_0 := blk_frozen BK332.out 0
  go_upto_if 17 with (first | ((with_reducible refine gate_callee (f := 68) rfl ?_); refine goesL_ (some 16) rfl rfl Try.func68 (by kernel_rfl) rfl #[.agg #[.slice A0_0 l0_0.length c0_0], .int .u64 a1] rfl u10_8 ?_; (with_reducible refine (spec_l10Find.calls k _ _ l0_0 a1 t338 _ ?side1 ?side2 A10.out).mono ?_); (case side1 => exact u10_7); (case side2 => exact HC0_0.out); rintro e w13 ⟨rfl, hb⟩; refine ⟨_, rfl, ?_⟩; have n0_ := Aside0.mk (blk_below (g := gb332) (o := .cells #[.slice A0_0 l0_0.length c0_0] 29 (0, 0)) u10_2 hb); have n1_ := Aside0.mk (blk_below (g := gb333) (o := .cells #[.slice none 0 0] 29 (0, 0)) u10_3 hb); have n2_ := Aside0.mk (below_step u10_1 hb); clear BK332; clear BK333; clear HB; have BK332 := n0_; have BK333 := n1_; have HB := n2_; clear n0_ n1_ n2_; (try clear hb); (try clear hb2); (try clear hk); (try clear hi)))
  have H := H9.out
  clear H9
  by_cases c14 : t338 ≥ 0
  · rw [if_pos c14] at H
    have c14b0 : decide (0 ≤ t338) = true := decide_eq_true c14
    clear c14
    (first | rw [c14b0] | (simp only [i64_w, i32_w]; rw [c14b0]) | skip)
    replace H := Option.bind_eq_some_iff.mp H
    obtain ⟨t339, A150, H⟩ := H
    replace H : (some (t339, 3)) = some (r1, r2) := H
    have A15 := Aside0.mk A150
    clear A150
    simp only [Option.some.injEq, Prod.mk.injEq] at H
    obtain ⟨rfl, rfl⟩ := H
    have hnb16 := NB332_333.out
    have hnc16 := NB333_332.out
    have hcz17_0 : w13.cell? ⟨gb332, 0, none⟩ = some (.slice A0_0 l0_0.length c0_0) := (blk_cell BK332.out 0).trans rfl
    have hfz17_0 := blk_frozen BK332.out 0
    go_wp2_with (first | ((with_reducible refine gate_callee (f := 54) rfl ?_); refine goesL_ (some 19) rfl rfl Try.func54 (by kernel_rfl) rfl #[.agg #[.slice A0_0 l0_0.length c0_0]] rfl u10_8 ?_; (with_reducible refine (spec_l10Copy.calls k _ _ l0_0 t339 _ ?side1 ?side2 A15.out).mono ?_); (case side1 => exact u10_7); (case side2 => exact HC0_0.out); rintro e w18 ⟨v340, rfl, ho0, hb⟩; refine ⟨_, rfl, ?_⟩; have n0_ := Aside0.mk (Kd.R_lower ho0 (below_size u10_1)); have n1_ := Aside0.mk (blk_below (g := gb332) (o := .cells #[.slice A0_0 l0_0.length c0_0] 29 (0, 0)) u10_2 hb); have n2_ := Aside0.mk (blk_below (g := gb333) (o := .cells #[.slice none 0 0] 29 (0, 0)) u10_3 hb); have n3_ := Aside0.mk (below_step u10_1 hb); clear BK332; clear BK333; clear HB; have HO341 := n0_; have BK332 := n1_; have BK333 := n2_; have HB := n3_; clear n0_ n1_ n2_ n3_; (try clear hb); (try clear hb2); (try clear hk); (try clear hi); (try clear ho0); obtain ⟨Ao19, co19, eo19⟩ := Kd.R_slice HO341.out; subst eo19; have hcz20_0 : w18.cell? ⟨gb333, 0, none⟩ = some (.slice none 0 0) := (blk_cell BK333.out 0).trans rfl; have hfz20_0 := blk_frozen BK333.out 0))
    refine bodyPost_ret (results_ct rfl _ _ gb333 29 #[.slice Ao19 t339.length co19] (0, 0) _ rfl u10_4 Try.underlying29 rfl (by kernel_rfl)) rfl ?_
    exact ⟨_, by first | rfl | (simp [errW_none, errW_some] <;> rfl) | (simp [*, errW_none, errW_some] <;> rfl), (by (with_reducible repeat (first | apply Kd.R_alloc | apply Kd.R_drewN | apply Kd.R_drew)); exact Kd.R_mono (Kd.R_far (p := ⟨gb333, 0, none⟩) (Kd.R_types HO341.out BK333.out (by decide)) (fun _ hk => hk.2) (.slice Ao19 t339.length co19)) (fun _ hk => trivial)), u10_1⟩
  rw [if_neg c14] at H
  have c14b0 : decide (0 ≤ t338) = false := decide_eq_false c14
  clear c14
  (first | rw [c14b0] | (simp only [i64_w, i32_w]; rw [c14b0]) | skip)
  by_cases c21 : (l0_0.length : Int) = 40
  · rw [if_pos c21] at H
    have c21b0 : ((l0_0.length : Int) == 40) = true := beq_iff_eq.mpr c21
    have c21b1 : ((l0_0.length : Int) != 40) = false := bne_eq_false_iff_eq.mpr c21
    clear c21
    replace H := Option.bind_eq_some_iff.mp H
    obtain ⟨t342, A220, H⟩ := H
    replace H : (some (t342, 1)) = some (r1, r2) := H
    have A22 := Aside0.mk A220
    clear A220
    simp only [Option.some.injEq, Prod.mk.injEq] at H
    obtain ⟨rfl, rfl⟩ := H
    have hnb23 := NB332_333.out
    have hnc23 := NB333_332.out
    have hcz24_0 : w13.cell? ⟨gb332, 0, none⟩ = some (.slice A0_0 l0_0.length c0_0) := (blk_cell BK332.out 0).trans rfl
    have hfz24_0 := blk_frozen BK332.out 0
    go_wp2_with (first | ((with_reducible refine gate_callee (f := 54) rfl ?_); refine goesL_ (some 25) rfl rfl Try.func54 (by kernel_rfl) rfl #[.agg #[.slice A0_0 l0_0.length c0_0]] rfl u10_8 ?_; (with_reducible refine (spec_l10Copy.calls k _ _ l0_0 t342 _ ?side1 ?side2 A22.out).mono ?_); (case side1 => exact u10_7); (case side2 => exact HC0_0.out); rintro e w25 ⟨v343, rfl, ho0, hb⟩; refine ⟨_, rfl, ?_⟩; have n0_ := Aside0.mk (Kd.R_lower ho0 (below_size u10_1)); have n1_ := Aside0.mk (blk_below (g := gb332) (o := .cells #[.slice A0_0 l0_0.length c0_0] 29 (0, 0)) u10_2 hb); have n2_ := Aside0.mk (blk_below (g := gb333) (o := .cells #[.slice none 0 0] 29 (0, 0)) u10_3 hb); have n3_ := Aside0.mk (below_step u10_1 hb); clear BK332; clear BK333; clear HB; have HO344 := n0_; have BK332 := n1_; have BK333 := n2_; have HB := n3_; clear n0_ n1_ n2_ n3_; (try clear hb); (try clear hb2); (try clear hk); (try clear hi); (try clear ho0); obtain ⟨Ao26, co26, eo26⟩ := Kd.R_slice HO344.out; subst eo26; have hcz27_0 : w25.cell? ⟨gb333, 0, none⟩ = some (.slice none 0 0) := (blk_cell BK333.out 0).trans rfl; have hfz27_0 := blk_frozen BK333.out 0))
    refine bodyPost_ret (results_ct rfl _ _ gb333 29 #[.slice Ao26 t342.length co26] (0, 0) _ rfl u10_4 Try.underlying29 rfl (by kernel_rfl)) rfl ?_
    exact ⟨_, by first | rfl | (simp [errW_none, errW_some] <;> rfl) | (simp [*, errW_none, errW_some] <;> rfl), (by (with_reducible repeat (first | apply Kd.R_alloc | apply Kd.R_drewN | apply Kd.R_drew)); exact Kd.R_mono (Kd.R_far (p := ⟨gb333, 0, none⟩) (Kd.R_types HO344.out BK333.out (by decide)) (fun _ hk => hk.2) (.slice Ao26 t342.length co26)) (fun _ hk => trivial)), u10_1⟩
  rw [if_neg c21] at H
  have c21b0 : ((l0_0.length : Int) == 40) = false := beq_eq_false_iff_ne.mpr c21
  have c21b1 : ((l0_0.length : Int) != 40) = true := bne_iff_ne.mpr c21
  have H' := Aside0.mk H
  clear H
  have hnb28 := NB332_333.out
  have hnc28 := NB333_332.out
  have hcz29_0 : w13.cell? ⟨gb332, 0, none⟩ = some (.slice A0_0 l0_0.length c0_0) := (blk_cell BK332.out 0).trans rfl
  have hfz29_0 := blk_frozen BK332.out 0
  go_wp2_with (first | ((with_reducible refine gate_dst (N := 6) rfl ?_); refine box_event ?hg (N := 6) ?hd (cs := #[.slice none 0 0]) (t := 29) ?hr ?_; (case hd => rfl); (case hg => rfl); (case hr => first | (go_simp; done) | (go_simp; rfl)); intro gb345 hg w30 hbox hb; have n0_ := Aside0.mk (blk_below (g := gb332) (o := .cells #[.slice A0_0 l0_0.length c0_0] 29 (0, 0)) u10_2 hb); have n1_ := Aside0.mk (blk_below (g := gb333) (o := .cells #[.slice none 0 0] 29 (0, 0)) u10_3 hb); have n2_ := Aside0.mk (below_step u10_1 hb); have n3_ := Aside0.mk (hbox); have n4_ := Aside0.mk ((by rw [hg]; exact (below_size u10_1) : w.heap.size ≤ gb345)); have n5_ := Aside0.mk ((by rw [hg]; exact (below_size u10_1) : w.heap.size ≤ gb345)); have n6_ := Aside0.mk ((by rw [hg]; exact Nat.ne_of_lt (blk_lt (g := gb332) (o := .cells #[.slice A0_0 l0_0.length c0_0] 29 (0, 0)) u10_2) : gb332 ≠ gb345)); have n7_ := Aside0.mk ((by rw [hg]; exact Nat.ne_of_gt (blk_lt (g := gb332) (o := .cells #[.slice A0_0 l0_0.length c0_0] 29 (0, 0)) u10_2) : gb345 ≠ gb332)); have n8_ := Aside0.mk ((by rw [hg]; exact Nat.ne_of_lt (blk_lt (g := gb333) (o := .cells #[.slice none 0 0] 29 (0, 0)) u10_3) : gb333 ≠ gb345)); have n9_ := Aside0.mk ((by rw [hg]; exact Nat.ne_of_gt (blk_lt (g := gb333) (o := .cells #[.slice none 0 0] 29 (0, 0)) u10_3) : gb345 ≠ gb333)); clear BK332; clear BK333; clear HB; have BK332 := n0_; have BK333 := n1_; have HB := n2_; have BK345 := n3_; have GW345 := n4_; have GE345 := n5_; have NB332_345 := n6_; have NB345_332 := n7_; have NB333_345 := n8_; have NB345_333 := n9_; clear n0_ n1_ n2_ n3_ n4_ n5_ n6_ n7_ n8_ n9_; clear hb hbox hg; have hnb31 := NB345_332.out; have hnc31 := NB332_345.out; have hnb32 := NB345_333.out; have hnc32 := NB333_345.out; have hcz33_0 : w30.cell? ⟨gb345, 0, none⟩ = some (.slice none 0 0) := (blk_cell BK345.out 0).trans rfl; have hfz33_0 := blk_frozen BK345.out 0))
  go_loopg [7, 8] k (fun kq v7 v8 w' => ∃ (x7_1 : Bool) (x8_1 : Int) (x346000_1 : List (S53)) (u346000 : Value), v7 = .bool x7_1 ∧ v8 = .int .i64 x8_1 ∧ Aside0 (spec_OpenAccount.l0 kq a1 x7_1 x8_1 l0_0 x346000_1 = some (r1, r2)) ∧ Aside0 (kq ≤ k) ∧ Aside0 (Kd.R k53 53 w' w.heap.size (fun _ => True) u346000 x346000_1) ∧ Aside0 (w'.heap[gb332]? = some (.cells #[(.slice A0_0 l0_0.length c0_0)] 29 (0, 0))) ∧ Aside0 (w'.heap[gb333]? = some (.cells #[(.slice none 0 0)] 29 (0, 0))) ∧ Aside0 (w'.heap[gb345]? = some (.cells #[u346000] 29 (0, 0))) ∧ Aside0 (Below w.heap.size w w'))
  case atStart => exact ⟨(false), (0), (([] : List (S53))), (.slice none 0 0), u10_13, u10_13, H', ⟨Nat.le_refl _⟩, ⟨(by first | exact Kd.R_nil _ _ _ _ _ | exact Kd.N_nil _ _ _ _ _ | exact Kd.V_nil _ _ _ _ _ | exact Kd.Q_nil _ _ _ _ _ | exact Kd.S_nil _ _ _ _ _)⟩, ⟨u10_5⟩, ⟨u10_6⟩, ⟨(by (with_reducible repeat (first | refine blk_drewN ?_ _ | refine blk_drew ?_ | refine blk_alloc ?_ _)); refine blk_put (cs := #[.slice none 0 0]) ?_ 0 _ rfl; (with_reducible repeat (first | refine blk_drewN ?_ _ | refine blk_drew ?_ | refine blk_alloc ?_ _)); exact BK345.out)⟩, ⟨u10_0⟩⟩
  clear H'
  try clear c1
  try clear c2
  try clear p2
  try clear c3
  try clear c4
  try clear c5
  try clear c6
  try clear c9
  try clear c11
  try clear c14
  try clear c14b0
  try clear c16
  try clear c18
  try clear c21
  try clear c21b0
  try clear c21b1
  try clear c23
  try clear c28
  try clear c31
  try clear c32
  try clear hcz12_0
  try clear hcz17_0
  try clear hcz20_0
  try clear hcz24_0
  try clear hcz27_0
  try clear hcz29_0
  try clear hcz33_0
  try clear hcz7_0
  try clear hfz12_0
  try clear hfz17_0
  try clear hfz20_0
  try clear hfz24_0
  try clear hfz27_0
  try clear hfz29_0
  try clear hfz33_0
  try clear hfz7_0
  obtain ⟨x7_1, x8_1, x346000_1, u346000, rfl, rfl, HA, HK1, HO_346000, BK332, BK333, BK345, HB⟩ := hrel
  cases gk with
  | zero => exact absurd HA.out (by simp [spec_OpenAccount.l0])
  | succ k1 =>
    have H := HA.out
    clear HA
    simp only [spec_OpenAccount.l0] at H
    by_cases c34 : x8_1 < (l0_0.length : Int)
    rotate_left
    · rw [if_neg c34] at H
      have c34b0 : decide (x8_1 < (l0_0.length : Int)) = false := decide_eq_false c34
      clear c34
      by_cases c68 : x7_1 = true
      · subst c68
        rw [if_pos rfl] at H
        simp only [Option.some.injEq, Prod.mk.injEq] at H
        obtain ⟨rfl, rfl⟩ := H
        have hnb69 := NB332_333.out
        have hnc69 := NB333_332.out
        have hnb70 := NB332_345.out
        have hnc70 := NB345_332.out
        have hcz71_0 : wr.cell? ⟨gb332, 0, none⟩ = some (.slice A0_0 l0_0.length c0_0) := (blk_cell BK332.out 0).trans rfl
        have hfz71_0 := blk_frozen BK332.out 0
        have hnb72 := NB345_333.out
        have hnc72 := NB333_345.out
        have hcz73_0 : wr.cell? ⟨gb345, 0, none⟩ = some (u346000) := (blk_cell BK345.out 0).trans rfl
        have hfz73_0 := blk_frozen BK345.out 0
        obtain ⟨Ao74, co74, eo74⟩ := Kd.R_slice HO_346000.out
        subst eo74
        have hcz75_0 : wr.cell? ⟨gb333, 0, none⟩ = some (.slice none 0 0) := (blk_cell BK333.out 0).trans rfl
        have hfz75_0 := blk_frozen BK333.out 0
        go_wp2
        refine bodyPost_ret (results_ct rfl _ _ gb333 29 #[.slice Ao74 x346000_1.length co74] (0, 0) _ rfl u10_4 Try.underlying29 rfl (by kernel_rfl)) rfl ?_
        exact ⟨_, by first | rfl | (simp [errW_none, errW_some] <;> rfl) | (simp [*, errW_none, errW_some] <;> rfl), (by (with_reducible repeat (first | apply Kd.R_alloc | apply Kd.R_drewN | apply Kd.R_drew)); exact Kd.R_mono (Kd.R_far (p := ⟨gb333, 0, none⟩) (Kd.R_types HO_346000.out BK333.out (by decide)) (fun _ hk => hk.2) (.slice Ao74 x346000_1.length co74)) (fun _ hk => trivial)), u10_0⟩
      replace c68 := Bool.eq_false_iff.mpr c68
      subst c68
      rw [if_neg (show ¬ (false = true) by decide)] at H
      by_cases c76 : x346000_1.length < 3518437208883
      rotate_left
      · rw [if_neg c76] at H
        exact absurd H (by simp)
      rw [if_pos c76] at H
      have LMc76 := Aside0.mk c76
      clear c76
      obtain ⟨y362, hy362⟩ : ∃ y_ : List (S53), y_ = (x346000_1 ++ [(⟨a1, 0, 0, 0, 0⟩ : S53)]) := ⟨_, rfl⟩
      replace H : (some (y362, 0)) = some (r1, r2) := by first | (rw [hy362]; with_reducible exact H) | (have H2_ := (Option.bind_some _ _).symm.trans H; rw [hy362]; with_reducible exact H2_) | (have H2_ := (Option.bind_some _ _).symm.trans H; with_reducible exact H2_) | with_reducible exact H | (rw [hy362]; exact H) | exact H
      have Ny362 := Aside0.mk hy362
      clear hy362
      simp only [Option.some.injEq, Prod.mk.injEq] at H
      obtain ⟨rfl, rfl⟩ := H
      have hnb77 := NB332_333.out
      have hnc77 := NB333_332.out
      have hnb78 := NB332_345.out
      have hnc78 := NB345_332.out
      have hcz79_0 : wr.cell? ⟨gb332, 0, none⟩ = some (.slice A0_0 l0_0.length c0_0) := (blk_cell BK332.out 0).trans rfl
      have hfz79_0 := blk_frozen BK332.out 0
      have hnb80 := NB345_333.out
      have hnc80 := NB333_345.out
      have hcz81_0 : wr.cell? ⟨gb345, 0, none⟩ = some (u346000) := (blk_cell BK345.out 0).trans rfl
      have hfz81_0 := blk_frozen BK345.out 0
      go_wp2_with (first | ((with_reducible refine gate_builtin (b := .append) (xs := #[.tmp 66, .tmp 69]) rfl ?_); at_builtin; refine Kd.R_append k53 (w0 := w) w.heap.size rfl (.tmp 66) (.tmp 69) 27 53 (.agg #[(.int .u64 0), (.int .u64 0), (.int .u64 0), (.int .u64 0), (.int .i64 0)]) 40 rfl Try.underlying27 info53 rfl (by decide) (by omega) u346000 x346000_1 (⟨a1, 0, 0, 0, 0⟩ : S53) [.int .u64 a1, .int .u64 0, .int .u64 0, .int .u64 0, .int .i64 0] (fun _ => True) (fun _ => False) rfl rfl ?aP (fun _ hk => hk.elim) ?aF ?aO ?aB ?aS ?aL ?_; (case aP => exact k53_mkM _ _ _ (⟨a1, 0, 0, 0, 0⟩ : S53)); (case aB => exact u10_0); (case aF => exact (fun _ _ => trivial)); (case aO => exact u10_11); (case aS => exact (below_size u10_0)); (case aL => have := LMc76.out; omega); intro v363 w82 ho hb hg hat; rw [← Ny362.out] at ho; have n0_ := Aside0.mk (blk_grown (g := gb332) (o := .cells #[.slice A0_0 l0_0.length c0_0] 29 (0, 0)) u10_2 hg (Kd.R_ne HO_346000.out BK332.out (by decide))); have n1_ := Aside0.mk (blk_grown (g := gb333) (o := .cells #[.slice none 0 0] 29 (0, 0)) u10_3 hg (Kd.R_ne HO_346000.out BK333.out (by decide))); have n2_ := Aside0.mk (blk_grown (g := gb345) (o := .cells #[u346000] 29 (0, 0)) u10_9 hg (Kd.R_ne HO_346000.out BK345.out (by decide))); have n3_ := Aside0.mk (hb); have n4_ := Aside0.mk (ho); clear BK332; clear BK333; clear BK345; clear HB; clear HO_346000; have BK332 := n0_; have BK333 := n1_; have BK345 := n2_; have HB := n3_; have HO364 := n4_; clear n0_ n1_ n2_ n3_ n4_; clear ho hb hg hat; obtain ⟨Ao83, co83, eo83⟩ := Kd.R_slice HO364.out; subst eo83; have hcz84_0 : w82.cell? ⟨gb345, 0, none⟩ = some (u346000) := (blk_cell BK345.out 0).trans rfl; have hfz84_0 := blk_frozen BK345.out 0; have hcz85_0 : w82.cell? ⟨gb333, 0, none⟩ = some (.slice none 0 0) := (blk_cell BK333.out 0).trans rfl; have hfz85_0 := blk_frozen BK333.out 0))
      refine bodyPost_ret (results_ct rfl _ _ gb333 29 #[.slice Ao83 y362.length co83] (0, 0) _ rfl (by (with_reducible repeat (first | refine blk_drewN ?_ _ | refine blk_drew ?_ | refine blk_alloc ?_ _)); refine blk_put (cs := #[.slice none 0 0]) ?_ 0 _ rfl; (with_reducible repeat (first | refine blk_drewN ?_ _ | refine blk_drew ?_ | refine blk_alloc ?_ _)); refine blk_far ?_ NB333_345.out _; (with_reducible repeat (first | refine blk_drewN ?_ _ | refine blk_drew ?_ | refine blk_alloc ?_ _)); exact BK333.out) Try.underlying29 rfl (by kernel_rfl)) rfl ?_
      exact ⟨_, by first | rfl | (simp [errW_none, errW_some] <;> rfl) | (simp [*, errW_none, errW_some] <;> rfl), (by (with_reducible repeat (first | apply Kd.R_alloc | apply Kd.R_drewN | apply Kd.R_drew)); exact Kd.R_mono (Kd.R_far (p := ⟨gb333, 0, none⟩) (Kd.R_far (p := ⟨gb345, 0, none⟩) (Kd.R_types (Kd.R_types HO364.out BK345.out (by decide)) BK333.out (by decide)) (fun _ hk => hk.1.2) (.slice Ao83 y362.length co83)) (fun _ hk => hk.2) (.slice Ao83 y362.length co83)) (fun _ hk => trivial)), u10_0⟩
    rw [if_pos c34] at H
    have c34b0 : decide (x8_1 < (l0_0.length : Int)) = true := decide_eq_true c34
    clear c34
    by_cases c35 : x7_1 = true
    · subst c35
      rw [if_pos rfl] at H
      by_cases c36 : 0 ≤ x8_1
      rotate_left
      · rw [if_neg c36] at H
        exact absurd H (by simp)
      rw [if_pos c36] at H
      have c36b0 : decide (0 ≤ x8_1) = true := decide_eq_true c36
      clear c36
      by_cases c37 : x346000_1.length < 3518437208883
      rotate_left
      · rw [if_neg c37] at H
        exact absurd H (by simp)
      rw [if_pos c37] at H
      have LMc37 := Aside0.mk c37
      clear c37
      obtain ⟨y347, hy347⟩ : ∃ y_ : List (S53), y_ = (x346000_1 ++ [(⟨(rd_T53 l0_0 x8_1).f0, (rd_T53 l0_0 x8_1).f1, (rd_T53 l0_0 x8_1).f2, (rd_T53 l0_0 x8_1).f3, (rd_T53 l0_0 x8_1).f4⟩ : S53)]) := ⟨_, rfl⟩
      replace H : (spec_OpenAccount.l0 k1 a1 true (wrap64 (x8_1 + 1)) l0_0 y347) = some (r1, r2) := by first | (rw [hy347]; with_reducible exact H) | (have H2_ := (Option.bind_some _ _).symm.trans H; rw [hy347]; with_reducible exact H2_) | (have H2_ := (Option.bind_some _ _).symm.trans H; with_reducible exact H2_) | with_reducible exact H | (rw [hy347]; exact H) | exact H
      have Ny347 := Aside0.mk hy347
      clear hy347
      have H' := Aside0.mk H
      clear H
      have hnb38 := NB332_333.out
      have hnc38 := NB333_332.out
      have hnb39 := NB332_345.out
      have hnc39 := NB345_332.out
      have hcz40_0 : wr.cell? ⟨gb332, 0, none⟩ = some (.slice A0_0 l0_0.length c0_0) := (blk_cell BK332.out 0).trans rfl
      have hfz40_0 := blk_frozen BK332.out 0
      try go_wp2
      have n0_ := Aside0.mk (Kd.R_drew HO_346000.out)
      have n1_ := Aside0.mk (blk_drew BK332.out)
      have n2_ := Aside0.mk (blk_drew BK333.out)
      have n3_ := Aside0.mk (blk_drew BK345.out)
      have n4_ := Aside0.mk (below_drew1 HB.out)
      clear HO_346000
      clear BK332
      clear BK333
      clear BK345
      clear HB
      have HO_346000 := n0_
      have BK332 := n1_
      have BK333 := n2_
      have BK345 := n3_
      have HB := n4_
      clear n0_ n1_ n2_ n3_ n4_
      have p346 : 0 ≤ (x8_1 : Int) := of_decide_eq_true u10_12
      have q346 : x8_1 < (l0_0.length : Int) := of_decide_eq_true u10_12
      obtain ⟨ad346, e346, hx346_0, hx346_1, hx346_2, hx346_3, hx346_4⟩ := at_T53 HR0_0.out x8_1 p346 q346
      have hw346_4 := hx346_4
      have hw346_3 := hx346_3
      have hw346_2 := hx346_2
      have hw346_1 := hx346_1
      have hw346_0 := hx346_0
      cases e346
      replace hx346_0 := (HB.out.cell (World.block_lt_of_cell? w _ hx346_0)).trans hx346_0
      replace hx346_1 := (HB.out.cell (World.block_lt_of_cell? w _ hx346_1)).trans hx346_1
      replace hx346_2 := (HB.out.cell (World.block_lt_of_cell? w _ hx346_2)).trans hx346_2
      replace hx346_3 := (HB.out.cell (World.block_lt_of_cell? w _ hx346_3)).trans hx346_3
      replace hx346_4 := (HB.out.cell (World.block_lt_of_cell? w _ hx346_4)).trans hx346_4
      replace p346 := eq_true p346
      replace q346 := eq_true q346
      refine start_ (n := 11) (S := fun w' => w'.cell? ⟨gb345, 0, none⟩ = some (u346000) ∧ w'.cell? ⟨gb332, 0, none⟩ = some (.slice (some ad346) l0_0.length c0_0) ∧ w'.cell? (ad346.add ((x8_1).toNat * 5)) = some (.int .u64 ((rd_T53 l0_0 x8_1).f0)) ∧ w'.cell? ⟨(ad346.add ((x8_1).toNat * 5)).block, (ad346.add ((x8_1).toNat * 5)).off + 1, none⟩ = some (.int .u64 ((rd_T53 l0_0 x8_1).f1)) ∧ w'.cell? ⟨(ad346.add ((x8_1).toNat * 5)).block, (ad346.add ((x8_1).toNat * 5)).off + 2, none⟩ = some (.int .u64 ((rd_T53 l0_0 x8_1).f2)) ∧ w'.cell? ⟨(ad346.add ((x8_1).toNat * 5)).block, (ad346.add ((x8_1).toNat * 5)).off + 3, none⟩ = some (.int .u64 ((rd_T53 l0_0 x8_1).f3)) ∧ w'.cell? ⟨(ad346.add ((x8_1).toNat * 5)).block, (ad346.add ((x8_1).toNat * 5)).off + 4, none⟩ = some (.int .i64 ((rd_T53 l0_0 x8_1).f4))) (ds := [10]) #[false, false, false, false, false, false, false, false, false, false, false] (by kernel_rfl) rfl rfl ⟨(blk_cell BK345.out 0).trans rfl, (blk_cell BK332.out 0).trans rfl, ((HB.out.cell (World.block_lt_of_cell? w _ hw346_0)).trans hw346_0), ((HB.out.cell (World.block_lt_of_cell? w _ hw346_1)).trans hw346_1), ((HB.out.cell (World.block_lt_of_cell? w _ hw346_2)).trans hw346_2), ((HB.out.cell (World.block_lt_of_cell? w _ hw346_3)).trans hw346_3), ((HB.out.cell (World.block_lt_of_cell? w _ hw346_4)).trans hw346_4)⟩ (fun hHeld => ?_); refine with_tabW spec_OpenAccount.tab15 spec_OpenAccount.bits15 (fun HT_ HW_ => ?_)
      generalize wr.drew = w41 at HO_346000 BK332 BK333 BK345 HB hx346_0 hx346_1 hx346_2 hx346_3 hx346_4 hHeld ⊢
      refine pure_ (i := 0) (N := some 53) (v := ?_) (a' := ?_) #[true, false, false, false, false, false, false, false, false, false, false] rfl rfl (any_of HT_.out (by kernel_rfl)) (fun _ _ _ h => h) (Or.inl ⟨by rfl, ?_⟩) ?_ ?_
      rotate_left
      · intro w'
        go_simp
        with_reducible rfl
      rotate_left
      · simp only [Act.put, List.setIfInBounds_toArray, List.set_cons_zero, List.set_cons_succ, i64_w, i32_w]
        rfl
      refine pure_ (i := 2) (N := some 55) (v := ?_) (a' := ?_) #[true, false, true, false, false, false, false, false, false, false, false] rfl rfl (any_of HT_.out (by kernel_rfl)) (fun _ _ _ h => h) (Or.inl ⟨by rfl, ?_⟩) ?_ ?_
      rotate_left
      · intro w'
        go_simp
        with_reducible rfl
      rotate_left
      · simp only [Act.put, List.setIfInBounds_toArray, List.set_cons_zero, List.set_cons_succ, i64_w, i32_w]
        rfl
      refine pure_ (i := 4) (N := some 57) (v := ?_) (a' := ?_) #[true, false, true, false, true, false, false, false, false, false, false] rfl rfl (any_of HT_.out (by kernel_rfl)) (fun _ _ _ h => h) (Or.inl ⟨by rfl, ?_⟩) ?_ ?_
      rotate_left
      · intro w'
        go_simp
        with_reducible rfl
      rotate_left
      · simp only [Act.put, List.setIfInBounds_toArray, List.set_cons_zero, List.set_cons_succ, i64_w, i32_w]
        rfl
      refine take_ (i := 1) (N := some 54) (v := ?_) (a' := ?_) #[true, true, true, false, true, false, false, false, false, false, false] rfl rfl (take_ofW HT_.out HW_.out (by kernel_rfl)) (fun _ _ _ h => h) (Or.inl ⟨by rfl, ?_⟩) hHeld ?_ ?_
      rotate_left
      · rintro w' ⟨s0, s1, s2, s3, s4, s5, s6⟩
        go_simp
        with_reducible rfl
      rotate_left
      · simp only [Act.put, List.setIfInBounds_toArray, List.set_cons_zero, List.set_cons_succ, i64_w, i32_w]
        rfl
      refine take_ (i := 3) (N := some 56) (v := ?_) (a' := ?_) #[true, true, true, true, true, false, false, false, false, false, false] rfl rfl (take_ofW HT_.out HW_.out (by kernel_rfl)) (fun _ _ _ h => h) (Or.inl ⟨by rfl, ?_⟩) hHeld ?_ ?_
      rotate_left
      · rintro w' ⟨s0, s1, s2, s3, s4, s5, s6⟩
        go_simp
        with_reducible rfl
      rotate_left
      · simp only [Act.put, List.setIfInBounds_toArray, List.set_cons_zero, List.set_cons_succ, i64_w, i32_w]
        rfl
      refine pure_ (i := 5) (N := some 58) (v := ?_) (a' := ?_) #[true, true, true, true, true, true, false, false, false, false, false] rfl rfl (any_of HT_.out (by kernel_rfl)) (fun _ _ _ h => h) (Or.inl ⟨by rfl, ?_⟩) ?_ ?_
      rotate_left
      · intro w'
        go_simp
        with_reducible rfl
      rotate_left
      · simp only [Act.put, List.setIfInBounds_toArray, List.set_cons_zero, List.set_cons_succ, i64_w, i32_w]
        rfl
      refine take_ (i := 6) (N := some 59) (v := ?_) (a' := ?_) #[true, true, true, true, true, true, true, false, false, false, false] rfl rfl (take_ofW HT_.out HW_.out (by kernel_rfl)) (fun _ _ _ h => h) (Or.inl ⟨by rfl, ?_⟩) hHeld ?_ ?_
      rotate_left
      · rintro w' ⟨s0, s1, s2, s3, s4, s5, s6⟩
        go_simp
        with_reducible rfl
      rotate_left
      · simp only [Act.put, List.setIfInBounds_toArray, List.set_cons_zero, List.set_cons_succ, i64_w, i32_w]
        rfl
      refine one_ (i := 7) (N := some 60) #[true, true, true, true, true, true, true, true, false, false, false] rfl rfl (one_of HT_.out (by kernel_rfl)) (by decide) (fun K hK => ?_)
      refine value_ (w1 := ?_) (v := ?_) (by rfl) rfl ?_ ?_
      rotate_left 2
      · go_simp
        constructor
        · rfl
        rfl
      refine hK.out _ _ ⟨(blk_cell (blk_alloc BK345.out _) 0).trans rfl, (blk_cell (blk_alloc BK332.out _) 0).trans rfl, (World.cell?_alloc_lt _ _ _ (World.block_lt_of_cell? _ _ (((HB.out.cell (World.block_lt_of_cell? w _ hw346_0)).trans hw346_0)))).trans (((HB.out.cell (World.block_lt_of_cell? w _ hw346_0)).trans hw346_0)), (World.cell?_alloc_lt _ _ _ (World.block_lt_of_cell? _ _ (((HB.out.cell (World.block_lt_of_cell? w _ hw346_1)).trans hw346_1)))).trans (((HB.out.cell (World.block_lt_of_cell? w _ hw346_1)).trans hw346_1)), (World.cell?_alloc_lt _ _ _ (World.block_lt_of_cell? _ _ (((HB.out.cell (World.block_lt_of_cell? w _ hw346_2)).trans hw346_2)))).trans (((HB.out.cell (World.block_lt_of_cell? w _ hw346_2)).trans hw346_2)), (World.cell?_alloc_lt _ _ _ (World.block_lt_of_cell? _ _ (((HB.out.cell (World.block_lt_of_cell? w _ hw346_3)).trans hw346_3)))).trans (((HB.out.cell (World.block_lt_of_cell? w _ hw346_3)).trans hw346_3)), (World.cell?_alloc_lt _ _ _ (World.block_lt_of_cell? _ _ (((HB.out.cell (World.block_lt_of_cell? w _ hw346_4)).trans hw346_4)))).trans (((HB.out.cell (World.block_lt_of_cell? w _ hw346_4)).trans hw346_4))⟩ (fun hHeld => ?_)
      clear hK K
      refine norm_ (a' := ?_) ?_ ?_
      rotate_left
      · show Act.put _ (some 60) _ = _
        simp only [Act.put, List.setIfInBounds_toArray, List.set_cons_zero, List.set_cons_succ, i64_w, i32_w]
        rfl
      refine one_ (i := 8) (N := some 61) #[true, true, true, true, true, true, true, true, true, false, false] rfl rfl (one_of HT_.out (by kernel_rfl)) (by decide) (fun K hK => ?_)
      refine Kd.R_append_step k53 (w0 := w) w.heap.size (by rfl) (.tmp 54) (.tmp 60) 27 53 (.agg #[(.int .u64 0), (.int .u64 0), (.int .u64 0), (.int .u64 0), (.int .i64 0)]) 40 rfl Try.underlying27 info53 rfl (by decide) (by omega) u346000 x346000_1 (⟨(rd_T53 l0_0 x8_1).f0, (rd_T53 l0_0 x8_1).f1, (rd_T53 l0_0 x8_1).f2, (rd_T53 l0_0 x8_1).f3, (rd_T53 l0_0 x8_1).f4⟩ : S53) [.int .u64 ((rd_T53 l0_0 x8_1).f0), .int .u64 ((rd_T53 l0_0 x8_1).f1), .int .u64 ((rd_T53 l0_0 x8_1).f2), .int .u64 ((rd_T53 l0_0 x8_1).f3), .int .i64 ((rd_T53 l0_0 x8_1).f4)] (fun _ => True) (fun _ => False) rfl rfl ?aP (fun _ hk => hk.elim) ?aF ?aO ?aB ?aS ?aL ?_
      (case aP => exact k53_mkM _ _ _ (⟨(rd_T53 l0_0 x8_1).f0, (rd_T53 l0_0 x8_1).f1, (rd_T53 l0_0 x8_1).f2, (rd_T53 l0_0 x8_1).f3, (rd_T53 l0_0 x8_1).f4⟩ : S53))
      (case aB => exact u10_0)
      (case aF => exact (fun _ _ => trivial))
      (case aO => exact u10_11)
      (case aS => exact (below_size u10_0))
      (case aL => have := LMc37.out; omega)
      intro v348 w42 ho hb hg hat
      rw [← Ny347.out] at ho
      have n0_ := Aside0.mk (blk_grown (g := gb332) (o := .cells #[.slice (some ad346) l0_0.length c0_0] 29 (0, 0)) u10_2 hg (Kd.R_ne HO_346000.out BK332.out (by decide)))
      have n1_ := Aside0.mk (blk_grown (g := gb333) (o := .cells #[.slice none 0 0] 29 (0, 0)) u10_3 hg (Kd.R_ne HO_346000.out BK333.out (by decide)))
      have n2_ := Aside0.mk (blk_grown (g := gb345) (o := .cells #[u346000] 29 (0, 0)) u10_9 hg (Kd.R_ne HO_346000.out BK345.out (by decide)))
      have n3_ := Aside0.mk (hb)
      have n4_ := Aside0.mk (ho)
      clear BK332
      clear BK333
      clear BK345
      clear HB
      clear HO_346000
      have BK332 := n0_
      have BK333 := n1_
      have BK345 := n2_
      have HB := n3_
      have HO349 := n4_
      clear n0_ n1_ n2_ n3_ n4_
      clear ho hb hg hat
      obtain ⟨Ao43, co43, eo43⟩ := Kd.R_slice HO349.out
      (first | subst eo43 | (injection eo43 with f1_ f2_ f3_; have f4_ := f1_.symm; have f5_ := f3_.symm; clear f1_ f2_ f3_; subst f4_; subst f5_))
      refine hK.out _ _ ⟨(blk_cell BK345.out 0).trans rfl, (blk_cell BK332.out 0).trans rfl, ((HB.out.cell (World.block_lt_of_cell? w _ hw346_0)).trans hw346_0), ((HB.out.cell (World.block_lt_of_cell? w _ hw346_1)).trans hw346_1), ((HB.out.cell (World.block_lt_of_cell? w _ hw346_2)).trans hw346_2), ((HB.out.cell (World.block_lt_of_cell? w _ hw346_3)).trans hw346_3), ((HB.out.cell (World.block_lt_of_cell? w _ hw346_4)).trans hw346_4)⟩ (fun hHeld => ?_)
      clear hK K
      refine norm_ (a' := ?_) ?_ ?_
      rotate_left
      · show Act.put _ (some 61) _ = _
        simp only [Act.put, List.setIfInBounds_toArray, List.set_cons_zero, List.set_cons_succ, i64_w, i32_w]
        rfl
      refine pure_ (i := 9) (N := some 62) (v := ?_) (a' := ?_) #[true, true, true, true, true, true, true, true, true, true, false] rfl rfl (any_of HT_.out (by kernel_rfl)) (fun _ _ _ h => h) (Or.inl ⟨by rfl, ?_⟩) ?_ ?_
      rotate_left
      · intro w'
        go_simp
        with_reducible rfl
      rotate_left
      · simp only [Act.put, List.setIfInBounds_toArray, List.set_cons_zero, List.set_cons_succ, i64_w, i32_w]
        rfl
      refine last_ (i := 10) (N := none) #[true, true, true, true, true, true, true, true, true, true, true] rfl rfl (one_of HT_.out (by kernel_rfl)) (by decide) (fun K hK => ?_)
      have hs44 : w42.cell? ⟨gb345, 0, none⟩ = some (u346000) := (blk_cell BK345.out 0).trans rfl
      have hfs44 := blk_frozen BK345.out 0
      have hns44_0 := NB332_345.out
      have hns44_1 := NB333_345.out
      have hms44_0 := NB345_332.out
      have hms44_1 := NB345_333.out
      refine skip_ (w1 := ?_) (by rfl) rfl ?_ ?_
      rotate_left
      · go_simp
        rfl
      refine hK.out _ _ ?_
      clear hK K
      refine done_ (done_of HT_.out (by kernel_rfl)) ?_
      try go_wp2
      go_roundg k1
      case measure => have := HK1.out; omega
      case rel => exact ⟨(true), (wrap64 (x8_1 + 1)), (y347), (.slice Ao43 y347.length co43), u10_13, u10_13, H', ⟨by have := HK1.out; omega⟩, ⟨(by (with_reducible repeat (first | apply Kd.R_alloc | apply Kd.R_drewN | apply Kd.R_drew)); exact Kd.R_mono (Kd.R_far (p := ⟨gb345, 0, none⟩) (Kd.R_types HO349.out BK345.out (by decide)) (fun _ hk => hk.2) (.slice Ao43 y347.length co43)) (fun _ hk => trivial))⟩, ⟨u10_5⟩, ⟨u10_6⟩, ⟨u10_14⟩, ⟨u10_0⟩⟩
    replace c35 := Bool.eq_false_iff.mpr c35
    subst c35
    rw [if_neg (show ¬ (false = true) by decide)] at H
    by_cases c45 : 0 ≤ x8_1
    rotate_left
    · rw [if_neg c45] at H
      exact absurd H (by simp)
    rw [if_pos c45] at H
    have c45b0 : decide (0 ≤ x8_1) = true := decide_eq_true c45
    clear c45
    have H9 := Aside0.mk H
    clear H
    have hnb46 := NB332_333.out
    have hnc46 := NB333_332.out
    have hnb47 := NB332_345.out
    have hnc47 := NB345_332.out
    have hcz48_0 : wr.cell? ⟨gb332, 0, none⟩ = some (.slice A0_0 l0_0.length c0_0) := (blk_cell BK332.out 0).trans rfl
    have hfz48_0 := blk_frozen BK332.out 0
    have p350 : 0 ≤ (x8_1 : Int) := of_decide_eq_true u10_12
    have q350 : x8_1 < (l0_0.length : Int) := of_decide_eq_true u10_12
    obtain ⟨ad350, e350, hx350_0, hx350_1, hx350_2, hx350_3, hx350_4⟩ := at_T53 HR0_0.out x8_1 p350 q350
    cases e350
    replace hx350_0 := (HB.out.cell (World.block_lt_of_cell? w _ hx350_0)).trans hx350_0
    replace hx350_1 := (HB.out.cell (World.block_lt_of_cell? w _ hx350_1)).trans hx350_1
    replace hx350_2 := (HB.out.cell (World.block_lt_of_cell? w _ hx350_2)).trans hx350_2
    replace hx350_3 := (HB.out.cell (World.block_lt_of_cell? w _ hx350_3)).trans hx350_3
    replace hx350_4 := (HB.out.cell (World.block_lt_of_cell? w _ hx350_4)).trans hx350_4
    replace p350 := eq_true p350
    replace q350 := eq_true q350
    go_upto_if 45 with (fail)
    have H := H9.out
    clear H9
    by_cases c49 : ((rd_T53 l0_0 x8_1).f0) > a1
    rotate_left
    · rw [if_neg c49] at H
      have c49b0 : decide (a1 < ((rd_T53 l0_0 x8_1).f0)) = false := decide_eq_false c49
      clear c49
      (first | rw [c49b0] | (simp only [i64_w, i32_w]; rw [c49b0]) | skip)
      by_cases c63 : x346000_1.length < 3518437208883
      rotate_left
      · rw [if_neg c63] at H
        exact absurd H (by simp)
      rw [if_pos c63] at H
      have LMc63 := Aside0.mk c63
      clear c63
      obtain ⟨y359, hy359⟩ : ∃ y_ : List (S53), y_ = (x346000_1 ++ [(⟨(rd_T53 l0_0 x8_1).f0, (rd_T53 l0_0 x8_1).f1, (rd_T53 l0_0 x8_1).f2, (rd_T53 l0_0 x8_1).f3, (rd_T53 l0_0 x8_1).f4⟩ : S53)]) := ⟨_, rfl⟩
      replace H : (spec_OpenAccount.l0 k1 a1 false (wrap64 (x8_1 + 1)) l0_0 y359) = some (r1, r2) := by first | (rw [hy359]; with_reducible exact H) | (have H2_ := (Option.bind_some _ _).symm.trans H; rw [hy359]; with_reducible exact H2_) | (have H2_ := (Option.bind_some _ _).symm.trans H; with_reducible exact H2_) | with_reducible exact H | (rw [hy359]; exact H) | exact H
      have Ny359 := Aside0.mk hy359
      clear hy359
      have H' := Aside0.mk H
      clear H
      try go_wp2
      have n0_ := Aside0.mk (Kd.R_drew HO_346000.out)
      have n1_ := Aside0.mk (blk_drew BK332.out)
      have n2_ := Aside0.mk (blk_drew BK333.out)
      have n3_ := Aside0.mk (blk_drew BK345.out)
      have n4_ := Aside0.mk (below_drew1 HB.out)
      clear HO_346000
      clear BK332
      clear BK333
      clear BK345
      clear HB
      have HO_346000 := n0_
      have BK332 := n1_
      have BK333 := n2_
      have BK345 := n3_
      have HB := n4_
      clear n0_ n1_ n2_ n3_ n4_
      have p358 : 0 ≤ (x8_1 : Int) := of_decide_eq_true u10_12
      have q358 : x8_1 < (l0_0.length : Int) := of_decide_eq_true u10_12
      obtain ⟨ad358, e358, hx358_0, hx358_1, hx358_2, hx358_3, hx358_4⟩ := at_T53 HR0_0.out x8_1 p358 q358
      have hw358_4 := hx358_4
      have hw358_3 := hx358_3
      have hw358_2 := hx358_2
      have hw358_1 := hx358_1
      have hw358_0 := hx358_0
      obtain rfl : ad350 = ad358 := (by injection e358)
      replace hx358_0 := (HB.out.cell (World.block_lt_of_cell? w _ hx358_0)).trans hx358_0
      replace hx358_1 := (HB.out.cell (World.block_lt_of_cell? w _ hx358_1)).trans hx358_1
      replace hx358_2 := (HB.out.cell (World.block_lt_of_cell? w _ hx358_2)).trans hx358_2
      replace hx358_3 := (HB.out.cell (World.block_lt_of_cell? w _ hx358_3)).trans hx358_3
      replace hx358_4 := (HB.out.cell (World.block_lt_of_cell? w _ hx358_4)).trans hx358_4
      replace p358 := eq_true p358
      replace q358 := eq_true q358
      refine start_ (n := 11) (S := fun w' => w'.cell? ⟨gb345, 0, none⟩ = some (u346000) ∧ w'.cell? ⟨gb332, 0, none⟩ = some (.slice (some ad350) l0_0.length c0_0) ∧ w'.cell? (ad350.add ((x8_1).toNat * 5)) = some (.int .u64 ((rd_T53 l0_0 x8_1).f0)) ∧ w'.cell? ⟨(ad350.add ((x8_1).toNat * 5)).block, (ad350.add ((x8_1).toNat * 5)).off + 1, none⟩ = some (.int .u64 ((rd_T53 l0_0 x8_1).f1)) ∧ w'.cell? ⟨(ad350.add ((x8_1).toNat * 5)).block, (ad350.add ((x8_1).toNat * 5)).off + 2, none⟩ = some (.int .u64 ((rd_T53 l0_0 x8_1).f2)) ∧ w'.cell? ⟨(ad350.add ((x8_1).toNat * 5)).block, (ad350.add ((x8_1).toNat * 5)).off + 3, none⟩ = some (.int .u64 ((rd_T53 l0_0 x8_1).f3)) ∧ w'.cell? ⟨(ad350.add ((x8_1).toNat * 5)).block, (ad350.add ((x8_1).toNat * 5)).off + 4, none⟩ = some (.int .i64 ((rd_T53 l0_0 x8_1).f4))) (ds := [10]) #[false, false, false, false, false, false, false, false, false, false, false] (by kernel_rfl) rfl rfl ⟨(blk_cell BK345.out 0).trans rfl, (blk_cell BK332.out 0).trans rfl, ((HB.out.cell (World.block_lt_of_cell? w _ hw358_0)).trans hw358_0), ((HB.out.cell (World.block_lt_of_cell? w _ hw358_1)).trans hw358_1), ((HB.out.cell (World.block_lt_of_cell? w _ hw358_2)).trans hw358_2), ((HB.out.cell (World.block_lt_of_cell? w _ hw358_3)).trans hw358_3), ((HB.out.cell (World.block_lt_of_cell? w _ hw358_4)).trans hw358_4)⟩ (fun hHeld => ?_); refine with_tabW spec_OpenAccount.tab15 spec_OpenAccount.bits15 (fun HT_ HW_ => ?_)
      generalize wr.drew = w64 at HO_346000 BK332 BK333 BK345 HB hx358_0 hx358_1 hx358_2 hx358_3 hx358_4 hHeld ⊢
      refine pure_ (i := 0) (N := some 53) (v := ?_) (a' := ?_) #[true, false, false, false, false, false, false, false, false, false, false] rfl rfl (any_of HT_.out (by kernel_rfl)) (fun _ _ _ h => h) (Or.inl ⟨by rfl, ?_⟩) ?_ ?_
      rotate_left
      · intro w'
        go_simp
        with_reducible rfl
      rotate_left
      · simp only [Act.put, List.setIfInBounds_toArray, List.set_cons_zero, List.set_cons_succ, i64_w, i32_w]
        rfl
      refine pure_ (i := 2) (N := some 55) (v := ?_) (a' := ?_) #[true, false, true, false, false, false, false, false, false, false, false] rfl rfl (any_of HT_.out (by kernel_rfl)) (fun _ _ _ h => h) (Or.inl ⟨by rfl, ?_⟩) ?_ ?_
      rotate_left
      · intro w'
        go_simp
        with_reducible rfl
      rotate_left
      · simp only [Act.put, List.setIfInBounds_toArray, List.set_cons_zero, List.set_cons_succ, i64_w, i32_w]
        rfl
      refine pure_ (i := 4) (N := some 57) (v := ?_) (a' := ?_) #[true, false, true, false, true, false, false, false, false, false, false] rfl rfl (any_of HT_.out (by kernel_rfl)) (fun _ _ _ h => h) (Or.inl ⟨by rfl, ?_⟩) ?_ ?_
      rotate_left
      · intro w'
        go_simp
        with_reducible rfl
      rotate_left
      · simp only [Act.put, List.setIfInBounds_toArray, List.set_cons_zero, List.set_cons_succ, i64_w, i32_w]
        rfl
      refine take_ (i := 1) (N := some 54) (v := ?_) (a' := ?_) #[true, true, true, false, true, false, false, false, false, false, false] rfl rfl (take_ofW HT_.out HW_.out (by kernel_rfl)) (fun _ _ _ h => h) (Or.inl ⟨by rfl, ?_⟩) hHeld ?_ ?_
      rotate_left
      · rintro w' ⟨s0, s1, s2, s3, s4, s5, s6⟩
        go_simp
        with_reducible rfl
      rotate_left
      · simp only [Act.put, List.setIfInBounds_toArray, List.set_cons_zero, List.set_cons_succ, i64_w, i32_w]
        rfl
      refine take_ (i := 3) (N := some 56) (v := ?_) (a' := ?_) #[true, true, true, true, true, false, false, false, false, false, false] rfl rfl (take_ofW HT_.out HW_.out (by kernel_rfl)) (fun _ _ _ h => h) (Or.inl ⟨by rfl, ?_⟩) hHeld ?_ ?_
      rotate_left
      · rintro w' ⟨s0, s1, s2, s3, s4, s5, s6⟩
        go_simp
        with_reducible rfl
      rotate_left
      · simp only [Act.put, List.setIfInBounds_toArray, List.set_cons_zero, List.set_cons_succ, i64_w, i32_w]
        rfl
      refine pure_ (i := 5) (N := some 58) (v := ?_) (a' := ?_) #[true, true, true, true, true, true, false, false, false, false, false] rfl rfl (any_of HT_.out (by kernel_rfl)) (fun _ _ _ h => h) (Or.inl ⟨by rfl, ?_⟩) ?_ ?_
      rotate_left
      · intro w'
        go_simp
        with_reducible rfl
      rotate_left
      · simp only [Act.put, List.setIfInBounds_toArray, List.set_cons_zero, List.set_cons_succ, i64_w, i32_w]
        rfl
      refine take_ (i := 6) (N := some 59) (v := ?_) (a' := ?_) #[true, true, true, true, true, true, true, false, false, false, false] rfl rfl (take_ofW HT_.out HW_.out (by kernel_rfl)) (fun _ _ _ h => h) (Or.inl ⟨by rfl, ?_⟩) hHeld ?_ ?_
      rotate_left
      · rintro w' ⟨s0, s1, s2, s3, s4, s5, s6⟩
        go_simp
        with_reducible rfl
      rotate_left
      · simp only [Act.put, List.setIfInBounds_toArray, List.set_cons_zero, List.set_cons_succ, i64_w, i32_w]
        rfl
      refine one_ (i := 7) (N := some 60) #[true, true, true, true, true, true, true, true, false, false, false] rfl rfl (one_of HT_.out (by kernel_rfl)) (by decide) (fun K hK => ?_)
      refine value_ (w1 := ?_) (v := ?_) (by rfl) rfl ?_ ?_
      rotate_left 2
      · go_simp
        constructor
        · rfl
        rfl
      refine hK.out _ _ ⟨(blk_cell (blk_alloc BK345.out _) 0).trans rfl, (blk_cell (blk_alloc BK332.out _) 0).trans rfl, (World.cell?_alloc_lt _ _ _ (World.block_lt_of_cell? _ _ (((HB.out.cell (World.block_lt_of_cell? w _ hw358_0)).trans hw358_0)))).trans (((HB.out.cell (World.block_lt_of_cell? w _ hw358_0)).trans hw358_0)), (World.cell?_alloc_lt _ _ _ (World.block_lt_of_cell? _ _ (((HB.out.cell (World.block_lt_of_cell? w _ hw358_1)).trans hw358_1)))).trans (((HB.out.cell (World.block_lt_of_cell? w _ hw358_1)).trans hw358_1)), (World.cell?_alloc_lt _ _ _ (World.block_lt_of_cell? _ _ (((HB.out.cell (World.block_lt_of_cell? w _ hw358_2)).trans hw358_2)))).trans (((HB.out.cell (World.block_lt_of_cell? w _ hw358_2)).trans hw358_2)), (World.cell?_alloc_lt _ _ _ (World.block_lt_of_cell? _ _ (((HB.out.cell (World.block_lt_of_cell? w _ hw358_3)).trans hw358_3)))).trans (((HB.out.cell (World.block_lt_of_cell? w _ hw358_3)).trans hw358_3)), (World.cell?_alloc_lt _ _ _ (World.block_lt_of_cell? _ _ (((HB.out.cell (World.block_lt_of_cell? w _ hw358_4)).trans hw358_4)))).trans (((HB.out.cell (World.block_lt_of_cell? w _ hw358_4)).trans hw358_4))⟩ (fun hHeld => ?_)
      clear hK K
      refine norm_ (a' := ?_) ?_ ?_
      rotate_left
      · show Act.put _ (some 60) _ = _
        simp only [Act.put, List.setIfInBounds_toArray, List.set_cons_zero, List.set_cons_succ, i64_w, i32_w]
        rfl
      refine one_ (i := 8) (N := some 61) #[true, true, true, true, true, true, true, true, true, false, false] rfl rfl (one_of HT_.out (by kernel_rfl)) (by decide) (fun K hK => ?_)
      refine Kd.R_append_step k53 (w0 := w) w.heap.size (by rfl) (.tmp 54) (.tmp 60) 27 53 (.agg #[(.int .u64 0), (.int .u64 0), (.int .u64 0), (.int .u64 0), (.int .i64 0)]) 40 rfl Try.underlying27 info53 rfl (by decide) (by omega) u346000 x346000_1 (⟨(rd_T53 l0_0 x8_1).f0, (rd_T53 l0_0 x8_1).f1, (rd_T53 l0_0 x8_1).f2, (rd_T53 l0_0 x8_1).f3, (rd_T53 l0_0 x8_1).f4⟩ : S53) [.int .u64 ((rd_T53 l0_0 x8_1).f0), .int .u64 ((rd_T53 l0_0 x8_1).f1), .int .u64 ((rd_T53 l0_0 x8_1).f2), .int .u64 ((rd_T53 l0_0 x8_1).f3), .int .i64 ((rd_T53 l0_0 x8_1).f4)] (fun _ => True) (fun _ => False) rfl rfl ?aP (fun _ hk => hk.elim) ?aF ?aO ?aB ?aS ?aL ?_
      (case aP => exact k53_mkM _ _ _ (⟨(rd_T53 l0_0 x8_1).f0, (rd_T53 l0_0 x8_1).f1, (rd_T53 l0_0 x8_1).f2, (rd_T53 l0_0 x8_1).f3, (rd_T53 l0_0 x8_1).f4⟩ : S53))
      (case aB => exact u10_0)
      (case aF => exact (fun _ _ => trivial))
      (case aO => exact u10_11)
      (case aS => exact (below_size u10_0))
      (case aL => have := LMc63.out; omega)
      intro v360 w65 ho hb hg hat
      rw [← Ny359.out] at ho
      have n0_ := Aside0.mk (blk_grown (g := gb332) (o := .cells #[.slice (some ad350) l0_0.length c0_0] 29 (0, 0)) u10_2 hg (Kd.R_ne HO_346000.out BK332.out (by decide)))
      have n1_ := Aside0.mk (blk_grown (g := gb333) (o := .cells #[.slice none 0 0] 29 (0, 0)) u10_3 hg (Kd.R_ne HO_346000.out BK333.out (by decide)))
      have n2_ := Aside0.mk (blk_grown (g := gb345) (o := .cells #[u346000] 29 (0, 0)) u10_9 hg (Kd.R_ne HO_346000.out BK345.out (by decide)))
      have n3_ := Aside0.mk (hb)
      have n4_ := Aside0.mk (ho)
      clear BK332
      clear BK333
      clear BK345
      clear HB
      clear HO_346000
      have BK332 := n0_
      have BK333 := n1_
      have BK345 := n2_
      have HB := n3_
      have HO361 := n4_
      clear n0_ n1_ n2_ n3_ n4_
      clear ho hb hg hat
      obtain ⟨Ao66, co66, eo66⟩ := Kd.R_slice HO361.out
      (first | subst eo66 | (injection eo66 with f1_ f2_ f3_; have f4_ := f1_.symm; have f5_ := f3_.symm; clear f1_ f2_ f3_; subst f4_; subst f5_))
      refine hK.out _ _ ⟨(blk_cell BK345.out 0).trans rfl, (blk_cell BK332.out 0).trans rfl, ((HB.out.cell (World.block_lt_of_cell? w _ hw358_0)).trans hw358_0), ((HB.out.cell (World.block_lt_of_cell? w _ hw358_1)).trans hw358_1), ((HB.out.cell (World.block_lt_of_cell? w _ hw358_2)).trans hw358_2), ((HB.out.cell (World.block_lt_of_cell? w _ hw358_3)).trans hw358_3), ((HB.out.cell (World.block_lt_of_cell? w _ hw358_4)).trans hw358_4)⟩ (fun hHeld => ?_)
      clear hK K
      refine norm_ (a' := ?_) ?_ ?_
      rotate_left
      · show Act.put _ (some 61) _ = _
        simp only [Act.put, List.setIfInBounds_toArray, List.set_cons_zero, List.set_cons_succ, i64_w, i32_w]
        rfl
      refine pure_ (i := 9) (N := some 62) (v := ?_) (a' := ?_) #[true, true, true, true, true, true, true, true, true, true, false] rfl rfl (any_of HT_.out (by kernel_rfl)) (fun _ _ _ h => h) (Or.inl ⟨by rfl, ?_⟩) ?_ ?_
      rotate_left
      · intro w'
        go_simp
        with_reducible rfl
      rotate_left
      · simp only [Act.put, List.setIfInBounds_toArray, List.set_cons_zero, List.set_cons_succ, i64_w, i32_w]
        rfl
      refine last_ (i := 10) (N := none) #[true, true, true, true, true, true, true, true, true, true, true] rfl rfl (one_of HT_.out (by kernel_rfl)) (by decide) (fun K hK => ?_)
      have hs67 : w65.cell? ⟨gb345, 0, none⟩ = some (u346000) := (blk_cell BK345.out 0).trans rfl
      have hfs67 := blk_frozen BK345.out 0
      have hns67_0 := NB332_345.out
      have hns67_1 := NB333_345.out
      have hms67_0 := NB345_332.out
      have hms67_1 := NB345_333.out
      refine skip_ (w1 := ?_) (by rfl) rfl ?_ ?_
      rotate_left
      · go_simp
        rfl
      refine hK.out _ _ ?_
      clear hK K
      refine done_ (done_of HT_.out (by kernel_rfl)) ?_
      try go_wp2
      go_roundg k1
      case measure => have := HK1.out; omega
      case rel => exact ⟨(false), (wrap64 (x8_1 + 1)), (y359), (.slice Ao66 y359.length co66), u10_13, u10_13, H', ⟨by have := HK1.out; omega⟩, ⟨(by (with_reducible repeat (first | apply Kd.R_alloc | apply Kd.R_drewN | apply Kd.R_drew)); exact Kd.R_mono (Kd.R_far (p := ⟨gb345, 0, none⟩) (Kd.R_types HO361.out BK345.out (by decide)) (fun _ hk => hk.2) (.slice Ao66 y359.length co66)) (fun _ hk => trivial))⟩, ⟨u10_5⟩, ⟨u10_6⟩, ⟨u10_14⟩, ⟨u10_0⟩⟩
    rw [if_pos c49] at H
    have c49b0 : decide (a1 < ((rd_T53 l0_0 x8_1).f0)) = true := decide_eq_true c49
    clear c49
    (first | rw [c49b0] | (simp only [i64_w, i32_w]; rw [c49b0]) | skip)
    by_cases c50 : x346000_1.length < 3518437208883
    rotate_left
    · rw [if_neg c50] at H
      exact absurd H (by simp)
    rw [if_pos c50] at H
    have LMc50 := Aside0.mk c50
    clear c50
    obtain ⟨y351, hy351⟩ : ∃ y_ : List (S53), y_ = (x346000_1 ++ [(⟨a1, 0, 0, 0, 0⟩ : S53)]) := ⟨_, rfl⟩
    replace H : (if y351.length < 3518437208883 then (spec_OpenAccount.l0 k1 a1 true (wrap64 (x8_1 + 1)) l0_0 (y351 ++ [(⟨(rd_T53 l0_0 x8_1).f0, (rd_T53 l0_0 x8_1).f1, (rd_T53 l0_0 x8_1).f2, (rd_T53 l0_0 x8_1).f3, (rd_T53 l0_0 x8_1).f4⟩ : S53)])) else (none)) = some (r1, r2) := by first | (rw [hy351]; with_reducible exact H) | (have H2_ := (Option.bind_some _ _).symm.trans H; rw [hy351]; with_reducible exact H2_) | (have H2_ := (Option.bind_some _ _).symm.trans H; with_reducible exact H2_) | with_reducible exact H | (rw [hy351]; exact H) | exact H
    have Ny351 := Aside0.mk hy351
    clear hy351
    by_cases c51 : y351.length < 3518437208883
    rotate_left
    · rw [if_neg c51] at H
      exact absurd H (by simp)
    rw [if_pos c51] at H
    have LMc51 := Aside0.mk c51
    clear c51
    obtain ⟨y355, hy355⟩ : ∃ y_ : List (S53), y_ = (y351 ++ [(⟨(rd_T53 l0_0 x8_1).f0, (rd_T53 l0_0 x8_1).f1, (rd_T53 l0_0 x8_1).f2, (rd_T53 l0_0 x8_1).f3, (rd_T53 l0_0 x8_1).f4⟩ : S53)]) := ⟨_, rfl⟩
    replace H : (spec_OpenAccount.l0 k1 a1 true (wrap64 (x8_1 + 1)) l0_0 y355) = some (r1, r2) := by first | (rw [hy355]; with_reducible exact H) | (have H2_ := (Option.bind_some _ _).symm.trans H; rw [hy355]; with_reducible exact H2_) | (have H2_ := (Option.bind_some _ _).symm.trans H; with_reducible exact H2_) | with_reducible exact H | (rw [hy355]; exact H) | exact H
    have Ny355 := Aside0.mk hy355
    clear hy355
    have H' := Aside0.mk H
    clear H
    have hnb52 := NB345_332.out
    have hnc52 := NB332_345.out
    have hnb53 := NB345_333.out
    have hnc53 := NB333_345.out
    have hcz54_0 : wr.cell? ⟨gb345, 0, none⟩ = some (u346000) := (blk_cell BK345.out 0).trans rfl
    have hfz54_0 := blk_frozen BK345.out 0
    try go_wp2_with (first | ((with_reducible refine gate_builtin (b := .append) (xs := #[.tmp 47, .tmp 50]) rfl ?_); at_builtin; refine Kd.R_append k53 (w0 := w) w.heap.size rfl (.tmp 47) (.tmp 50) 27 53 (.agg #[(.int .u64 0), (.int .u64 0), (.int .u64 0), (.int .u64 0), (.int .i64 0)]) 40 rfl Try.underlying27 info53 rfl (by decide) (by omega) u346000 x346000_1 (⟨a1, 0, 0, 0, 0⟩ : S53) [.int .u64 a1, .int .u64 0, .int .u64 0, .int .u64 0, .int .i64 0] (fun _ => True) (fun _ => False) rfl rfl ?aP (fun _ hk => hk.elim) ?aF ?aO ?aB ?aS ?aL ?_; (case aP => exact k53_mkM _ _ _ (⟨a1, 0, 0, 0, 0⟩ : S53)); (case aB => exact u10_0); (case aF => exact (fun _ _ => trivial)); (case aO => exact u10_11); (case aS => exact (below_size u10_0)); (case aL => have := LMc50.out; omega); intro v352 w55 ho hb hg hat; rw [← Ny351.out] at ho; have n0_ := Aside0.mk (blk_grown (g := gb332) (o := .cells #[.slice (some ad350) l0_0.length c0_0] 29 (0, 0)) u10_2 hg (Kd.R_ne HO_346000.out BK332.out (by decide))); have n1_ := Aside0.mk (blk_grown (g := gb333) (o := .cells #[.slice none 0 0] 29 (0, 0)) u10_3 hg (Kd.R_ne HO_346000.out BK333.out (by decide))); have n2_ := Aside0.mk (blk_grown (g := gb345) (o := .cells #[u346000] 29 (0, 0)) u10_9 hg (Kd.R_ne HO_346000.out BK345.out (by decide))); have n3_ := Aside0.mk (hb); have n4_ := Aside0.mk (ho); clear BK332; clear BK333; clear BK345; clear HB; clear HO_346000; have BK332 := n0_; have BK333 := n1_; have BK345 := n2_; have HB := n3_; have HO353 := n4_; clear n0_ n1_ n2_ n3_ n4_; clear ho hb hg hat; obtain ⟨Ao56, co56, eo56⟩ := Kd.R_slice HO353.out; subst eo56; have hcz57_0 : w55.cell? ⟨gb345, 0, none⟩ = some (u346000) := (blk_cell BK345.out 0).trans rfl; have hfz57_0 := blk_frozen BK345.out 0))
    have n0_ : Aside0 (Kd.R k53 53 (w55.setCell ⟨gb345, 0, none⟩ (.slice Ao56 y351.length co56)) w.heap.size (fun _ => True) (.slice Ao56 y351.length co56) y351) := ⟨by (with_reducible repeat (first | apply Kd.R_alloc | apply Kd.R_drewN | apply Kd.R_drew)); exact Kd.R_mono (Kd.R_far (p := ⟨gb345, 0, none⟩) (Kd.R_types HO353.out BK345.out (by decide)) (fun _ hk => hk.2) (.slice Ao56 y351.length co56)) (fun _ hk => trivial)⟩
    have n1_ : Aside0 ((w55.setCell ⟨gb345, 0, none⟩ (.slice Ao56 y351.length co56)).heap[gb332]? = some (.cells #[.slice (some ad350) l0_0.length c0_0] 29 (0, 0))) := ⟨by (with_reducible repeat (first | refine blk_drewN ?_ _ | refine blk_drew ?_ | refine blk_alloc ?_ _)); refine blk_far ?_ NB332_345.out _; (with_reducible repeat (first | refine blk_drewN ?_ _ | refine blk_drew ?_ | refine blk_alloc ?_ _)); exact BK332.out⟩
    have n2_ : Aside0 ((w55.setCell ⟨gb345, 0, none⟩ (.slice Ao56 y351.length co56)).heap[gb333]? = some (.cells #[.slice none 0 0] 29 (0, 0))) := ⟨by (with_reducible repeat (first | refine blk_drewN ?_ _ | refine blk_drew ?_ | refine blk_alloc ?_ _)); refine blk_far ?_ NB333_345.out _; (with_reducible repeat (first | refine blk_drewN ?_ _ | refine blk_drew ?_ | refine blk_alloc ?_ _)); exact BK333.out⟩
    have n3_ : Aside0 ((w55.setCell ⟨gb345, 0, none⟩ (.slice Ao56 y351.length co56)).heap[gb345]? = some (.cells #[.slice Ao56 y351.length co56] 29 (0, 0))) := ⟨by (with_reducible repeat (first | refine blk_drewN ?_ _ | refine blk_drew ?_ | refine blk_alloc ?_ _)); refine blk_put (cs := #[u346000]) ?_ 0 _ rfl; (with_reducible repeat (first | refine blk_drewN ?_ _ | refine blk_drew ?_ | refine blk_alloc ?_ _)); exact BK345.out⟩
    have n4_ : Aside0 (Below w.heap.size w (w55.setCell ⟨gb345, 0, none⟩ (.slice Ao56 y351.length co56))) := ⟨by repeat (first | (with_reducible first | exact HB.out | apply below_alloc | apply pw_below_drewN | apply below_drew1 | refine below_set ?_ GE332.out | refine below_set ?_ GE333.out | refine below_set ?_ GE345.out) | exact HB.out)⟩
    (try clear HO353)
    (try clear BK332)
    (try clear BK333)
    (try clear BK345)
    (try clear HB)
    generalize (w55.setCell ⟨gb345, 0, none⟩ (.slice Ao56 y351.length co56)) = w58 at n0_ n1_ n2_ n3_ n4_ ⊢
    have HO353 := n0_
    have BK332 := n1_
    have BK333 := n2_
    have BK345 := n3_
    have HB := n4_
    clear n0_ n1_ n2_ n3_ n4_
    have n0_ := Aside0.mk (Kd.R_drew HO353.out)
    have n1_ := Aside0.mk (blk_drew BK332.out)
    have n2_ := Aside0.mk (blk_drew BK333.out)
    have n3_ := Aside0.mk (blk_drew BK345.out)
    have n4_ := Aside0.mk (below_drew1 HB.out)
    clear HO353
    clear BK332
    clear BK333
    clear BK345
    clear HB
    have HO353 := n0_
    have BK332 := n1_
    have BK333 := n2_
    have BK345 := n3_
    have HB := n4_
    clear n0_ n1_ n2_ n3_ n4_
    have p354 : 0 ≤ (x8_1 : Int) := of_decide_eq_true u10_12
    have q354 : x8_1 < (l0_0.length : Int) := of_decide_eq_true u10_12
    obtain ⟨ad354, e354, hx354_0, hx354_1, hx354_2, hx354_3, hx354_4⟩ := at_T53 HR0_0.out x8_1 p354 q354
    have hw354_4 := hx354_4
    have hw354_3 := hx354_3
    have hw354_2 := hx354_2
    have hw354_1 := hx354_1
    have hw354_0 := hx354_0
    obtain rfl : ad350 = ad354 := (by injection e354)
    replace hx354_0 := (HB.out.cell (World.block_lt_of_cell? w _ hx354_0)).trans hx354_0
    replace hx354_1 := (HB.out.cell (World.block_lt_of_cell? w _ hx354_1)).trans hx354_1
    replace hx354_2 := (HB.out.cell (World.block_lt_of_cell? w _ hx354_2)).trans hx354_2
    replace hx354_3 := (HB.out.cell (World.block_lt_of_cell? w _ hx354_3)).trans hx354_3
    replace hx354_4 := (HB.out.cell (World.block_lt_of_cell? w _ hx354_4)).trans hx354_4
    replace p354 := eq_true p354
    replace q354 := eq_true q354
    refine start_ (n := 11) (S := fun w' => w'.cell? ⟨gb345, 0, none⟩ = some (.slice Ao56 y351.length co56) ∧ w'.cell? ⟨gb332, 0, none⟩ = some (.slice (some ad350) l0_0.length c0_0) ∧ w'.cell? (ad350.add ((x8_1).toNat * 5)) = some (.int .u64 ((rd_T53 l0_0 x8_1).f0)) ∧ w'.cell? ⟨(ad350.add ((x8_1).toNat * 5)).block, (ad350.add ((x8_1).toNat * 5)).off + 1, none⟩ = some (.int .u64 ((rd_T53 l0_0 x8_1).f1)) ∧ w'.cell? ⟨(ad350.add ((x8_1).toNat * 5)).block, (ad350.add ((x8_1).toNat * 5)).off + 2, none⟩ = some (.int .u64 ((rd_T53 l0_0 x8_1).f2)) ∧ w'.cell? ⟨(ad350.add ((x8_1).toNat * 5)).block, (ad350.add ((x8_1).toNat * 5)).off + 3, none⟩ = some (.int .u64 ((rd_T53 l0_0 x8_1).f3)) ∧ w'.cell? ⟨(ad350.add ((x8_1).toNat * 5)).block, (ad350.add ((x8_1).toNat * 5)).off + 4, none⟩ = some (.int .i64 ((rd_T53 l0_0 x8_1).f4))) (ds := [10]) #[false, false, false, false, false, false, false, false, false, false, false] (by kernel_rfl) rfl rfl ⟨(blk_cell BK345.out 0).trans rfl, (blk_cell BK332.out 0).trans rfl, ((HB.out.cell (World.block_lt_of_cell? w _ hw354_0)).trans hw354_0), ((HB.out.cell (World.block_lt_of_cell? w _ hw354_1)).trans hw354_1), ((HB.out.cell (World.block_lt_of_cell? w _ hw354_2)).trans hw354_2), ((HB.out.cell (World.block_lt_of_cell? w _ hw354_3)).trans hw354_3), ((HB.out.cell (World.block_lt_of_cell? w _ hw354_4)).trans hw354_4)⟩ (fun hHeld => ?_); refine with_tabW spec_OpenAccount.tab15 spec_OpenAccount.bits15 (fun HT_ HW_ => ?_)
    generalize w58.drew = w59 at HO353 BK332 BK333 BK345 HB hx354_0 hx354_1 hx354_2 hx354_3 hx354_4 hHeld ⊢
    refine pure_ (i := 0) (N := some 53) (v := ?_) (a' := ?_) #[true, false, false, false, false, false, false, false, false, false, false] rfl rfl (any_of HT_.out (by kernel_rfl)) (fun _ _ _ h => h) (Or.inl ⟨by rfl, ?_⟩) ?_ ?_
    rotate_left
    · intro w'
      go_simp
      with_reducible rfl
    rotate_left
    · simp only [Act.put, List.setIfInBounds_toArray, List.set_cons_zero, List.set_cons_succ, i64_w, i32_w]
      rfl
    refine pure_ (i := 2) (N := some 55) (v := ?_) (a' := ?_) #[true, false, true, false, false, false, false, false, false, false, false] rfl rfl (any_of HT_.out (by kernel_rfl)) (fun _ _ _ h => h) (Or.inl ⟨by rfl, ?_⟩) ?_ ?_
    rotate_left
    · intro w'
      go_simp
      with_reducible rfl
    rotate_left
    · simp only [Act.put, List.setIfInBounds_toArray, List.set_cons_zero, List.set_cons_succ, i64_w, i32_w]
      rfl
    refine pure_ (i := 4) (N := some 57) (v := ?_) (a' := ?_) #[true, false, true, false, true, false, false, false, false, false, false] rfl rfl (any_of HT_.out (by kernel_rfl)) (fun _ _ _ h => h) (Or.inl ⟨by rfl, ?_⟩) ?_ ?_
    rotate_left
    · intro w'
      go_simp
      with_reducible rfl
    rotate_left
    · simp only [Act.put, List.setIfInBounds_toArray, List.set_cons_zero, List.set_cons_succ, i64_w, i32_w]
      rfl
    refine take_ (i := 1) (N := some 54) (v := ?_) (a' := ?_) #[true, true, true, false, true, false, false, false, false, false, false] rfl rfl (take_ofW HT_.out HW_.out (by kernel_rfl)) (fun _ _ _ h => h) (Or.inl ⟨by rfl, ?_⟩) hHeld ?_ ?_
    rotate_left
    · rintro w' ⟨s0, s1, s2, s3, s4, s5, s6⟩
      go_simp
      with_reducible rfl
    rotate_left
    · simp only [Act.put, List.setIfInBounds_toArray, List.set_cons_zero, List.set_cons_succ, i64_w, i32_w]
      rfl
    refine take_ (i := 3) (N := some 56) (v := ?_) (a' := ?_) #[true, true, true, true, true, false, false, false, false, false, false] rfl rfl (take_ofW HT_.out HW_.out (by kernel_rfl)) (fun _ _ _ h => h) (Or.inl ⟨by rfl, ?_⟩) hHeld ?_ ?_
    rotate_left
    · rintro w' ⟨s0, s1, s2, s3, s4, s5, s6⟩
      go_simp
      with_reducible rfl
    rotate_left
    · simp only [Act.put, List.setIfInBounds_toArray, List.set_cons_zero, List.set_cons_succ, i64_w, i32_w]
      rfl
    refine pure_ (i := 5) (N := some 58) (v := ?_) (a' := ?_) #[true, true, true, true, true, true, false, false, false, false, false] rfl rfl (any_of HT_.out (by kernel_rfl)) (fun _ _ _ h => h) (Or.inl ⟨by rfl, ?_⟩) ?_ ?_
    rotate_left
    · intro w'
      go_simp
      with_reducible rfl
    rotate_left
    · simp only [Act.put, List.setIfInBounds_toArray, List.set_cons_zero, List.set_cons_succ, i64_w, i32_w]
      rfl
    refine take_ (i := 6) (N := some 59) (v := ?_) (a' := ?_) #[true, true, true, true, true, true, true, false, false, false, false] rfl rfl (take_ofW HT_.out HW_.out (by kernel_rfl)) (fun _ _ _ h => h) (Or.inl ⟨by rfl, ?_⟩) hHeld ?_ ?_
    rotate_left
    · rintro w' ⟨s0, s1, s2, s3, s4, s5, s6⟩
      go_simp
      with_reducible rfl
    rotate_left
    · simp only [Act.put, List.setIfInBounds_toArray, List.set_cons_zero, List.set_cons_succ, i64_w, i32_w]
      rfl
    refine one_ (i := 7) (N := some 60) #[true, true, true, true, true, true, true, true, false, false, false] rfl rfl (one_of HT_.out (by kernel_rfl)) (by decide) (fun K hK => ?_)
    refine value_ (w1 := ?_) (v := ?_) (by rfl) rfl ?_ ?_
    rotate_left 2
    · go_simp
      constructor
      · rfl
      rfl
    refine hK.out _ _ ⟨(blk_cell (blk_alloc BK345.out _) 0).trans rfl, (blk_cell (blk_alloc BK332.out _) 0).trans rfl, (World.cell?_alloc_lt _ _ _ (World.block_lt_of_cell? _ _ (((HB.out.cell (World.block_lt_of_cell? w _ hw354_0)).trans hw354_0)))).trans (((HB.out.cell (World.block_lt_of_cell? w _ hw354_0)).trans hw354_0)), (World.cell?_alloc_lt _ _ _ (World.block_lt_of_cell? _ _ (((HB.out.cell (World.block_lt_of_cell? w _ hw354_1)).trans hw354_1)))).trans (((HB.out.cell (World.block_lt_of_cell? w _ hw354_1)).trans hw354_1)), (World.cell?_alloc_lt _ _ _ (World.block_lt_of_cell? _ _ (((HB.out.cell (World.block_lt_of_cell? w _ hw354_2)).trans hw354_2)))).trans (((HB.out.cell (World.block_lt_of_cell? w _ hw354_2)).trans hw354_2)), (World.cell?_alloc_lt _ _ _ (World.block_lt_of_cell? _ _ (((HB.out.cell (World.block_lt_of_cell? w _ hw354_3)).trans hw354_3)))).trans (((HB.out.cell (World.block_lt_of_cell? w _ hw354_3)).trans hw354_3)), (World.cell?_alloc_lt _ _ _ (World.block_lt_of_cell? _ _ (((HB.out.cell (World.block_lt_of_cell? w _ hw354_4)).trans hw354_4)))).trans (((HB.out.cell (World.block_lt_of_cell? w _ hw354_4)).trans hw354_4))⟩ (fun hHeld => ?_)
    clear hK K
    refine norm_ (a' := ?_) ?_ ?_
    rotate_left
    · show Act.put _ (some 60) _ = _
      simp only [Act.put, List.setIfInBounds_toArray, List.set_cons_zero, List.set_cons_succ, i64_w, i32_w]
      rfl
    refine one_ (i := 8) (N := some 61) #[true, true, true, true, true, true, true, true, true, false, false] rfl rfl (one_of HT_.out (by kernel_rfl)) (by decide) (fun K hK => ?_)
    refine Kd.R_append_step k53 (w0 := w) w.heap.size (by rfl) (.tmp 54) (.tmp 60) 27 53 (.agg #[(.int .u64 0), (.int .u64 0), (.int .u64 0), (.int .u64 0), (.int .i64 0)]) 40 rfl Try.underlying27 info53 rfl (by decide) (by omega) (.slice Ao56 y351.length co56) y351 (⟨(rd_T53 l0_0 x8_1).f0, (rd_T53 l0_0 x8_1).f1, (rd_T53 l0_0 x8_1).f2, (rd_T53 l0_0 x8_1).f3, (rd_T53 l0_0 x8_1).f4⟩ : S53) [.int .u64 ((rd_T53 l0_0 x8_1).f0), .int .u64 ((rd_T53 l0_0 x8_1).f1), .int .u64 ((rd_T53 l0_0 x8_1).f2), .int .u64 ((rd_T53 l0_0 x8_1).f3), .int .i64 ((rd_T53 l0_0 x8_1).f4)] (fun _ => True) (fun _ => False) rfl rfl ?aP (fun _ hk => hk.elim) ?aF ?aO ?aB ?aS ?aL ?_
    (case aP => exact k53_mkM _ _ _ (⟨(rd_T53 l0_0 x8_1).f0, (rd_T53 l0_0 x8_1).f1, (rd_T53 l0_0 x8_1).f2, (rd_T53 l0_0 x8_1).f3, (rd_T53 l0_0 x8_1).f4⟩ : S53))
    (case aB => exact u10_0)
    (case aF => exact (fun _ _ => trivial))
    (case aO => exact (by (with_reducible repeat (first | apply Kd.R_alloc | apply Kd.R_drewN | apply Kd.R_drew)); exact HO353.out))
    (case aS => exact (below_size u10_0))
    (case aL => have := LMc51.out; omega)
    intro v356 w60 ho hb hg hat
    rw [← Ny355.out] at ho
    have n0_ := Aside0.mk (blk_grown (g := gb332) (o := .cells #[.slice (some ad350) l0_0.length c0_0] 29 (0, 0)) u10_2 hg (Kd.R_ne HO353.out BK332.out (by decide)))
    have n1_ := Aside0.mk (blk_grown (g := gb333) (o := .cells #[.slice none 0 0] 29 (0, 0)) u10_3 hg (Kd.R_ne HO353.out BK333.out (by decide)))
    have n2_ := Aside0.mk (blk_grown (g := gb345) (o := .cells #[.slice Ao56 y351.length co56] 29 (0, 0)) u10_9 hg (Kd.R_ne HO353.out BK345.out (by decide)))
    have n3_ := Aside0.mk (hb)
    have n4_ := Aside0.mk (ho)
    clear BK332
    clear BK333
    clear BK345
    clear HB
    clear HO353
    have BK332 := n0_
    have BK333 := n1_
    have BK345 := n2_
    have HB := n3_
    have HO357 := n4_
    clear n0_ n1_ n2_ n3_ n4_
    clear ho hb hg hat
    obtain ⟨Ao61, co61, eo61⟩ := Kd.R_slice HO357.out
    (first | subst eo61 | (injection eo61 with f1_ f2_ f3_; have f4_ := f1_.symm; have f5_ := f3_.symm; clear f1_ f2_ f3_; subst f4_; subst f5_))
    refine hK.out _ _ ⟨(blk_cell BK345.out 0).trans rfl, (blk_cell BK332.out 0).trans rfl, ((HB.out.cell (World.block_lt_of_cell? w _ hw354_0)).trans hw354_0), ((HB.out.cell (World.block_lt_of_cell? w _ hw354_1)).trans hw354_1), ((HB.out.cell (World.block_lt_of_cell? w _ hw354_2)).trans hw354_2), ((HB.out.cell (World.block_lt_of_cell? w _ hw354_3)).trans hw354_3), ((HB.out.cell (World.block_lt_of_cell? w _ hw354_4)).trans hw354_4)⟩ (fun hHeld => ?_)
    clear hK K
    refine norm_ (a' := ?_) ?_ ?_
    rotate_left
    · show Act.put _ (some 61) _ = _
      simp only [Act.put, List.setIfInBounds_toArray, List.set_cons_zero, List.set_cons_succ, i64_w, i32_w]
      rfl
    refine pure_ (i := 9) (N := some 62) (v := ?_) (a' := ?_) #[true, true, true, true, true, true, true, true, true, true, false] rfl rfl (any_of HT_.out (by kernel_rfl)) (fun _ _ _ h => h) (Or.inl ⟨by rfl, ?_⟩) ?_ ?_
    rotate_left
    · intro w'
      go_simp
      with_reducible rfl
    rotate_left
    · simp only [Act.put, List.setIfInBounds_toArray, List.set_cons_zero, List.set_cons_succ, i64_w, i32_w]
      rfl
    refine last_ (i := 10) (N := none) #[true, true, true, true, true, true, true, true, true, true, true] rfl rfl (one_of HT_.out (by kernel_rfl)) (by decide) (fun K hK => ?_)
    have hs62 : w60.cell? ⟨gb345, 0, none⟩ = some (.slice Ao56 y351.length co56) := (blk_cell BK345.out 0).trans rfl
    have hfs62 := blk_frozen BK345.out 0
    have hns62_0 := NB332_345.out
    have hns62_1 := NB333_345.out
    have hms62_0 := NB345_332.out
    have hms62_1 := NB345_333.out
    refine skip_ (w1 := ?_) (by rfl) rfl ?_ ?_
    rotate_left
    · go_simp
      rfl
    refine hK.out _ _ ?_
    clear hK K
    refine done_ (done_of HT_.out (by kernel_rfl)) ?_
    try go_wp2
    go_roundg k1
    case measure => have := HK1.out; omega
    case rel => exact ⟨(true), (wrap64 (x8_1 + 1)), (y355), (.slice Ao61 y355.length co61), u10_13, u10_13, H', ⟨by have := HK1.out; omega⟩, ⟨(by (with_reducible repeat (first | apply Kd.R_alloc | apply Kd.R_drewN | apply Kd.R_drew)); exact Kd.R_mono (Kd.R_far (p := ⟨gb345, 0, none⟩) (Kd.R_types HO357.out BK345.out (by decide)) (fun _ hk => hk.2) (.slice Ao61 y355.length co61)) (fun _ hk => trivial))⟩, ⟨u10_5⟩, ⟨u10_6⟩, ⟨(by (with_reducible repeat (first | refine blk_drewN ?_ _ | refine blk_drew ?_ | refine blk_alloc ?_ _)); refine blk_put (cs := #[.slice Ao56 y351.length co56]) ?_ 0 _ rfl; (with_reducible repeat (first | refine blk_drewN ?_ _ | refine blk_drew ?_ | refine blk_alloc ?_ _)); exact BK345.out)⟩, ⟨u10_0⟩⟩

end Go.Proofs.Ytdbfjakhkclggaa.QFnBook
