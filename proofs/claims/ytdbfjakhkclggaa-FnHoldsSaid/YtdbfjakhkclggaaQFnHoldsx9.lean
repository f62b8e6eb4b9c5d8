-- Printed by the session's own program wip/prx.py.
import Derived.Test.YtdbfjakhkclggaaQFnHoldsx0
import Derived.Test.YtdbfjakhkclggaaQFnHoldsx3
import Derived.Test.YtdbfjakhkclggaaQFnHoldsx4
namespace Go.Proofs.Ytdbfjakhkclggaa.QFnHolds
open Go.RowKit Go.Proofs.YtdbfjakhkclggaaW.PrintWords Go.Proofs.YtdbfjakhkclggaaW.PrintLast Go.Proofs.YtdbfjakhkclggaaW.PrintMore
attribute [local go_sem] max2_int min2_int max_two min_two max_three min_three max_four min_four Go.Proofs.Ytdbfjakhkclggaa.Set.isSome_setCell Go.Proofs.Ytdbfjakhkclggaa.Add.add64   -- for this text's walks alone
set_option linter.unusedVariables false
set_option linter.unusedSimpArgs false

-- squeezed
theorem u9_0 {P : Prop} (h : P := by repeat (first | (with_reducible first | exact HB.out | apply below_alloc | apply pw_below_drewN | apply below_drew1 | refine below_set ?_ GE306.out | refine below_set ?_ GE307.out | refine below_set ?_ GE319.out) | exact HB.out)) : P := h
theorem u9_1 {P : Prop} (h : P := by repeat (first | (with_reducible first | exact HB.out | apply below_alloc | apply pw_below_drewN | apply below_drew1 | refine below_set ?_ GE306.out | refine below_set ?_ GE307.out) | exact HB.out)) : P := h
theorem u9_2 {P : Prop} (h : P := by (with_reducible repeat (first | refine blk_drewN ?_ _ | refine blk_drew ?_ | refine blk_alloc ?_ _)); exact BK306.out) : P := h
theorem u9_3 {P : Prop} (h : P := by (with_reducible repeat (first | refine blk_drewN ?_ _ | refine blk_drew ?_ | refine blk_alloc ?_ _)); exact BK307.out) : P := h
theorem u9_4 {P : Prop} (h : P := by (with_reducible repeat (first | refine blk_drewN ?_ _ | refine blk_drew ?_ | refine blk_alloc ?_ _)); refine blk_put (cs := #[.slice none 0 0]) ?_ 0 _ rfl; (with_reducible repeat (first | refine blk_drewN ?_ _ | refine blk_drew ?_ | refine blk_alloc ?_ _)); exact BK307.out) : P := h
theorem u9_5 {P : Prop} (h : P := by (with_reducible repeat (first | refine blk_drewN ?_ _ | refine blk_drew ?_ | refine blk_alloc ?_ _)); refine blk_far ?_ NB306_319.out _; (with_reducible repeat (first | refine blk_drewN ?_ _ | refine blk_drew ?_ | refine blk_alloc ?_ _)); exact BK306.out) : P := h
theorem u9_6 {P : Prop} (h : P := by (with_reducible repeat (first | refine blk_drewN ?_ _ | refine blk_drew ?_ | refine blk_alloc ?_ _)); refine blk_far ?_ NB307_319.out _; (with_reducible repeat (first | refine blk_drewN ?_ _ | refine blk_drew ?_ | refine blk_alloc ?_ _)); exact BK307.out) : P := h
theorem u9_7 {P : Prop} (h : P := by repeat (first | exact (Kd.C_below HR0_0.out HB.out) | (with_reducible refine Kd.C_alloc ?_ _) | (with_reducible refine Kd.C_drewN ?_ _) | (with_reducible refine Kd.C_drew ?_))) : P := h
theorem u9_8 {P : Prop} (h : P := by (try simp only [List.map_toArray, List.map_cons, List.map_nil]); first | done | rfl | (simp only [List.length_drop, List.length_take]; rfl)) : P := h
theorem u9_9 {P : Prop} (h : P := by (with_reducible repeat (first | refine blk_drewN ?_ _ | refine blk_drew ?_ | refine blk_alloc ?_ _)); exact BK319.out) : P := h
theorem u9_10 {P : Prop} (h : P := by repeat (first | (with_reducible first | exact HB.out | apply below_alloc | apply pw_below_drewN | apply below_drew1 | refine below_set ?_ GE306.out) | exact HB.out)) : P := h
theorem u9_11 {P : Prop} (h : P := by (with_reducible repeat (first | apply Kd.R_alloc | apply Kd.R_drewN | apply Kd.R_drew)); exact HO_320000.out) : P := h
theorem u9_12 {P : Prop} (h : P := by first | (with_reducible assumption) | assumption) : P := h
theorem u9_13 {P : Prop} (h : P := by first | rfl | (simp; done) | (simp [*]; done)) : P := h
theorem u9_14 {P : Prop} (h : P := by (with_reducible repeat (first | refine blk_drewN ?_ _ | refine blk_drew ?_ | refine blk_alloc ?_ _)); refine blk_put (cs := #[u320000]) ?_ 0 _ rfl; (with_reducible repeat (first | refine blk_drewN ?_ _ | refine blk_drew ?_ | refine blk_alloc ?_ _)); exact BK319.out) : P := h
theorem u9_15 {P : Prop} (h : P := by repeat (first | (with_reducible first | exact HB.out | apply below_alloc | apply pw_below_drewN | apply below_drew1) | exact HB.out)) : P := h
/-! ### spec_OpenAccount: function 42 -/
def spec_OpenAccount.l0 : Nat → Int → Bool → Int → List (S53) → List (S53) → Option ((List (S53)) × Int)
  | 0, _, _, _, _, _ => none
  | k + 1, x1, x7, x8, x307000, x320000 => if x8 < (x307000.length : Int) then (if x7 = true then (if 0 ≤ x8 then (if x320000.length < 3518437208883 then (spec_OpenAccount.l0 k x1 x7 (wrap64 (x8 + 1)) x307000 (x320000 ++ [(⟨(rd_T53 x307000 x8).f0, (rd_T53 x307000 x8).f1, (rd_T53 x307000 x8).f2, (rd_T53 x307000 x8).f3, (rd_T53 x307000 x8).f4⟩ : S53)])) else (none)) else (none)) else (if 0 ≤ x8 then (if ((rd_T53 x307000 x8).f0) > x1 then (if x320000.length < 3518437208883 then ((some (x320000 ++ [(⟨x1, 0, 0, 0, 0⟩ : S53)] : List (S53))).bind fun y325 => (if y325.length < 3518437208883 then (spec_OpenAccount.l0 k x1 true (wrap64 (x8 + 1)) x307000 (y325 ++ [(⟨(rd_T53 x307000 x8).f0, (rd_T53 x307000 x8).f1, (rd_T53 x307000 x8).f2, (rd_T53 x307000 x8).f3, (rd_T53 x307000 x8).f4⟩ : S53)])) else (none))) else (none)) else (if x320000.length < 3518437208883 then (spec_OpenAccount.l0 k x1 x7 (wrap64 (x8 + 1)) x307000 (x320000 ++ [(⟨(rd_T53 x307000 x8).f0, (rd_T53 x307000 x8).f1, (rd_T53 x307000 x8).f2, (rd_T53 x307000 x8).f3, (rd_T53 x307000 x8).f4⟩ : S53)])) else (none))) else (none))) else (if x7 = true then (some (x320000, 0)) else (if x320000.length < 3518437208883 then (some ((x320000 ++ [(⟨x1, 0, 0, 0, 0⟩ : S53)]), 0)) else (none)))
def spec_OpenAccount.f (k : Nat) (l0_0 : List (S53)) (a1 : Int) : Option ((List (S53)) × Int) := (spec_BookOk.f k l0_0).bind fun t308 => (if t308 = true then ((spec_l10Find.f k l0_0 a1).bind fun t312 => (if t312 ≥ 0 then ((spec_l10Copy.f k l0_0).bind fun t313 => (some (t313, 3))) else (if (l0_0.length : Int) = 40 then ((spec_l10Copy.f k l0_0).bind fun t316 => (some (t316, 1))) else (spec_OpenAccount.l0 k a1 false 0 l0_0 ([] : List (S53)))))) else ((spec_l10Copy.f k l0_0).bind fun t309 => (some (t309, 1))))
theorem spec_OpenAccount.mono_l : ∀ k, (∀ y0 y1 y2 y3 y4, LeO (spec_OpenAccount.l0 k y0 y1 y2 y3 y4) (spec_OpenAccount.l0 (k + 1) y0 y1 y2 y3 y4))
  | 0 => fun _ _ _ _ _ r h => by simp [spec_OpenAccount.l0] at h
  | k + 1 => by
    have ih0 := spec_OpenAccount.mono_l k
    · intro y0 y1 y2 y3 y4
      unfold spec_OpenAccount.l0
      repeat' first
      | (with_reducible exact ih0 _ _ _ _ _)
      | (with_reducible exact spec_BookOk.mono _ _)
      | (with_reducible exact spec_l10Copy.mono _ _)
      | (with_reducible exact spec_l10Find.mono _ _ _)
      | (with_reducible exact LeO.refl _)
      | (with_reducible exact LeO.none _)
      | (with_reducible refine LeO.ite ?_ ?_)
      | (with_reducible refine LeO.bind ?_ (fun _ => ?_))
      | exact ih0 _ _ _ _ _
      | exact spec_BookOk.mono _ _
      | exact spec_l10Copy.mono _ _
      | exact spec_l10Find.mono _ _ _
      | exact LeO.none _
      | refine LeO.ite ?_ ?_
      | refine LeO.bind ?_ (fun _ => ?_)
theorem spec_OpenAccount.mono : ∀ a0 a1 k, LeO (spec_OpenAccount.f k a0 a1) (spec_OpenAccount.f (k + 1) a0 a1) := by
  intro a0 a1 k
  have ih0 := spec_OpenAccount.mono_l k
  unfold spec_OpenAccount.f
  repeat' first
      | (with_reducible exact ih0 _ _ _ _ _)
      | (with_reducible exact spec_BookOk.mono _ _)
      | (with_reducible exact spec_l10Copy.mono _ _)
      | (with_reducible exact spec_l10Find.mono _ _ _)
      | (with_reducible exact LeO.refl _)
      | (with_reducible exact LeO.none _)
      | (with_reducible refine LeO.ite ?_ ?_)
      | (with_reducible refine LeO.bind ?_ (fun _ => ?_))
      | exact ih0 _ _ _ _ _
      | exact spec_BookOk.mono _ _
      | exact spec_l10Copy.mono _ _
      | exact spec_l10Find.mono _ _ _
      | exact LeO.none _
      | refine LeO.ite ?_ ?_
      | refine LeO.bind ?_ (fun _ => ?_)
def spec_OpenAccount.T15 : Bool × List (List Nat × List Nat) := (true, [([], []), ([0], [0]), ([], []), ([2], [2]), ([], []), ([3, 4], [3, 4]), ([5], [5]), ([6], [6]), ([1, 7], [1, 7]), ([0, 1, 2, 3, 4, 5, 6, 7, 8], []), ([9, 8, 8, 0, 1, 2, 3, 4, 5, 6, 7, 8], [8, 9])])
def spec_OpenAccount.B15 : List Nat := [0, 1, 0, 4, 0, 28, 60, 124, 255, 511, 1023]
theorem spec_OpenAccount.tab15 : rtab .any (opsOf Try.f42 15) = spec_OpenAccount.T15 := by kernel_rfl
theorem spec_OpenAccount.bits15 : waitsOk spec_OpenAccount.T15.2 spec_OpenAccount.B15 = true := by kernel_rfl
set_option maxHeartbeats 8000000 in
set_option maxRecDepth 100000 in
theorem spec_OpenAccount.calls (k : Nat) (A0_0 : Option Addr) (c0_0 : Nat) (l0_0 : List (S53)) (a1 : Int) (r1 : List (S53)) (r2 : Int) (w : World) (hr0_0 : Kd.C k53 w A0_0 l0_0.length l0_0) (hc0_0 : l0_0.length ≤ c0_0) (h : spec_OpenAccount.f k l0_0 a1 = some (r1, r2)) :
    Calls Try.prog 42 #[.agg #[.slice A0_0 l0_0.length c0_0], .int .u64 a1] w fun e w' => ∃ v0_ : Value, e = .returned (.tuple #[.agg #[v0_], .int .i64 r2]) ∧ Kd.R k53 53 w' w.heap.size (fun _ => True) v0_ r1 ∧ Below w.heap.size w w' := by
  have hu29 := Try.underlying29
  have hu53 := Try.underlying53
  have HR0_0 := Aside0.mk hr0_0
  have HC0_0 := Aside0.mk hc0_0
  clear hr0_0 hc0_0
  have HB := Aside0.mk (Below.refl w.heap.size w)
  have H : ((spec_BookOk.f k l0_0).bind fun t308 => (if t308 = true then ((spec_l10Find.f k l0_0 a1).bind fun t312 => (if t312 ≥ 0 then ((spec_l10Copy.f k l0_0).bind fun t313 => (some (t313, 3))) else (if (l0_0.length : Int) = 40 then ((spec_l10Copy.f k l0_0).bind fun t316 => (some (t316, 1))) else (spec_OpenAccount.l0 k a1 false 0 l0_0 ([] : List (S53)))))) else ((spec_l10Copy.f k l0_0).bind fun t309 => (some (t309, 1))))) = some (r1, r2) := h
  clear h
  replace H := Option.bind_eq_some_iff.mp H
  obtain ⟨t308, A30, H⟩ := H
  have A3 := Aside0.mk A30
  clear A30
  have H9 := Aside0.mk H
  clear H
  go_enter Try.func42, Try.ntmps42
  go_upto_if 11 with (first | ((with_reducible refine gate_dst (N := 2) rfl ?_); refine box_event ?hg (N := 2) ?hd (cs := #[.slice A0_0 l0_0.length c0_0]) (t := 29) ?hr ?_; (case hd => rfl); (case hg => rfl); (case hr => first | (go_simp; done) | (go_simp; rfl)); intro gb306 hg w4 hbox hb; have n0_ := Aside0.mk (below_step u9_15 hb); have n1_ := Aside0.mk (hbox); have n2_ := Aside0.mk ((by rw [hg]; exact (below_size u9_15) : w.heap.size ≤ gb306)); have n3_ := Aside0.mk ((by rw [hg]; exact (below_size u9_15) : w.heap.size ≤ gb306)); clear HB; have HB := n0_; have BK306 := n1_; have GW306 := n2_; have GE306 := n3_; clear n0_ n1_ n2_ n3_; clear hb hbox hg) | ((with_reducible refine gate_dst (N := 4) rfl ?_); refine box_event ?hg (N := 4) ?hd (cs := #[.slice none 0 0]) (t := 29) ?hr ?_; (case hd => rfl); (case hg => rfl); (case hr => first | (go_simp; done) | (go_simp; rfl)); intro gb307 hg w5 hbox hb; have n0_ := Aside0.mk (blk_below (g := gb306) (o := .cells #[.slice A0_0 l0_0.length c0_0] 29 (0, 0)) u9_2 hb); have n1_ := Aside0.mk (below_step u9_10 hb); have n2_ := Aside0.mk (hbox); have n3_ := Aside0.mk ((by rw [hg]; exact (below_size u9_10) : w.heap.size ≤ gb307)); have n4_ := Aside0.mk ((by rw [hg]; exact (below_size u9_10) : w.heap.size ≤ gb307)); have n5_ := Aside0.mk ((by rw [hg]; exact Nat.ne_of_lt (blk_lt (g := gb306) (o := .cells #[.slice A0_0 l0_0.length c0_0] 29 (0, 0)) u9_2) : gb306 ≠ gb307)); have n6_ := Aside0.mk ((by rw [hg]; exact Nat.ne_of_gt (blk_lt (g := gb306) (o := .cells #[.slice A0_0 l0_0.length c0_0] 29 (0, 0)) u9_2) : gb307 ≠ gb306)); clear BK306; clear HB; have BK306 := n0_; have HB := n1_; have BK307 := n2_; have GW307 := n3_; have GE307 := n4_; have NB306_307 := n5_; have NB307_306 := n6_; clear n0_ n1_ n2_ n3_ n4_ n5_ n6_; clear hb hbox hg; have hnb6 := NB306_307.out; have hnc6 := NB307_306.out; have hcz7_0 : w5.cell? ⟨gb306, 0, none⟩ = some (.slice A0_0 l0_0.length c0_0) := (blk_cell BK306.out 0).trans rfl; have hfz7_0 := blk_frozen BK306.out 0) | ((with_reducible refine gate_callee (f := 18) rfl ?_); refine goesL_ (some 10) rfl rfl Try.func18 (by kernel_rfl) rfl #[.agg #[.slice A0_0 l0_0.length c0_0]] rfl u9_8 ?_; (with_reducible refine (spec_BookOk.calls k _ _ l0_0 t308 _ ?side1 ?side2 A3.out).mono ?_); (case side1 => exact u9_7); (case side2 => exact HC0_0.out); rintro e w8 ⟨rfl, hb⟩; refine ⟨_, rfl, ?_⟩; have n0_ := Aside0.mk (blk_below (g := gb306) (o := .cells #[.slice A0_0 l0_0.length c0_0] 29 (0, 0)) u9_2 hb); have n1_ := Aside0.mk (blk_below (g := gb307) (o := .cells #[.slice none 0 0] 29 (0, 0)) u9_3 hb); have n2_ := Aside0.mk (below_step u9_1 hb); clear BK306; clear BK307; clear HB; have BK306 := n0_; have BK307 := n1_; have HB := n2_; clear n0_ n1_ n2_; (try clear hb); (try clear hb2); (try clear hk); (try clear hi)))
  have H := H9.out
  clear H9
  by_cases c9 : t308 = true
  rotate_left
  · replace c9 := Bool.eq_false_iff.mpr c9
    subst c9
    rw [if_neg (show ¬ (false = true) by decide)] at H
    replace H := Option.bind_eq_some_iff.mp H
    obtain ⟨t309, A860, H⟩ := H
    replace H : (some (t309, 1)) = some (r1, r2) := H
    have A86 := Aside0.mk A860
    clear A860
    simp only [Option.some.injEq, Prod.mk.injEq] at H
    obtain ⟨rfl, rfl⟩ := H
    have hnb87 := NB306_307.out
    have hnc87 := NB307_306.out
    have hcz88_0 : w8.cell? ⟨gb306, 0, none⟩ = some (.slice A0_0 l0_0.length c0_0) := (blk_cell BK306.out 0).trans rfl
    have hfz88_0 := blk_frozen BK306.out 0
    go_wp2_with (first | ((with_reducible refine gate_callee (f := 54) rfl ?_); refine goesL_ (some 13) rfl rfl Try.func54 (by kernel_rfl) rfl #[.agg #[.slice A0_0 l0_0.length c0_0]] rfl u9_8 ?_; (with_reducible refine (spec_l10Copy.calls k _ _ l0_0 t309 _ ?side1 ?side2 A86.out).mono ?_); (case side1 => exact u9_7); (case side2 => exact HC0_0.out); rintro e w89 ⟨v310, rfl, ho0, hb⟩; refine ⟨_, rfl, ?_⟩; have n0_ := Aside0.mk (Kd.R_lower ho0 (below_size u9_1)); have n1_ := Aside0.mk (blk_below (g := gb306) (o := .cells #[.slice A0_0 l0_0.length c0_0] 29 (0, 0)) u9_2 hb); have n2_ := Aside0.mk (blk_below (g := gb307) (o := .cells #[.slice none 0 0] 29 (0, 0)) u9_3 hb); have n3_ := Aside0.mk (below_step u9_1 hb); clear BK306; clear BK307; clear HB; have HO311 := n0_; have BK306 := n1_; have BK307 := n2_; have HB := n3_; clear n0_ n1_ n2_ n3_; (try clear hb); (try clear hb2); (try clear hk); (try clear hi); (try clear ho0); obtain ⟨Ao90, co90, eo90⟩ := Kd.R_slice HO311.out; subst eo90; have hcz91_0 : w89.cell? ⟨gb307, 0, none⟩ = some (.slice none 0 0) := (blk_cell BK307.out 0).trans rfl; have hfz91_0 := blk_frozen BK307.out 0))
    refine bodyPost_ret (results_ct rfl _ _ gb307 29 #[.slice Ao90 t309.length co90] (0, 0) _ rfl u9_4 Try.underlying29 rfl (by kernel_rfl)) rfl ?_
    exact ⟨_, by first | rfl | (simp [errW_none, errW_some] <;> rfl) | (simp [*, errW_none, errW_some] <;> rfl), (by (with_reducible repeat (first | apply Kd.R_alloc | apply Kd.R_drewN | apply Kd.R_drew)); exact Kd.R_mono (Kd.R_far (p := ⟨gb307, 0, none⟩) (Kd.R_types HO311.out BK307.out (by decide)) (fun _ hk => hk.2) (.slice Ao90 t309.length co90)) (fun _ hk => trivial)), u9_1⟩
  subst c9
  rw [if_pos rfl] at H
  replace H := Option.bind_eq_some_iff.mp H
  obtain ⟨t312, A100, H⟩ := H
  have A10 := Aside0.mk A100
  clear A100
  have H9 := Aside0.mk H
  clear H
  have hnb11 := NB306_307.out
  have hnc11 := NB307_306.out
  have hcz12_0 : w8.cell? ⟨gb306, 0, none⟩ = some (.slice A0_0 l0_0.length c0_0) := (blk_cell BK306.out 0).trans rfl
  have hfz12_0 := blk_frozen BK306.out 0
  go_upto_if 17 with (first | ((with_reducible refine gate_callee (f := 68) rfl ?_); refine goesL_ (some 16) rfl rfl Try.func68 (by kernel_rfl) rfl #[.agg #[.slice A0_0 l0_0.length c0_0], .int .u64 a1] rfl u9_8 ?_; (with_reducible refine (spec_l10Find.calls k _ _ l0_0 a1 t312 _ ?side1 ?side2 A10.out).mono ?_); (case side1 => exact u9_7); (case side2 => exact HC0_0.out); rintro e w13 ⟨rfl, hb⟩; refine ⟨_, rfl, ?_⟩; have n0_ := Aside0.mk (blk_below (g := gb306) (o := .cells #[.slice A0_0 l0_0.length c0_0] 29 (0, 0)) u9_2 hb); have n1_ := Aside0.mk (blk_below (g := gb307) (o := .cells #[.slice none 0 0] 29 (0, 0)) u9_3 hb); have n2_ := Aside0.mk (below_step u9_1 hb); clear BK306; clear BK307; clear HB; have BK306 := n0_; have BK307 := n1_; have HB := n2_; clear n0_ n1_ n2_; (try clear hb); (try clear hb2); (try clear hk); (try clear hi)))
  have H := H9.out
  clear H9
  by_cases c14 : t312 ≥ 0
  · rw [if_pos c14] at H
    have c14b0 : decide (0 ≤ t312) = true := decide_eq_true c14
    clear c14
    (first | rw [c14b0] | (simp only [i64_w, i32_w]; rw [c14b0]) | skip)
    replace H := Option.bind_eq_some_iff.mp H
    obtain ⟨t313, A150, H⟩ := H
    replace H : (some (t313, 3)) = some (r1, r2) := H
    have A15 := Aside0.mk A150
    clear A150
    simp only [Option.some.injEq, Prod.mk.injEq] at H
    obtain ⟨rfl, rfl⟩ := H
    have hnb16 := NB306_307.out
    have hnc16 := NB307_306.out
    have hcz17_0 : w13.cell? ⟨gb306, 0, none⟩ = some (.slice A0_0 l0_0.length c0_0) := (blk_cell BK306.out 0).trans rfl
    have hfz17_0 := blk_frozen BK306.out 0
    go_wp2_with (first | ((with_reducible refine gate_callee (f := 54) rfl ?_); refine goesL_ (some 19) rfl rfl Try.func54 (by kernel_rfl) rfl #[.agg #[.slice A0_0 l0_0.length c0_0]] rfl u9_8 ?_; (with_reducible refine (spec_l10Copy.calls k _ _ l0_0 t313 _ ?side1 ?side2 A15.out).mono ?_); (case side1 => exact u9_7); (case side2 => exact HC0_0.out); rintro e w18 ⟨v314, rfl, ho0, hb⟩; refine ⟨_, rfl, ?_⟩; have n0_ := Aside0.mk (Kd.R_lower ho0 (below_size u9_1)); have n1_ := Aside0.mk (blk_below (g := gb306) (o := .cells #[.slice A0_0 l0_0.length c0_0] 29 (0, 0)) u9_2 hb); have n2_ := Aside0.mk (blk_below (g := gb307) (o := .cells #[.slice none 0 0] 29 (0, 0)) u9_3 hb); have n3_ := Aside0.mk (below_step u9_1 hb); clear BK306; clear BK307; clear HB; have HO315 := n0_; have BK306 := n1_; have BK307 := n2_; have HB := n3_; clear n0_ n1_ n2_ n3_; (try clear hb); (try clear hb2); (try clear hk); (try clear hi); (try clear ho0); obtain ⟨Ao19, co19, eo19⟩ := Kd.R_slice HO315.out; subst eo19; have hcz20_0 : w18.cell? ⟨gb307, 0, none⟩ = some (.slice none 0 0) := (blk_cell BK307.out 0).trans rfl; have hfz20_0 := blk_frozen BK307.out 0))
    refine bodyPost_ret (results_ct rfl _ _ gb307 29 #[.slice Ao19 t313.length co19] (0, 0) _ rfl u9_4 Try.underlying29 rfl (by kernel_rfl)) rfl ?_
    exact ⟨_, by first | rfl | (simp [errW_none, errW_some] <;> rfl) | (simp [*, errW_none, errW_some] <;> rfl), (by (with_reducible repeat (first | apply Kd.R_alloc | apply Kd.R_drewN | apply Kd.R_drew)); exact Kd.R_mono (Kd.R_far (p := ⟨gb307, 0, none⟩) (Kd.R_types HO315.out BK307.out (by decide)) (fun _ hk => hk.2) (.slice Ao19 t313.length co19)) (fun _ hk => trivial)), u9_1⟩
  rw [if_neg c14] at H
  have c14b0 : decide (0 ≤ t312) = false := decide_eq_false c14
  clear c14
  (first | rw [c14b0] | (simp only [i64_w, i32_w]; rw [c14b0]) | skip)
  by_cases c21 : (l0_0.length : Int) = 40
  · rw [if_pos c21] at H
    have c21b0 : ((l0_0.length : Int) == 40) = true := beq_iff_eq.mpr c21
    have c21b1 : ((l0_0.length : Int) != 40) = false := bne_eq_false_iff_eq.mpr c21
    clear c21
    replace H := Option.bind_eq_some_iff.mp H
    obtain ⟨t316, A220, H⟩ := H
    replace H : (some (t316, 1)) = some (r1, r2) := H
    have A22 := Aside0.mk A220
    clear A220
    simp only [Option.some.injEq, Prod.mk.injEq] at H
    obtain ⟨rfl, rfl⟩ := H
    have hnb23 := NB306_307.out
    have hnc23 := NB307_306.out
    have hcz24_0 : w13.cell? ⟨gb306, 0, none⟩ = some (.slice A0_0 l0_0.length c0_0) := (blk_cell BK306.out 0).trans rfl
    have hfz24_0 := blk_frozen BK306.out 0
    go_wp2_with (first | ((with_reducible refine gate_callee (f := 54) rfl ?_); refine goesL_ (some 25) rfl rfl Try.func54 (by kernel_rfl) rfl #[.agg #[.slice A0_0 l0_0.length c0_0]] rfl u9_8 ?_; (with_reducible refine (spec_l10Copy.calls k _ _ l0_0 t316 _ ?side1 ?side2 A22.out).mono ?_); (case side1 => exact u9_7); (case side2 => exact HC0_0.out); rintro e w25 ⟨v317, rfl, ho0, hb⟩; refine ⟨_, rfl, ?_⟩; have n0_ := Aside0.mk (Kd.R_lower ho0 (below_size u9_1)); have n1_ := Aside0.mk (blk_below (g := gb306) (o := .cells #[.slice A0_0 l0_0.length c0_0] 29 (0, 0)) u9_2 hb); have n2_ := Aside0.mk (blk_below (g := gb307) (o := .cells #[.slice none 0 0] 29 (0, 0)) u9_3 hb); have n3_ := Aside0.mk (below_step u9_1 hb); clear BK306; clear BK307; clear HB; have HO318 := n0_; have BK306 := n1_; have BK307 := n2_; have HB := n3_; clear n0_ n1_ n2_ n3_; (try clear hb); (try clear hb2); (try clear hk); (try clear hi); (try clear ho0); obtain ⟨Ao26, co26, eo26⟩ := Kd.R_slice HO318.out; subst eo26; have hcz27_0 : w25.cell? ⟨gb307, 0, none⟩ = some (.slice none 0 0) := (blk_cell BK307.out 0).trans rfl; have hfz27_0 := blk_frozen BK307.out 0))
    refine bodyPost_ret (results_ct rfl _ _ gb307 29 #[.slice Ao26 t316.length co26] (0, 0) _ rfl u9_4 Try.underlying29 rfl (by kernel_rfl)) rfl ?_
    exact ⟨_, by first | rfl | (simp [errW_none, errW_some] <;> rfl) | (simp [*, errW_none, errW_some] <;> rfl), (by (with_reducible repeat (first | apply Kd.R_alloc | apply Kd.R_drewN | apply Kd.R_drew)); exact Kd.R_mono (Kd.R_far (p := ⟨gb307, 0, none⟩) (Kd.R_types HO318.out BK307.out (by decide)) (fun _ hk => hk.2) (.slice Ao26 t316.length co26)) (fun _ hk => trivial)), u9_1⟩
  rw [if_neg c21] at H
  have c21b0 : ((l0_0.length : Int) == 40) = false := beq_eq_false_iff_ne.mpr c21
  have c21b1 : ((l0_0.length : Int) != 40) = true := bne_iff_ne.mpr c21
  have H' := Aside0.mk H
  clear H
  have hnb28 := NB306_307.out
  have hnc28 := NB307_306.out
  have hcz29_0 : w13.cell? ⟨gb306, 0, none⟩ = some (.slice A0_0 l0_0.length c0_0) := (blk_cell BK306.out 0).trans rfl
  have hfz29_0 := blk_frozen BK306.out 0
  go_wp2_with (first | ((with_reducible refine gate_dst (N := 6) rfl ?_); refine box_event ?hg (N := 6) ?hd (cs := #[.slice none 0 0]) (t := 29) ?hr ?_; (case hd => rfl); (case hg => rfl); (case hr => first | (go_simp; done) | (go_simp; rfl)); intro gb319 hg w30 hbox hb; have n0_ := Aside0.mk (blk_below (g := gb306) (o := .cells #[.slice A0_0 l0_0.length c0_0] 29 (0, 0)) u9_2 hb); have n1_ := Aside0.mk (blk_below (g := gb307) (o := .cells #[.slice none 0 0] 29 (0, 0)) u9_3 hb); have n2_ := Aside0.mk (below_step u9_1 hb); have n3_ := Aside0.mk (hbox); have n4_ := Aside0.mk ((by rw [hg]; exact (below_size u9_1) : w.heap.size ≤ gb319)); have n5_ := Aside0.mk ((by rw [hg]; exact (below_size u9_1) : w.heap.size ≤ gb319)); have n6_ := Aside0.mk ((by rw [hg]; exact Nat.ne_of_lt (blk_lt (g := gb306) (o := .cells #[.slice A0_0 l0_0.length c0_0] 29 (0, 0)) u9_2) : gb306 ≠ gb319)); have n7_ := Aside0.mk ((by rw [hg]; exact Nat.ne_of_gt (blk_lt (g := gb306) (o := .cells #[.slice A0_0 l0_0.length c0_0] 29 (0, 0)) u9_2) : gb319 ≠ gb306)); have n8_ := Aside0.mk ((by rw [hg]; exact Nat.ne_of_lt (blk_lt (g := gb307) (o := .cells #[.slice none 0 0] 29 (0, 0)) u9_3) : gb307 ≠ gb319)); have n9_ := Aside0.mk ((by rw [hg]; exact Nat.ne_of_gt (blk_lt (g := gb307) (o := .cells #[.slice none 0 0] 29 (0, 0)) u9_3) : gb319 ≠ gb307)); clear BK306; clear BK307; clear HB; have BK306 := n0_; have BK307 := n1_; have HB := n2_; have BK319 := n3_; have GW319 := n4_; have GE319 := n5_; have NB306_319 := n6_; have NB319_306 := n7_; have NB307_319 := n8_; have NB319_307 := n9_; clear n0_ n1_ n2_ n3_ n4_ n5_ n6_ n7_ n8_ n9_; clear hb hbox hg; have hnb31 := NB319_306.out; have hnc31 := NB306_319.out; have hnb32 := NB319_307.out; have hnc32 := NB307_319.out; have hcz33_0 : w30.cell? ⟨gb319, 0, none⟩ = some (.slice none 0 0) := (blk_cell BK319.out 0).trans rfl; have hfz33_0 := blk_frozen BK319.out 0))
  go_loopg [7, 8] k (fun kq v7 v8 w' => ∃ (x7_1 : Bool) (x8_1 : Int) (x320000_1 : List (S53)) (u320000 : Value), v7 = .bool x7_1 ∧ v8 = .int .i64 x8_1 ∧ Aside0 (spec_OpenAccount.l0 kq a1 x7_1 x8_1 l0_0 x320000_1 = some (r1, r2)) ∧ Aside0 (kq ≤ k) ∧ Aside0 (Kd.R k53 53 w' w.heap.size (fun _ => True) u320000 x320000_1) ∧ Aside0 (w'.heap[gb306]? = some (.cells #[(.slice A0_0 l0_0.length c0_0)] 29 (0, 0))) ∧ Aside0 (w'.heap[gb307]? = some (.cells #[(.slice none 0 0)] 29 (0, 0))) ∧ Aside0 (w'.heap[gb319]? = some (.cells #[u320000] 29 (0, 0))) ∧ Aside0 (Below w.heap.size w w'))
  case atStart => exact ⟨(false), (0), (([] : List (S53))), (.slice none 0 0), u9_13, u9_13, H', ⟨Nat.le_refl _⟩, ⟨(by first | exact Kd.R_nil _ _ _ _ _ | exact Kd.N_nil _ _ _ _ _ | exact Kd.V_nil _ _ _ _ _ | exact Kd.Q_nil _ _ _ _ _ | exact Kd.S_nil _ _ _ _ _)⟩, ⟨u9_5⟩, ⟨u9_6⟩, ⟨(by (with_reducible repeat (first | refine blk_drewN ?_ _ | refine blk_drew ?_ | refine blk_alloc ?_ _)); refine blk_put (cs := #[.slice none 0 0]) ?_ 0 _ rfl; (with_reducible repeat (first | refine blk_drewN ?_ _ | refine blk_drew ?_ | refine blk_alloc ?_ _)); exact BK319.out)⟩, ⟨u9_0⟩⟩
  clear H'
  try clear c1
  try clear c2
  try clear p2
  try clear c3
  try clear c4
  try clear c5
  try clear c6
  try clear c9
  try clear c11
  try clear c14
  try clear c14b0
  try clear c16
  try clear c18
  try clear c21
  try clear c21b0
  try clear c21b1
  try clear c23
  try clear c28
  try clear c31
  try clear c32
  try clear hcz12_0
  try clear hcz17_0
  try clear hcz20_0
  try clear hcz24_0
  try clear hcz27_0
  try clear hcz29_0
  try clear hcz33_0
  try clear hcz7_0
  try clear hfz12_0
  try clear hfz17_0
  try clear hfz20_0
  try clear hfz24_0
  try clear hfz27_0
  try clear hfz29_0
  try clear hfz33_0
  try clear hfz7_0
  obtain ⟨x7_1, x8_1, x320000_1, u320000, rfl, rfl, HA, HK1, HO_320000, BK306, BK307, BK319, HB⟩ := hrel
  cases gk with
  | zero => exact absurd HA.out (by simp [spec_OpenAccount.l0])
  | succ k1 =>
    have H := HA.out
    clear HA
    simp only [spec_OpenAccount.l0] at H
    by_cases c34 : x8_1 < (l0_0.length : Int)
    rotate_left
    · rw [if_neg c34] at H
      have c34b0 : decide (x8_1 < (l0_0.length : Int)) = false := decide_eq_false c34
      clear c34
      by_cases c68 : x7_1 = true
      · subst c68
        rw [if_pos rfl] at H
        simp only [Option.some.injEq, Prod.mk.injEq] at H
        obtain ⟨rfl, rfl⟩ := H
        have hnb69 := NB306_307.out
        have hnc69 := NB307_306.out
        have hnb70 := NB306_319.out
        have hnc70 := NB319_306.out
        have hcz71_0 : wr.cell? ⟨gb306, 0, none⟩ = some (.slice A0_0 l0_0.length c0_0) := (blk_cell BK306.out 0).trans rfl
        have hfz71_0 := blk_frozen BK306.out 0
        have hnb72 := NB319_307.out
        have hnc72 := NB307_319.out
        have hcz73_0 : wr.cell? ⟨gb319, 0, none⟩ = some (u320000) := (blk_cell BK319.out 0).trans rfl
        have hfz73_0 := blk_frozen BK319.out 0
        obtain ⟨Ao74, co74, eo74⟩ := Kd.R_slice HO_320000.out
        subst eo74
        have hcz75_0 : wr.cell? ⟨gb307, 0, none⟩ = some (.slice none 0 0) := (blk_cell BK307.out 0).trans rfl
        have hfz75_0 := blk_frozen BK307.out 0
        go_wp2
        refine bodyPost_ret (results_ct rfl _ _ gb307 29 #[.slice Ao74 x320000_1.length co74] (0, 0) _ rfl u9_4 Try.underlying29 rfl (by kernel_rfl)) rfl ?_
        exact ⟨_, by first | rfl | (simp [errW_none, errW_some] <;> rfl) | (simp [*, errW_none, errW_some] <;> rfl), (by (with_reducible repeat (first | apply Kd.R_alloc | apply Kd.R_drewN | apply Kd.R_drew)); exact Kd.R_mono (Kd.R_far (p := ⟨gb307, 0, none⟩) (Kd.R_types HO_320000.out BK307.out (by decide)) (fun _ hk => hk.2) (.slice Ao74 x320000_1.length co74)) (fun _ hk => trivial)), u9_0⟩
      replace c68 := Bool.eq_false_iff.mpr c68
      subst c68
      rw [if_neg (show ¬ (false = true) by decide)] at H
      by_cases c76 : x320000_1.length < 3518437208883
      rotate_left
      · rw [if_neg c76] at H
        exact absurd H (by simp)
      rw [if_pos c76] at H
      have LMc76 := Aside0.mk c76
      clear c76
      obtain ⟨y336, hy336⟩ : ∃ y_ : List (S53), y_ = (x320000_1 ++ [(⟨a1, 0, 0, 0, 0⟩ : S53)]) := ⟨_, rfl⟩
      replace H : (some (y336, 0)) = some (r1, r2) := by first | (rw [hy336]; with_reducible exact H) | (have H2_ := (Option.bind_some _ _).symm.trans H; rw [hy336]; with_reducible exact H2_) | (have H2_ := (Option.bind_some _ _).symm.trans H; with_reducible exact H2_) | with_reducible exact H | (rw [hy336]; exact H) | exact H
      have Ny336 := Aside0.mk hy336
      clear hy336
      simp only [Option.some.injEq, Prod.mk.injEq] at H
      obtain ⟨rfl, rfl⟩ := H
      have hnb77 := NB306_307.out
      have hnc77 := NB307_306.out
      have hnb78 := NB306_319.out
      have hnc78 := NB319_306.out
      have hcz79_0 : wr.cell? ⟨gb306, 0, none⟩ = some (.slice A0_0 l0_0.length c0_0) := (blk_cell BK306.out 0).trans rfl
      have hfz79_0 := blk_frozen BK306.out 0
      have hnb80 := NB319_307.out
      have hnc80 := NB307_319.out
      have hcz81_0 : wr.cell? ⟨gb319, 0, none⟩ = some (u320000) := (blk_cell BK319.out 0).trans rfl
      have hfz81_0 := blk_frozen BK319.out 0
      go_wp2_with (first | ((with_reducible refine gate_builtin (b := .append) (xs := #[.tmp 66, .tmp 69]) rfl ?_); at_builtin; refine Kd.R_append k53 (w0 := w) w.heap.size rfl (.tmp 66) (.tmp 69) 27 53 (.agg #[(.int .u64 0), (.int .u64 0), (.int .u64 0), (.int .u64 0), (.int .i64 0)]) 40 rfl Try.underlying27 info53 rfl (by decide) (by omega) u320000 x320000_1 (⟨a1, 0, 0, 0, 0⟩ : S53) [.int .u64 a1, .int .u64 0, .int .u64 0, .int .u64 0, .int .i64 0] (fun _ => True) (fun _ => False) rfl rfl ?aP (fun _ hk => hk.elim) ?aF ?aO ?aB ?aS ?aL ?_; (case aP => exact k53_mkM _ _ _ (⟨a1, 0, 0, 0, 0⟩ : S53)); (case aB => exact u9_0); (case aF => exact (fun _ _ => trivial)); (case aO => exact u9_11); (case aS => exact (below_size u9_0)); (case aL => have := LMc76.out; omega); intro v337 w82 ho hb hg hat; rw [← Ny336.out] at ho; have n0_ := Aside0.mk (blk_grown (g := gb306) (o := .cells #[.slice A0_0 l0_0.length c0_0] 29 (0, 0)) u9_2 hg (Kd.R_ne HO_320000.out BK306.out (by decide))); have n1_ := Aside0.mk (blk_grown (g := gb307) (o := .cells #[.slice none 0 0] 29 (0, 0)) u9_3 hg (Kd.R_ne HO_320000.out BK307.out (by decide))); have n2_ := Aside0.mk (blk_grown (g := gb319) (o := .cells #[u320000] 29 (0, 0)) u9_9 hg (Kd.R_ne HO_320000.out BK319.out (by decide))); have n3_ := Aside0.mk (hb); have n4_ := Aside0.mk (ho); clear BK306; clear BK307; clear BK319; clear HB; clear HO_320000; have BK306 := n0_; have BK307 := n1_; have BK319 := n2_; have HB := n3_; have HO338 := n4_; clear n0_ n1_ n2_ n3_ n4_; clear ho hb hg hat; obtain ⟨Ao83, co83, eo83⟩ := Kd.R_slice HO338.out; subst eo83; have hcz84_0 : w82.cell? ⟨gb319, 0, none⟩ = some (u320000) := (blk_cell BK319.out 0).trans rfl; have hfz84_0 := blk_frozen BK319.out 0; have hcz85_0 : w82.cell? ⟨gb307, 0, none⟩ = some (.slice none 0 0) := (blk_cell BK307.out 0).trans rfl; have hfz85_0 := blk_frozen BK307.out 0))
      refine bodyPost_ret (results_ct rfl _ _ gb307 29 #[.slice Ao83 y336.length co83] (0, 0) _ rfl (by (with_reducible repeat (first | refine blk_drewN ?_ _ | refine blk_drew ?_ | refine blk_alloc ?_ _)); refine blk_put (cs := #[.slice none 0 0]) ?_ 0 _ rfl; (with_reducible repeat (first | refine blk_drewN ?_ _ | refine blk_drew ?_ | refine blk_alloc ?_ _)); refine blk_far ?_ NB307_319.out _; (with_reducible repeat (first | refine blk_drewN ?_ _ | refine blk_drew ?_ | refine blk_alloc ?_ _)); exact BK307.out) Try.underlying29 rfl (by kernel_rfl)) rfl ?_
      exact ⟨_, by first | rfl | (simp [errW_none, errW_some] <;> rfl) | (simp [*, errW_none, errW_some] <;> rfl), (by (with_reducible repeat (first | apply Kd.R_alloc | apply Kd.R_drewN | apply Kd.R_drew)); exact Kd.R_mono (Kd.R_far (p := ⟨gb307, 0, none⟩) (Kd.R_far (p := ⟨gb319, 0, none⟩) (Kd.R_types (Kd.R_types HO338.out BK319.out (by decide)) BK307.out (by decide)) (fun _ hk => hk.1.2) (.slice Ao83 y336.length co83)) (fun _ hk => hk.2) (.slice Ao83 y336.length co83)) (fun _ hk => trivial)), u9_0⟩
    rw [if_pos c34] at H
    have c34b0 : decide (x8_1 < (l0_0.length : Int)) = true := decide_eq_true c34
    clear c34
    by_cases c35 : x7_1 = true
    · subst c35
      rw [if_pos rfl] at H
      by_cases c36 : 0 ≤ x8_1
      rotate_left
      · rw [if_neg c36] at H
        exact absurd H (by simp)
      rw [if_pos c36] at H
      have c36b0 : decide (0 ≤ x8_1) = true := decide_eq_true c36
      clear c36
      by_cases c37 : x320000_1.length < 3518437208883
      rotate_left
      · rw [if_neg c37] at H
        exact absurd H (by simp)
      rw [if_pos c37] at H
      have LMc37 := Aside0.mk c37
      clear c37
      obtain ⟨y321, hy321⟩ : ∃ y_ : List (S53), y_ = (x320000_1 ++ [(⟨(rd_T53 l0_0 x8_1).f0, (rd_T53 l0_0 x8_1).f1, (rd_T53 l0_0 x8_1).f2, (rd_T53 l0_0 x8_1).f3, (rd_T53 l0_0 x8_1).f4⟩ : S53)]) := ⟨_, rfl⟩
      replace H : (spec_OpenAccount.l0 k1 a1 true (wrap64 (x8_1 + 1)) l0_0 y321) = some (r1, r2) := by first | (rw [hy321]; with_reducible exact H) | (have H2_ := (Option.bind_some _ _).symm.trans H; rw [hy321]; with_reducible exact H2_) | (have H2_ := (Option.bind_some _ _).symm.trans H; with_reducible exact H2_) | with_reducible exact H | (rw [hy321]; exact H) | exact H
      have Ny321 := Aside0.mk hy321
      clear hy321
      have H' := Aside0.mk H
      clear H
      have hnb38 := NB306_307.out
      have hnc38 := NB307_306.out
      have hnb39 := NB306_319.out
      have hnc39 := NB319_306.out
      have hcz40_0 : wr.cell? ⟨gb306, 0, none⟩ = some (.slice A0_0 l0_0.length c0_0) := (blk_cell BK306.out 0).trans rfl
      have hfz40_0 := blk_frozen BK306.out 0
      try go_wp2
      have n0_ := Aside0.mk (Kd.R_drew HO_320000.out)
      have n1_ := Aside0.mk (blk_drew BK306.out)
      have n2_ := Aside0.mk (blk_drew BK307.out)
      have n3_ := Aside0.mk (blk_drew BK319.out)
      have n4_ := Aside0.mk (below_drew1 HB.out)
      clear HO_320000
      clear BK306
      clear BK307
      clear BK319
      clear HB
      have HO_320000 := n0_
      have BK306 := n1_
      have BK307 := n2_
      have BK319 := n3_
      have HB := n4_
      clear n0_ n1_ n2_ n3_ n4_
      have p320 : 0 ≤ (x8_1 : Int) := of_decide_eq_true u9_12
      have q320 : x8_1 < (l0_0.length : Int) := of_decide_eq_true u9_12
      obtain ⟨ad320, e320, hx320_0, hx320_1, hx320_2, hx320_3, hx320_4⟩ := at_T53 HR0_0.out x8_1 p320 q320
      have hw320_4 := hx320_4
      have hw320_3 := hx320_3
      have hw320_2 := hx320_2
      have hw320_1 := hx320_1
      have hw320_0 := hx320_0
      cases e320
      replace hx320_0 := (HB.out.cell (World.block_lt_of_cell? w _ hx320_0)).trans hx320_0
      replace hx320_1 := (HB.out.cell (World.block_lt_of_cell? w _ hx320_1)).trans hx320_1
      replace hx320_2 := (HB.out.cell (World.block_lt_of_cell? w _ hx320_2)).trans hx320_2
      replace hx320_3 := (HB.out.cell (World.block_lt_of_cell? w _ hx320_3)).trans hx320_3
      replace hx320_4 := (HB.out.cell (World.block_lt_of_cell? w _ hx320_4)).trans hx320_4
      replace p320 := eq_true p320
      replace q320 := eq_true q320
      refine start_ (n := 11) (S := fun w' => w'.cell? ⟨gb319, 0, none⟩ = some (u320000) ∧ w'.cell? ⟨gb306, 0, none⟩ = some (.slice (some ad320) l0_0.length c0_0) ∧ w'.cell? (ad320.add ((x8_1).toNat * 5)) = some (.int .u64 ((rd_T53 l0_0 x8_1).f0)) ∧ w'.cell? ⟨(ad320.add ((x8_1).toNat * 5)).block, (ad320.add ((x8_1).toNat * 5)).off + 1, none⟩ = some (.int .u64 ((rd_T53 l0_0 x8_1).f1)) ∧ w'.cell? ⟨(ad320.add ((x8_1).toNat * 5)).block, (ad320.add ((x8_1).toNat * 5)).off + 2, none⟩ = some (.int .u64 ((rd_T53 l0_0 x8_1).f2)) ∧ w'.cell? ⟨(ad320.add ((x8_1).toNat * 5)).block, (ad320.add ((x8_1).toNat * 5)).off + 3, none⟩ = some (.int .u64 ((rd_T53 l0_0 x8_1).f3)) ∧ w'.cell? ⟨(ad320.add ((x8_1).toNat * 5)).block, (ad320.add ((x8_1).toNat * 5)).off + 4, none⟩ = some (.int .i64 ((rd_T53 l0_0 x8_1).f4))) (ds := [10]) #[false, false, false, false, false, false, false, false, false, false, false] (by kernel_rfl) rfl rfl ⟨(blk_cell BK319.out 0).trans rfl, (blk_cell BK306.out 0).trans rfl, ((HB.out.cell (World.block_lt_of_cell? w _ hw320_0)).trans hw320_0), ((HB.out.cell (World.block_lt_of_cell? w _ hw320_1)).trans hw320_1), ((HB.out.cell (World.block_lt_of_cell? w _ hw320_2)).trans hw320_2), ((HB.out.cell (World.block_lt_of_cell? w _ hw320_3)).trans hw320_3), ((HB.out.cell (World.block_lt_of_cell? w _ hw320_4)).trans hw320_4)⟩ (fun hHeld => ?_); refine with_tabW spec_OpenAccount.tab15 spec_OpenAccount.bits15 (fun HT_ HW_ => ?_)
      generalize wr.drew = w41 at HO_320000 BK306 BK307 BK319 HB hx320_0 hx320_1 hx320_2 hx320_3 hx320_4 hHeld ⊢
      refine pure_ (i := 0) (N := some 53) (v := ?_) (a' := ?_) #[true, false, false, false, false, false, false, false, false, false, false] rfl rfl (any_of HT_.out (by kernel_rfl)) (fun _ _ _ h => h) (Or.inl ⟨by rfl, ?_⟩) ?_ ?_
      rotate_left
      · intro w'
        go_simp
        with_reducible rfl
      rotate_left
      · simp only [Act.put, List.setIfInBounds_toArray, List.set_cons_zero, List.set_cons_succ, i64_w, i32_w]
        rfl
      refine pure_ (i := 2) (N := some 55) (v := ?_) (a' := ?_) #[true, false, true, false, false, false, false, false, false, false, false] rfl rfl (any_of HT_.out (by kernel_rfl)) (fun _ _ _ h => h) (Or.inl ⟨by rfl, ?_⟩) ?_ ?_
      rotate_left
      · intro w'
        go_simp
        with_reducible rfl
      rotate_left
      · simp only [Act.put, List.setIfInBounds_toArray, List.set_cons_zero, List.set_cons_succ, i64_w, i32_w]
        rfl
      refine pure_ (i := 4) (N := some 57) (v := ?_) (a' := ?_) #[true, false, true, false, true, false, false, false, false, false, false] rfl rfl (any_of HT_.out (by kernel_rfl)) (fun _ _ _ h => h) (Or.inl ⟨by rfl, ?_⟩) ?_ ?_
      rotate_left
      · intro w'
        go_simp
        with_reducible rfl
      rotate_left
      · simp only [Act.put, List.setIfInBounds_toArray, List.set_cons_zero, List.set_cons_succ, i64_w, i32_w]
        rfl
      refine take_ (i := 1) (N := some 54) (v := ?_) (a' := ?_) #[true, true, true, false, true, false, false, false, false, false, false] rfl rfl (take_ofW HT_.out HW_.out (by kernel_rfl)) (fun _ _ _ h => h) (Or.inl ⟨by rfl, ?_⟩) hHeld ?_ ?_
      rotate_left
      · rintro w' ⟨s0, s1, s2, s3, s4, s5, s6⟩
        go_simp
        with_reducible rfl
      rotate_left
      · simp only [Act.put, List.setIfInBounds_toArray, List.set_cons_zero, List.set_cons_succ, i64_w, i32_w]
        rfl
      refine take_ (i := 3) (N := some 56) (v := ?_) (a' := ?_) #[true, true, true, true, true, false, false, false, false, false, false] rfl rfl (take_ofW HT_.out HW_.out (by kernel_rfl)) (fun _ _ _ h => h) (Or.inl ⟨by rfl, ?_⟩) hHeld ?_ ?_
      rotate_left
      · rintro w' ⟨s0, s1, s2, s3, s4, s5, s6⟩
        go_simp
        with_reducible rfl
      rotate_left
      · simp only [Act.put, List.setIfInBounds_toArray, List.set_cons_zero, List.set_cons_succ, i64_w, i32_w]
        rfl
      refine pure_ (i := 5) (N := some 58) (v := ?_) (a' := ?_) #[true, true, true, true, true, true, false, false, false, false, false] rfl rfl (any_of HT_.out (by kernel_rfl)) (fun _ _ _ h => h) (Or.inl ⟨by rfl, ?_⟩) ?_ ?_
      rotate_left
      · intro w'
        go_simp
        with_reducible rfl
      rotate_left
      · simp only [Act.put, List.setIfInBounds_toArray, List.set_cons_zero, List.set_cons_succ, i64_w, i32_w]
        rfl
      refine take_ (i := 6) (N := some 59) (v := ?_) (a' := ?_) #[true, true, true, true, true, true, true, false, false, false, false] rfl rfl (take_ofW HT_.out HW_.out (by kernel_rfl)) (fun _ _ _ h => h) (Or.inl ⟨by rfl, ?_⟩) hHeld ?_ ?_
      rotate_left
      · rintro w' ⟨s0, s1, s2, s3, s4, s5, s6⟩
        go_simp
        with_reducible rfl
      rotate_left
      · simp only [Act.put, List.setIfInBounds_toArray, List.set_cons_zero, List.set_cons_succ, i64_w, i32_w]
        rfl
      refine one_ (i := 7) (N := some 60) #[true, true, true, true, true, true, true, true, false, false, false] rfl rfl (one_of HT_.out (by kernel_rfl)) (by decide) (fun K hK => ?_)
      refine value_ (w1 := ?_) (v := ?_) (by rfl) rfl ?_ ?_
      rotate_left 2
      · go_simp
        constructor
        · rfl
        rfl
      refine hK.out _ _ ⟨(blk_cell (blk_alloc BK319.out _) 0).trans rfl, (blk_cell (blk_alloc BK306.out _) 0).trans rfl, (World.cell?_alloc_lt _ _ _ (World.block_lt_of_cell? _ _ (((HB.out.cell (World.block_lt_of_cell? w _ hw320_0)).trans hw320_0)))).trans (((HB.out.cell (World.block_lt_of_cell? w _ hw320_0)).trans hw320_0)), (World.cell?_alloc_lt _ _ _ (World.block_lt_of_cell? _ _ (((HB.out.cell (World.block_lt_of_cell? w _ hw320_1)).trans hw320_1)))).trans (((HB.out.cell (World.block_lt_of_cell? w _ hw320_1)).trans hw320_1)), (World.cell?_alloc_lt _ _ _ (World.block_lt_of_cell? _ _ (((HB.out.cell (World.block_lt_of_cell? w _ hw320_2)).trans hw320_2)))).trans (((HB.out.cell (World.block_lt_of_cell? w _ hw320_2)).trans hw320_2)), (World.cell?_alloc_lt _ _ _ (World.block_lt_of_cell? _ _ (((HB.out.cell (World.block_lt_of_cell? w _ hw320_3)).trans hw320_3)))).trans (((HB.out.cell (World.block_lt_of_cell? w _ hw320_3)).trans hw320_3)), (World.cell?_alloc_lt _ _ _ (World.block_lt_of_cell? _ _ (((HB.out.cell (World.block_lt_of_cell? w _ hw320_4)).trans hw320_4)))).trans (((HB.out.cell (World.block_lt_of_cell? w _ hw320_4)).trans hw320_4))⟩ (fun hHeld => ?_)
      clear hK K
      refine norm_ (a' := ?_) ?_ ?_
      rotate_left
      · show Act.put _ (some 60) _ = _
        simp only [Act.put, List.setIfInBounds_toArray, List.set_cons_zero, List.set_cons_succ, i64_w, i32_w]
        rfl
      refine one_ (i := 8) (N := some 61) #[true, true, true, true, true, true, true, true, true, false, false] rfl rfl (one_of HT_.out (by kernel_rfl)) (by decide) (fun K hK => ?_)
      refine Kd.R_append_step k53 (w0 := w) w.heap.size (by rfl) (.tmp 54) (.tmp 60) 27 53 (.agg #[(.int .u64 0), (.int .u64 0), (.int .u64 0), (.int .u64 0), (.int .i64 0)]) 40 rfl Try.underlying27 info53 rfl (by decide) (by omega) u320000 x320000_1 (⟨(rd_T53 l0_0 x8_1).f0, (rd_T53 l0_0 x8_1).f1, (rd_T53 l0_0 x8_1).f2, (rd_T53 l0_0 x8_1).f3, (rd_T53 l0_0 x8_1).f4⟩ : S53) [.int .u64 ((rd_T53 l0_0 x8_1).f0), .int .u64 ((rd_T53 l0_0 x8_1).f1), .int .u64 ((rd_T53 l0_0 x8_1).f2), .int .u64 ((rd_T53 l0_0 x8_1).f3), .int .i64 ((rd_T53 l0_0 x8_1).f4)] (fun _ => True) (fun _ => False) rfl rfl ?aP (fun _ hk => hk.elim) ?aF ?aO ?aB ?aS ?aL ?_
      (case aP => exact k53_mkM _ _ _ (⟨(rd_T53 l0_0 x8_1).f0, (rd_T53 l0_0 x8_1).f1, (rd_T53 l0_0 x8_1).f2, (rd_T53 l0_0 x8_1).f3, (rd_T53 l0_0 x8_1).f4⟩ : S53))
      (case aB => exact u9_0)
      (case aF => exact (fun _ _ => trivial))
      (case aO => exact u9_11)
      (case aS => exact (below_size u9_0))
      (case aL => have := LMc37.out; omega)
      intro v322 w42 ho hb hg hat
      rw [← Ny321.out] at ho
      have n0_ := Aside0.mk (blk_grown (g := gb306) (o := .cells #[.slice (some ad320) l0_0.length c0_0] 29 (0, 0)) u9_2 hg (Kd.R_ne HO_320000.out BK306.out (by decide)))
      have n1_ := Aside0.mk (blk_grown (g := gb307) (o := .cells #[.slice none 0 0] 29 (0, 0)) u9_3 hg (Kd.R_ne HO_320000.out BK307.out (by decide)))
      have n2_ := Aside0.mk (blk_grown (g := gb319) (o := .cells #[u320000] 29 (0, 0)) u9_9 hg (Kd.R_ne HO_320000.out BK319.out (by decide)))
      have n3_ := Aside0.mk (hb)
      have n4_ := Aside0.mk (ho)
      clear BK306
      clear BK307
      clear BK319
      clear HB
      clear HO_320000
      have BK306 := n0_
      have BK307 := n1_
      have BK319 := n2_
      have HB := n3_
      have HO323 := n4_
      clear n0_ n1_ n2_ n3_ n4_
      clear ho hb hg hat
      obtain ⟨Ao43, co43, eo43⟩ := Kd.R_slice HO323.out
      (first | subst eo43 | (injection eo43 with f1_ f2_ f3_; have f4_ := f1_.symm; have f5_ := f3_.symm; clear f1_ f2_ f3_; subst f4_; subst f5_))
      refine hK.out _ _ ⟨(blk_cell BK319.out 0).trans rfl, (blk_cell BK306.out 0).trans rfl, ((HB.out.cell (World.block_lt_of_cell? w _ hw320_0)).trans hw320_0), ((HB.out.cell (World.block_lt_of_cell? w _ hw320_1)).trans hw320_1), ((HB.out.cell (World.block_lt_of_cell? w _ hw320_2)).trans hw320_2), ((HB.out.cell (World.block_lt_of_cell? w _ hw320_3)).trans hw320_3), ((HB.out.cell (World.block_lt_of_cell? w _ hw320_4)).trans hw320_4)⟩ (fun hHeld => ?_)
      clear hK K
      refine norm_ (a' := ?_) ?_ ?_
      rotate_left
      · show Act.put _ (some 61) _ = _
        simp only [Act.put, List.setIfInBounds_toArray, List.set_cons_zero, List.set_cons_succ, i64_w, i32_w]
        rfl
      refine pure_ (i := 9) (N := some 62) (v := ?_) (a' := ?_) #[true, true, true, true, true, true, true, true, true, true, false] rfl rfl (any_of HT_.out (by kernel_rfl)) (fun _ _ _ h => h) (Or.inl ⟨by rfl, ?_⟩) ?_ ?_
      rotate_left
      · intro w'
        go_simp
        with_reducible rfl
      rotate_left
      · simp only [Act.put, List.setIfInBounds_toArray, List.set_cons_zero, List.set_cons_succ, i64_w, i32_w]
        rfl
      refine last_ (i := 10) (N := none) #[true, true, true, true, true, true, true, true, true, true, true] rfl rfl (one_of HT_.out (by kernel_rfl)) (by decide) (fun K hK => ?_)
      have hs44 : w42.cell? ⟨gb319, 0, none⟩ = some (u320000) := (blk_cell BK319.out 0).trans rfl
      have hfs44 := blk_frozen BK319.out 0
      have hns44_0 := NB306_319.out
      have hns44_1 := NB307_319.out
      have hms44_0 := NB319_306.out
      have hms44_1 := NB319_307.out
      refine skip_ (w1 := ?_) (by rfl) rfl ?_ ?_
      rotate_left
      · go_simp
        rfl
      refine hK.out _ _ ?_
      clear hK K
      refine done_ (done_of HT_.out (by kernel_rfl)) ?_
      try go_wp2
      go_roundg k1
      case measure => have := HK1.out; omega
      case rel => exact ⟨(true), (wrap64 (x8_1 + 1)), (y321), (.slice Ao43 y321.length co43), u9_13, u9_13, H', ⟨by have := HK1.out; omega⟩, ⟨(by (with_reducible repeat (first | apply Kd.R_alloc | apply Kd.R_drewN | apply Kd.R_drew)); exact Kd.R_mono (Kd.R_far (p := ⟨gb319, 0, none⟩) (Kd.R_types HO323.out BK319.out (by decide)) (fun _ hk => hk.2) (.slice Ao43 y321.length co43)) (fun _ hk => trivial))⟩, ⟨u9_5⟩, ⟨u9_6⟩, ⟨u9_14⟩, ⟨u9_0⟩⟩
    replace c35 := Bool.eq_false_iff.mpr c35
    subst c35
    rw [if_neg (show ¬ (false = true) by decide)] at H
    by_cases c45 : 0 ≤ x8_1
    rotate_left
    · rw [if_neg c45] at H
      exact absurd H (by simp)
    rw [if_pos c45] at H
    have c45b0 : decide (0 ≤ x8_1) = true := decide_eq_true c45
    clear c45
    have H9 := Aside0.mk H
    clear H
    have hnb46 := NB306_307.out
    have hnc46 := NB307_306.out
    have hnb47 := NB306_319.out
    have hnc47 := NB319_306.out
    have hcz48_0 : wr.cell? ⟨gb306, 0, none⟩ = some (.slice A0_0 l0_0.length c0_0) := (blk_cell BK306.out 0).trans rfl
    have hfz48_0 := blk_frozen BK306.out 0
    have p324 : 0 ≤ (x8_1 : Int) := of_decide_eq_true u9_12
    have q324 : x8_1 < (l0_0.length : Int) := of_decide_eq_true u9_12
    obtain ⟨ad324, e324, hx324_0, hx324_1, hx324_2, hx324_3, hx324_4⟩ := at_T53 HR0_0.out x8_1 p324 q324
    cases e324
    replace hx324_0 := (HB.out.cell (World.block_lt_of_cell? w _ hx324_0)).trans hx324_0
    replace hx324_1 := (HB.out.cell (World.block_lt_of_cell? w _ hx324_1)).trans hx324_1
    replace hx324_2 := (HB.out.cell (World.block_lt_of_cell? w _ hx324_2)).trans hx324_2
    replace hx324_3 := (HB.out.cell (World.block_lt_of_cell? w _ hx324_3)).trans hx324_3
    replace hx324_4 := (HB.out.cell (World.block_lt_of_cell? w _ hx324_4)).trans hx324_4
    replace p324 := eq_true p324
    replace q324 := eq_true q324
    go_upto_if 45 with (fail)
    have H := H9.out
    clear H9
    by_cases c49 : ((rd_T53 l0_0 x8_1).f0) > a1
    rotate_left
    · rw [if_neg c49] at H
      have c49b0 : decide (a1 < ((rd_T53 l0_0 x8_1).f0)) = false := decide_eq_false c49
      clear c49
      (first | rw [c49b0] | (simp only [i64_w, i32_w]; rw [c49b0]) | skip)
      by_cases c63 : x320000_1.length < 3518437208883
      rotate_left
      · rw [if_neg c63] at H
        exact absurd H (by simp)
      rw [if_pos c63] at H
      have LMc63 := Aside0.mk c63
      clear c63
      obtain ⟨y333, hy333⟩ : ∃ y_ : List (S53), y_ = (x320000_1 ++ [(⟨(rd_T53 l0_0 x8_1).f0, (rd_T53 l0_0 x8_1).f1, (rd_T53 l0_0 x8_1).f2, (rd_T53 l0_0 x8_1).f3, (rd_T53 l0_0 x8_1).f4⟩ : S53)]) := ⟨_, rfl⟩
      replace H : (spec_OpenAccount.l0 k1 a1 false (wrap64 (x8_1 + 1)) l0_0 y333) = some (r1, r2) := by first | (rw [hy333]; with_reducible exact H) | (have H2_ := (Option.bind_some _ _).symm.trans H; rw [hy333]; with_reducible exact H2_) | (have H2_ := (Option.bind_some _ _).symm.trans H; with_reducible exact H2_) | with_reducible exact H | (rw [hy333]; exact H) | exact H
      have Ny333 := Aside0.mk hy333
      clear hy333
      have H' := Aside0.mk H
      clear H
      try go_wp2
      have n0_ := Aside0.mk (Kd.R_drew HO_320000.out)
      have n1_ := Aside0.mk (blk_drew BK306.out)
      have n2_ := Aside0.mk (blk_drew BK307.out)
      have n3_ := Aside0.mk (blk_drew BK319.out)
      have n4_ := Aside0.mk (below_drew1 HB.out)
      clear HO_320000
      clear BK306
      clear BK307
      clear BK319
      clear HB
      have HO_320000 := n0_
      have BK306 := n1_
      have BK307 := n2_
      have BK319 := n3_
      have HB := n4_
      clear n0_ n1_ n2_ n3_ n4_
      have p332 : 0 ≤ (x8_1 : Int) := of_decide_eq_true u9_12
      have q332 : x8_1 < (l0_0.length : Int) := of_decide_eq_true u9_12
      obtain ⟨ad332, e332, hx332_0, hx332_1, hx332_2, hx332_3, hx332_4⟩ := at_T53 HR0_0.out x8_1 p332 q332
      have hw332_4 := hx332_4
      have hw332_3 := hx332_3
      have hw332_2 := hx332_2
      have hw332_1 := hx332_1
      have hw332_0 := hx332_0
      obtain rfl : ad324 = ad332 := (by injection e332)
      replace hx332_0 := (HB.out.cell (World.block_lt_of_cell? w _ hx332_0)).trans hx332_0
      replace hx332_1 := (HB.out.cell (World.block_lt_of_cell? w _ hx332_1)).trans hx332_1
      replace hx332_2 := (HB.out.cell (World.block_lt_of_cell? w _ hx332_2)).trans hx332_2
      replace hx332_3 := (HB.out.cell (World.block_lt_of_cell? w _ hx332_3)).trans hx332_3
      replace hx332_4 := (HB.out.cell (World.block_lt_of_cell? w _ hx332_4)).trans hx332_4
      replace p332 := eq_true p332
      replace q332 := eq_true q332
      refine start_ (n := 11) (S := fun w' => w'.cell? ⟨gb319, 0, none⟩ = some (u320000) ∧ w'.cell? ⟨gb306, 0, none⟩ = some (.slice (some ad324) l0_0.length c0_0) ∧ w'.cell? (ad324.add ((x8_1).toNat * 5)) = some (.int .u64 ((rd_T53 l0_0 x8_1).f0)) ∧ w'.cell? ⟨(ad324.add ((x8_1).toNat * 5)).block, (ad324.add ((x8_1).toNat * 5)).off + 1, none⟩ = some (.int .u64 ((rd_T53 l0_0 x8_1).f1)) ∧ w'.cell? ⟨(ad324.add ((x8_1).toNat * 5)).block, (ad324.add ((x8_1).toNat * 5)).off + 2, none⟩ = some (.int .u64 ((rd_T53 l0_0 x8_1).f2)) ∧ w'.cell? ⟨(ad324.add ((x8_1).toNat * 5)).block, (ad324.add ((x8_1).toNat * 5)).off + 3, none⟩ = some (.int .u64 ((rd_T53 l0_0 x8_1).f3)) ∧ w'.cell? ⟨(ad324.add ((x8_1).toNat * 5)).block, (ad324.add ((x8_1).toNat * 5)).off + 4, none⟩ = some (.int .i64 ((rd_T53 l0_0 x8_1).f4))) (ds := [10]) #[false, false, false, false, false, false, false, false, false, false, false] (by kernel_rfl) rfl rfl ⟨(blk_cell BK319.out 0).trans rfl, (blk_cell BK306.out 0).trans rfl, ((HB.out.cell (World.block_lt_of_cell? w _ hw332_0)).trans hw332_0), ((HB.out.cell (World.block_lt_of_cell? w _ hw332_1)).trans hw332_1), ((HB.out.cell (World.block_lt_of_cell? w _ hw332_2)).trans hw332_2), ((HB.out.cell (World.block_lt_of_cell? w _ hw332_3)).trans hw332_3), ((HB.out.cell (World.block_lt_of_cell? w _ hw332_4)).trans hw332_4)⟩ (fun hHeld => ?_); refine with_tabW spec_OpenAccount.tab15 spec_OpenAccount.bits15 (fun HT_ HW_ => ?_)
      generalize wr.drew = w64 at HO_320000 BK306 BK307 BK319 HB hx332_0 hx332_1 hx332_2 hx332_3 hx332_4 hHeld ⊢
      refine pure_ (i := 0) (N := some 53) (v := ?_) (a' := ?_) #[true, false, false, false, false, false, false, false, false, false, false] rfl rfl (any_of HT_.out (by kernel_rfl)) (fun _ _ _ h => h) (Or.inl ⟨by rfl, ?_⟩) ?_ ?_
      rotate_left
      · intro w'
        go_simp
        with_reducible rfl
      rotate_left
      · simp only [Act.put, List.setIfInBounds_toArray, List.set_cons_zero, List.set_cons_succ, i64_w, i32_w]
        rfl
      refine pure_ (i := 2) (N := some 55) (v := ?_) (a' := ?_) #[true, false, true, false, false, false, false, false, false, false, false] rfl rfl (any_of HT_.out (by kernel_rfl)) (fun _ _ _ h => h) (Or.inl ⟨by rfl, ?_⟩) ?_ ?_
      rotate_left
      · intro w'
        go_simp
        with_reducible rfl
      rotate_left
      · simp only [Act.put, List.setIfInBounds_toArray, List.set_cons_zero, List.set_cons_succ, i64_w, i32_w]
        rfl
      refine pure_ (i := 4) (N := some 57) (v := ?_) (a' := ?_) #[true, false, true, false, true, false, false, false, false, false, false] rfl rfl (any_of HT_.out (by kernel_rfl)) (fun _ _ _ h => h) (Or.inl ⟨by rfl, ?_⟩) ?_ ?_
      rotate_left
      · intro w'
        go_simp
        with_reducible rfl
      rotate_left
      · simp only [Act.put, List.setIfInBounds_toArray, List.set_cons_zero, List.set_cons_succ, i64_w, i32_w]
        rfl
      refine take_ (i := 1) (N := some 54) (v := ?_) (a' := ?_) #[true, true, true, false, true, false, false, false, false, false, false] rfl rfl (take_ofW HT_.out HW_.out (by kernel_rfl)) (fun _ _ _ h => h) (Or.inl ⟨by rfl, ?_⟩) hHeld ?_ ?_
      rotate_left
      · rintro w' ⟨s0, s1, s2, s3, s4, s5, s6⟩
        go_simp
        with_reducible rfl
      rotate_left
      · simp only [Act.put, List.setIfInBounds_toArray, List.set_cons_zero, List.set_cons_succ, i64_w, i32_w]
        rfl
      refine take_ (i := 3) (N := some 56) (v := ?_) (a' := ?_) #[true, true, true, true, true, false, false, false, false, false, false] rfl rfl (take_ofW HT_.out HW_.out (by kernel_rfl)) (fun _ _ _ h => h) (Or.inl ⟨by rfl, ?_⟩) hHeld ?_ ?_
      rotate_left
      · rintro w' ⟨s0, s1, s2, s3, s4, s5, s6⟩
        go_simp
        with_reducible rfl
      rotate_left
      · simp only [Act.put, List.setIfInBounds_toArray, List.set_cons_zero, List.set_cons_succ, i64_w, i32_w]
        rfl
      refine pure_ (i := 5) (N := some 58) (v := ?_) (a' := ?_) #[true, true, true, true, true, true, false, false, false, false, false] rfl rfl (any_of HT_.out (by kernel_rfl)) (fun _ _ _ h => h) (Or.inl ⟨by rfl, ?_⟩) ?_ ?_
      rotate_left
      · intro w'
        go_simp
        with_reducible rfl
      rotate_left
      · simp only [Act.put, List.setIfInBounds_toArray, List.set_cons_zero, List.set_cons_succ, i64_w, i32_w]
        rfl
      refine take_ (i := 6) (N := some 59) (v := ?_) (a' := ?_) #[true, true, true, true, true, true, true, false, false, false, false] rfl rfl (take_ofW HT_.out HW_.out (by kernel_rfl)) (fun _ _ _ h => h) (Or.inl ⟨by rfl, ?_⟩) hHeld ?_ ?_
      rotate_left
      · rintro w' ⟨s0, s1, s2, s3, s4, s5, s6⟩
        go_simp
        with_reducible rfl
      rotate_left
      · simp only [Act.put, List.setIfInBounds_toArray, List.set_cons_zero, List.set_cons_succ, i64_w, i32_w]
        rfl
      refine one_ (i := 7) (N := some 60) #[true, true, true, true, true, true, true, true, false, false, false] rfl rfl (one_of HT_.out (by kernel_rfl)) (by decide) (fun K hK => ?_)
      refine value_ (w1 := ?_) (v := ?_) (by rfl) rfl ?_ ?_
      rotate_left 2
      · go_simp
        constructor
        · rfl
        rfl
      refine hK.out _ _ ⟨(blk_cell (blk_alloc BK319.out _) 0).trans rfl, (blk_cell (blk_alloc BK306.out _) 0).trans rfl, (World.cell?_alloc_lt _ _ _ (World.block_lt_of_cell? _ _ (((HB.out.cell (World.block_lt_of_cell? w _ hw332_0)).trans hw332_0)))).trans (((HB.out.cell (World.block_lt_of_cell? w _ hw332_0)).trans hw332_0)), (World.cell?_alloc_lt _ _ _ (World.block_lt_of_cell? _ _ (((HB.out.cell (World.block_lt_of_cell? w _ hw332_1)).trans hw332_1)))).trans (((HB.out.cell (World.block_lt_of_cell? w _ hw332_1)).trans hw332_1)), (World.cell?_alloc_lt _ _ _ (World.block_lt_of_cell? _ _ (((HB.out.cell (World.block_lt_of_cell? w _ hw332_2)).trans hw332_2)))).trans (((HB.out.cell (World.block_lt_of_cell? w _ hw332_2)).trans hw332_2)), (World.cell?_alloc_lt _ _ _ (World.block_lt_of_cell? _ _ (((HB.out.cell (World.block_lt_of_cell? w _ hw332_3)).trans hw332_3)))).trans (((HB.out.cell (World.block_lt_of_cell? w _ hw332_3)).trans hw332_3)), (World.cell?_alloc_lt _ _ _ (World.block_lt_of_cell? _ _ (((HB.out.cell (World.block_lt_of_cell? w _ hw332_4)).trans hw332_4)))).trans (((HB.out.cell (World.block_lt_of_cell? w _ hw332_4)).trans hw332_4))⟩ (fun hHeld => ?_)
      clear hK K
      refine norm_ (a' := ?_) ?_ ?_
      rotate_left
      · show Act.put _ (some 60) _ = _
        simp only [Act.put, List.setIfInBounds_toArray, List.set_cons_zero, List.set_cons_succ, i64_w, i32_w]
        rfl
      refine one_ (i := 8) (N := some 61) #[true, true, true, true, true, true, true, true, true, false, false] rfl rfl (one_of HT_.out (by kernel_rfl)) (by decide) (fun K hK => ?_)
      refine Kd.R_append_step k53 (w0 := w) w.heap.size (by rfl) (.tmp 54) (.tmp 60) 27 53 (.agg #[(.int .u64 0), (.int .u64 0), (.int .u64 0), (.int .u64 0), (.int .i64 0)]) 40 rfl Try.underlying27 info53 rfl (by decide) (by omega) u320000 x320000_1 (⟨(rd_T53 l0_0 x8_1).f0, (rd_T53 l0_0 x8_1).f1, (rd_T53 l0_0 x8_1).f2, (rd_T53 l0_0 x8_1).f3, (rd_T53 l0_0 x8_1).f4⟩ : S53) [.int .u64 ((rd_T53 l0_0 x8_1).f0), .int .u64 ((rd_T53 l0_0 x8_1).f1), .int .u64 ((rd_T53 l0_0 x8_1).f2), .int .u64 ((rd_T53 l0_0 x8_1).f3), .int .i64 ((rd_T53 l0_0 x8_1).f4)] (fun _ => True) (fun _ => False) rfl rfl ?aP (fun _ hk => hk.elim) ?aF ?aO ?aB ?aS ?aL ?_
      (case aP => exact k53_mkM _ _ _ (⟨(rd_T53 l0_0 x8_1).f0, (rd_T53 l0_0 x8_1).f1, (rd_T53 l0_0 x8_1).f2, (rd_T53 l0_0 x8_1).f3, (rd_T53 l0_0 x8_1).f4⟩ : S53))
      (case aB => exact u9_0)
      (case aF => exact (fun _ _ => trivial))
      (case aO => exact u9_11)
      (case aS => exact (below_size u9_0))
      (case aL => have := LMc63.out; omega)
      intro v334 w65 ho hb hg hat
      rw [← Ny333.out] at ho
      have n0_ := Aside0.mk (blk_grown (g := gb306) (o := .cells #[.slice (some ad324) l0_0.length c0_0] 29 (0, 0)) u9_2 hg (Kd.R_ne HO_320000.out BK306.out (by decide)))
      have n1_ := Aside0.mk (blk_grown (g := gb307) (o := .cells #[.slice none 0 0] 29 (0, 0)) u9_3 hg (Kd.R_ne HO_320000.out BK307.out (by decide)))
      have n2_ := Aside0.mk (blk_grown (g := gb319) (o := .cells #[u320000] 29 (0, 0)) u9_9 hg (Kd.R_ne HO_320000.out BK319.out (by decide)))
      have n3_ := Aside0.mk (hb)
      have n4_ := Aside0.mk (ho)
      clear BK306
      clear BK307
      clear BK319
      clear HB
      clear HO_320000
      have BK306 := n0_
      have BK307 := n1_
      have BK319 := n2_
      have HB := n3_
      have HO335 := n4_
      clear n0_ n1_ n2_ n3_ n4_
      clear ho hb hg hat
      obtain ⟨Ao66, co66, eo66⟩ := Kd.R_slice HO335.out
      (first | subst eo66 | (injection eo66 with f1_ f2_ f3_; have f4_ := f1_.symm; have f5_ := f3_.symm; clear f1_ f2_ f3_; subst f4_; subst f5_))
      refine hK.out _ _ ⟨(blk_cell BK319.out 0).trans rfl, (blk_cell BK306.out 0).trans rfl, ((HB.out.cell (World.block_lt_of_cell? w _ hw332_0)).trans hw332_0), ((HB.out.cell (World.block_lt_of_cell? w _ hw332_1)).trans hw332_1), ((HB.out.cell (World.block_lt_of_cell? w _ hw332_2)).trans hw332_2), ((HB.out.cell (World.block_lt_of_cell? w _ hw332_3)).trans hw332_3), ((HB.out.cell (World.block_lt_of_cell? w _ hw332_4)).trans hw332_4)⟩ (fun hHeld => ?_)
      clear hK K
      refine norm_ (a' := ?_) ?_ ?_
      rotate_left
      · show Act.put _ (some 61) _ = _
        simp only [Act.put, List.setIfInBounds_toArray, List.set_cons_zero, List.set_cons_succ, i64_w, i32_w]
        rfl
      refine pure_ (i := 9) (N := some 62) (v := ?_) (a' := ?_) #[true, true, true, true, true, true, true, true, true, true, false] rfl rfl (any_of HT_.out (by kernel_rfl)) (fun _ _ _ h => h) (Or.inl ⟨by rfl, ?_⟩) ?_ ?_
      rotate_left
      · intro w'
        go_simp
        with_reducible rfl
      rotate_left
      · simp only [Act.put, List.setIfInBounds_toArray, List.set_cons_zero, List.set_cons_succ, i64_w, i32_w]
        rfl
      refine last_ (i := 10) (N := none) #[true, true, true, true, true, true, true, true, true, true, true] rfl rfl (one_of HT_.out (by kernel_rfl)) (by decide) (fun K hK => ?_)
      have hs67 : w65.cell? ⟨gb319, 0, none⟩ = some (u320000) := (blk_cell BK319.out 0).trans rfl
      have hfs67 := blk_frozen BK319.out 0
      have hns67_0 := NB306_319.out
      have hns67_1 := NB307_319.out
      have hms67_0 := NB319_306.out
      have hms67_1 := NB319_307.out
      refine skip_ (w1 := ?_) (by rfl) rfl ?_ ?_
      rotate_left
      · go_simp
        rfl
      refine hK.out _ _ ?_
      clear hK K
      refine done_ (done_of HT_.out (by kernel_rfl)) ?_
      try go_wp2
      go_roundg k1
      case measure => have := HK1.out; omega
      case rel => exact ⟨(false), (wrap64 (x8_1 + 1)), (y333), (.slice Ao66 y333.length co66), u9_13, u9_13, H', ⟨by have := HK1.out; omega⟩, ⟨(by (with_reducible repeat (first | apply Kd.R_alloc | apply Kd.R_drewN | apply Kd.R_drew)); exact Kd.R_mono (Kd.R_far (p := ⟨gb319, 0, none⟩) (Kd.R_types HO335.out BK319.out (by decide)) (fun _ hk => hk.2) (.slice Ao66 y333.length co66)) (fun _ hk => trivial))⟩, ⟨u9_5⟩, ⟨u9_6⟩, ⟨u9_14⟩, ⟨u9_0⟩⟩
    rw [if_pos c49] at H
    have c49b0 : decide (a1 < ((rd_T53 l0_0 x8_1).f0)) = true := decide_eq_true c49
    clear c49
    (first | rw [c49b0] | (simp only [i64_w, i32_w]; rw [c49b0]) | skip)
    by_cases c50 : x320000_1.length < 3518437208883
    rotate_left
    · rw [if_neg c50] at H
      exact absurd H (by simp)
    rw [if_pos c50] at H
    have LMc50 := Aside0.mk c50
    clear c50
    obtain ⟨y325, hy325⟩ : ∃ y_ : List (S53), y_ = (x320000_1 ++ [(⟨a1, 0, 0, 0, 0⟩ : S53)]) := ⟨_, rfl⟩
    replace H : (if y325.length < 3518437208883 then (spec_OpenAccount.l0 k1 a1 true (wrap64 (x8_1 + 1)) l0_0 (y325 ++ [(⟨(rd_T53 l0_0 x8_1).f0, (rd_T53 l0_0 x8_1).f1, (rd_T53 l0_0 x8_1).f2, (rd_T53 l0_0 x8_1).f3, (rd_T53 l0_0 x8_1).f4⟩ : S53)])) else (none)) = some (r1, r2) := by first | (rw [hy325]; with_reducible exact H) | (have H2_ := (Option.bind_some _ _).symm.trans H; rw [hy325]; with_reducible exact H2_) | (have H2_ := (Option.bind_some _ _).symm.trans H; with_reducible exact H2_) | with_reducible exact H | (rw [hy325]; exact H) | exact H
    have Ny325 := Aside0.mk hy325
    clear hy325
    by_cases c51 : y325.length < 3518437208883
    rotate_left
    · rw [if_neg c51] at H
      exact absurd H (by simp)
    rw [if_pos c51] at H
    have LMc51 := Aside0.mk c51
    clear c51
    obtain ⟨y329, hy329⟩ : ∃ y_ : List (S53), y_ = (y325 ++ [(⟨(rd_T53 l0_0 x8_1).f0, (rd_T53 l0_0 x8_1).f1, (rd_T53 l0_0 x8_1).f2, (rd_T53 l0_0 x8_1).f3, (rd_T53 l0_0 x8_1).f4⟩ : S53)]) := ⟨_, rfl⟩
    replace H : (spec_OpenAccount.l0 k1 a1 true (wrap64 (x8_1 + 1)) l0_0 y329) = some (r1, r2) := by first | (rw [hy329]; with_reducible exact H) | (have H2_ := (Option.bind_some _ _).symm.trans H; rw [hy329]; with_reducible exact H2_) | (have H2_ := (Option.bind_some _ _).symm.trans H; with_reducible exact H2_) | with_reducible exact H | (rw [hy329]; exact H) | exact H
    have Ny329 := Aside0.mk hy329
    clear hy329
    have H' := Aside0.mk H
    clear H
    have hnb52 := NB319_306.out
    have hnc52 := NB306_319.out
    have hnb53 := NB319_307.out
    have hnc53 := NB307_319.out
    have hcz54_0 : wr.cell? ⟨gb319, 0, none⟩ = some (u320000) := (blk_cell BK319.out 0).trans rfl
    have hfz54_0 := blk_frozen BK319.out 0
    try go_wp2_with (first | ((with_reducible refine gate_builtin (b := .append) (xs := #[.tmp 47, .tmp 50]) rfl ?_); at_builtin; refine Kd.R_append k53 (w0 := w) w.heap.size rfl (.tmp 47) (.tmp 50) 27 53 (.agg #[(.int .u64 0), (.int .u64 0), (.int .u64 0), (.int .u64 0), (.int .i64 0)]) 40 rfl Try.underlying27 info53 rfl (by decide) (by omega) u320000 x320000_1 (⟨a1, 0, 0, 0, 0⟩ : S53) [.int .u64 a1, .int .u64 0, .int .u64 0, .int .u64 0, .int .i64 0] (fun _ => True) (fun _ => False) rfl rfl ?aP (fun _ hk => hk.elim) ?aF ?aO ?aB ?aS ?aL ?_; (case aP => exact k53_mkM _ _ _ (⟨a1, 0, 0, 0, 0⟩ : S53)); (case aB => exact u9_0); (case aF => exact (fun _ _ => trivial)); (case aO => exact u9_11); (case aS => exact (below_size u9_0)); (case aL => have := LMc50.out; omega); intro v326 w55 ho hb hg hat; rw [← Ny325.out] at ho; have n0_ := Aside0.mk (blk_grown (g := gb306) (o := .cells #[.slice (some ad324) l0_0.length c0_0] 29 (0, 0)) u9_2 hg (Kd.R_ne HO_320000.out BK306.out (by decide))); have n1_ := Aside0.mk (blk_grown (g := gb307) (o := .cells #[.slice none 0 0] 29 (0, 0)) u9_3 hg (Kd.R_ne HO_320000.out BK307.out (by decide))); have n2_ := Aside0.mk (blk_grown (g := gb319) (o := .cells #[u320000] 29 (0, 0)) u9_9 hg (Kd.R_ne HO_320000.out BK319.out (by decide))); have n3_ := Aside0.mk (hb); have n4_ := Aside0.mk (ho); clear BK306; clear BK307; clear BK319; clear HB; clear HO_320000; have BK306 := n0_; have BK307 := n1_; have BK319 := n2_; have HB := n3_; have HO327 := n4_; clear n0_ n1_ n2_ n3_ n4_; clear ho hb hg hat; obtain ⟨Ao56, co56, eo56⟩ := Kd.R_slice HO327.out; subst eo56; have hcz57_0 : w55.cell? ⟨gb319, 0, none⟩ = some (u320000) := (blk_cell BK319.out 0).trans rfl; have hfz57_0 := blk_frozen BK319.out 0))
    have n0_ : Aside0 (Kd.R k53 53 (w55.setCell ⟨gb319, 0, none⟩ (.slice Ao56 y325.length co56)) w.heap.size (fun _ => True) (.slice Ao56 y325.length co56) y325) := ⟨by (with_reducible repeat (first | apply Kd.R_alloc | apply Kd.R_drewN | apply Kd.R_drew)); exact Kd.R_mono (Kd.R_far (p := ⟨gb319, 0, none⟩) (Kd.R_types HO327.out BK319.out (by decide)) (fun _ hk => hk.2) (.slice Ao56 y325.length co56)) (fun _ hk => trivial)⟩
    have n1_ : Aside0 ((w55.setCell ⟨gb319, 0, none⟩ (.slice Ao56 y325.length co56)).heap[gb306]? = some (.cells #[.slice (some ad324) l0_0.length c0_0] 29 (0, 0))) := ⟨by (with_reducible repeat (first | refine blk_drewN ?_ _ | refine blk_drew ?_ | refine blk_alloc ?_ _)); refine blk_far ?_ NB306_319.out _; (with_reducible repeat (first | refine blk_drewN ?_ _ | refine blk_drew ?_ | refine blk_alloc ?_ _)); exact BK306.out⟩
    have n2_ : Aside0 ((w55.setCell ⟨gb319, 0, none⟩ (.slice Ao56 y325.length co56)).heap[gb307]? = some (.cells #[.slice none 0 0] 29 (0, 0))) := ⟨by (with_reducible repeat (first | refine blk_drewN ?_ _ | refine blk_drew ?_ | refine blk_alloc ?_ _)); refine blk_far ?_ NB307_319.out _; (with_reducible repeat (first | refine blk_drewN ?_ _ | refine blk_drew ?_ | refine blk_alloc ?_ _)); exact BK307.out⟩
    have n3_ : Aside0 ((w55.setCell ⟨gb319, 0, none⟩ (.slice Ao56 y325.length co56)).heap[gb319]? = some (.cells #[.slice Ao56 y325.length co56] 29 (0, 0))) := ⟨by (with_reducible repeat (first | refine blk_drewN ?_ _ | refine blk_drew ?_ | refine blk_alloc ?_ _)); refine blk_put (cs := #[u320000]) ?_ 0 _ rfl; (with_reducible repeat (first | refine blk_drewN ?_ _ | refine blk_drew ?_ | refine blk_alloc ?_ _)); exact BK319.out⟩
    have n4_ : Aside0 (Below w.heap.size w (w55.setCell ⟨gb319, 0, none⟩ (.slice Ao56 y325.length co56))) := ⟨by repeat (first | (with_reducible first | exact HB.out | apply below_alloc | apply pw_below_drewN | apply below_drew1 | refine below_set ?_ GE306.out | refine below_set ?_ GE307.out | refine below_set ?_ GE319.out) | exact HB.out)⟩
    (try clear HO327)
    (try clear BK306)
    (try clear BK307)
    (try clear BK319)
    (try clear HB)
    generalize (w55.setCell ⟨gb319, 0, none⟩ (.slice Ao56 y325.length co56)) = w58 at n0_ n1_ n2_ n3_ n4_ ⊢
    have HO327 := n0_
    have BK306 := n1_
    have BK307 := n2_
    have BK319 := n3_
    have HB := n4_
    clear n0_ n1_ n2_ n3_ n4_
    have n0_ := Aside0.mk (Kd.R_drew HO327.out)
    have n1_ := Aside0.mk (blk_drew BK306.out)
    have n2_ := Aside0.mk (blk_drew BK307.out)
    have n3_ := Aside0.mk (blk_drew BK319.out)
    have n4_ := Aside0.mk (below_drew1 HB.out)
    clear HO327
    clear BK306
    clear BK307
    clear BK319
    clear HB
    have HO327 := n0_
    have BK306 := n1_
    have BK307 := n2_
    have BK319 := n3_
    have HB := n4_
    clear n0_ n1_ n2_ n3_ n4_
    have p328 : 0 ≤ (x8_1 : Int) := of_decide_eq_true u9_12
    have q328 : x8_1 < (l0_0.length : Int) := of_decide_eq_true u9_12
    obtain ⟨ad328, e328, hx328_0, hx328_1, hx328_2, hx328_3, hx328_4⟩ := at_T53 HR0_0.out x8_1 p328 q328
    have hw328_4 := hx328_4
    have hw328_3 := hx328_3
    have hw328_2 := hx328_2
    have hw328_1 := hx328_1
    have hw328_0 := hx328_0
    obtain rfl : ad324 = ad328 := (by injection e328)
    replace hx328_0 := (HB.out.cell (World.block_lt_of_cell? w _ hx328_0)).trans hx328_0
    replace hx328_1 := (HB.out.cell (World.block_lt_of_cell? w _ hx328_1)).trans hx328_1
    replace hx328_2 := (HB.out.cell (World.block_lt_of_cell? w _ hx328_2)).trans hx328_2
    replace hx328_3 := (HB.out.cell (World.block_lt_of_cell? w _ hx328_3)).trans hx328_3
    replace hx328_4 := (HB.out.cell (World.block_lt_of_cell? w _ hx328_4)).trans hx328_4
    replace p328 := eq_true p328
    replace q328 := eq_true q328
    refine start_ (n := 11) (S := fun w' => w'.cell? ⟨gb319, 0, none⟩ = some (.slice Ao56 y325.length co56) ∧ w'.cell? ⟨gb306, 0, none⟩ = some (.slice (some ad324) l0_0.length c0_0) ∧ w'.cell? (ad324.add ((x8_1).toNat * 5)) = some (.int .u64 ((rd_T53 l0_0 x8_1).f0)) ∧ w'.cell? ⟨(ad324.add ((x8_1).toNat * 5)).block, (ad324.add ((x8_1).toNat * 5)).off + 1, none⟩ = some (.int .u64 ((rd_T53 l0_0 x8_1).f1)) ∧ w'.cell? ⟨(ad324.add ((x8_1).toNat * 5)).block, (ad324.add ((x8_1).toNat * 5)).off + 2, none⟩ = some (.int .u64 ((rd_T53 l0_0 x8_1).f2)) ∧ w'.cell? ⟨(ad324.add ((x8_1).toNat * 5)).block, (ad324.add ((x8_1).toNat * 5)).off + 3, none⟩ = some (.int .u64 ((rd_T53 l0_0 x8_1).f3)) ∧ w'.cell? ⟨(ad324.add ((x8_1).toNat * 5)).block, (ad324.add ((x8_1).toNat * 5)).off + 4, none⟩ = some (.int .i64 ((rd_T53 l0_0 x8_1).f4))) (ds := [10]) #[false, false, false, false, false, false, false, false, false, false, false] (by kernel_rfl) rfl rfl ⟨(blk_cell BK319.out 0).trans rfl, (blk_cell BK306.out 0).trans rfl, ((HB.out.cell (World.block_lt_of_cell? w _ hw328_0)).trans hw328_0), ((HB.out.cell (World.block_lt_of_cell? w _ hw328_1)).trans hw328_1), ((HB.out.cell (World.block_lt_of_cell? w _ hw328_2)).trans hw328_2), ((HB.out.cell (World.block_lt_of_cell? w _ hw328_3)).trans hw328_3), ((HB.out.cell (World.block_lt_of_cell? w _ hw328_4)).trans hw328_4)⟩ (fun hHeld => ?_); refine with_tabW spec_OpenAccount.tab15 spec_OpenAccount.bits15 (fun HT_ HW_ => ?_)
    generalize w58.drew = w59 at HO327 BK306 BK307 BK319 HB hx328_0 hx328_1 hx328_2 hx328_3 hx328_4 hHeld ⊢
    refine pure_ (i := 0) (N := some 53) (v := ?_) (a' := ?_) #[true, false, false, false, false, false, false, false, false, false, false] rfl rfl (any_of HT_.out (by kernel_rfl)) (fun _ _ _ h => h) (Or.inl ⟨by rfl, ?_⟩) ?_ ?_
    rotate_left
    · intro w'
      go_simp
      with_reducible rfl
    rotate_left
    · simp only [Act.put, List.setIfInBounds_toArray, List.set_cons_zero, List.set_cons_succ, i64_w, i32_w]
      rfl
    refine pure_ (i := 2) (N := some 55) (v := ?_) (a' := ?_) #[true, false, true, false, false, false, false, false, false, false, false] rfl rfl (any_of HT_.out (by kernel_rfl)) (fun _ _ _ h => h) (Or.inl ⟨by rfl, ?_⟩) ?_ ?_
    rotate_left
    · intro w'
      go_simp
      with_reducible rfl
    rotate_left
    · simp only [Act.put, List.setIfInBounds_toArray, List.set_cons_zero, List.set_cons_succ, i64_w, i32_w]
      rfl
    refine pure_ (i := 4) (N := some 57) (v := ?_) (a' := ?_) #[true, false, true, false, true, false, false, false, false, false, false] rfl rfl (any_of HT_.out (by kernel_rfl)) (fun _ _ _ h => h) (Or.inl ⟨by rfl, ?_⟩) ?_ ?_
    rotate_left
    · intro w'
      go_simp
      with_reducible rfl
    rotate_left
    · simp only [Act.put, List.setIfInBounds_toArray, List.set_cons_zero, List.set_cons_succ, i64_w, i32_w]
      rfl
    refine take_ (i := 1) (N := some 54) (v := ?_) (a' := ?_) #[true, true, true, false, true, false, false, false, false, false, false] rfl rfl (take_ofW HT_.out HW_.out (by kernel_rfl)) (fun _ _ _ h => h) (Or.inl ⟨by rfl, ?_⟩) hHeld ?_ ?_
    rotate_left
    · rintro w' ⟨s0, s1, s2, s3, s4, s5, s6⟩
      go_simp
      with_reducible rfl
    rotate_left
    · simp only [Act.put, List.setIfInBounds_toArray, List.set_cons_zero, List.set_cons_succ, i64_w, i32_w]
      rfl
    refine take_ (i := 3) (N := some 56) (v := ?_) (a' := ?_) #[true, true, true, true, true, false, false, false, false, false, false] rfl rfl (take_ofW HT_.out HW_.out (by kernel_rfl)) (fun _ _ _ h => h) (Or.inl ⟨by rfl, ?_⟩) hHeld ?_ ?_
    rotate_left
    · rintro w' ⟨s0, s1, s2, s3, s4, s5, s6⟩
      go_simp
      with_reducible rfl
    rotate_left
    · simp only [Act.put, List.setIfInBounds_toArray, List.set_cons_zero, List.set_cons_succ, i64_w, i32_w]
      rfl
    refine pure_ (i := 5) (N := some 58) (v := ?_) (a' := ?_) #[true, true, true, true, true, true, false, false, false, false, false] rfl rfl (any_of HT_.out (by kernel_rfl)) (fun _ _ _ h => h) (Or.inl ⟨by rfl, ?_⟩) ?_ ?_
    rotate_left
    · intro w'
      go_simp
      with_reducible rfl
    rotate_left
    · simp only [Act.put, List.setIfInBounds_toArray, List.set_cons_zero, List.set_cons_succ, i64_w, i32_w]
      rfl
    refine take_ (i := 6) (N := some 59) (v := ?_) (a' := ?_) #[true, true, true, true, true, true, true, false, false, false, false] rfl rfl (take_ofW HT_.out HW_.out (by kernel_rfl)) (fun _ _ _ h => h) (Or.inl ⟨by rfl, ?_⟩) hHeld ?_ ?_
    rotate_left
    · rintro w' ⟨s0, s1, s2, s3, s4, s5, s6⟩
      go_simp
      with_reducible rfl
    rotate_left
    · simp only [Act.put, List.setIfInBounds_toArray, List.set_cons_zero, List.set_cons_succ, i64_w, i32_w]
      rfl
    refine one_ (i := 7) (N := some 60) #[true, true, true, true, true, true, true, true, false, false, false] rfl rfl (one_of HT_.out (by kernel_rfl)) (by decide) (fun K hK => ?_)
    refine value_ (w1 := ?_) (v := ?_) (by rfl) rfl ?_ ?_
    rotate_left 2
    · go_simp
      constructor
      · rfl
      rfl
    refine hK.out _ _ ⟨(blk_cell (blk_alloc BK319.out _) 0).trans rfl, (blk_cell (blk_alloc BK306.out _) 0).trans rfl, (World.cell?_alloc_lt _ _ _ (World.block_lt_of_cell? _ _ (((HB.out.cell (World.block_lt_of_cell? w _ hw328_0)).trans hw328_0)))).trans (((HB.out.cell (World.block_lt_of_cell? w _ hw328_0)).trans hw328_0)), (World.cell?_alloc_lt _ _ _ (World.block_lt_of_cell? _ _ (((HB.out.cell (World.block_lt_of_cell? w _ hw328_1)).trans hw328_1)))).trans (((HB.out.cell (World.block_lt_of_cell? w _ hw328_1)).trans hw328_1)), (World.cell?_alloc_lt _ _ _ (World.block_lt_of_cell? _ _ (((HB.out.cell (World.block_lt_of_cell? w _ hw328_2)).trans hw328_2)))).trans (((HB.out.cell (World.block_lt_of_cell? w _ hw328_2)).trans hw328_2)), (World.cell?_alloc_lt _ _ _ (World.block_lt_of_cell? _ _ (((HB.out.cell (World.block_lt_of_cell? w _ hw328_3)).trans hw328_3)))).trans (((HB.out.cell (World.block_lt_of_cell? w _ hw328_3)).trans hw328_3)), (World.cell?_alloc_lt _ _ _ (World.block_lt_of_cell? _ _ (((HB.out.cell (World.block_lt_of_cell? w _ hw328_4)).trans hw328_4)))).trans (((HB.out.cell (World.block_lt_of_cell? w _ hw328_4)).trans hw328_4))⟩ (fun hHeld => ?_)
    clear hK K
    refine norm_ (a' := ?_) ?_ ?_
    rotate_left
    · show Act.put _ (some 60) _ = _
      simp only [Act.put, List.setIfInBounds_toArray, List.set_cons_zero, List.set_cons_succ, i64_w, i32_w]
      rfl
    refine one_ (i := 8) (N := some 61) #[true, true, true, true, true, true, true, true, true, false, false] rfl rfl (one_of HT_.out (by kernel_rfl)) (by decide) (fun K hK => ?_)
    refine Kd.R_append_step k53 (w0 := w) w.heap.size (by rfl) (.tmp 54) (.tmp 60) 27 53 (.agg #[(.int .u64 0), (.int .u64 0), (.int .u64 0), (.int .u64 0), (.int .i64 0)]) 40 rfl Try.underlying27 info53 rfl (by decide) (by omega) (.slice Ao56 y325.length co56) y325 (⟨(rd_T53 l0_0 x8_1).f0, (rd_T53 l0_0 x8_1).f1, (rd_T53 l0_0 x8_1).f2, (rd_T53 l0_0 x8_1).f3, (rd_T53 l0_0 x8_1).f4⟩ : S53) [.int .u64 ((rd_T53 l0_0 x8_1).f0), .int .u64 ((rd_T53 l0_0 x8_1).f1), .int .u64 ((rd_T53 l0_0 x8_1).f2), .int .u64 ((rd_T53 l0_0 x8_1).f3), .int .i64 ((rd_T53 l0_0 x8_1).f4)] (fun _ => True) (fun _ => False) rfl rfl ?aP (fun _ hk => hk.elim) ?aF ?aO ?aB ?aS ?aL ?_
    (case aP => exact k53_mkM _ _ _ (⟨(rd_T53 l0_0 x8_1).f0, (rd_T53 l0_0 x8_1).f1, (rd_T53 l0_0 x8_1).f2, (rd_T53 l0_0 x8_1).f3, (rd_T53 l0_0 x8_1).f4⟩ : S53))
    (case aB => exact u9_0)
    (case aF => exact (fun _ _ => trivial))
    (case aO => exact (by (with_reducible repeat (first | apply Kd.R_alloc | apply Kd.R_drewN | apply Kd.R_drew)); exact HO327.out))
    (case aS => exact (below_size u9_0))
    (case aL => have := LMc51.out; omega)
    intro v330 w60 ho hb hg hat
    rw [← Ny329.out] at ho
    have n0_ := Aside0.mk (blk_grown (g := gb306) (o := .cells #[.slice (some ad324) l0_0.length c0_0] 29 (0, 0)) u9_2 hg (Kd.R_ne HO327.out BK306.out (by decide)))
    have n1_ := Aside0.mk (blk_grown (g := gb307) (o := .cells #[.slice none 0 0] 29 (0, 0)) u9_3 hg (Kd.R_ne HO327.out BK307.out (by decide)))
    have n2_ := Aside0.mk (blk_grown (g := gb319) (o := .cells #[.slice Ao56 y325.length co56] 29 (0, 0)) u9_9 hg (Kd.R_ne HO327.out BK319.out (by decide)))
    have n3_ := Aside0.mk (hb)
    have n4_ := Aside0.mk (ho)
    clear BK306
    clear BK307
    clear BK319
    clear HB
    clear HO327
    have BK306 := n0_
    have BK307 := n1_
    have BK319 := n2_
    have HB := n3_
    have HO331 := n4_
    clear n0_ n1_ n2_ n3_ n4_
    clear ho hb hg hat
    obtain ⟨Ao61, co61, eo61⟩ := Kd.R_slice HO331.out
    (first | subst eo61 | (injection eo61 with f1_ f2_ f3_; have f4_ := f1_.symm; have f5_ := f3_.symm; clear f1_ f2_ f3_; subst f4_; subst f5_))
    refine hK.out _ _ ⟨(blk_cell BK319.out 0).trans rfl, (blk_cell BK306.out 0).trans rfl, ((HB.out.cell (World.block_lt_of_cell? w _ hw328_0)).trans hw328_0), ((HB.out.cell (World.block_lt_of_cell? w _ hw328_1)).trans hw328_1), ((HB.out.cell (World.block_lt_of_cell? w _ hw328_2)).trans hw328_2), ((HB.out.cell (World.block_lt_of_cell? w _ hw328_3)).trans hw328_3), ((HB.out.cell (World.block_lt_of_cell? w _ hw328_4)).trans hw328_4)⟩ (fun hHeld => ?_)
    clear hK K
    refine norm_ (a' := ?_) ?_ ?_
    rotate_left
    · show Act.put _ (some 61) _ = _
      simp only [Act.put, List.setIfInBounds_toArray, List.set_cons_zero, List.set_cons_succ, i64_w, i32_w]
      rfl
    refine pure_ (i := 9) (N := some 62) (v := ?_) (a' := ?_) #[true, true, true, true, true, true, true, true, true, true, false] rfl rfl (any_of HT_.out (by kernel_rfl)) (fun _ _ _ h => h) (Or.inl ⟨by rfl, ?_⟩) ?_ ?_
    rotate_left
    · intro w'
      go_simp
      with_reducible rfl
    rotate_left
    · simp only [Act.put, List.setIfInBounds_toArray, List.set_cons_zero, List.set_cons_succ, i64_w, i32_w]
      rfl
    refine last_ (i := 10) (N := none) #[true, true, true, true, true, true, true, true, true, true, true] rfl rfl (one_of HT_.out (by kernel_rfl)) (by decide) (fun K hK => ?_)
    have hs62 : w60.cell? ⟨gb319, 0, none⟩ = some (.slice Ao56 y325.length co56) := (blk_cell BK319.out 0).trans rfl
    have hfs62 := blk_frozen BK319.out 0
    have hns62_0 := NB306_319.out
    have hns62_1 := NB307_319.out
    have hms62_0 := NB319_306.out
    have hms62_1 := NB319_307.out
    refine skip_ (w1 := ?_) (by rfl) rfl ?_ ?_
    rotate_left
    · go_simp
      rfl
    refine hK.out _ _ ?_
    clear hK K
    refine done_ (done_of HT_.out (by kernel_rfl)) ?_
    try go_wp2
    go_roundg k1
    case measure => have := HK1.out; omega
    case rel => exact ⟨(true), (wrap64 (x8_1 + 1)), (y329), (.slice Ao61 y329.length co61), u9_13, u9_13, H', ⟨by have := HK1.out; omega⟩, ⟨(by (with_reducible repeat (first | apply Kd.R_alloc | apply Kd.R_drewN | apply Kd.R_drew)); exact Kd.R_mono (Kd.R_far (p := ⟨gb319, 0, none⟩) (Kd.R_types HO331.out BK319.out (by decide)) (fun _ hk => hk.2) (.slice Ao61 y329.length co61)) (fun _ hk => trivial))⟩, ⟨u9_5⟩, ⟨u9_6⟩, ⟨(by (with_reducible repeat (first | refine blk_drewN ?_ _ | refine blk_drew ?_ | refine blk_alloc ?_ _)); refine blk_put (cs := #[.slice Ao56 y325.length co56]) ?_ 0 _ rfl; (with_reducible repeat (first | refine blk_drewN ?_ _ | refine blk_drew ?_ | refine blk_alloc ?_ _)); exact BK319.out)⟩, ⟨u9_0⟩⟩

end Go.Proofs.Ytdbfjakhkclggaa.QFnHolds
