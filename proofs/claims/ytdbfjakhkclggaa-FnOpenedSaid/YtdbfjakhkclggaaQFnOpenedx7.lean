-- Printed by the session's own program wip/prx.py.
import Derived.Test.YtdbfjakhkclggaaQFnOpenedx0
import Derived.Test.YtdbfjakhkclggaaQFnOpenedx4
import Derived.Test.YtdbfjakhkclggaaQFnOpenedx5
namespace Go.Proofs.Ytdbfjakhkclggaa.QFnOpened
open Go.RowKit Go.Proofs.YtdbfjakhkclggaaW.PrintWords Go.Proofs.YtdbfjakhkclggaaW.PrintLast Go.Proofs.YtdbfjakhkclggaaW.PrintMore
attribute [local go_sem] max2_int min2_int max_two min_two max_three min_three max_four min_four Go.Proofs.Ytdbfjakhkclggaa.Set.isSome_setCell Go.Proofs.Ytdbfjakhkclggaa.Add.add64   -- for this text's walks alone
set_option linter.unusedVariables false
set_option linter.unusedSimpArgs false

-- squeezed
theorem u7_0 {P : Prop} (h : P := by repeat (first | (with_reducible first | exact HB.out | apply below_alloc | apply pw_below_drewN | apply below_drew1 | refine below_set ?_ GE284.out | refine below_set ?_ GE285.out | refine below_set ?_ GE297.out) | exact HB.out)) : P := h
theorem u7_1 {P : Prop} (h : P := by repeat (first | (with_reducible first | exact HB.out | apply below_alloc | apply pw_below_drewN | apply below_drew1 | refine below_set ?_ GE284.out | refine below_set ?_ GE285.out) | exact HB.out)) : P := h
theorem u7_2 {P : Prop} (h : P := by (with_reducible repeat (first | refine blk_drewN ?_ _ | refine blk_drew ?_ | refine blk_alloc ?_ _)); exact BK284.out) : P := h
theorem u7_3 {P : Prop} (h : P := by (with_reducible repeat (first | refine blk_drewN ?_ _ | refine blk_drew ?_ | refine blk_alloc ?_ _)); exact BK285.out) : P := h
theorem u7_4 {P : Prop} (h : P := by (with_reducible repeat (first | refine blk_drewN ?_ _ | refine blk_drew ?_ | refine blk_alloc ?_ _)); refine blk_put (cs := #[.slice none 0 0]) ?_ 0 _ rfl; (with_reducible repeat (first | refine blk_drewN ?_ _ | refine blk_drew ?_ | refine blk_alloc ?_ _)); exact BK285.out) : P := h
theorem u7_5 {P : Prop} (h : P := by (with_reducible repeat (first | refine blk_drewN ?_ _ | refine blk_drew ?_ | refine blk_alloc ?_ _)); refine blk_far ?_ NB284_297.out _; (with_reducible repeat (first | refine blk_drewN ?_ _ | refine blk_drew ?_ | refine blk_alloc ?_ _)); exact BK284.out) : P := h
theorem u7_6 {P : Prop} (h : P := by (with_reducible repeat (first | refine blk_drewN ?_ _ | refine blk_drew ?_ | refine blk_alloc ?_ _)); refine blk_far ?_ NB285_297.out _; (with_reducible repeat (first | refine blk_drewN ?_ _ | refine blk_drew ?_ | refine blk_alloc ?_ _)); exact BK285.out) : P := h
theorem u7_7 {P : Prop} (h : P := by repeat (first | exact (Kd.C_below HR0_0.out HB.out) | (with_reducible refine Kd.C_alloc ?_ _) | (with_reducible refine Kd.C_drewN ?_ _) | (with_reducible refine Kd.C_drew ?_))) : P := h
theorem u7_8 {P : Prop} (h : P := by (try simp only [List.map_toArray, List.map_cons, List.map_nil]); first | done | rfl | (simp only [List.length_drop, List.length_take]; rfl)) : P := h
theorem u7_9 {P : Prop} (h : P := by (with_reducible repeat (first | refine blk_drewN ?_ _ | refine blk_drew ?_ | refine blk_alloc ?_ _)); exact BK297.out) : P := h
theorem u7_10 {P : Prop} (h : P := by repeat (first | (with_reducible first | exact HB.out | apply below_alloc | apply pw_below_drewN | apply below_drew1 | refine below_set ?_ GE284.out) | exact HB.out)) : P := h
theorem u7_11 {P : Prop} (h : P := by (with_reducible repeat (first | apply Kd.R_alloc | apply Kd.R_drewN | apply Kd.R_drew)); exact HO_298000.out) : P := h
theorem u7_12 {P : Prop} (h : P := by first | (with_reducible assumption) | assumption) : P := h
theorem u7_13 {P : Prop} (h : P := by first | rfl | (simp; done) | (simp [*]; done)) : P := h
theorem u7_14 {P : Prop} (h : P := by (with_reducible repeat (first | refine blk_drewN ?_ _ | refine blk_drew ?_ | refine blk_alloc ?_ _)); refine blk_put (cs := #[u298000]) ?_ 0 _ rfl; (with_reducible repeat (first | refine blk_drewN ?_ _ | refine blk_drew ?_ | refine blk_alloc ?_ _)); exact BK297.out) : P := h
theorem u7_15 {P : Prop} (h : P := by repeat (first | (with_reducible first | exact HB.out | apply below_alloc | apply pw_below_drewN | apply below_drew1) | exact HB.out)) : P := h
/-! ### spec_OpenAccount: function 42 -/
def spec_OpenAccount.l0 : Nat → Int → Bool → Int → List (S53) → List (S53) → Option ((List (S53)) × Int)
  | 0, _, _, _, _, _ => none
  | k + 1, x1, x7, x8, x285000, x298000 => if x8 < (x285000.length : Int) then (if x7 = true then (if 0 ≤ x8 then (if x298000.length < 3518437208883 then (spec_OpenAccount.l0 k x1 x7 (wrap64 (x8 + 1)) x285000 (x298000 ++ [(⟨(rd_T53 x285000 x8).f0, (rd_T53 x285000 x8).f1, (rd_T53 x285000 x8).f2, (rd_T53 x285000 x8).f3, (rd_T53 x285000 x8).f4⟩ : S53)])) else (none)) else (none)) else (if 0 ≤ x8 then (if ((rd_T53 x285000 x8).f0) > x1 then (if x298000.length < 3518437208883 then ((some (x298000 ++ [(⟨x1, 0, 0, 0, 0⟩ : S53)] : List (S53))).bind fun y303 => (if y303.length < 3518437208883 then (spec_OpenAccount.l0 k x1 true (wrap64 (x8 + 1)) x285000 (y303 ++ [(⟨(rd_T53 x285000 x8).f0, (rd_T53 x285000 x8).f1, (rd_T53 x285000 x8).f2, (rd_T53 x285000 x8).f3, (rd_T53 x285000 x8).f4⟩ : S53)])) else (none))) else (none)) else (if x298000.length < 3518437208883 then (spec_OpenAccount.l0 k x1 x7 (wrap64 (x8 + 1)) x285000 (x298000 ++ [(⟨(rd_T53 x285000 x8).f0, (rd_T53 x285000 x8).f1, (rd_T53 x285000 x8).f2, (rd_T53 x285000 x8).f3, (rd_T53 x285000 x8).f4⟩ : S53)])) else (none))) else (none))) else (if x7 = true then (some (x298000, 0)) else (if x298000.length < 3518437208883 then (some ((x298000 ++ [(⟨x1, 0, 0, 0, 0⟩ : S53)]), 0)) else (none)))
def spec_OpenAccount.f (k : Nat) (l0_0 : List (S53)) (a1 : Int) : Option ((List (S53)) × Int) := (spec_BookOk.f k l0_0).bind fun t286 => (if t286 = true then ((spec_l10Find.f k l0_0 a1).bind fun t290 => (if t290 ≥ 0 then ((spec_l10Copy.f k l0_0).bind fun t291 => (some (t291, 3))) else (if (l0_0.length : Int) = 40 then ((spec_l10Copy.f k l0_0).bind fun t294 => (some (t294, 1))) else (spec_OpenAccount.l0 k a1 false 0 l0_0 ([] : List (S53)))))) else ((spec_l10Copy.f k l0_0).bind fun t287 => (some (t287, 1))))
theorem spec_OpenAccount.mono_l : ∀ k, (∀ y0 y1 y2 y3 y4, LeO (spec_OpenAccount.l0 k y0 y1 y2 y3 y4) (spec_OpenAccount.l0 (k + 1) y0 y1 y2 y3 y4))
  | 0 => fun _ _ _ _ _ r h => by simp [spec_OpenAccount.l0] at h
  | k + 1 => by
    have ih0 := spec_OpenAccount.mono_l k
    · intro y0 y1 y2 y3 y4
      unfold spec_OpenAccount.l0
      repeat' first
      | (with_reducible exact ih0 _ _ _ _ _)
      | (with_reducible exact spec_BookOk.mono _ _)
      | (with_reducible exact spec_l10Copy.mono _ _)
      | (with_reducible exact spec_l10Find.mono _ _ _)
      | (with_reducible exact LeO.refl _)
      | (with_reducible exact LeO.none _)
      | (with_reducible refine LeO.ite ?_ ?_)
      | (with_reducible refine LeO.bind ?_ (fun _ => ?_))
      | exact ih0 _ _ _ _ _
      | exact spec_BookOk.mono _ _
      | exact spec_l10Copy.mono _ _
      | exact spec_l10Find.mono _ _ _
      | exact LeO.none _
      | refine LeO.ite ?_ ?_
      | refine LeO.bind ?_ (fun _ => ?_)
theorem spec_OpenAccount.mono : ∀ a0 a1 k, LeO (spec_OpenAccount.f k a0 a1) (spec_OpenAccount.f (k + 1) a0 a1) := by
  intro a0 a1 k
  have ih0 := spec_OpenAccount.mono_l k
  unfold spec_OpenAccount.f
  repeat' first
      | (with_reducible exact ih0 _ _ _ _ _)
      | (with_reducible exact spec_BookOk.mono _ _)
      | (with_reducible exact spec_l10Copy.mono _ _)
      | (with_reducible exact spec_l10Find.mono _ _ _)
      | (with_reducible exact LeO.refl _)
      | (with_reducible exact LeO.none _)
      | (with_reducible refine LeO.ite ?_ ?_)
      | (with_reducible refine LeO.bind ?_ (fun _ => ?_))
      | exact ih0 _ _ _ _ _
      | exact spec_BookOk.mono _ _
      | exact spec_l10Copy.mono _ _
      | exact spec_l10Find.mono _ _ _
      | exact LeO.none _
      | refine LeO.ite ?_ ?_
      | refine LeO.bind ?_ (fun _ => ?_)
def spec_OpenAccount.T15 : Bool × List (List Nat × List Nat) := (true, [([], []), ([0], [0]), ([], []), ([2], [2]), ([], []), ([3, 4], [3, 4]), ([5], [5]), ([6], [6]), ([1, 7], [1, 7]), ([0, 1, 2, 3, 4, 5, 6, 7, 8], []), ([9, 8, 8, 0, 1, 2, 3, 4, 5, 6, 7, 8], [8, 9])])
def spec_OpenAccount.B15 : List Nat := [0, 1, 0, 4, 0, 28, 60, 124, 255, 511, 1023]
theorem spec_OpenAccount.tab15 : rtab .any (opsOf Try.f42 15) = spec_OpenAccount.T15 := by kernel_rfl
theorem spec_OpenAccount.bits15 : waitsOk spec_OpenAccount.T15.2 spec_OpenAccount.B15 = true := by kernel_rfl
set_option maxHeartbeats 8000000 in
set_option maxRecDepth 100000 in
theorem spec_OpenAccount.calls (k : Nat) (A0_0 : Option Addr) (c0_0 : Nat) (l0_0 : List (S53)) (a1 : Int) (r1 : List (S53)) (r2 : Int) (w : World) (hr0_0 : Kd.C k53 w A0_0 l0_0.length l0_0) (hc0_0 : l0_0.length ≤ c0_0) (h : spec_OpenAccount.f k l0_0 a1 = some (r1, r2)) :
    Calls Try.prog 42 #[.agg #[.slice A0_0 l0_0.length c0_0], .int .u64 a1] w fun e w' => ∃ v0_ : Value, e = .returned (.tuple #[.agg #[v0_], .int .i64 r2]) ∧ Kd.R k53 53 w' w.heap.size (fun _ => True) v0_ r1 ∧ Below w.heap.size w w' := by
  have hu29 := Try.underlying29
  have hu53 := Try.underlying53
  have HR0_0 := Aside0.mk hr0_0
  have HC0_0 := Aside0.mk hc0_0
  clear hr0_0 hc0_0
  have HB := Aside0.mk (Below.refl w.heap.size w)
  have H : ((spec_BookOk.f k l0_0).bind fun t286 => (if t286 = true then ((spec_l10Find.f k l0_0 a1).bind fun t290 => (if t290 ≥ 0 then ((spec_l10Copy.f k l0_0).bind fun t291 => (some (t291, 3))) else (if (l0_0.length : Int) = 40 then ((spec_l10Copy.f k l0_0).bind fun t294 => (some (t294, 1))) else (spec_OpenAccount.l0 k a1 false 0 l0_0 ([] : List (S53)))))) else ((spec_l10Copy.f k l0_0).bind fun t287 => (some (t287, 1))))) = some (r1, r2) := h
  clear h
  replace H := Option.bind_eq_some_iff.mp H
  obtain ⟨t286, A30, H⟩ := H
  have A3 := Aside0.mk A30
  clear A30
  have H9 := Aside0.mk H
  clear H
  go_enter Try.func42, Try.ntmps42
  go_upto_if 11 with (first | ((with_reducible refine gate_dst (N := 2) rfl ?_); refine box_event ?hg (N := 2) ?hd (cs := #[.slice A0_0 l0_0.length c0_0]) (t := 29) ?hr ?_; (case hd => rfl); (case hg => rfl); (case hr => first | (go_simp; done) | (go_simp; rfl)); intro gb284 hg w4 hbox hb; have n0_ := Aside0.mk (below_step u7_15 hb); have n1_ := Aside0.mk (hbox); have n2_ := Aside0.mk ((by rw [hg]; exact (below_size u7_15) : w.heap.size ≤ gb284)); have n3_ := Aside0.mk ((by rw [hg]; exact (below_size u7_15) : w.heap.size ≤ gb284)); clear HB; have HB := n0_; have BK284 := n1_; have GW284 := n2_; have GE284 := n3_; clear n0_ n1_ n2_ n3_; clear hb hbox hg) | ((with_reducible refine gate_dst (N := 4) rfl ?_); refine box_event ?hg (N := 4) ?hd (cs := #[.slice none 0 0]) (t := 29) ?hr ?_; (case hd => rfl); (case hg => rfl); (case hr => first | (go_simp; done) | (go_simp; rfl)); intro gb285 hg w5 hbox hb; have n0_ := Aside0.mk (blk_below (g := gb284) (o := .cells #[.slice A0_0 l0_0.length c0_0] 29 (0, 0)) u7_2 hb); have n1_ := Aside0.mk (below_step u7_10 hb); have n2_ := Aside0.mk (hbox); have n3_ := Aside0.mk ((by rw [hg]; exact (below_size u7_10) : w.heap.size ≤ gb285)); have n4_ := Aside0.mk ((by rw [hg]; exact (below_size u7_10) : w.heap.size ≤ gb285)); have n5_ := Aside0.mk ((by rw [hg]; exact Nat.ne_of_lt (blk_lt (g := gb284) (o := .cells #[.slice A0_0 l0_0.length c0_0] 29 (0, 0)) u7_2) : gb284 ≠ gb285)); have n6_ := Aside0.mk ((by rw [hg]; exact Nat.ne_of_gt (blk_lt (g := gb284) (o := .cells #[.slice A0_0 l0_0.length c0_0] 29 (0, 0)) u7_2) : gb285 ≠ gb284)); clear BK284; clear HB; have BK284 := n0_; have HB := n1_; have BK285 := n2_; have GW285 := n3_; have GE285 := n4_; have NB284_285 := n5_; have NB285_284 := n6_; clear n0_ n1_ n2_ n3_ n4_ n5_ n6_; clear hb hbox hg; have hnb6 := NB284_285.out; have hnc6 := NB285_284.out; have hcz7_0 : w5.cell? ⟨gb284, 0, none⟩ = some (.slice A0_0 l0_0.length c0_0) := (blk_cell BK284.out 0).trans rfl; have hfz7_0 := blk_frozen BK284.out 0) | ((with_reducible refine gate_callee (f := 18) rfl ?_); refine goesL_ (some 10) rfl rfl Try.func18 (by kernel_rfl) rfl #[.agg #[.slice A0_0 l0_0.length c0_0]] rfl u7_8 ?_; (with_reducible refine (spec_BookOk.calls k _ _ l0_0 t286 _ ?side1 ?side2 A3.out).mono ?_); (case side1 => exact u7_7); (case side2 => exact HC0_0.out); rintro e w8 ⟨rfl, hb⟩; refine ⟨_, rfl, ?_⟩; have n0_ := Aside0.mk (blk_below (g := gb284) (o := .cells #[.slice A0_0 l0_0.length c0_0] 29 (0, 0)) u7_2 hb); have n1_ := Aside0.mk (blk_below (g := gb285) (o := .cells #[.slice none 0 0] 29 (0, 0)) u7_3 hb); have n2_ := Aside0.mk (below_step u7_1 hb); clear BK284; clear BK285; clear HB; have BK284 := n0_; have BK285 := n1_; have HB := n2_; clear n0_ n1_ n2_; (try clear hb); (try clear hb2); (try clear hk); (try clear hi)))
  have H := H9.out
  clear H9
  by_cases c9 : t286 = true
  rotate_left
  · replace c9 := Bool.eq_false_iff.mpr c9
    subst c9
    rw [if_neg (show ¬ (false = true) by decide)] at H
    replace H := Option.bind_eq_some_iff.mp H
    obtain ⟨t287, A860, H⟩ := H
    replace H : (some (t287, 1)) = some (r1, r2) := H
    have A86 := Aside0.mk A860
    clear A860
    simp only [Option.some.injEq, Prod.mk.injEq] at H
    obtain ⟨rfl, rfl⟩ := H
    have hnb87 := NB284_285.out
    have hnc87 := NB285_284.out
    have hcz88_0 : w8.cell? ⟨gb284, 0, none⟩ = some (.slice A0_0 l0_0.length c0_0) := (blk_cell BK284.out 0).trans rfl
    have hfz88_0 := blk_frozen BK284.out 0
    go_wp2_with (first | ((with_reducible refine gate_callee (f := 54) rfl ?_); refine goesL_ (some 13) rfl rfl Try.func54 (by kernel_rfl) rfl #[.agg #[.slice A0_0 l0_0.length c0_0]] rfl u7_8 ?_; (with_reducible refine (spec_l10Copy.calls k _ _ l0_0 t287 _ ?side1 ?side2 A86.out).mono ?_); (case side1 => exact u7_7); (case side2 => exact HC0_0.out); rintro e w89 ⟨v288, rfl, ho0, hb⟩; refine ⟨_, rfl, ?_⟩; have n0_ := Aside0.mk (Kd.R_lower ho0 (below_size u7_1)); have n1_ := Aside0.mk (blk_below (g := gb284) (o := .cells #[.slice A0_0 l0_0.length c0_0] 29 (0, 0)) u7_2 hb); have n2_ := Aside0.mk (blk_below (g := gb285) (o := .cells #[.slice none 0 0] 29 (0, 0)) u7_3 hb); have n3_ := Aside0.mk (below_step u7_1 hb); clear BK284; clear BK285; clear HB; have HO289 := n0_; have BK284 := n1_; have BK285 := n2_; have HB := n3_; clear n0_ n1_ n2_ n3_; (try clear hb); (try clear hb2); (try clear hk); (try clear hi); (try clear ho0); obtain ⟨Ao90, co90, eo90⟩ := Kd.R_slice HO289.out; subst eo90; have hcz91_0 : w89.cell? ⟨gb285, 0, none⟩ = some (.slice none 0 0) := (blk_cell BK285.out 0).trans rfl; have hfz91_0 := blk_frozen BK285.out 0))
    refine bodyPost_ret (results_ct rfl _ _ gb285 29 #[.slice Ao90 t287.length co90] (0, 0) _ rfl u7_4 Try.underlying29 rfl (by kernel_rfl)) rfl ?_
    exact ⟨_, by first | rfl | (simp [errW_none, errW_some] <;> rfl) | (simp [*, errW_none, errW_some] <;> rfl), (by (with_reducible repeat (first | apply Kd.R_alloc | apply Kd.R_drewN | apply Kd.R_drew)); exact Kd.R_mono (Kd.R_far (p := ⟨gb285, 0, none⟩) (Kd.R_types HO289.out BK285.out (by decide)) (fun _ hk => hk.2) (.slice Ao90 t287.length co90)) (fun _ hk => trivial)), u7_1⟩
  subst c9
  rw [if_pos rfl] at H
  replace H := Option.bind_eq_some_iff.mp H
  obtain ⟨t290, A100, H⟩ := H
  have A10 := Aside0.mk A100
  clear A100
  have H9 := Aside0.mk H
  clear H
  have hnb11 := NB284_285.out
  have hnc11 := NB285_284.out
  have hcz12_0 : w8.cell? ⟨gb284, 0, none⟩ = some (.slice A0_0 l0_0.length c0_0) := (blk_cell BK284.out 0).trans rfl
  have hfz12_0 := blk_frozen BK284.out 0
  go_upto_if 17 with (first | ((with_reducible refine gate_callee (f := 68) rfl ?_); refine goesL_ (some 16) rfl rfl Try.func68 (by kernel_rfl) rfl #[.agg #[.slice A0_0 l0_0.length c0_0], .int .u64 a1] rfl u7_8 ?_; (with_reducible refine (spec_l10Find.calls k _ _ l0_0 a1 t290 _ ?side1 ?side2 A10.out).mono ?_); (case side1 => exact u7_7); (case side2 => exact HC0_0.out); rintro e w13 ⟨rfl, hb⟩; refine ⟨_, rfl, ?_⟩; have n0_ := Aside0.mk (blk_below (g := gb284) (o := .cells #[.slice A0_0 l0_0.length c0_0] 29 (0, 0)) u7_2 hb); have n1_ := Aside0.mk (blk_below (g := gb285) (o := .cells #[.slice none 0 0] 29 (0, 0)) u7_3 hb); have n2_ := Aside0.mk (below_step u7_1 hb); clear BK284; clear BK285; clear HB; have BK284 := n0_; have BK285 := n1_; have HB := n2_; clear n0_ n1_ n2_; (try clear hb); (try clear hb2); (try clear hk); (try clear hi)))
  have H := H9.out
  clear H9
  by_cases c14 : t290 ≥ 0
  · rw [if_pos c14] at H
    have c14b0 : decide (0 ≤ t290) = true := decide_eq_true c14
    clear c14
    (first | rw [c14b0] | (simp only [i64_w, i32_w]; rw [c14b0]) | skip)
    replace H := Option.bind_eq_some_iff.mp H
    obtain ⟨t291, A150, H⟩ := H
    replace H : (some (t291, 3)) = some (r1, r2) := H
    have A15 := Aside0.mk A150
    clear A150
    simp only [Option.some.injEq, Prod.mk.injEq] at H
    obtain ⟨rfl, rfl⟩ := H
    have hnb16 := NB284_285.out
    have hnc16 := NB285_284.out
    have hcz17_0 : w13.cell? ⟨gb284, 0, none⟩ = some (.slice A0_0 l0_0.length c0_0) := (blk_cell BK284.out 0).trans rfl
    have hfz17_0 := blk_frozen BK284.out 0
    go_wp2_with (first | ((with_reducible refine gate_callee (f := 54) rfl ?_); refine goesL_ (some 19) rfl rfl Try.func54 (by kernel_rfl) rfl #[.agg #[.slice A0_0 l0_0.length c0_0]] rfl u7_8 ?_; (with_reducible refine (spec_l10Copy.calls k _ _ l0_0 t291 _ ?side1 ?side2 A15.out).mono ?_); (case side1 => exact u7_7); (case side2 => exact HC0_0.out); rintro e w18 ⟨v292, rfl, ho0, hb⟩; refine ⟨_, rfl, ?_⟩; have n0_ := Aside0.mk (Kd.R_lower ho0 (below_size u7_1)); have n1_ := Aside0.mk (blk_below (g := gb284) (o := .cells #[.slice A0_0 l0_0.length c0_0] 29 (0, 0)) u7_2 hb); have n2_ := Aside0.mk (blk_below (g := gb285) (o := .cells #[.slice none 0 0] 29 (0, 0)) u7_3 hb); have n3_ := Aside0.mk (below_step u7_1 hb); clear BK284; clear BK285; clear HB; have HO293 := n0_; have BK284 := n1_; have BK285 := n2_; have HB := n3_; clear n0_ n1_ n2_ n3_; (try clear hb); (try clear hb2); (try clear hk); (try clear hi); (try clear ho0); obtain ⟨Ao19, co19, eo19⟩ := Kd.R_slice HO293.out; subst eo19; have hcz20_0 : w18.cell? ⟨gb285, 0, none⟩ = some (.slice none 0 0) := (blk_cell BK285.out 0).trans rfl; have hfz20_0 := blk_frozen BK285.out 0))
    refine bodyPost_ret (results_ct rfl _ _ gb285 29 #[.slice Ao19 t291.length co19] (0, 0) _ rfl u7_4 Try.underlying29 rfl (by kernel_rfl)) rfl ?_
    exact ⟨_, by first | rfl | (simp [errW_none, errW_some] <;> rfl) | (simp [*, errW_none, errW_some] <;> rfl), (by (with_reducible repeat (first | apply Kd.R_alloc | apply Kd.R_drewN | apply Kd.R_drew)); exact Kd.R_mono (Kd.R_far (p := ⟨gb285, 0, none⟩) (Kd.R_types HO293.out BK285.out (by decide)) (fun _ hk => hk.2) (.slice Ao19 t291.length co19)) (fun _ hk => trivial)), u7_1⟩
  rw [if_neg c14] at H
  have c14b0 : decide (0 ≤ t290) = false := decide_eq_false c14
  clear c14
  (first | rw [c14b0] | (simp only [i64_w, i32_w]; rw [c14b0]) | skip)
  by_cases c21 : (l0_0.length : Int) = 40
  · rw [if_pos c21] at H
    have c21b0 : ((l0_0.length : Int) == 40) = true := beq_iff_eq.mpr c21
    have c21b1 : ((l0_0.length : Int) != 40) = false := bne_eq_false_iff_eq.mpr c21
    clear c21
    replace H := Option.bind_eq_some_iff.mp H
    obtain ⟨t294, A220, H⟩ := H
    replace H : (some (t294, 1)) = some (r1, r2) := H
    have A22 := Aside0.mk A220
    clear A220
    simp only [Option.some.injEq, Prod.mk.injEq] at H
    obtain ⟨rfl, rfl⟩ := H
    have hnb23 := NB284_285.out
    have hnc23 := NB285_284.out
    have hcz24_0 : w13.cell? ⟨gb284, 0, none⟩ = some (.slice A0_0 l0_0.length c0_0) := (blk_cell BK284.out 0).trans rfl
    have hfz24_0 := blk_frozen BK284.out 0
    go_wp2_with (first | ((with_reducible refine gate_callee (f := 54) rfl ?_); refine goesL_ (some 25) rfl rfl Try.func54 (by kernel_rfl) rfl #[.agg #[.slice A0_0 l0_0.length c0_0]] rfl u7_8 ?_; (with_reducible refine (spec_l10Copy.calls k _ _ l0_0 t294 _ ?side1 ?side2 A22.out).mono ?_); (case side1 => exact u7_7); (case side2 => exact HC0_0.out); rintro e w25 ⟨v295, rfl, ho0, hb⟩; refine ⟨_, rfl, ?_⟩; have n0_ := Aside0.mk (Kd.R_lower ho0 (below_size u7_1)); have n1_ := Aside0.mk (blk_below (g := gb284) (o := .cells #[.slice A0_0 l0_0.length c0_0] 29 (0, 0)) u7_2 hb); have n2_ := Aside0.mk (blk_below (g := gb285) (o := .cells #[.slice none 0 0] 29 (0, 0)) u7_3 hb); have n3_ := Aside0.mk (below_step u7_1 hb); clear BK284; clear BK285; clear HB; have HO296 := n0_; have BK284 := n1_; have BK285 := n2_; have HB := n3_; clear n0_ n1_ n2_ n3_; (try clear hb); (try clear hb2); (try clear hk); (try clear hi); (try clear ho0); obtain ⟨Ao26, co26, eo26⟩ := Kd.R_slice HO296.out; subst eo26; have hcz27_0 : w25.cell? ⟨gb285, 0, none⟩ = some (.slice none 0 0) := (blk_cell BK285.out 0).trans rfl; have hfz27_0 := blk_frozen BK285.out 0))
    refine bodyPost_ret (results_ct rfl _ _ gb285 29 #[.slice Ao26 t294.length co26] (0, 0) _ rfl u7_4 Try.underlying29 rfl (by kernel_rfl)) rfl ?_
    exact ⟨_, by first | rfl | (simp [errW_none, errW_some] <;> rfl) | (simp [*, errW_none, errW_some] <;> rfl), (by (with_reducible repeat (first | apply Kd.R_alloc | apply Kd.R_drewN | apply Kd.R_drew)); exact Kd.R_mono (Kd.R_far (p := ⟨gb285, 0, none⟩) (Kd.R_types HO296.out BK285.out (by decide)) (fun _ hk => hk.2) (.slice Ao26 t294.length co26)) (fun _ hk => trivial)), u7_1⟩
  rw [if_neg c21] at H
  have c21b0 : ((l0_0.length : Int) == 40) = false := beq_eq_false_iff_ne.mpr c21
  have c21b1 : ((l0_0.length : Int) != 40) = true := bne_iff_ne.mpr c21
  have H' := Aside0.mk H
  clear H
  have hnb28 := NB284_285.out
  have hnc28 := NB285_284.out
  have hcz29_0 : w13.cell? ⟨gb284, 0, none⟩ = some (.slice A0_0 l0_0.length c0_0) := (blk_cell BK284.out 0).trans rfl
  have hfz29_0 := blk_frozen BK284.out 0
  go_wp2_with (first | ((with_reducible refine gate_dst (N := 6) rfl ?_); refine box_event ?hg (N := 6) ?hd (cs := #[.slice none 0 0]) (t := 29) ?hr ?_; (case hd => rfl); (case hg => rfl); (case hr => first | (go_simp; done) | (go_simp; rfl)); intro gb297 hg w30 hbox hb; have n0_ := Aside0.mk (blk_below (g := gb284) (o := .cells #[.slice A0_0 l0_0.length c0_0] 29 (0, 0)) u7_2 hb); have n1_ := Aside0.mk (blk_below (g := gb285) (o := .cells #[.slice none 0 0] 29 (0, 0)) u7_3 hb); have n2_ := Aside0.mk (below_step u7_1 hb); have n3_ := Aside0.mk (hbox); have n4_ := Aside0.mk ((by rw [hg]; exact (below_size u7_1) : w.heap.size ≤ gb297)); have n5_ := Aside0.mk ((by rw [hg]; exact (below_size u7_1) : w.heap.size ≤ gb297)); have n6_ := Aside0.mk ((by rw [hg]; exact Nat.ne_of_lt (blk_lt (g := gb284) (o := .cells #[.slice A0_0 l0_0.length c0_0] 29 (0, 0)) u7_2) : gb284 ≠ gb297)); have n7_ := Aside0.mk ((by rw [hg]; exact Nat.ne_of_gt (blk_lt (g := gb284) (o := .cells #[.slice A0_0 l0_0.length c0_0] 29 (0, 0)) u7_2) : gb297 ≠ gb284)); have n8_ := Aside0.mk ((by rw [hg]; exact Nat.ne_of_lt (blk_lt (g := gb285) (o := .cells #[.slice none 0 0] 29 (0, 0)) u7_3) : gb285 ≠ gb297)); have n9_ := Aside0.mk ((by rw [hg]; exact Nat.ne_of_gt (blk_lt (g := gb285) (o := .cells #[.slice none 0 0] 29 (0, 0)) u7_3) : gb297 ≠ gb285)); clear BK284; clear BK285; clear HB; have BK284 := n0_; have BK285 := n1_; have HB := n2_; have BK297 := n3_; have GW297 := n4_; have GE297 := n5_; have NB284_297 := n6_; have NB297_284 := n7_; have NB285_297 := n8_; have NB297_285 := n9_; clear n0_ n1_ n2_ n3_ n4_ n5_ n6_ n7_ n8_ n9_; clear hb hbox hg; have hnb31 := NB297_284.out; have hnc31 := NB284_297.out; have hnb32 := NB297_285.out; have hnc32 := NB285_297.out; have hcz33_0 : w30.cell? ⟨gb297, 0, none⟩ = some (.slice none 0 0) := (blk_cell BK297.out 0).trans rfl; have hfz33_0 := blk_frozen BK297.out 0))
  go_loopg [7, 8] k (fun kq v7 v8 w' => ∃ (x7_1 : Bool) (x8_1 : Int) (x298000_1 : List (S53)) (u298000 : Value), v7 = .bool x7_1 ∧ v8 = .int .i64 x8_1 ∧ Aside0 (spec_OpenAccount.l0 kq a1 x7_1 x8_1 l0_0 x298000_1 = some (r1, r2)) ∧ Aside0 (kq ≤ k) ∧ Aside0 (Kd.R k53 53 w' w.heap.size (fun _ => True) u298000 x298000_1) ∧ Aside0 (w'.heap[gb284]? = some (.cells #[(.slice A0_0 l0_0.length c0_0)] 29 (0, 0))) ∧ Aside0 (w'.heap[gb285]? = some (.cells #[(.slice none 0 0)] 29 (0, 0))) ∧ Aside0 (w'.heap[gb297]? = some (.cells #[u298000] 29 (0, 0))) ∧ Aside0 (Below w.heap.size w w'))
  case atStart => exact ⟨(false), (0), (([] : List (S53))), (.slice none 0 0), u7_13, u7_13, H', ⟨Nat.le_refl _⟩, ⟨(by first | exact Kd.R_nil _ _ _ _ _ | exact Kd.N_nil _ _ _ _ _ | exact Kd.V_nil _ _ _ _ _ | exact Kd.Q_nil _ _ _ _ _ | exact Kd.S_nil _ _ _ _ _)⟩, ⟨u7_5⟩, ⟨u7_6⟩, ⟨(by (with_reducible repeat (first | refine blk_drewN ?_ _ | refine blk_drew ?_ | refine blk_alloc ?_ _)); refine blk_put (cs := #[.slice none 0 0]) ?_ 0 _ rfl; (with_reducible repeat (first | refine blk_drewN ?_ _ | refine blk_drew ?_ | refine blk_alloc ?_ _)); exact BK297.out)⟩, ⟨u7_0⟩⟩
  clear H'
  try clear c1
  try clear c2
  try clear p2
  try clear c3
  try clear c4
  try clear c5
  try clear c6
  try clear c9
  try clear c11
  try clear c14
  try clear c14b0
  try clear c16
  try clear c18
  try clear c21
  try clear c21b0
  try clear c21b1
  try clear c23
  try clear c28
  try clear c31
  try clear c32
  try clear hcz12_0
  try clear hcz17_0
  try clear hcz20_0
  try clear hcz24_0
  try clear hcz27_0
  try clear hcz29_0
  try clear hcz33_0
  try clear hcz7_0
  try clear hfz12_0
  try clear hfz17_0
  try clear hfz20_0
  try clear hfz24_0
  try clear hfz27_0
  try clear hfz29_0
  try clear hfz33_0
  try clear hfz7_0
  obtain ⟨x7_1, x8_1, x298000_1, u298000, rfl, rfl, HA, HK1, HO_298000, BK284, BK285, BK297, HB⟩ := hrel
  cases gk with
  | zero => exact absurd HA.out (by simp [spec_OpenAccount.l0])
  | succ k1 =>
    have H := HA.out
    clear HA
    simp only [spec_OpenAccount.l0] at H
    by_cases c34 : x8_1 < (l0_0.length : Int)
    rotate_left
    · rw [if_neg c34] at H
      have c34b0 : decide (x8_1 < (l0_0.length : Int)) = false := decide_eq_false c34
      clear c34
      by_cases c68 : x7_1 = true
      · subst c68
        rw [if_pos rfl] at H
        simp only [Option.some.injEq, Prod.mk.injEq] at H
        obtain ⟨rfl, rfl⟩ := H
        have hnb69 := NB284_285.out
        have hnc69 := NB285_284.out
        have hnb70 := NB284_297.out
        have hnc70 := NB297_284.out
        have hcz71_0 : wr.cell? ⟨gb284, 0, none⟩ = some (.slice A0_0 l0_0.length c0_0) := (blk_cell BK284.out 0).trans rfl
        have hfz71_0 := blk_frozen BK284.out 0
        have hnb72 := NB297_285.out
        have hnc72 := NB285_297.out
        have hcz73_0 : wr.cell? ⟨gb297, 0, none⟩ = some (u298000) := (blk_cell BK297.out 0).trans rfl
        have hfz73_0 := blk_frozen BK297.out 0
        obtain ⟨Ao74, co74, eo74⟩ := Kd.R_slice HO_298000.out
        subst eo74
        have hcz75_0 : wr.cell? ⟨gb285, 0, none⟩ = some (.slice none 0 0) := (blk_cell BK285.out 0).trans rfl
        have hfz75_0 := blk_frozen BK285.out 0
        go_wp2
        refine bodyPost_ret (results_ct rfl _ _ gb285 29 #[.slice Ao74 x298000_1.length co74] (0, 0) _ rfl u7_4 Try.underlying29 rfl (by kernel_rfl)) rfl ?_
        exact ⟨_, by first | rfl | (simp [errW_none, errW_some] <;> rfl) | (simp [*, errW_none, errW_some] <;> rfl), (by (with_reducible repeat (first | apply Kd.R_alloc | apply Kd.R_drewN | apply Kd.R_drew)); exact Kd.R_mono (Kd.R_far (p := ⟨gb285, 0, none⟩) (Kd.R_types HO_298000.out BK285.out (by decide)) (fun _ hk => hk.2) (.slice Ao74 x298000_1.length co74)) (fun _ hk => trivial)), u7_0⟩
      replace c68 := Bool.eq_false_iff.mpr c68
      subst c68
      rw [if_neg (show ¬ (false = true) by decide)] at H
      by_cases c76 : x298000_1.length < 3518437208883
      rotate_left
      · rw [if_neg c76] at H
        exact absurd H (by simp)
      rw [if_pos c76] at H
      have LMc76 := Aside0.mk c76
      clear c76
      obtain ⟨y314, hy314⟩ : ∃ y_ : List (S53), y_ = (x298000_1 ++ [(⟨a1, 0, 0, 0, 0⟩ : S53)]) := ⟨_, rfl⟩
      replace H : (some (y314, 0)) = some (r1, r2) := by first | (rw [hy314]; with_reducible exact H) | (have H2_ := (Option.bind_some _ _).symm.trans H; rw [hy314]; with_reducible exact H2_) | (have H2_ := (Option.bind_some _ _).symm.trans H; with_reducible exact H2_) | with_reducible exact H | (rw [hy314]; exact H) | exact H
      have Ny314 := Aside0.mk hy314
      clear hy314
      simp only [Option.some.injEq, Prod.mk.injEq] at H
      obtain ⟨rfl, rfl⟩ := H
      have hnb77 := NB284_285.out
      have hnc77 := NB285_284.out
      have hnb78 := NB284_297.out
      have hnc78 := NB297_284.out
      have hcz79_0 : wr.cell? ⟨gb284, 0, none⟩ = some (.slice A0_0 l0_0.length c0_0) := (blk_cell BK284.out 0).trans rfl
      have hfz79_0 := blk_frozen BK284.out 0
      have hnb80 := NB297_285.out
      have hnc80 := NB285_297.out
      have hcz81_0 : wr.cell? ⟨gb297, 0, none⟩ = some (u298000) := (blk_cell BK297.out 0).trans rfl
      have hfz81_0 := blk_frozen BK297.out 0
      go_wp2_with (first | ((with_reducible refine gate_builtin (b := .append) (xs := #[.tmp 66, .tmp 69]) rfl ?_); at_builtin; refine Kd.R_append k53 (w0 := w) w.heap.size rfl (.tmp 66) (.tmp 69) 27 53 (.agg #[(.int .u64 0), (.int .u64 0), (.int .u64 0), (.int .u64 0), (.int .i64 0)]) 40 rfl Try.underlying27 info53 rfl (by decide) (by omega) u298000 x298000_1 (⟨a1, 0, 0, 0, 0⟩ : S53) [.int .u64 a1, .int .u64 0, .int .u64 0, .int .u64 0, .int .i64 0] (fun _ => True) (fun _ => False) rfl rfl ?aP (fun _ hk => hk.elim) ?aF ?aO ?aB ?aS ?aL ?_; (case aP => exact k53_mkM _ _ _ (⟨a1, 0, 0, 0, 0⟩ : S53)); (case aB => exact u7_0); (case aF => exact (fun _ _ => trivial)); (case aO => exact u7_11); (case aS => exact (below_size u7_0)); (case aL => have := LMc76.out; omega); intro v315 w82 ho hb hg hat; rw [← Ny314.out] at ho; have n0_ := Aside0.mk (blk_grown (g := gb284) (o := .cells #[.slice A0_0 l0_0.length c0_0] 29 (0, 0)) u7_2 hg (Kd.R_ne HO_298000.out BK284.out (by decide))); have n1_ := Aside0.mk (blk_grown (g := gb285) (o := .cells #[.slice none 0 0] 29 (0, 0)) u7_3 hg (Kd.R_ne HO_298000.out BK285.out (by decide))); have n2_ := Aside0.mk (blk_grown (g := gb297) (o := .cells #[u298000] 29 (0, 0)) u7_9 hg (Kd.R_ne HO_298000.out BK297.out (by decide))); have n3_ := Aside0.mk (hb); have n4_ := Aside0.mk (ho); clear BK284; clear BK285; clear BK297; clear HB; clear HO_298000; have BK284 := n0_; have BK285 := n1_; have BK297 := n2_; have HB := n3_; have HO316 := n4_; clear n0_ n1_ n2_ n3_ n4_; clear ho hb hg hat; obtain ⟨Ao83, co83, eo83⟩ := Kd.R_slice HO316.out; subst eo83; have hcz84_0 : w82.cell? ⟨gb297, 0, none⟩ = some (u298000) := (blk_cell BK297.out 0).trans rfl; have hfz84_0 := blk_frozen BK297.out 0; have hcz85_0 : w82.cell? ⟨gb285, 0, none⟩ = some (.slice none 0 0) := (blk_cell BK285.out 0).trans rfl; have hfz85_0 := blk_frozen BK285.out 0))
      refine bodyPost_ret (results_ct rfl _ _ gb285 29 #[.slice Ao83 y314.length co83] (0, 0) _ rfl (by (with_reducible repeat (first | refine blk_drewN ?_ _ | refine blk_drew ?_ | refine blk_alloc ?_ _)); refine blk_put (cs := #[.slice none 0 0]) ?_ 0 _ rfl; (with_reducible repeat (first | refine blk_drewN ?_ _ | refine blk_drew ?_ | refine blk_alloc ?_ _)); refine blk_far ?_ NB285_297.out _; (with_reducible repeat (first | refine blk_drewN ?_ _ | refine blk_drew ?_ | refine blk_alloc ?_ _)); exact BK285.out) Try.underlying29 rfl (by kernel_rfl)) rfl ?_
      exact ⟨_, by first | rfl | (simp [errW_none, errW_some] <;> rfl) | (simp [*, errW_none, errW_some] <;> rfl), (by (with_reducible repeat (first | apply Kd.R_alloc | apply Kd.R_drewN | apply Kd.R_drew)); exact Kd.R_mono (Kd.R_far (p := ⟨gb285, 0, none⟩) (Kd.R_far (p := ⟨gb297, 0, none⟩) (Kd.R_types (Kd.R_types HO316.out BK297.out (by decide)) BK285.out (by decide)) (fun _ hk => hk.1.2) (.slice Ao83 y314.length co83)) (fun _ hk => hk.2) (.slice Ao83 y314.length co83)) (fun _ hk => trivial)), u7_0⟩
    rw [if_pos c34] at H
    have c34b0 : decide (x8_1 < (l0_0.length : Int)) = true := decide_eq_true c34
    clear c34
    by_cases c35 : x7_1 = true
    · subst c35
      rw [if_pos rfl] at H
      by_cases c36 : 0 ≤ x8_1
      rotate_left
      · rw [if_neg c36] at H
        exact absurd H (by simp)
      rw [if_pos c36] at H
      have c36b0 : decide (0 ≤ x8_1) = true := decide_eq_true c36
      clear c36
      by_cases c37 : x298000_1.length < 3518437208883
      rotate_left
      · rw [if_neg c37] at H
        exact absurd H (by simp)
      rw [if_pos c37] at H
      have LMc37 := Aside0.mk c37
      clear c37
      obtain ⟨y299, hy299⟩ : ∃ y_ : List (S53), y_ = (x298000_1 ++ [(⟨(rd_T53 l0_0 x8_1).f0, (rd_T53 l0_0 x8_1).f1, (rd_T53 l0_0 x8_1).f2, (rd_T53 l0_0 x8_1).f3, (rd_T53 l0_0 x8_1).f4⟩ : S53)]) := ⟨_, rfl⟩
      replace H : (spec_OpenAccount.l0 k1 a1 true (wrap64 (x8_1 + 1)) l0_0 y299) = some (r1, r2) := by first | (rw [hy299]; with_reducible exact H) | (have H2_ := (Option.bind_some _ _).symm.trans H; rw [hy299]; with_reducible exact H2_) | (have H2_ := (Option.bind_some _ _).symm.trans H; with_reducible exact H2_) | with_reducible exact H | (rw [hy299]; exact H) | exact H
      have Ny299 := Aside0.mk hy299
      clear hy299
      have H' := Aside0.mk H
      clear H
      have hnb38 := NB284_285.out
      have hnc38 := NB285_284.out
      have hnb39 := NB284_297.out
      have hnc39 := NB297_284.out
      have hcz40_0 : wr.cell? ⟨gb284, 0, none⟩ = some (.slice A0_0 l0_0.length c0_0) := (blk_cell BK284.out 0).trans rfl
      have hfz40_0 := blk_frozen BK284.out 0
      try go_wp2
      have n0_ := Aside0.mk (Kd.R_drew HO_298000.out)
      have n1_ := Aside0.mk (blk_drew BK284.out)
      have n2_ := Aside0.mk (blk_drew BK285.out)
      have n3_ := Aside0.mk (blk_drew BK297.out)
      have n4_ := Aside0.mk (below_drew1 HB.out)
      clear HO_298000
      clear BK284
      clear BK285
      clear BK297
      clear HB
      have HO_298000 := n0_
      have BK284 := n1_
      have BK285 := n2_
      have BK297 := n3_
      have HB := n4_
      clear n0_ n1_ n2_ n3_ n4_
      have p298 : 0 ≤ (x8_1 : Int) := of_decide_eq_true u7_12
      have q298 : x8_1 < (l0_0.length : Int) := of_decide_eq_true u7_12
      obtain ⟨ad298, e298, hx298_0, hx298_1, hx298_2, hx298_3, hx298_4⟩ := at_T53 HR0_0.out x8_1 p298 q298
      have hw298_4 := hx298_4
      have hw298_3 := hx298_3
      have hw298_2 := hx298_2
      have hw298_1 := hx298_1
      have hw298_0 := hx298_0
      cases e298
      replace hx298_0 := (HB.out.cell (World.block_lt_of_cell? w _ hx298_0)).trans hx298_0
      replace hx298_1 := (HB.out.cell (World.block_lt_of_cell? w _ hx298_1)).trans hx298_1
      replace hx298_2 := (HB.out.cell (World.block_lt_of_cell? w _ hx298_2)).trans hx298_2
      replace hx298_3 := (HB.out.cell (World.block_lt_of_cell? w _ hx298_3)).trans hx298_3
      replace hx298_4 := (HB.out.cell (World.block_lt_of_cell? w _ hx298_4)).trans hx298_4
      replace p298 := eq_true p298
      replace q298 := eq_true q298
      refine start_ (n := 11) (S := fun w' => w'.cell? ⟨gb297, 0, none⟩ = some (u298000) ∧ w'.cell? ⟨gb284, 0, none⟩ = some (.slice (some ad298) l0_0.length c0_0) ∧ w'.cell? (ad298.add ((x8_1).toNat * 5)) = some (.int .u64 ((rd_T53 l0_0 x8_1).f0)) ∧ w'.cell? ⟨(ad298.add ((x8_1).toNat * 5)).block, (ad298.add ((x8_1).toNat * 5)).off + 1, none⟩ = some (.int .u64 ((rd_T53 l0_0 x8_1).f1)) ∧ w'.cell? ⟨(ad298.add ((x8_1).toNat * 5)).block, (ad298.add ((x8_1).toNat * 5)).off + 2, none⟩ = some (.int .u64 ((rd_T53 l0_0 x8_1).f2)) ∧ w'.cell? ⟨(ad298.add ((x8_1).toNat * 5)).block, (ad298.add ((x8_1).toNat * 5)).off + 3, none⟩ = some (.int .u64 ((rd_T53 l0_0 x8_1).f3)) ∧ w'.cell? ⟨(ad298.add ((x8_1).toNat * 5)).block, (ad298.add ((x8_1).toNat * 5)).off + 4, none⟩ = some (.int .i64 ((rd_T53 l0_0 x8_1).f4))) (ds := [10]) #[false, false, false, false, false, false, false, false, false, false, false] (by kernel_rfl) rfl rfl ⟨(blk_cell BK297.out 0).trans rfl, (blk_cell BK284.out 0).trans rfl, ((HB.out.cell (World.block_lt_of_cell? w _ hw298_0)).trans hw298_0), ((HB.out.cell (World.block_lt_of_cell? w _ hw298_1)).trans hw298_1), ((HB.out.cell (World.block_lt_of_cell? w _ hw298_2)).trans hw298_2), ((HB.out.cell (World.block_lt_of_cell? w _ hw298_3)).trans hw298_3), ((HB.out.cell (World.block_lt_of_cell? w _ hw298_4)).trans hw298_4)⟩ (fun hHeld => ?_); refine with_tabW spec_OpenAccount.tab15 spec_OpenAccount.bits15 (fun HT_ HW_ => ?_)
      generalize wr.drew = w41 at HO_298000 BK284 BK285 BK297 HB hx298_0 hx298_1 hx298_2 hx298_3 hx298_4 hHeld ⊢
      refine pure_ (i := 0) (N := some 53) (v := ?_) (a' := ?_) #[true, false, false, false, false, false, false, false, false, false, false] rfl rfl (any_of HT_.out (by kernel_rfl)) (fun _ _ _ h => h) (Or.inl ⟨by rfl, ?_⟩) ?_ ?_
      rotate_left
      · intro w'
        go_simp
        with_reducible rfl
      rotate_left
      · simp only [Act.put, List.setIfInBounds_toArray, List.set_cons_zero, List.set_cons_succ, i64_w, i32_w]
        rfl
      refine pure_ (i := 2) (N := some 55) (v := ?_) (a' := ?_) #[true, false, true, false, false, false, false, false, false, false, false] rfl rfl (any_of HT_.out (by kernel_rfl)) (fun _ _ _ h => h) (Or.inl ⟨by rfl, ?_⟩) ?_ ?_
      rotate_left
      · intro w'
        go_simp
        with_reducible rfl
      rotate_left
      · simp only [Act.put, List.setIfInBounds_toArray, List.set_cons_zero, List.set_cons_succ, i64_w, i32_w]
        rfl
      refine pure_ (i := 4) (N := some 57) (v := ?_) (a' := ?_) #[true, false, true, false, true, false, false, false, false, false, false] rfl rfl (any_of HT_.out (by kernel_rfl)) (fun _ _ _ h => h) (Or.inl ⟨by rfl, ?_⟩) ?_ ?_
      rotate_left
      · intro w'
        go_simp
        with_reducible rfl
      rotate_left
      · simp only [Act.put, List.setIfInBounds_toArray, List.set_cons_zero, List.set_cons_succ, i64_w, i32_w]
        rfl
      refine take_ (i := 1) (N := some 54) (v := ?_) (a' := ?_) #[true, true, true, false, true, false, false, false, false, false, false] rfl rfl (take_ofW HT_.out HW_.out (by kernel_rfl)) (fun _ _ _ h => h) (Or.inl ⟨by rfl, ?_⟩) hHeld ?_ ?_
      rotate_left
      · rintro w' ⟨s0, s1, s2, s3, s4, s5, s6⟩
        go_simp
        with_reducible rfl
      rotate_left
      · simp only [Act.put, List.setIfInBounds_toArray, List.set_cons_zero, List.set_cons_succ, i64_w, i32_w]
        rfl
      refine take_ (i := 3) (N := some 56) (v := ?_) (a' := ?_) #[true, true, true, true, true, false, false, false, false, false, false] rfl rfl (take_ofW HT_.out HW_.out (by kernel_rfl)) (fun _ _ _ h => h) (Or.inl ⟨by rfl, ?_⟩) hHeld ?_ ?_
      rotate_left
      · rintro w' ⟨s0, s1, s2, s3, s4, s5, s6⟩
        go_simp
        with_reducible rfl
      rotate_left
      · simp only [Act.put, List.setIfInBounds_toArray, List.set_cons_zero, List.set_cons_succ, i64_w, i32_w]
        rfl
      refine pure_ (i := 5) (N := some 58) (v := ?_) (a' := ?_) #[true, true, true, true, true, true, false, false, false, false, false] rfl rfl (any_of HT_.out (by kernel_rfl)) (fun _ _ _ h => h) (Or.inl ⟨by rfl, ?_⟩) ?_ ?_
      rotate_left
      · intro w'
        go_simp
        with_reducible rfl
      rotate_left
      · simp only [Act.put, List.setIfInBounds_toArray, List.set_cons_zero, List.set_cons_succ, i64_w, i32_w]
        rfl
      refine take_ (i := 6) (N := some 59) (v := ?_) (a' := ?_) #[true, true, true, true, true, true, true, false, false, false, false] rfl rfl (take_ofW HT_.out HW_.out (by kernel_rfl)) (fun _ _ _ h => h) (Or.inl ⟨by rfl, ?_⟩) hHeld ?_ ?_
      rotate_left
      · rintro w' ⟨s0, s1, s2, s3, s4, s5, s6⟩
        go_simp
        with_reducible rfl
      rotate_left
      · simp only [Act.put, List.setIfInBounds_toArray, List.set_cons_zero, List.set_cons_succ, i64_w, i32_w]
        rfl
      refine one_ (i := 7) (N := some 60) #[true, true, true, true, true, true, true, true, false, false, false] rfl rfl (one_of HT_.out (by kernel_rfl)) (by decide) (fun K hK => ?_)
      refine value_ (w1 := ?_) (v := ?_) (by rfl) rfl ?_ ?_
      rotate_left 2
      · go_simp
        constructor
        · rfl
        rfl
      refine hK.out _ _ ⟨(blk_cell (blk_alloc BK297.out _) 0).trans rfl, (blk_cell (blk_alloc BK284.out _) 0).trans rfl, (World.cell?_alloc_lt _ _ _ (World.block_lt_of_cell? _ _ (((HB.out.cell (World.block_lt_of_cell? w _ hw298_0)).trans hw298_0)))).trans (((HB.out.cell (World.block_lt_of_cell? w _ hw298_0)).trans hw298_0)), (World.cell?_alloc_lt _ _ _ (World.block_lt_of_cell? _ _ (((HB.out.cell (World.block_lt_of_cell? w _ hw298_1)).trans hw298_1)))).trans (((HB.out.cell (World.block_lt_of_cell? w _ hw298_1)).trans hw298_1)), (World.cell?_alloc_lt _ _ _ (World.block_lt_of_cell? _ _ (((HB.out.cell (World.block_lt_of_cell? w _ hw298_2)).trans hw298_2)))).trans (((HB.out.cell (World.block_lt_of_cell? w _ hw298_2)).trans hw298_2)), (World.cell?_alloc_lt _ _ _ (World.block_lt_of_cell? _ _ (((HB.out.cell (World.block_lt_of_cell? w _ hw298_3)).trans hw298_3)))).trans (((HB.out.cell (World.block_lt_of_cell? w _ hw298_3)).trans hw298_3)), (World.cell?_alloc_lt _ _ _ (World.block_lt_of_cell? _ _ (((HB.out.cell (World.block_lt_of_cell? w _ hw298_4)).trans hw298_4)))).trans (((HB.out.cell (World.block_lt_of_cell? w _ hw298_4)).trans hw298_4))⟩ (fun hHeld => ?_)
      clear hK K
      refine norm_ (a' := ?_) ?_ ?_
      rotate_left
      · show Act.put _ (some 60) _ = _
        simp only [Act.put, List.setIfInBounds_toArray, List.set_cons_zero, List.set_cons_succ, i64_w, i32_w]
        rfl
      refine one_ (i := 8) (N := some 61) #[true, true, true, true, true, true, true, true, true, false, false] rfl rfl (one_of HT_.out (by kernel_rfl)) (by decide) (fun K hK => ?_)
      refine Kd.R_append_step k53 (w0 := w) w.heap.size (by rfl) (.tmp 54) (.tmp 60) 27 53 (.agg #[(.int .u64 0), (.int .u64 0), (.int .u64 0), (.int .u64 0), (.int .i64 0)]) 40 rfl Try.underlying27 info53 rfl (by decide) (by omega) u298000 x298000_1 (⟨(rd_T53 l0_0 x8_1).f0, (rd_T53 l0_0 x8_1).f1, (rd_T53 l0_0 x8_1).f2, (rd_T53 l0_0 x8_1).f3, (rd_T53 l0_0 x8_1).f4⟩ : S53) [.int .u64 ((rd_T53 l0_0 x8_1).f0), .int .u64 ((rd_T53 l0_0 x8_1).f1), .int .u64 ((rd_T53 l0_0 x8_1).f2), .int .u64 ((rd_T53 l0_0 x8_1).f3), .int .i64 ((rd_T53 l0_0 x8_1).f4)] (fun _ => True) (fun _ => False) rfl rfl ?aP (fun _ hk => hk.elim) ?aF ?aO ?aB ?aS ?aL ?_
      (case aP => exact k53_mkM _ _ _ (⟨(rd_T53 l0_0 x8_1).f0, (rd_T53 l0_0 x8_1).f1, (rd_T53 l0_0 x8_1).f2, (rd_T53 l0_0 x8_1).f3, (rd_T53 l0_0 x8_1).f4⟩ : S53))
      (case aB => exact u7_0)
      (case aF => exact (fun _ _ => trivial))
      (case aO => exact u7_11)
      (case aS => exact (below_size u7_0))
      (case aL => have := LMc37.out; omega)
      intro v300 w42 ho hb hg hat
      rw [← Ny299.out] at ho
      have n0_ := Aside0.mk (blk_grown (g := gb284) (o := .cells #[.slice (some ad298) l0_0.length c0_0] 29 (0, 0)) u7_2 hg (Kd.R_ne HO_298000.out BK284.out (by decide)))
      have n1_ := Aside0.mk (blk_grown (g := gb285) (o := .cells #[.slice none 0 0] 29 (0, 0)) u7_3 hg (Kd.R_ne HO_298000.out BK285.out (by decide)))
      have n2_ := Aside0.mk (blk_grown (g := gb297) (o := .cells #[u298000] 29 (0, 0)) u7_9 hg (Kd.R_ne HO_298000.out BK297.out (by decide)))
      have n3_ := Aside0.mk (hb)
      have n4_ := Aside0.mk (ho)
      clear BK284
      clear BK285
      clear BK297
      clear HB
      clear HO_298000
      have BK284 := n0_
      have BK285 := n1_
      have BK297 := n2_
      have HB := n3_
      have HO301 := n4_
      clear n0_ n1_ n2_ n3_ n4_
      clear ho hb hg hat
      obtain ⟨Ao43, co43, eo43⟩ := Kd.R_slice HO301.out
      (first | subst eo43 | (injection eo43 with f1_ f2_ f3_; have f4_ := f1_.symm; have f5_ := f3_.symm; clear f1_ f2_ f3_; subst f4_; subst f5_))
      refine hK.out _ _ ⟨(blk_cell BK297.out 0).trans rfl, (blk_cell BK284.out 0).trans rfl, ((HB.out.cell (World.block_lt_of_cell? w _ hw298_0)).trans hw298_0), ((HB.out.cell (World.block_lt_of_cell? w _ hw298_1)).trans hw298_1), ((HB.out.cell (World.block_lt_of_cell? w _ hw298_2)).trans hw298_2), ((HB.out.cell (World.block_lt_of_cell? w _ hw298_3)).trans hw298_3), ((HB.out.cell (World.block_lt_of_cell? w _ hw298_4)).trans hw298_4)⟩ (fun hHeld => ?_)
      clear hK K
      refine norm_ (a' := ?_) ?_ ?_
      rotate_left
      · show Act.put _ (some 61) _ = _
        simp only [Act.put, List.setIfInBounds_toArray, List.set_cons_zero, List.set_cons_succ, i64_w, i32_w]
        rfl
      refine pure_ (i := 9) (N := some 62) (v := ?_) (a' := ?_) #[true, true, true, true, true, true, true, true, true, true, false] rfl rfl (any_of HT_.out (by kernel_rfl)) (fun _ _ _ h => h) (Or.inl ⟨by rfl, ?_⟩) ?_ ?_
      rotate_left
      · intro w'
        go_simp
        with_reducible rfl
      rotate_left
      · simp only [Act.put, List.setIfInBounds_toArray, List.set_cons_zero, List.set_cons_succ, i64_w, i32_w]
        rfl
      refine last_ (i := 10) (N := none) #[true, true, true, true, true, true, true, true, true, true, true] rfl rfl (one_of HT_.out (by kernel_rfl)) (by decide) (fun K hK => ?_)
      have hs44 : w42.cell? ⟨gb297, 0, none⟩ = some (u298000) := (blk_cell BK297.out 0).trans rfl
      have hfs44 := blk_frozen BK297.out 0
      have hns44_0 := NB284_297.out
      have hns44_1 := NB285_297.out
      have hms44_0 := NB297_284.out
      have hms44_1 := NB297_285.out
      refine skip_ (w1 := ?_) (by rfl) rfl ?_ ?_
      rotate_left
      · go_simp
        rfl
      refine hK.out _ _ ?_
      clear hK K
      refine done_ (done_of HT_.out (by kernel_rfl)) ?_
      try go_wp2
      go_roundg k1
      case measure => have := HK1.out; omega
      case rel => exact ⟨(true), (wrap64 (x8_1 + 1)), (y299), (.slice Ao43 y299.length co43), u7_13, u7_13, H', ⟨by have := HK1.out; omega⟩, ⟨(by (with_reducible repeat (first | apply Kd.R_alloc | apply Kd.R_drewN | apply Kd.R_drew)); exact Kd.R_mono (Kd.R_far (p := ⟨gb297, 0, none⟩) (Kd.R_types HO301.out BK297.out (by decide)) (fun _ hk => hk.2) (.slice Ao43 y299.length co43)) (fun _ hk => trivial))⟩, ⟨u7_5⟩, ⟨u7_6⟩, ⟨u7_14⟩, ⟨u7_0⟩⟩
    replace c35 := Bool.eq_false_iff.mpr c35
    subst c35
    rw [if_neg (show ¬ (false = true) by decide)] at H
    by_cases c45 : 0 ≤ x8_1
    rotate_left
    · rw [if_neg c45] at H
      exact absurd H (by simp)
    rw [if_pos c45] at H
    have c45b0 : decide (0 ≤ x8_1) = true := decide_eq_true c45
    clear c45
    have H9 := Aside0.mk H
    clear H
    have hnb46 := NB284_285.out
    have hnc46 := NB285_284.out
    have hnb47 := NB284_297.out
    have hnc47 := NB297_284.out
    have hcz48_0 : wr.cell? ⟨gb284, 0, none⟩ = some (.slice A0_0 l0_0.length c0_0) := (blk_cell BK284.out 0).trans rfl
    have hfz48_0 := blk_frozen BK284.out 0
    have p302 : 0 ≤ (x8_1 : Int) := of_decide_eq_true u7_12
    have q302 : x8_1 < (l0_0.length : Int) := of_decide_eq_true u7_12
    obtain ⟨ad302, e302, hx302_0, hx302_1, hx302_2, hx302_3, hx302_4⟩ := at_T53 HR0_0.out x8_1 p302 q302
    cases e302
    replace hx302_0 := (HB.out.cell (World.block_lt_of_cell? w _ hx302_0)).trans hx302_0
    replace hx302_1 := (HB.out.cell (World.block_lt_of_cell? w _ hx302_1)).trans hx302_1
    replace hx302_2 := (HB.out.cell (World.block_lt_of_cell? w _ hx302_2)).trans hx302_2
    replace hx302_3 := (HB.out.cell (World.block_lt_of_cell? w _ hx302_3)).trans hx302_3
    replace hx302_4 := (HB.out.cell (World.block_lt_of_cell? w _ hx302_4)).trans hx302_4
    replace p302 := eq_true p302
    replace q302 := eq_true q302
    go_upto_if 45 with (fail)
    have H := H9.out
    clear H9
    by_cases c49 : ((rd_T53 l0_0 x8_1).f0) > a1
    rotate_left
    · rw [if_neg c49] at H
      have c49b0 : decide (a1 < ((rd_T53 l0_0 x8_1).f0)) = false := decide_eq_false c49
      clear c49
      (first | rw [c49b0] | (simp only [i64_w, i32_w]; rw [c49b0]) | skip)
      by_cases c63 : x298000_1.length < 3518437208883
      rotate_left
      · rw [if_neg c63] at H
        exact absurd H (by simp)
      rw [if_pos c63] at H
      have LMc63 := Aside0.mk c63
      clear c63
      obtain ⟨y311, hy311⟩ : ∃ y_ : List (S53), y_ = (x298000_1 ++ [(⟨(rd_T53 l0_0 x8_1).f0, (rd_T53 l0_0 x8_1).f1, (rd_T53 l0_0 x8_1).f2, (rd_T53 l0_0 x8_1).f3, (rd_T53 l0_0 x8_1).f4⟩ : S53)]) := ⟨_, rfl⟩
      replace H : (spec_OpenAccount.l0 k1 a1 false (wrap64 (x8_1 + 1)) l0_0 y311) = some (r1, r2) := by first | (rw [hy311]; with_reducible exact H) | (have H2_ := (Option.bind_some _ _).symm.trans H; rw [hy311]; with_reducible exact H2_) | (have H2_ := (Option.bind_some _ _).symm.trans H; with_reducible exact H2_) | with_reducible exact H | (rw [hy311]; exact H) | exact H
      have Ny311 := Aside0.mk hy311
      clear hy311
      have H' := Aside0.mk H
      clear H
      try go_wp2
      have n0_ := Aside0.mk (Kd.R_drew HO_298000.out)
      have n1_ := Aside0.mk (blk_drew BK284.out)
      have n2_ := Aside0.mk (blk_drew BK285.out)
      have n3_ := Aside0.mk (blk_drew BK297.out)
      have n4_ := Aside0.mk (below_drew1 HB.out)
      clear HO_298000
      clear BK284
      clear BK285
      clear BK297
      clear HB
      have HO_298000 := n0_
      have BK284 := n1_
      have BK285 := n2_
      have BK297 := n3_
      have HB := n4_
      clear n0_ n1_ n2_ n3_ n4_
      have p310 : 0 ≤ (x8_1 : Int) := of_decide_eq_true u7_12
      have q310 : x8_1 < (l0_0.length : Int) := of_decide_eq_true u7_12
      obtain ⟨ad310, e310, hx310_0, hx310_1, hx310_2, hx310_3, hx310_4⟩ := at_T53 HR0_0.out x8_1 p310 q310
      have hw310_4 := hx310_4
      have hw310_3 := hx310_3
      have hw310_2 := hx310_2
      have hw310_1 := hx310_1
      have hw310_0 := hx310_0
      obtain rfl : ad302 = ad310 := (by injection e310)
      replace hx310_0 := (HB.out.cell (World.block_lt_of_cell? w _ hx310_0)).trans hx310_0
      replace hx310_1 := (HB.out.cell (World.block_lt_of_cell? w _ hx310_1)).trans hx310_1
      replace hx310_2 := (HB.out.cell (World.block_lt_of_cell? w _ hx310_2)).trans hx310_2
      replace hx310_3 := (HB.out.cell (World.block_lt_of_cell? w _ hx310_3)).trans hx310_3
      replace hx310_4 := (HB.out.cell (World.block_lt_of_cell? w _ hx310_4)).trans hx310_4
      replace p310 := eq_true p310
      replace q310 := eq_true q310
      refine start_ (n := 11) (S := fun w' => w'.cell? ⟨gb297, 0, none⟩ = some (u298000) ∧ w'.cell? ⟨gb284, 0, none⟩ = some (.slice (some ad302) l0_0.length c0_0) ∧ w'.cell? (ad302.add ((x8_1).toNat * 5)) = some (.int .u64 ((rd_T53 l0_0 x8_1).f0)) ∧ w'.cell? ⟨(ad302.add ((x8_1).toNat * 5)).block, (ad302.add ((x8_1).toNat * 5)).off + 1, none⟩ = some (.int .u64 ((rd_T53 l0_0 x8_1).f1)) ∧ w'.cell? ⟨(ad302.add ((x8_1).toNat * 5)).block, (ad302.add ((x8_1).toNat * 5)).off + 2, none⟩ = some (.int .u64 ((rd_T53 l0_0 x8_1).f2)) ∧ w'.cell? ⟨(ad302.add ((x8_1).toNat * 5)).block, (ad302.add ((x8_1).toNat * 5)).off + 3, none⟩ = some (.int .u64 ((rd_T53 l0_0 x8_1).f3)) ∧ w'.cell? ⟨(ad302.add ((x8_1).toNat * 5)).block, (ad302.add ((x8_1).toNat * 5)).off + 4, none⟩ = some (.int .i64 ((rd_T53 l0_0 x8_1).f4))) (ds := [10]) #[false, false, false, false, false, false, false, false, false, false, false] (by kernel_rfl) rfl rfl ⟨(blk_cell BK297.out 0).trans rfl, (blk_cell BK284.out 0).trans rfl, ((HB.out.cell (World.block_lt_of_cell? w _ hw310_0)).trans hw310_0), ((HB.out.cell (World.block_lt_of_cell? w _ hw310_1)).trans hw310_1), ((HB.out.cell (World.block_lt_of_cell? w _ hw310_2)).trans hw310_2), ((HB.out.cell (World.block_lt_of_cell? w _ hw310_3)).trans hw310_3), ((HB.out.cell (World.block_lt_of_cell? w _ hw310_4)).trans hw310_4)⟩ (fun hHeld => ?_); refine with_tabW spec_OpenAccount.tab15 spec_OpenAccount.bits15 (fun HT_ HW_ => ?_)
      generalize wr.drew = w64 at HO_298000 BK284 BK285 BK297 HB hx310_0 hx310_1 hx310_2 hx310_3 hx310_4 hHeld ⊢
      refine pure_ (i := 0) (N := some 53) (v := ?_) (a' := ?_) #[true, false, false, false, false, false, false, false, false, false, false] rfl rfl (any_of HT_.out (by kernel_rfl)) (fun _ _ _ h => h) (Or.inl ⟨by rfl, ?_⟩) ?_ ?_
      rotate_left
      · intro w'
        go_simp
        with_reducible rfl
      rotate_left
      · simp only [Act.put, List.setIfInBounds_toArray, List.set_cons_zero, List.set_cons_succ, i64_w, i32_w]
        rfl
      refine pure_ (i := 2) (N := some 55) (v := ?_) (a' := ?_) #[true, false, true, false, false, false, false, false, false, false, false] rfl rfl (any_of HT_.out (by kernel_rfl)) (fun _ _ _ h => h) (Or.inl ⟨by rfl, ?_⟩) ?_ ?_
      rotate_left
      · intro w'
        go_simp
        with_reducible rfl
      rotate_left
      · simp only [Act.put, List.setIfInBounds_toArray, List.set_cons_zero, List.set_cons_succ, i64_w, i32_w]
        rfl
      refine pure_ (i := 4) (N := some 57) (v := ?_) (a' := ?_) #[true, false, true, false, true, false, false, false, false, false, false] rfl rfl (any_of HT_.out (by kernel_rfl)) (fun _ _ _ h => h) (Or.inl ⟨by rfl, ?_⟩) ?_ ?_
      rotate_left
      · intro w'
        go_simp
        with_reducible rfl
      rotate_left
      · simp only [Act.put, List.setIfInBounds_toArray, List.set_cons_zero, List.set_cons_succ, i64_w, i32_w]
        rfl
      refine take_ (i := 1) (N := some 54) (v := ?_) (a' := ?_) #[true, true, true, false, true, false, false, false, false, false, false] rfl rfl (take_ofW HT_.out HW_.out (by kernel_rfl)) (fun _ _ _ h => h) (Or.inl ⟨by rfl, ?_⟩) hHeld ?_ ?_
      rotate_left
      · rintro w' ⟨s0, s1, s2, s3, s4, s5, s6⟩
        go_simp
        with_reducible rfl
      rotate_left
      · simp only [Act.put, List.setIfInBounds_toArray, List.set_cons_zero, List.set_cons_succ, i64_w, i32_w]
        rfl
      refine take_ (i := 3) (N := some 56) (v := ?_) (a' := ?_) #[true, true, true, true, true, false, false, false, false, false, false] rfl rfl (take_ofW HT_.out HW_.out (by kernel_rfl)) (fun _ _ _ h => h) (Or.inl ⟨by rfl, ?_⟩) hHeld ?_ ?_
      rotate_left
      · rintro w' ⟨s0, s1, s2, s3, s4, s5, s6⟩
        go_simp
        with_reducible rfl
      rotate_left
      · simp only [Act.put, List.setIfInBounds_toArray, List.set_cons_zero, List.set_cons_succ, i64_w, i32_w]
        rfl
      refine pure_ (i := 5) (N := some 58) (v := ?_) (a' := ?_) #[true, true, true, true, true, true, false, false, false, false, false] rfl rfl (any_of HT_.out (by kernel_rfl)) (fun _ _ _ h => h) (Or.inl ⟨by rfl, ?_⟩) ?_ ?_
      rotate_left
      · intro w'
        go_simp
        with_reducible rfl
      rotate_left
      · simp only [Act.put, List.setIfInBounds_toArray, List.set_cons_zero, List.set_cons_succ, i64_w, i32_w]
        rfl
      refine take_ (i := 6) (N := some 59) (v := ?_) (a' := ?_) #[true, true, true, true, true, true, true, false, false, false, false] rfl rfl (take_ofW HT_.out HW_.out (by kernel_rfl)) (fun _ _ _ h => h) (Or.inl ⟨by rfl, ?_⟩) hHeld ?_ ?_
      rotate_left
      · rintro w' ⟨s0, s1, s2, s3, s4, s5, s6⟩
        go_simp
        with_reducible rfl
      rotate_left
      · simp only [Act.put, List.setIfInBounds_toArray, List.set_cons_zero, List.set_cons_succ, i64_w, i32_w]
        rfl
      refine one_ (i := 7) (N := some 60) #[true, true, true, true, true, true, true, true, false, false, false] rfl rfl (one_of HT_.out (by kernel_rfl)) (by decide) (fun K hK => ?_)
      refine value_ (w1 := ?_) (v := ?_) (by rfl) rfl ?_ ?_
      rotate_left 2
      · go_simp
        constructor
        · rfl
        rfl
      refine hK.out _ _ ⟨(blk_cell (blk_alloc BK297.out _) 0).trans rfl, (blk_cell (blk_alloc BK284.out _) 0).trans rfl, (World.cell?_alloc_lt _ _ _ (World.block_lt_of_cell? _ _ (((HB.out.cell (World.block_lt_of_cell? w _ hw310_0)).trans hw310_0)))).trans (((HB.out.cell (World.block_lt_of_cell? w _ hw310_0)).trans hw310_0)), (World.cell?_alloc_lt _ _ _ (World.block_lt_of_cell? _ _ (((HB.out.cell (World.block_lt_of_cell? w _ hw310_1)).trans hw310_1)))).trans (((HB.out.cell (World.block_lt_of_cell? w _ hw310_1)).trans hw310_1)), (World.cell?_alloc_lt _ _ _ (World.block_lt_of_cell? _ _ (((HB.out.cell (World.block_lt_of_cell? w _ hw310_2)).trans hw310_2)))).trans (((HB.out.cell (World.block_lt_of_cell? w _ hw310_2)).trans hw310_2)), (World.cell?_alloc_lt _ _ _ (World.block_lt_of_cell? _ _ (((HB.out.cell (World.block_lt_of_cell? w _ hw310_3)).trans hw310_3)))).trans (((HB.out.cell (World.block_lt_of_cell? w _ hw310_3)).trans hw310_3)), (World.cell?_alloc_lt _ _ _ (World.block_lt_of_cell? _ _ (((HB.out.cell (World.block_lt_of_cell? w _ hw310_4)).trans hw310_4)))).trans (((HB.out.cell (World.block_lt_of_cell? w _ hw310_4)).trans hw310_4))⟩ (fun hHeld => ?_)
      clear hK K
      refine norm_ (a' := ?_) ?_ ?_
      rotate_left
      · show Act.put _ (some 60) _ = _
        simp only [Act.put, List.setIfInBounds_toArray, List.set_cons_zero, List.set_cons_succ, i64_w, i32_w]
        rfl
      refine one_ (i := 8) (N := some 61) #[true, true, true, true, true, true, true, true, true, false, false] rfl rfl (one_of HT_.out (by kernel_rfl)) (by decide) (fun K hK => ?_)
      refine Kd.R_append_step k53 (w0 := w) w.heap.size (by rfl) (.tmp 54) (.tmp 60) 27 53 (.agg #[(.int .u64 0), (.int .u64 0), (.int .u64 0), (.int .u64 0), (.int .i64 0)]) 40 rfl Try.underlying27 info53 rfl (by decide) (by omega) u298000 x298000_1 (⟨(rd_T53 l0_0 x8_1).f0, (rd_T53 l0_0 x8_1).f1, (rd_T53 l0_0 x8_1).f2, (rd_T53 l0_0 x8_1).f3, (rd_T53 l0_0 x8_1).f4⟩ : S53) [.int .u64 ((rd_T53 l0_0 x8_1).f0), .int .u64 ((rd_T53 l0_0 x8_1).f1), .int .u64 ((rd_T53 l0_0 x8_1).f2), .int .u64 ((rd_T53 l0_0 x8_1).f3), .int .i64 ((rd_T53 l0_0 x8_1).f4)] (fun _ => True) (fun _ => False) rfl rfl ?aP (fun _ hk => hk.elim) ?aF ?aO ?aB ?aS ?aL ?_
      (case aP => exact k53_mkM _ _ _ (⟨(rd_T53 l0_0 x8_1).f0, (rd_T53 l0_0 x8_1).f1, (rd_T53 l0_0 x8_1).f2, (rd_T53 l0_0 x8_1).f3, (rd_T53 l0_0 x8_1).f4⟩ : S53))
      (case aB => exact u7_0)
      (case aF => exact (fun _ _ => trivial))
      (case aO => exact u7_11)
      (case aS => exact (below_size u7_0))
      (case aL => have := LMc63.out; omega)
      intro v312 w65 ho hb hg hat
      rw [← Ny311.out] at ho
      have n0_ := Aside0.mk (blk_grown (g := gb284) (o := .cells #[.slice (some ad302) l0_0.length c0_0] 29 (0, 0)) u7_2 hg (Kd.R_ne HO_298000.out BK284.out (by decide)))
      have n1_ := Aside0.mk (blk_grown (g := gb285) (o := .cells #[.slice none 0 0] 29 (0, 0)) u7_3 hg (Kd.R_ne HO_298000.out BK285.out (by decide)))
      have n2_ := Aside0.mk (blk_grown (g := gb297) (o := .cells #[u298000] 29 (0, 0)) u7_9 hg (Kd.R_ne HO_298000.out BK297.out (by decide)))
      have n3_ := Aside0.mk (hb)
      have n4_ := Aside0.mk (ho)
      clear BK284
      clear BK285
      clear BK297
      clear HB
      clear HO_298000
      have BK284 := n0_
      have BK285 := n1_
      have BK297 := n2_
      have HB := n3_
      have HO313 := n4_
      clear n0_ n1_ n2_ n3_ n4_
      clear ho hb hg hat
      obtain ⟨Ao66, co66, eo66⟩ := Kd.R_slice HO313.out
      (first | subst eo66 | (injection eo66 with f1_ f2_ f3_; have f4_ := f1_.symm; have f5_ := f3_.symm; clear f1_ f2_ f3_; subst f4_; subst f5_))
      refine hK.out _ _ ⟨(blk_cell BK297.out 0).trans rfl, (blk_cell BK284.out 0).trans rfl, ((HB.out.cell (World.block_lt_of_cell? w _ hw310_0)).trans hw310_0), ((HB.out.cell (World.block_lt_of_cell? w _ hw310_1)).trans hw310_1), ((HB.out.cell (World.block_lt_of_cell? w _ hw310_2)).trans hw310_2), ((HB.out.cell (World.block_lt_of_cell? w _ hw310_3)).trans hw310_3), ((HB.out.cell (World.block_lt_of_cell? w _ hw310_4)).trans hw310_4)⟩ (fun hHeld => ?_)
      clear hK K
      refine norm_ (a' := ?_) ?_ ?_
      rotate_left
      · show Act.put _ (some 61) _ = _
        simp only [Act.put, List.setIfInBounds_toArray, List.set_cons_zero, List.set_cons_succ, i64_w, i32_w]
        rfl
      refine pure_ (i := 9) (N := some 62) (v := ?_) (a' := ?_) #[true, true, true, true, true, true, true, true, true, true, false] rfl rfl (any_of HT_.out (by kernel_rfl)) (fun _ _ _ h => h) (Or.inl ⟨by rfl, ?_⟩) ?_ ?_
      rotate_left
      · intro w'
        go_simp
        with_reducible rfl
      rotate_left
      · simp only [Act.put, List.setIfInBounds_toArray, List.set_cons_zero, List.set_cons_succ, i64_w, i32_w]
        rfl
      refine last_ (i := 10) (N := none) #[true, true, true, true, true, true, true, true, true, true, true] rfl rfl (one_of HT_.out (by kernel_rfl)) (by decide) (fun K hK => ?_)
      have hs67 : w65.cell? ⟨gb297, 0, none⟩ = some (u298000) := (blk_cell BK297.out 0).trans rfl
      have hfs67 := blk_frozen BK297.out 0
      have hns67_0 := NB284_297.out
      have hns67_1 := NB285_297.out
      have hms67_0 := NB297_284.out
      have hms67_1 := NB297_285.out
      refine skip_ (w1 := ?_) (by rfl) rfl ?_ ?_
      rotate_left
      · go_simp
        rfl
      refine hK.out _ _ ?_
      clear hK K
      refine done_ (done_of HT_.out (by kernel_rfl)) ?_
      try go_wp2
      go_roundg k1
      case measure => have := HK1.out; omega
      case rel => exact ⟨(false), (wrap64 (x8_1 + 1)), (y311), (.slice Ao66 y311.length co66), u7_13, u7_13, H', ⟨by have := HK1.out; omega⟩, ⟨(by (with_reducible repeat (first | apply Kd.R_alloc | apply Kd.R_drewN | apply Kd.R_drew)); exact Kd.R_mono (Kd.R_far (p := ⟨gb297, 0, none⟩) (Kd.R_types HO313.out BK297.out (by decide)) (fun _ hk => hk.2) (.slice Ao66 y311.length co66)) (fun _ hk => trivial))⟩, ⟨u7_5⟩, ⟨u7_6⟩, ⟨u7_14⟩, ⟨u7_0⟩⟩
    rw [if_pos c49] at H
    have c49b0 : decide (a1 < ((rd_T53 l0_0 x8_1).f0)) = true := decide_eq_true c49
    clear c49
    (first | rw [c49b0] | (simp only [i64_w, i32_w]; rw [c49b0]) | skip)
    by_cases c50 : x298000_1.length < 3518437208883
    rotate_left
    · rw [if_neg c50] at H
      exact absurd H (by simp)
    rw [if_pos c50] at H
    have LMc50 := Aside0.mk c50
    clear c50
    obtain ⟨y303, hy303⟩ : ∃ y_ : List (S53), y_ = (x298000_1 ++ [(⟨a1, 0, 0, 0, 0⟩ : S53)]) := ⟨_, rfl⟩
    replace H : (if y303.length < 3518437208883 then (spec_OpenAccount.l0 k1 a1 true (wrap64 (x8_1 + 1)) l0_0 (y303 ++ [(⟨(rd_T53 l0_0 x8_1).f0, (rd_T53 l0_0 x8_1).f1, (rd_T53 l0_0 x8_1).f2, (rd_T53 l0_0 x8_1).f3, (rd_T53 l0_0 x8_1).f4⟩ : S53)])) else (none)) = some (r1, r2) := by first | (rw [hy303]; with_reducible exact H) | (have H2_ := (Option.bind_some _ _).symm.trans H; rw [hy303]; with_reducible exact H2_) | (have H2_ := (Option.bind_some _ _).symm.trans H; with_reducible exact H2_) | with_reducible exact H | (rw [hy303]; exact H) | exact H
    have Ny303 := Aside0.mk hy303
    clear hy303
    by_cases c51 : y303.length < 3518437208883
    rotate_left
    · rw [if_neg c51] at H
      exact absurd H (by simp)
    rw [if_pos c51] at H
    have LMc51 := Aside0.mk c51
    clear c51
    obtain ⟨y307, hy307⟩ : ∃ y_ : List (S53), y_ = (y303 ++ [(⟨(rd_T53 l0_0 x8_1).f0, (rd_T53 l0_0 x8_1).f1, (rd_T53 l0_0 x8_1).f2, (rd_T53 l0_0 x8_1).f3, (rd_T53 l0_0 x8_1).f4⟩ : S53)]) := ⟨_, rfl⟩
    replace H : (spec_OpenAccount.l0 k1 a1 true (wrap64 (x8_1 + 1)) l0_0 y307) = some (r1, r2) := by first | (rw [hy307]; with_reducible exact H) | (have H2_ := (Option.bind_some _ _).symm.trans H; rw [hy307]; with_reducible exact H2_) | (have H2_ := (Option.bind_some _ _).symm.trans H; with_reducible exact H2_) | with_reducible exact H | (rw [hy307]; exact H) | exact H
    have Ny307 := Aside0.mk hy307
    clear hy307
    have H' := Aside0.mk H
    clear H
    have hnb52 := NB297_284.out
    have hnc52 := NB284_297.out
    have hnb53 := NB297_285.out
    have hnc53 := NB285_297.out
    have hcz54_0 : wr.cell? ⟨gb297, 0, none⟩ = some (u298000) := (blk_cell BK297.out 0).trans rfl
    have hfz54_0 := blk_frozen BK297.out 0
    try go_wp2_with (first | ((with_reducible refine gate_builtin (b := .append) (xs := #[.tmp 47, .tmp 50]) rfl ?_); at_builtin; refine Kd.R_append k53 (w0 := w) w.heap.size rfl (.tmp 47) (.tmp 50) 27 53 (.agg #[(.int .u64 0), (.int .u64 0), (.int .u64 0), (.int .u64 0), (.int .i64 0)]) 40 rfl Try.underlying27 info53 rfl (by decide) (by omega) u298000 x298000_1 (⟨a1, 0, 0, 0, 0⟩ : S53) [.int .u64 a1, .int .u64 0, .int .u64 0, .int .u64 0, .int .i64 0] (fun _ => True) (fun _ => False) rfl rfl ?aP (fun _ hk => hk.elim) ?aF ?aO ?aB ?aS ?aL ?_; (case aP => exact k53_mkM _ _ _ (⟨a1, 0, 0, 0, 0⟩ : S53)); (case aB => exact u7_0); (case aF => exact (fun _ _ => trivial)); (case aO => exact u7_11); (case aS => exact (below_size u7_0)); (case aL => have := LMc50.out; omega); intro v304 w55 ho hb hg hat; rw [← Ny303.out] at ho; have n0_ := Aside0.mk (blk_grown (g := gb284) (o := .cells #[.slice (some ad302) l0_0.length c0_0] 29 (0, 0)) u7_2 hg (Kd.R_ne HO_298000.out BK284.out (by decide))); have n1_ := Aside0.mk (blk_grown (g := gb285) (o := .cells #[.slice none 0 0] 29 (0, 0)) u7_3 hg (Kd.R_ne HO_298000.out BK285.out (by decide))); have n2_ := Aside0.mk (blk_grown (g := gb297) (o := .cells #[u298000] 29 (0, 0)) u7_9 hg (Kd.R_ne HO_298000.out BK297.out (by decide))); have n3_ := Aside0.mk (hb); have n4_ := Aside0.mk (ho); clear BK284; clear BK285; clear BK297; clear HB; clear HO_298000; have BK284 := n0_; have BK285 := n1_; have BK297 := n2_; have HB := n3_; have HO305 := n4_; clear n0_ n1_ n2_ n3_ n4_; clear ho hb hg hat; obtain ⟨Ao56, co56, eo56⟩ := Kd.R_slice HO305.out; subst eo56; have hcz57_0 : w55.cell? ⟨gb297, 0, none⟩ = some (u298000) := (blk_cell BK297.out 0).trans rfl; have hfz57_0 := blk_frozen BK297.out 0))
    have n0_ : Aside0 (Kd.R k53 53 (w55.setCell ⟨gb297, 0, none⟩ (.slice Ao56 y303.length co56)) w.heap.size (fun _ => True) (.slice Ao56 y303.length co56) y303) := ⟨by (with_reducible repeat (first | apply Kd.R_alloc | apply Kd.R_drewN | apply Kd.R_drew)); exact Kd.R_mono (Kd.R_far (p := ⟨gb297, 0, none⟩) (Kd.R_types HO305.out BK297.out (by decide)) (fun _ hk => hk.2) (.slice Ao56 y303.length co56)) (fun _ hk => trivial)⟩
    have n1_ : Aside0 ((w55.setCell ⟨gb297, 0, none⟩ (.slice Ao56 y303.length co56)).heap[gb284]? = some (.cells #[.slice (some ad302) l0_0.length c0_0] 29 (0, 0))) := ⟨by (with_reducible repeat (first | refine blk_drewN ?_ _ | refine blk_drew ?_ | refine blk_alloc ?_ _)); refine blk_far ?_ NB284_297.out _; (with_reducible repeat (first | refine blk_drewN ?_ _ | refine blk_drew ?_ | refine blk_alloc ?_ _)); exact BK284.out⟩
    have n2_ : Aside0 ((w55.setCell ⟨gb297, 0, none⟩ (.slice Ao56 y303.length co56)).heap[gb285]? = some (.cells #[.slice none 0 0] 29 (0, 0))) := ⟨by (with_reducible repeat (first | refine blk_drewN ?_ _ | refine blk_drew ?_ | refine blk_alloc ?_ _)); refine blk_far ?_ NB285_297.out _; (with_reducible repeat (first | refine blk_drewN ?_ _ | refine blk_drew ?_ | refine blk_alloc ?_ _)); exact BK285.out⟩
    have n3_ : Aside0 ((w55.setCell ⟨gb297, 0, none⟩ (.slice Ao56 y303.length co56)).heap[gb297]? = some (.cells #[.slice Ao56 y303.length co56] 29 (0, 0))) := ⟨by (with_reducible repeat (first | refine blk_drewN ?_ _ | refine blk_drew ?_ | refine blk_alloc ?_ _)); refine blk_put (cs := #[u298000]) ?_ 0 _ rfl; (with_reducible repeat (first | refine blk_drewN ?_ _ | refine blk_drew ?_ | refine blk_alloc ?_ _)); exact BK297.out⟩
    have n4_ : Aside0 (Below w.heap.size w (w55.setCell ⟨gb297, 0, none⟩ (.slice Ao56 y303.length co56))) := ⟨by repeat (first | (with_reducible first | exact HB.out | apply below_alloc | apply pw_below_drewN | apply below_drew1 | refine below_set ?_ GE284.out | refine below_set ?_ GE285.out | refine below_set ?_ GE297.out) | exact HB.out)⟩
    (try clear HO305)
    (try clear BK284)
    (try clear BK285)
    (try clear BK297)
    (try clear HB)
    generalize (w55.setCell ⟨gb297, 0, none⟩ (.slice Ao56 y303.length co56)) = w58 at n0_ n1_ n2_ n3_ n4_ ⊢
    have HO305 := n0_
    have BK284 := n1_
    have BK285 := n2_
    have BK297 := n3_
    have HB := n4_
    clear n0_ n1_ n2_ n3_ n4_
    have n0_ := Aside0.mk (Kd.R_drew HO305.out)
    have n1_ := Aside0.mk (blk_drew BK284.out)
    have n2_ := Aside0.mk (blk_drew BK285.out)
    have n3_ := Aside0.mk (blk_drew BK297.out)
    have n4_ := Aside0.mk (below_drew1 HB.out)
    clear HO305
    clear BK284
    clear BK285
    clear BK297
    clear HB
    have HO305 := n0_
    have BK284 := n1_
    have BK285 := n2_
    have BK297 := n3_
    have HB := n4_
    clear n0_ n1_ n2_ n3_ n4_
    have p306 : 0 ≤ (x8_1 : Int) := of_decide_eq_true u7_12
    have q306 : x8_1 < (l0_0.length : Int) := of_decide_eq_true u7_12
    obtain ⟨ad306, e306, hx306_0, hx306_1, hx306_2, hx306_3, hx306_4⟩ := at_T53 HR0_0.out x8_1 p306 q306
    have hw306_4 := hx306_4
    have hw306_3 := hx306_3
    have hw306_2 := hx306_2
    have hw306_1 := hx306_1
    have hw306_0 := hx306_0
    obtain rfl : ad302 = ad306 := (by injection e306)
    replace hx306_0 := (HB.out.cell (World.block_lt_of_cell? w _ hx306_0)).trans hx306_0
    replace hx306_1 := (HB.out.cell (World.block_lt_of_cell? w _ hx306_1)).trans hx306_1
    replace hx306_2 := (HB.out.cell (World.block_lt_of_cell? w _ hx306_2)).trans hx306_2
    replace hx306_3 := (HB.out.cell (World.block_lt_of_cell? w _ hx306_3)).trans hx306_3
    replace hx306_4 := (HB.out.cell (World.block_lt_of_cell? w _ hx306_4)).trans hx306_4
    replace p306 := eq_true p306
    replace q306 := eq_true q306
    refine start_ (n := 11) (S := fun w' => w'.cell? ⟨gb297, 0, none⟩ = some (.slice Ao56 y303.length co56) ∧ w'.cell? ⟨gb284, 0, none⟩ = some (.slice (some ad302) l0_0.length c0_0) ∧ w'.cell? (ad302.add ((x8_1).toNat * 5)) = some (.int .u64 ((rd_T53 l0_0 x8_1).f0)) ∧ w'.cell? ⟨(ad302.add ((x8_1).toNat * 5)).block, (ad302.add ((x8_1).toNat * 5)).off + 1, none⟩ = some (.int .u64 ((rd_T53 l0_0 x8_1).f1)) ∧ w'.cell? ⟨(ad302.add ((x8_1).toNat * 5)).block, (ad302.add ((x8_1).toNat * 5)).off + 2, none⟩ = some (.int .u64 ((rd_T53 l0_0 x8_1).f2)) ∧ w'.cell? ⟨(ad302.add ((x8_1).toNat * 5)).block, (ad302.add ((x8_1).toNat * 5)).off + 3, none⟩ = some (.int .u64 ((rd_T53 l0_0 x8_1).f3)) ∧ w'.cell? ⟨(ad302.add ((x8_1).toNat * 5)).block, (ad302.add ((x8_1).toNat * 5)).off + 4, none⟩ = some (.int .i64 ((rd_T53 l0_0 x8_1).f4))) (ds := [10]) #[false, false, false, false, false, false, false, false, false, false, false] (by kernel_rfl) rfl rfl ⟨(blk_cell BK297.out 0).trans rfl, (blk_cell BK284.out 0).trans rfl, ((HB.out.cell (World.block_lt_of_cell? w _ hw306_0)).trans hw306_0), ((HB.out.cell (World.block_lt_of_cell? w _ hw306_1)).trans hw306_1), ((HB.out.cell (World.block_lt_of_cell? w _ hw306_2)).trans hw306_2), ((HB.out.cell (World.block_lt_of_cell? w _ hw306_3)).trans hw306_3), ((HB.out.cell (World.block_lt_of_cell? w _ hw306_4)).trans hw306_4)⟩ (fun hHeld => ?_); refine with_tabW spec_OpenAccount.tab15 spec_OpenAccount.bits15 (fun HT_ HW_ => ?_)
    generalize w58.drew = w59 at HO305 BK284 BK285 BK297 HB hx306_0 hx306_1 hx306_2 hx306_3 hx306_4 hHeld ⊢
    refine pure_ (i := 0) (N := some 53) (v := ?_) (a' := ?_) #[true, false, false, false, false, false, false, false, false, false, false] rfl rfl (any_of HT_.out (by kernel_rfl)) (fun _ _ _ h => h) (Or.inl ⟨by rfl, ?_⟩) ?_ ?_
    rotate_left
    · intro w'
      go_simp
      with_reducible rfl
    rotate_left
    · simp only [Act.put, List.setIfInBounds_toArray, List.set_cons_zero, List.set_cons_succ, i64_w, i32_w]
      rfl
    refine pure_ (i := 2) (N := some 55) (v := ?_) (a' := ?_) #[true, false, true, false, false, false, false, false, false, false, false] rfl rfl (any_of HT_.out (by kernel_rfl)) (fun _ _ _ h => h) (Or.inl ⟨by rfl, ?_⟩) ?_ ?_
    rotate_left
    · intro w'
      go_simp
      with_reducible rfl
    rotate_left
    · simp only [Act.put, List.setIfInBounds_toArray, List.set_cons_zero, List.set_cons_succ, i64_w, i32_w]
      rfl
    refine pure_ (i := 4) (N := some 57) (v := ?_) (a' := ?_) #[true, false, true, false, true, false, false, false, false, false, false] rfl rfl (any_of HT_.out (by kernel_rfl)) (fun _ _ _ h => h) (Or.inl ⟨by rfl, ?_⟩) ?_ ?_
    rotate_left
    · intro w'
      go_simp
      with_reducible rfl
    rotate_left
    · simp only [Act.put, List.setIfInBounds_toArray, List.set_cons_zero, List.set_cons_succ, i64_w, i32_w]
      rfl
    refine take_ (i := 1) (N := some 54) (v := ?_) (a' := ?_) #[true, true, true, false, true, false, false, false, false, false, false] rfl rfl (take_ofW HT_.out HW_.out (by kernel_rfl)) (fun _ _ _ h => h) (Or.inl ⟨by rfl, ?_⟩) hHeld ?_ ?_
    rotate_left
    · rintro w' ⟨s0, s1, s2, s3, s4, s5, s6⟩
      go_simp
      with_reducible rfl
    rotate_left
    · simp only [Act.put, List.setIfInBounds_toArray, List.set_cons_zero, List.set_cons_succ, i64_w, i32_w]
      rfl
    refine take_ (i := 3) (N := some 56) (v := ?_) (a' := ?_) #[true, true, true, true, true, false, false, false, false, false, false] rfl rfl (take_ofW HT_.out HW_.out (by kernel_rfl)) (fun _ _ _ h => h) (Or.inl ⟨by rfl, ?_⟩) hHeld ?_ ?_
    rotate_left
    · rintro w' ⟨s0, s1, s2, s3, s4, s5, s6⟩
      go_simp
      with_reducible rfl
    rotate_left
    · simp only [Act.put, List.setIfInBounds_toArray, List.set_cons_zero, List.set_cons_succ, i64_w, i32_w]
      rfl
    refine pure_ (i := 5) (N := some 58) (v := ?_) (a' := ?_) #[true, true, true, true, true, true, false, false, false, false, false] rfl rfl (any_of HT_.out (by kernel_rfl)) (fun _ _ _ h => h) (Or.inl ⟨by rfl, ?_⟩) ?_ ?_
    rotate_left
    · intro w'
      go_simp
      with_reducible rfl
    rotate_left
    · simp only [Act.put, List.setIfInBounds_toArray, List.set_cons_zero, List.set_cons_succ, i64_w, i32_w]
      rfl
    refine take_ (i := 6) (N := some 59) (v := ?_) (a' := ?_) #[true, true, true, true, true, true, true, false, false, false, false] rfl rfl (take_ofW HT_.out HW_.out (by kernel_rfl)) (fun _ _ _ h => h) (Or.inl ⟨by rfl, ?_⟩) hHeld ?_ ?_
    rotate_left
    · rintro w' ⟨s0, s1, s2, s3, s4, s5, s6⟩
      go_simp
      with_reducible rfl
    rotate_left
    · simp only [Act.put, List.setIfInBounds_toArray, List.set_cons_zero, List.set_cons_succ, i64_w, i32_w]
      rfl
    refine one_ (i := 7) (N := some 60) #[true, true, true, true, true, true, true, true, false, false, false] rfl rfl (one_of HT_.out (by kernel_rfl)) (by decide) (fun K hK => ?_)
    refine value_ (w1 := ?_) (v := ?_) (by rfl) rfl ?_ ?_
    rotate_left 2
    · go_simp
      constructor
      · rfl
      rfl
    refine hK.out _ _ ⟨(blk_cell (blk_alloc BK297.out _) 0).trans rfl, (blk_cell (blk_alloc BK284.out _) 0).trans rfl, (World.cell?_alloc_lt _ _ _ (World.block_lt_of_cell? _ _ (((HB.out.cell (World.block_lt_of_cell? w _ hw306_0)).trans hw306_0)))).trans (((HB.out.cell (World.block_lt_of_cell? w _ hw306_0)).trans hw306_0)), (World.cell?_alloc_lt _ _ _ (World.block_lt_of_cell? _ _ (((HB.out.cell (World.block_lt_of_cell? w _ hw306_1)).trans hw306_1)))).trans (((HB.out.cell (World.block_lt_of_cell? w _ hw306_1)).trans hw306_1)), (World.cell?_alloc_lt _ _ _ (World.block_lt_of_cell? _ _ (((HB.out.cell (World.block_lt_of_cell? w _ hw306_2)).trans hw306_2)))).trans (((HB.out.cell (World.block_lt_of_cell? w _ hw306_2)).trans hw306_2)), (World.cell?_alloc_lt _ _ _ (World.block_lt_of_cell? _ _ (((HB.out.cell (World.block_lt_of_cell? w _ hw306_3)).trans hw306_3)))).trans (((HB.out.cell (World.block_lt_of_cell? w _ hw306_3)).trans hw306_3)), (World.cell?_alloc_lt _ _ _ (World.block_lt_of_cell? _ _ (((HB.out.cell (World.block_lt_of_cell? w _ hw306_4)).trans hw306_4)))).trans (((HB.out.cell (World.block_lt_of_cell? w _ hw306_4)).trans hw306_4))⟩ (fun hHeld => ?_)
    clear hK K
    refine norm_ (a' := ?_) ?_ ?_
    rotate_left
    · show Act.put _ (some 60) _ = _
      simp only [Act.put, List.setIfInBounds_toArray, List.set_cons_zero, List.set_cons_succ, i64_w, i32_w]
      rfl
    refine one_ (i := 8) (N := some 61) #[true, true, true, true, true, true, true, true, true, false, false] rfl rfl (one_of HT_.out (by kernel_rfl)) (by decide) (fun K hK => ?_)
    refine Kd.R_append_step k53 (w0 := w) w.heap.size (by rfl) (.tmp 54) (.tmp 60) 27 53 (.agg #[(.int .u64 0), (.int .u64 0), (.int .u64 0), (.int .u64 0), (.int .i64 0)]) 40 rfl Try.underlying27 info53 rfl (by decide) (by omega) (.slice Ao56 y303.length co56) y303 (⟨(rd_T53 l0_0 x8_1).f0, (rd_T53 l0_0 x8_1).f1, (rd_T53 l0_0 x8_1).f2, (rd_T53 l0_0 x8_1).f3, (rd_T53 l0_0 x8_1).f4⟩ : S53) [.int .u64 ((rd_T53 l0_0 x8_1).f0), .int .u64 ((rd_T53 l0_0 x8_1).f1), .int .u64 ((rd_T53 l0_0 x8_1).f2), .int .u64 ((rd_T53 l0_0 x8_1).f3), .int .i64 ((rd_T53 l0_0 x8_1).f4)] (fun _ => True) (fun _ => False) rfl rfl ?aP (fun _ hk => hk.elim) ?aF ?aO ?aB ?aS ?aL ?_
    (case aP => exact k53_mkM _ _ _ (⟨(rd_T53 l0_0 x8_1).f0, (rd_T53 l0_0 x8_1).f1, (rd_T53 l0_0 x8_1).f2, (rd_T53 l0_0 x8_1).f3, (rd_T53 l0_0 x8_1).f4⟩ : S53))
    (case aB => exact u7_0)
    (case aF => exact (fun _ _ => trivial))
    (case aO => exact (by (with_reducible repeat (first | apply Kd.R_alloc | apply Kd.R_drewN | apply Kd.R_drew)); exact HO305.out))
    (case aS => exact (below_size u7_0))
    (case aL => have := LMc51.out; omega)
    intro v308 w60 ho hb hg hat
    rw [← Ny307.out] at ho
    have n0_ := Aside0.mk (blk_grown (g := gb284) (o := .cells #[.slice (some ad302) l0_0.length c0_0] 29 (0, 0)) u7_2 hg (Kd.R_ne HO305.out BK284.out (by decide)))
    have n1_ := Aside0.mk (blk_grown (g := gb285) (o := .cells #[.slice none 0 0] 29 (0, 0)) u7_3 hg (Kd.R_ne HO305.out BK285.out (by decide)))
    have n2_ := Aside0.mk (blk_grown (g := gb297) (o := .cells #[.slice Ao56 y303.length co56] 29 (0, 0)) u7_9 hg (Kd.R_ne HO305.out BK297.out (by decide)))
    have n3_ := Aside0.mk (hb)
    have n4_ := Aside0.mk (ho)
    clear BK284
    clear BK285
    clear BK297
    clear HB
    clear HO305
    have BK284 := n0_
    have BK285 := n1_
    have BK297 := n2_
    have HB := n3_
    have HO309 := n4_
    clear n0_ n1_ n2_ n3_ n4_
    clear ho hb hg hat
    obtain ⟨Ao61, co61, eo61⟩ := Kd.R_slice HO309.out
    (first | subst eo61 | (injection eo61 with f1_ f2_ f3_; have f4_ := f1_.symm; have f5_ := f3_.symm; clear f1_ f2_ f3_; subst f4_; subst f5_))
    refine hK.out _ _ ⟨(blk_cell BK297.out 0).trans rfl, (blk_cell BK284.out 0).trans rfl, ((HB.out.cell (World.block_lt_of_cell? w _ hw306_0)).trans hw306_0), ((HB.out.cell (World.block_lt_of_cell? w _ hw306_1)).trans hw306_1), ((HB.out.cell (World.block_lt_of_cell? w _ hw306_2)).trans hw306_2), ((HB.out.cell (World.block_lt_of_cell? w _ hw306_3)).trans hw306_3), ((HB.out.cell (World.block_lt_of_cell? w _ hw306_4)).trans hw306_4)⟩ (fun hHeld => ?_)
    clear hK K
    refine norm_ (a' := ?_) ?_ ?_
    rotate_left
    · show Act.put _ (some 61) _ = _
      simp only [Act.put, List.setIfInBounds_toArray, List.set_cons_zero, List.set_cons_succ, i64_w, i32_w]
      rfl
    refine pure_ (i := 9) (N := some 62) (v := ?_) (a' := ?_) #[true, true, true, true, true, true, true, true, true, true, false] rfl rfl (any_of HT_.out (by kernel_rfl)) (fun _ _ _ h => h) (Or.inl ⟨by rfl, ?_⟩) ?_ ?_
    rotate_left
    · intro w'
      go_simp
      with_reducible rfl
    rotate_left
    · simp only [Act.put, List.setIfInBounds_toArray, List.set_cons_zero, List.set_cons_succ, i64_w, i32_w]
      rfl
    refine last_ (i := 10) (N := none) #[true, true, true, true, true, true, true, true, true, true, true] rfl rfl (one_of HT_.out (by kernel_rfl)) (by decide) (fun K hK => ?_)
    have hs62 : w60.cell? ⟨gb297, 0, none⟩ = some (.slice Ao56 y303.length co56) := (blk_cell BK297.out 0).trans rfl
    have hfs62 := blk_frozen BK297.out 0
    have hns62_0 := NB284_297.out
    have hns62_1 := NB285_297.out
    have hms62_0 := NB297_284.out
    have hms62_1 := NB297_285.out
    refine skip_ (w1 := ?_) (by rfl) rfl ?_ ?_
    rotate_left
    · go_simp
      rfl
    refine hK.out _ _ ?_
    clear hK K
    refine done_ (done_of HT_.out (by kernel_rfl)) ?_
    try go_wp2
    go_roundg k1
    case measure => have := HK1.out; omega
    case rel => exact ⟨(true), (wrap64 (x8_1 + 1)), (y307), (.slice Ao61 y307.length co61), u7_13, u7_13, H', ⟨by have := HK1.out; omega⟩, ⟨(by (with_reducible repeat (first | apply Kd.R_alloc | apply Kd.R_drewN | apply Kd.R_drew)); exact Kd.R_mono (Kd.R_far (p := ⟨gb297, 0, none⟩) (Kd.R_types HO309.out BK297.out (by decide)) (fun _ hk => hk.2) (.slice Ao61 y307.length co61)) (fun _ hk => trivial))⟩, ⟨u7_5⟩, ⟨u7_6⟩, ⟨(by (with_reducible repeat (first | refine blk_drewN ?_ _ | refine blk_drew ?_ | refine blk_alloc ?_ _)); refine blk_put (cs := #[.slice Ao56 y303.length co56]) ?_ 0 _ rfl; (with_reducible repeat (first | refine blk_drewN ?_ _ | refine blk_drew ?_ | refine blk_alloc ?_ _)); exact BK297.out)⟩, ⟨u7_0⟩⟩

end Go.Proofs.Ytdbfjakhkclggaa.QFnOpened
