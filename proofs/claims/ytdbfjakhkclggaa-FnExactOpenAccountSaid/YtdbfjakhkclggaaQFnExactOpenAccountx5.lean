-- Printed by the session's own program wip/prx.py.
import Derived.Test.YtdbfjakhkclggaaQFnExactOpenAccountx0
import Derived.Test.YtdbfjakhkclggaaQFnExactOpenAccountx3
import Derived.Test.YtdbfjakhkclggaaQFnExactOpenAccountx4
namespace Go.Proofs.Ytdbfjakhkclggaa.QFnExactOpenAccount
open Go.RowKit Go.Proofs.YtdbfjakhkclggaaW.PrintWords Go.Proofs.YtdbfjakhkclggaaW.PrintLast Go.Proofs.YtdbfjakhkclggaaW.PrintMore
attribute [local go_sem] max2_int min2_int max_two min_two max_three min_three max_four min_four Go.Proofs.Ytdbfjakhkclggaa.Set.isSome_setCell Go.Proofs.Ytdbfjakhkclggaa.Add.add64   -- for this text's walks alone
set_option linter.unusedVariables false
set_option linter.unusedSimpArgs false

-- squeezed
theorem u5_0 {P : Prop} (h : P := by repeat (first | (with_reducible first | exact HB.out | apply below_alloc | apply pw_below_drewN | apply below_drew1 | refine below_set ?_ GE158.out | refine below_set ?_ GE159.out | refine below_set ?_ GE171.out) | exact HB.out)) : P := h
theorem u5_1 {P : Prop} (h : P := by repeat (first | (with_reducible first | exact HB.out | apply below_alloc | apply pw_below_drewN | apply below_drew1 | refine below_set ?_ GE158.out | refine below_set ?_ GE159.out) | exact HB.out)) : P := h
theorem u5_2 {P : Prop} (h : P := by (with_reducible repeat (first | refine blk_drewN ?_ _ | refine blk_drew ?_ | refine blk_alloc ?_ _)); exact BK158.out) : P := h
theorem u5_3 {P : Prop} (h : P := by (with_reducible repeat (first | refine blk_drewN ?_ _ | refine blk_drew ?_ | refine blk_alloc ?_ _)); exact BK159.out) : P := h
theorem u5_4 {P : Prop} (h : P := by (with_reducible repeat (first | refine blk_drewN ?_ _ | refine blk_drew ?_ | refine blk_alloc ?_ _)); refine blk_put (cs := #[.slice none 0 0]) ?_ 0 _ rfl; (with_reducible repeat (first | refine blk_drewN ?_ _ | refine blk_drew ?_ | refine blk_alloc ?_ _)); exact BK159.out) : P := h
theorem u5_5 {P : Prop} (h : P := by (with_reducible repeat (first | refine blk_drewN ?_ _ | refine blk_drew ?_ | refine blk_alloc ?_ _)); refine blk_far ?_ NB158_171.out _; (with_reducible repeat (first | refine blk_drewN ?_ _ | refine blk_drew ?_ | refine blk_alloc ?_ _)); exact BK158.out) : P := h
theorem u5_6 {P : Prop} (h : P := by (with_reducible repeat (first | refine blk_drewN ?_ _ | refine blk_drew ?_ | refine blk_alloc ?_ _)); refine blk_far ?_ NB159_171.out _; (with_reducible repeat (first | refine blk_drewN ?_ _ | refine blk_drew ?_ | refine blk_alloc ?_ _)); exact BK159.out) : P := h
theorem u5_7 {P : Prop} (h : P := by repeat (first | exact (Kd.C_below HR0_0.out HB.out) | (with_reducible refine Kd.C_alloc ?_ _) | (with_reducible refine Kd.C_drewN ?_ _) | (with_reducible refine Kd.C_drew ?_))) : P := h
theorem u5_8 {P : Prop} (h : P := by (try simp only [List.map_toArray, List.map_cons, List.map_nil]); first | done | rfl | (simp only [List.length_drop, List.length_take]; rfl)) : P := h
theorem u5_9 {P : Prop} (h : P := by (with_reducible repeat (first | refine blk_drewN ?_ _ | refine blk_drew ?_ | refine blk_alloc ?_ _)); exact BK171.out) : P := h
theorem u5_10 {P : Prop} (h : P := by repeat (first | (with_reducible first | exact HB.out | apply below_alloc | apply pw_below_drewN | apply below_drew1 | refine below_set ?_ GE158.out) | exact HB.out)) : P := h
theorem u5_11 {P : Prop} (h : P := by (with_reducible repeat (first | apply Kd.R_alloc | apply Kd.R_drewN | apply Kd.R_drew)); exact HO_172000.out) : P := h
theorem u5_12 {P : Prop} (h : P := by first | (with_reducible assumption) | assumption) : P := h
theorem u5_13 {P : Prop} (h : P := by first | rfl | (simp; done) | (simp [*]; done)) : P := h
theorem u5_14 {P : Prop} (h : P := by (with_reducible repeat (first | refine blk_drewN ?_ _ | refine blk_drew ?_ | refine blk_alloc ?_ _)); refine blk_put (cs := #[u172000]) ?_ 0 _ rfl; (with_reducible repeat (first | refine blk_drewN ?_ _ | refine blk_drew ?_ | refine blk_alloc ?_ _)); exact BK171.out) : P := h
theorem u5_15 {P : Prop} (h : P := by repeat (first | (with_reducible first | exact HB.out | apply below_alloc | apply pw_below_drewN | apply below_drew1) | exact HB.out)) : P := h
/-! ### spec_OpenAccount: function 42 -/
def spec_OpenAccount.l0 : Nat → Int → Bool → Int → List (S53) → List (S53) → Option ((List (S53)) × Int)
  | 0, _, _, _, _, _ => none
  | k + 1, x1, x7, x8, x159000, x172000 => if x8 < (x159000.length : Int) then (if x7 = true then (if 0 ≤ x8 then (if x172000.length < 3518437208883 then (spec_OpenAccount.l0 k x1 x7 (wrap64 (x8 + 1)) x159000 (x172000 ++ [(⟨(rd_T53 x159000 x8).f0, (rd_T53 x159000 x8).f1, (rd_T53 x159000 x8).f2, (rd_T53 x159000 x8).f3, (rd_T53 x159000 x8).f4⟩ : S53)])) else (none)) else (none)) else (if 0 ≤ x8 then (if ((rd_T53 x159000 x8).f0) > x1 then (if x172000.length < 3518437208883 then ((some (x172000 ++ [(⟨x1, 0, 0, 0, 0⟩ : S53)] : List (S53))).bind fun y177 => (if y177.length < 3518437208883 then (spec_OpenAccount.l0 k x1 true (wrap64 (x8 + 1)) x159000 (y177 ++ [(⟨(rd_T53 x159000 x8).f0, (rd_T53 x159000 x8).f1, (rd_T53 x159000 x8).f2, (rd_T53 x159000 x8).f3, (rd_T53 x159000 x8).f4⟩ : S53)])) else (none))) else (none)) else (if x172000.length < 3518437208883 then (spec_OpenAccount.l0 k x1 x7 (wrap64 (x8 + 1)) x159000 (x172000 ++ [(⟨(rd_T53 x159000 x8).f0, (rd_T53 x159000 x8).f1, (rd_T53 x159000 x8).f2, (rd_T53 x159000 x8).f3, (rd_T53 x159000 x8).f4⟩ : S53)])) else (none))) else (none))) else (if x7 = true then (some (x172000, 0)) else (if x172000.length < 3518437208883 then (some ((x172000 ++ [(⟨x1, 0, 0, 0, 0⟩ : S53)]), 0)) else (none)))
def spec_OpenAccount.f (k : Nat) (l0_0 : List (S53)) (a1 : Int) : Option ((List (S53)) × Int) := (spec_BookOk.f k l0_0).bind fun t160 => (if t160 = true then ((spec_l10Find.f k l0_0 a1).bind fun t164 => (if t164 ≥ 0 then ((spec_l10Copy.f k l0_0).bind fun t165 => (some (t165, 3))) else (if (l0_0.length : Int) = 40 then ((spec_l10Copy.f k l0_0).bind fun t168 => (some (t168, 1))) else (spec_OpenAccount.l0 k a1 false 0 l0_0 ([] : List (S53)))))) else ((spec_l10Copy.f k l0_0).bind fun t161 => (some (t161, 1))))
theorem spec_OpenAccount.mono_l : ∀ k, (∀ y0 y1 y2 y3 y4, LeO (spec_OpenAccount.l0 k y0 y1 y2 y3 y4) (spec_OpenAccount.l0 (k + 1) y0 y1 y2 y3 y4))
  | 0 => fun _ _ _ _ _ r h => by simp [spec_OpenAccount.l0] at h
  | k + 1 => by
    have ih0 := spec_OpenAccount.mono_l k
    · intro y0 y1 y2 y3 y4
      unfold spec_OpenAccount.l0
      repeat' first
      | (with_reducible exact ih0 _ _ _ _ _)
      | (with_reducible exact spec_BookOk.mono _ _)
      | (with_reducible exact spec_l10Copy.mono _ _)
      | (with_reducible exact spec_l10Find.mono _ _ _)
      | (with_reducible exact LeO.refl _)
      | (with_reducible exact LeO.none _)
      | (with_reducible refine LeO.ite ?_ ?_)
      | (with_reducible refine LeO.bind ?_ (fun _ => ?_))
      | exact ih0 _ _ _ _ _
      | exact spec_BookOk.mono _ _
      | exact spec_l10Copy.mono _ _
      | exact spec_l10Find.mono _ _ _
      | exact LeO.none _
      | refine LeO.ite ?_ ?_
      | refine LeO.bind ?_ (fun _ => ?_)
theorem spec_OpenAccount.mono : ∀ a0 a1 k, LeO (spec_OpenAccount.f k a0 a1) (spec_OpenAccount.f (k + 1) a0 a1) := by
  intro a0 a1 k
  have ih0 := spec_OpenAccount.mono_l k
  unfold spec_OpenAccount.f
  repeat' first
      | (with_reducible exact ih0 _ _ _ _ _)
      | (with_reducible exact spec_BookOk.mono _ _)
      | (with_reducible exact spec_l10Copy.mono _ _)
      | (with_reducible exact spec_l10Find.mono _ _ _)
      | (with_reducible exact LeO.refl _)
      | (with_reducible exact LeO.none _)
      | (with_reducible refine LeO.ite ?_ ?_)
      | (with_reducible refine LeO.bind ?_ (fun _ => ?_))
      | exact ih0 _ _ _ _ _
      | exact spec_BookOk.mono _ _
      | exact spec_l10Copy.mono _ _
      | exact spec_l10Find.mono _ _ _
      | exact LeO.none _
      | refine LeO.ite ?_ ?_
      | refine LeO.bind ?_ (fun _ => ?_)
def spec_OpenAccount.T15 : Bool × List (List Nat × List Nat) := (true, [([], []), ([0], [0]), ([], []), ([2], [2]), ([], []), ([3, 4], [3, 4]), ([5], [5]), ([6], [6]), ([1, 7], [1, 7]), ([0, 1, 2, 3, 4, 5, 6, 7, 8], []), ([9, 8, 8, 0, 1, 2, 3, 4, 5, 6, 7, 8], [8, 9])])
def spec_OpenAccount.B15 : List Nat := [0, 1, 0, 4, 0, 28, 60, 124, 255, 511, 1023]
theorem spec_OpenAccount.tab15 : rtab .any (opsOf Try.f42 15) = spec_OpenAccount.T15 := by kernel_rfl
theorem spec_OpenAccount.bits15 : waitsOk spec_OpenAccount.T15.2 spec_OpenAccount.B15 = true := by kernel_rfl
set_option maxHeartbeats 8000000 in
set_option maxRecDepth 100000 in
theorem spec_OpenAccount.calls (k : Nat) (A0_0 : Option Addr) (c0_0 : Nat) (l0_0 : List (S53)) (a1 : Int) (r1 : List (S53)) (r2 : Int) (w : World) (hr0_0 : Kd.C k53 w A0_0 l0_0.length l0_0) (hc0_0 : l0_0.length ≤ c0_0) (h : spec_OpenAccount.f k l0_0 a1 = some (r1, r2)) :
    Calls Try.prog 42 #[.agg #[.slice A0_0 l0_0.length c0_0], .int .u64 a1] w fun e w' => ∃ v0_ : Value, e = .returned (.tuple #[.agg #[v0_], .int .i64 r2]) ∧ Kd.R k53 53 w' w.heap.size (fun _ => True) v0_ r1 ∧ Below w.heap.size w w' := by
  have hu29 := Try.underlying29
  have hu53 := Try.underlying53
  have HR0_0 := Aside0.mk hr0_0
  have HC0_0 := Aside0.mk hc0_0
  clear hr0_0 hc0_0
  have HB := Aside0.mk (Below.refl w.heap.size w)
  have H : ((spec_BookOk.f k l0_0).bind fun t160 => (if t160 = true then ((spec_l10Find.f k l0_0 a1).bind fun t164 => (if t164 ≥ 0 then ((spec_l10Copy.f k l0_0).bind fun t165 => (some (t165, 3))) else (if (l0_0.length : Int) = 40 then ((spec_l10Copy.f k l0_0).bind fun t168 => (some (t168, 1))) else (spec_OpenAccount.l0 k a1 false 0 l0_0 ([] : List (S53)))))) else ((spec_l10Copy.f k l0_0).bind fun t161 => (some (t161, 1))))) = some (r1, r2) := h
  clear h
  replace H := Option.bind_eq_some_iff.mp H
  obtain ⟨t160, A30, H⟩ := H
  replace H : (if t160 = true then ((spec_l10Find.f k l0_0 a1).bind fun t164 => (if t164 ≥ 0 then ((spec_l10Copy.f k l0_0).bind fun t165 => (some (t165, 3))) else (if (l0_0.length : Int) = 40 then ((spec_l10Copy.f k l0_0).bind fun t168 => (some (t168, 1))) else (spec_OpenAccount.l0 k a1 false 0 l0_0 ([] : List (S53)))))) else ((spec_l10Copy.f k l0_0).bind fun t161 => (some (t161, 1)))) = some (r1, r2) := H
  have A3 := Aside0.mk A30
  clear A30
  have H9 := Aside0.mk H
  clear H
  go_enter Try.func42, Try.ntmps42
  go_upto_if 11 with (first | ((with_reducible refine gate_dst (N := 2) rfl ?_); refine box_event ?hg (N := 2) ?hd (cs := #[.slice A0_0 l0_0.length c0_0]) (t := 29) ?hr ?_; (case hd => rfl); (case hg => rfl); (case hr => first | (go_simp; done) | (go_simp; rfl)); intro gb158 hg w4 hbox hb; have n0_ := Aside0.mk (below_step u5_15 hb); have n1_ := Aside0.mk (hbox); have n2_ := Aside0.mk ((by rw [hg]; exact (below_size u5_15) : w.heap.size ≤ gb158)); have n3_ := Aside0.mk ((by rw [hg]; exact (below_size u5_15) : w.heap.size ≤ gb158)); clear HB; have HB := n0_; have BK158 := n1_; have GW158 := n2_; have GE158 := n3_; clear n0_ n1_ n2_ n3_; clear hb hbox hg) | ((with_reducible refine gate_dst (N := 4) rfl ?_); refine box_event ?hg (N := 4) ?hd (cs := #[.slice none 0 0]) (t := 29) ?hr ?_; (case hd => rfl); (case hg => rfl); (case hr => first | (go_simp; done) | (go_simp; rfl)); intro gb159 hg w5 hbox hb; have n0_ := Aside0.mk (blk_below (g := gb158) (o := .cells #[.slice A0_0 l0_0.length c0_0] 29 (0, 0)) u5_2 hb); have n1_ := Aside0.mk (below_step u5_10 hb); have n2_ := Aside0.mk (hbox); have n3_ := Aside0.mk ((by rw [hg]; exact (below_size u5_10) : w.heap.size ≤ gb159)); have n4_ := Aside0.mk ((by rw [hg]; exact (below_size u5_10) : w.heap.size ≤ gb159)); have n5_ := Aside0.mk ((by rw [hg]; exact Nat.ne_of_lt (blk_lt (g := gb158) (o := .cells #[.slice A0_0 l0_0.length c0_0] 29 (0, 0)) u5_2) : gb158 ≠ gb159)); have n6_ := Aside0.mk ((by rw [hg]; exact Nat.ne_of_gt (blk_lt (g := gb158) (o := .cells #[.slice A0_0 l0_0.length c0_0] 29 (0, 0)) u5_2) : gb159 ≠ gb158)); clear BK158; clear HB; have BK158 := n0_; have HB := n1_; have BK159 := n2_; have GW159 := n3_; have GE159 := n4_; have NB158_159 := n5_; have NB159_158 := n6_; clear n0_ n1_ n2_ n3_ n4_ n5_ n6_; clear hb hbox hg; have hnb6 := NB158_159.out; have hnc6 := NB159_158.out; have hcz7_0 : w5.cell? ⟨gb158, 0, none⟩ = some (.slice A0_0 l0_0.length c0_0) := (blk_cell BK158.out 0).trans rfl; have hfz7_0 := blk_frozen BK158.out 0) | ((with_reducible refine gate_callee (f := 18) rfl ?_); refine goesL_ (some 10) rfl rfl Try.func18 (by kernel_rfl) rfl #[.agg #[.slice A0_0 l0_0.length c0_0]] rfl u5_8 ?_; (with_reducible refine (spec_BookOk.calls k _ _ l0_0 t160 _ ?side1 ?side2 A3.out).mono ?_); (case side1 => exact u5_7); (case side2 => exact HC0_0.out); rintro e w8 ⟨rfl, hb⟩; refine ⟨_, rfl, ?_⟩; have n0_ := Aside0.mk (blk_below (g := gb158) (o := .cells #[.slice A0_0 l0_0.length c0_0] 29 (0, 0)) u5_2 hb); have n1_ := Aside0.mk (blk_below (g := gb159) (o := .cells #[.slice none 0 0] 29 (0, 0)) u5_3 hb); have n2_ := Aside0.mk (below_step u5_1 hb); clear BK158; clear BK159; clear HB; have BK158 := n0_; have BK159 := n1_; have HB := n2_; clear n0_ n1_ n2_; (try clear hb); (try clear hb2); (try clear hk); (try clear hi)))
  have H := H9.out
  clear H9
  by_cases c9 : t160 = true
  rotate_left
  · replace c9 := Bool.eq_false_iff.mpr c9
    subst c9
    have H1 : ((spec_l10Copy.f k l0_0).bind fun t161 => (some (t161, 1))) = some (r1, r2) := by rw [if_neg (show ¬ (false = true) by decide)] at H; exact H
    clear H
    have H := H1
    clear H1
    replace H := Option.bind_eq_some_iff.mp H
    obtain ⟨t161, A860, H⟩ := H
    replace H : (some (t161, 1)) = some (r1, r2) := H
    have A86 := Aside0.mk A860
    clear A860
    simp only [Option.some.injEq, Prod.mk.injEq] at H
    obtain ⟨rfl, rfl⟩ := H
    have hnb87 := NB158_159.out
    have hnc87 := NB159_158.out
    have hcz88_0 : w8.cell? ⟨gb158, 0, none⟩ = some (.slice A0_0 l0_0.length c0_0) := (blk_cell BK158.out 0).trans rfl
    have hfz88_0 := blk_frozen BK158.out 0
    go_wp2_with (first | ((with_reducible refine gate_callee (f := 54) rfl ?_); refine goesL_ (some 13) rfl rfl Try.func54 (by kernel_rfl) rfl #[.agg #[.slice A0_0 l0_0.length c0_0]] rfl u5_8 ?_; (with_reducible refine (spec_l10Copy.calls k _ _ l0_0 t161 _ ?side1 ?side2 A86.out).mono ?_); (case side1 => exact u5_7); (case side2 => exact HC0_0.out); rintro e w89 ⟨v162, rfl, ho0, hb⟩; refine ⟨_, rfl, ?_⟩; have n0_ := Aside0.mk (Kd.R_lower ho0 (below_size u5_1)); have n1_ := Aside0.mk (blk_below (g := gb158) (o := .cells #[.slice A0_0 l0_0.length c0_0] 29 (0, 0)) u5_2 hb); have n2_ := Aside0.mk (blk_below (g := gb159) (o := .cells #[.slice none 0 0] 29 (0, 0)) u5_3 hb); have n3_ := Aside0.mk (below_step u5_1 hb); clear BK158; clear BK159; clear HB; have HO163 := n0_; have BK158 := n1_; have BK159 := n2_; have HB := n3_; clear n0_ n1_ n2_ n3_; (try clear hb); (try clear hb2); (try clear hk); (try clear hi); (try clear ho0); obtain ⟨Ao90, co90, eo90⟩ := Kd.R_slice HO163.out; subst eo90; have hcz91_0 : w89.cell? ⟨gb159, 0, none⟩ = some (.slice none 0 0) := (blk_cell BK159.out 0).trans rfl; have hfz91_0 := blk_frozen BK159.out 0))
    refine bodyPost_ret (results_ct rfl _ _ gb159 29 #[.slice Ao90 t161.length co90] (0, 0) _ rfl u5_4 Try.underlying29 rfl (by kernel_rfl)) rfl ?_
    exact ⟨_, by first | rfl | (simp [errW_none, errW_some] <;> rfl) | (simp [*, errW_none, errW_some] <;> rfl), (by (with_reducible repeat (first | apply Kd.R_alloc | apply Kd.R_drewN | apply Kd.R_drew)); exact Kd.R_mono (Kd.R_far (p := ⟨gb159, 0, none⟩) (Kd.R_types HO163.out BK159.out (by decide)) (fun _ hk => hk.2) (.slice Ao90 t161.length co90)) (fun _ hk => trivial)), u5_1⟩
  subst c9
  have H1 : ((spec_l10Find.f k l0_0 a1).bind fun t164 => (if t164 ≥ 0 then ((spec_l10Copy.f k l0_0).bind fun t165 => (some (t165, 3))) else (if (l0_0.length : Int) = 40 then ((spec_l10Copy.f k l0_0).bind fun t168 => (some (t168, 1))) else (spec_OpenAccount.l0 k a1 false 0 l0_0 ([] : List (S53)))))) = some (r1, r2) := by rw [if_pos rfl] at H; exact H
  clear H
  have H := H1
  clear H1
  replace H := Option.bind_eq_some_iff.mp H
  obtain ⟨t164, A100, H⟩ := H
  replace H : (if t164 ≥ 0 then ((spec_l10Copy.f k l0_0).bind fun t165 => (some (t165, 3))) else (if (l0_0.length : Int) = 40 then ((spec_l10Copy.f k l0_0).bind fun t168 => (some (t168, 1))) else (spec_OpenAccount.l0 k a1 false 0 l0_0 ([] : List (S53))))) = some (r1, r2) := H
  have A10 := Aside0.mk A100
  clear A100
  have H9 := Aside0.mk H
  clear H
  have hnb11 := NB158_159.out
  have hnc11 := NB159_158.out
  have hcz12_0 : w8.cell? ⟨gb158, 0, none⟩ = some (.slice A0_0 l0_0.length c0_0) := (blk_cell BK158.out 0).trans rfl
  have hfz12_0 := blk_frozen BK158.out 0
  go_upto_if 17 with (first | ((with_reducible refine gate_callee (f := 68) rfl ?_); refine goesL_ (some 16) rfl rfl Try.func68 (by kernel_rfl) rfl #[.agg #[.slice A0_0 l0_0.length c0_0], .int .u64 a1] rfl u5_8 ?_; (with_reducible refine (spec_l10Find.calls k _ _ l0_0 a1 t164 _ ?side1 ?side2 A10.out).mono ?_); (case side1 => exact u5_7); (case side2 => exact HC0_0.out); rintro e w13 ⟨rfl, hb⟩; refine ⟨_, rfl, ?_⟩; have n0_ := Aside0.mk (blk_below (g := gb158) (o := .cells #[.slice A0_0 l0_0.length c0_0] 29 (0, 0)) u5_2 hb); have n1_ := Aside0.mk (blk_below (g := gb159) (o := .cells #[.slice none 0 0] 29 (0, 0)) u5_3 hb); have n2_ := Aside0.mk (below_step u5_1 hb); clear BK158; clear BK159; clear HB; have BK158 := n0_; have BK159 := n1_; have HB := n2_; clear n0_ n1_ n2_; (try clear hb); (try clear hb2); (try clear hk); (try clear hi)))
  have H := H9.out
  clear H9
  by_cases c14 : t164 ≥ 0
  · rw [if_pos c14] at H
    have c14b0 : decide (0 ≤ t164) = true := decide_eq_true c14
    clear c14
    (first | rw [c14b0] | (simp only [i64_w, i32_w]; rw [c14b0]) | skip)
    replace H := Option.bind_eq_some_iff.mp H
    obtain ⟨t165, A150, H⟩ := H
    replace H : (some (t165, 3)) = some (r1, r2) := H
    have A15 := Aside0.mk A150
    clear A150
    simp only [Option.some.injEq, Prod.mk.injEq] at H
    obtain ⟨rfl, rfl⟩ := H
    have hnb16 := NB158_159.out
    have hnc16 := NB159_158.out
    have hcz17_0 : w13.cell? ⟨gb158, 0, none⟩ = some (.slice A0_0 l0_0.length c0_0) := (blk_cell BK158.out 0).trans rfl
    have hfz17_0 := blk_frozen BK158.out 0
    go_wp2_with (first | ((with_reducible refine gate_callee (f := 54) rfl ?_); refine goesL_ (some 19) rfl rfl Try.func54 (by kernel_rfl) rfl #[.agg #[.slice A0_0 l0_0.length c0_0]] rfl u5_8 ?_; (with_reducible refine (spec_l10Copy.calls k _ _ l0_0 t165 _ ?side1 ?side2 A15.out).mono ?_); (case side1 => exact u5_7); (case side2 => exact HC0_0.out); rintro e w18 ⟨v166, rfl, ho0, hb⟩; refine ⟨_, rfl, ?_⟩; have n0_ := Aside0.mk (Kd.R_lower ho0 (below_size u5_1)); have n1_ := Aside0.mk (blk_below (g := gb158) (o := .cells #[.slice A0_0 l0_0.length c0_0] 29 (0, 0)) u5_2 hb); have n2_ := Aside0.mk (blk_below (g := gb159) (o := .cells #[.slice none 0 0] 29 (0, 0)) u5_3 hb); have n3_ := Aside0.mk (below_step u5_1 hb); clear BK158; clear BK159; clear HB; have HO167 := n0_; have BK158 := n1_; have BK159 := n2_; have HB := n3_; clear n0_ n1_ n2_ n3_; (try clear hb); (try clear hb2); (try clear hk); (try clear hi); (try clear ho0); obtain ⟨Ao19, co19, eo19⟩ := Kd.R_slice HO167.out; subst eo19; have hcz20_0 : w18.cell? ⟨gb159, 0, none⟩ = some (.slice none 0 0) := (blk_cell BK159.out 0).trans rfl; have hfz20_0 := blk_frozen BK159.out 0))
    refine bodyPost_ret (results_ct rfl _ _ gb159 29 #[.slice Ao19 t165.length co19] (0, 0) _ rfl u5_4 Try.underlying29 rfl (by kernel_rfl)) rfl ?_
    exact ⟨_, by first | rfl | (simp [errW_none, errW_some] <;> rfl) | (simp [*, errW_none, errW_some] <;> rfl), (by (with_reducible repeat (first | apply Kd.R_alloc | apply Kd.R_drewN | apply Kd.R_drew)); exact Kd.R_mono (Kd.R_far (p := ⟨gb159, 0, none⟩) (Kd.R_types HO167.out BK159.out (by decide)) (fun _ hk => hk.2) (.slice Ao19 t165.length co19)) (fun _ hk => trivial)), u5_1⟩
  rw [if_neg c14] at H
  have c14b0 : decide (0 ≤ t164) = false := decide_eq_false c14
  clear c14
  (first | rw [c14b0] | (simp only [i64_w, i32_w]; rw [c14b0]) | skip)
  by_cases c21 : (l0_0.length : Int) = 40
  · rw [if_pos c21] at H
    have c21b0 : ((l0_0.length : Int) == 40) = true := beq_iff_eq.mpr c21
    have c21b1 : ((l0_0.length : Int) != 40) = false := bne_eq_false_iff_eq.mpr c21
    clear c21
    replace H := Option.bind_eq_some_iff.mp H
    obtain ⟨t168, A220, H⟩ := H
    replace H : (some (t168, 1)) = some (r1, r2) := H
    have A22 := Aside0.mk A220
    clear A220
    simp only [Option.some.injEq, Prod.mk.injEq] at H
    obtain ⟨rfl, rfl⟩ := H
    have hnb23 := NB158_159.out
    have hnc23 := NB159_158.out
    have hcz24_0 : w13.cell? ⟨gb158, 0, none⟩ = some (.slice A0_0 l0_0.length c0_0) := (blk_cell BK158.out 0).trans rfl
    have hfz24_0 := blk_frozen BK158.out 0
    go_wp2_with (first | ((with_reducible refine gate_callee (f := 54) rfl ?_); refine goesL_ (some 25) rfl rfl Try.func54 (by kernel_rfl) rfl #[.agg #[.slice A0_0 l0_0.length c0_0]] rfl u5_8 ?_; (with_reducible refine (spec_l10Copy.calls k _ _ l0_0 t168 _ ?side1 ?side2 A22.out).mono ?_); (case side1 => exact u5_7); (case side2 => exact HC0_0.out); rintro e w25 ⟨v169, rfl, ho0, hb⟩; refine ⟨_, rfl, ?_⟩; have n0_ := Aside0.mk (Kd.R_lower ho0 (below_size u5_1)); have n1_ := Aside0.mk (blk_below (g := gb158) (o := .cells #[.slice A0_0 l0_0.length c0_0] 29 (0, 0)) u5_2 hb); have n2_ := Aside0.mk (blk_below (g := gb159) (o := .cells #[.slice none 0 0] 29 (0, 0)) u5_3 hb); have n3_ := Aside0.mk (below_step u5_1 hb); clear BK158; clear BK159; clear HB; have HO170 := n0_; have BK158 := n1_; have BK159 := n2_; have HB := n3_; clear n0_ n1_ n2_ n3_; (try clear hb); (try clear hb2); (try clear hk); (try clear hi); (try clear ho0); obtain ⟨Ao26, co26, eo26⟩ := Kd.R_slice HO170.out; subst eo26; have hcz27_0 : w25.cell? ⟨gb159, 0, none⟩ = some (.slice none 0 0) := (blk_cell BK159.out 0).trans rfl; have hfz27_0 := blk_frozen BK159.out 0))
    refine bodyPost_ret (results_ct rfl _ _ gb159 29 #[.slice Ao26 t168.length co26] (0, 0) _ rfl u5_4 Try.underlying29 rfl (by kernel_rfl)) rfl ?_
    exact ⟨_, by first | rfl | (simp [errW_none, errW_some] <;> rfl) | (simp [*, errW_none, errW_some] <;> rfl), (by (with_reducible repeat (first | apply Kd.R_alloc | apply Kd.R_drewN | apply Kd.R_drew)); exact Kd.R_mono (Kd.R_far (p := ⟨gb159, 0, none⟩) (Kd.R_types HO170.out BK159.out (by decide)) (fun _ hk => hk.2) (.slice Ao26 t168.length co26)) (fun _ hk => trivial)), u5_1⟩
  rw [if_neg c21] at H
  have c21b0 : ((l0_0.length : Int) == 40) = false := beq_eq_false_iff_ne.mpr c21
  have c21b1 : ((l0_0.length : Int) != 40) = true := bne_iff_ne.mpr c21
  have H' := Aside0.mk H
  clear H
  have hnb28 := NB158_159.out
  have hnc28 := NB159_158.out
  have hcz29_0 : w13.cell? ⟨gb158, 0, none⟩ = some (.slice A0_0 l0_0.length c0_0) := (blk_cell BK158.out 0).trans rfl
  have hfz29_0 := blk_frozen BK158.out 0
  go_wp2_with (first | ((with_reducible refine gate_dst (N := 6) rfl ?_); refine box_event ?hg (N := 6) ?hd (cs := #[.slice none 0 0]) (t := 29) ?hr ?_; (case hd => rfl); (case hg => rfl); (case hr => first | (go_simp; done) | (go_simp; rfl)); intro gb171 hg w30 hbox hb; have n0_ := Aside0.mk (blk_below (g := gb158) (o := .cells #[.slice A0_0 l0_0.length c0_0] 29 (0, 0)) u5_2 hb); have n1_ := Aside0.mk (blk_below (g := gb159) (o := .cells #[.slice none 0 0] 29 (0, 0)) u5_3 hb); have n2_ := Aside0.mk (below_step u5_1 hb); have n3_ := Aside0.mk (hbox); have n4_ := Aside0.mk ((by rw [hg]; exact (below_size u5_1) : w.heap.size ≤ gb171)); have n5_ := Aside0.mk ((by rw [hg]; exact (below_size u5_1) : w.heap.size ≤ gb171)); have n6_ := Aside0.mk ((by rw [hg]; exact Nat.ne_of_lt (blk_lt (g := gb158) (o := .cells #[.slice A0_0 l0_0.length c0_0] 29 (0, 0)) u5_2) : gb158 ≠ gb171)); have n7_ := Aside0.mk ((by rw [hg]; exact Nat.ne_of_gt (blk_lt (g := gb158) (o := .cells #[.slice A0_0 l0_0.length c0_0] 29 (0, 0)) u5_2) : gb171 ≠ gb158)); have n8_ := Aside0.mk ((by rw [hg]; exact Nat.ne_of_lt (blk_lt (g := gb159) (o := .cells #[.slice none 0 0] 29 (0, 0)) u5_3) : gb159 ≠ gb171)); have n9_ := Aside0.mk ((by rw [hg]; exact Nat.ne_of_gt (blk_lt (g := gb159) (o := .cells #[.slice none 0 0] 29 (0, 0)) u5_3) : gb171 ≠ gb159)); clear BK158; clear BK159; clear HB; have BK158 := n0_; have BK159 := n1_; have HB := n2_; have BK171 := n3_; have GW171 := n4_; have GE171 := n5_; have NB158_171 := n6_; have NB171_158 := n7_; have NB159_171 := n8_; have NB171_159 := n9_; clear n0_ n1_ n2_ n3_ n4_ n5_ n6_ n7_ n8_ n9_; clear hb hbox hg; have hnb31 := NB171_158.out; have hnc31 := NB158_171.out; have hnb32 := NB171_159.out; have hnc32 := NB159_171.out; have hcz33_0 : w30.cell? ⟨gb171, 0, none⟩ = some (.slice none 0 0) := (blk_cell BK171.out 0).trans rfl; have hfz33_0 := blk_frozen BK171.out 0))
  go_loopg [7, 8] k (fun kq v7 v8 w' => ∃ (x7_1 : Bool) (x8_1 : Int) (x172000_1 : List (S53)) (u172000 : Value), v7 = .bool x7_1 ∧ v8 = .int .i64 x8_1 ∧ Aside0 (spec_OpenAccount.l0 kq a1 x7_1 x8_1 l0_0 x172000_1 = some (r1, r2)) ∧ Aside0 (kq ≤ k) ∧ Aside0 (Kd.R k53 53 w' w.heap.size (fun _ => True) u172000 x172000_1) ∧ Aside0 (w'.heap[gb158]? = some (.cells #[(.slice A0_0 l0_0.length c0_0)] 29 (0, 0))) ∧ Aside0 (w'.heap[gb159]? = some (.cells #[(.slice none 0 0)] 29 (0, 0))) ∧ Aside0 (w'.heap[gb171]? = some (.cells #[u172000] 29 (0, 0))) ∧ Aside0 (Below w.heap.size w w'))
  case atStart => exact ⟨(false), (0), (([] : List (S53))), (.slice none 0 0), u5_13, u5_13, H', ⟨Nat.le_refl _⟩, ⟨(by first | exact Kd.R_nil _ _ _ _ _ | exact Kd.N_nil _ _ _ _ _ | exact Kd.V_nil _ _ _ _ _ | exact Kd.Q_nil _ _ _ _ _ | exact Kd.S_nil _ _ _ _ _)⟩, ⟨u5_5⟩, ⟨u5_6⟩, ⟨(by (with_reducible repeat (first | refine blk_drewN ?_ _ | refine blk_drew ?_ | refine blk_alloc ?_ _)); refine blk_put (cs := #[.slice none 0 0]) ?_ 0 _ rfl; (with_reducible repeat (first | refine blk_drewN ?_ _ | refine blk_drew ?_ | refine blk_alloc ?_ _)); exact BK171.out)⟩, ⟨u5_0⟩⟩
  clear H'
  try clear c1
  try clear c2
  try clear p2
  try clear c3
  try clear c4
  try clear c5
  try clear c6
  try clear c9
  try clear c11
  try clear c14
  try clear c14b0
  try clear c16
  try clear c18
  try clear c21
  try clear c21b0
  try clear c21b1
  try clear c23
  try clear c28
  try clear c31
  try clear c32
  try clear hcz12_0
  try clear hcz17_0
  try clear hcz20_0
  try clear hcz24_0
  try clear hcz27_0
  try clear hcz29_0
  try clear hcz33_0
  try clear hcz7_0
  try clear hfz12_0
  try clear hfz17_0
  try clear hfz20_0
  try clear hfz24_0
  try clear hfz27_0
  try clear hfz29_0
  try clear hfz33_0
  try clear hfz7_0
  obtain ⟨x7_1, x8_1, x172000_1, u172000, rfl, rfl, HA, HK1, HO_172000, BK158, BK159, BK171, HB⟩ := hrel
  cases gk with
  | zero => exact absurd HA.out (by simp [spec_OpenAccount.l0])
  | succ k1 =>
    have H := HA.out
    clear HA
    simp only [spec_OpenAccount.l0] at H
    by_cases c34 : x8_1 < (l0_0.length : Int)
    rotate_left
    · rw [if_neg c34] at H
      have c34b0 : decide (x8_1 < (l0_0.length : Int)) = false := decide_eq_false c34
      clear c34
      by_cases c68 : x7_1 = true
      · subst c68
        have H1 : (some (x172000_1, 0)) = some (r1, r2) := by rw [if_pos rfl] at H; exact H
        clear H
        have H := H1
        clear H1
        simp only [Option.some.injEq, Prod.mk.injEq] at H
        obtain ⟨rfl, rfl⟩ := H
        have hnb69 := NB158_159.out
        have hnc69 := NB159_158.out
        have hnb70 := NB158_171.out
        have hnc70 := NB171_158.out
        have hcz71_0 : wr.cell? ⟨gb158, 0, none⟩ = some (.slice A0_0 l0_0.length c0_0) := (blk_cell BK158.out 0).trans rfl
        have hfz71_0 := blk_frozen BK158.out 0
        have hnb72 := NB171_159.out
        have hnc72 := NB159_171.out
        have hcz73_0 : wr.cell? ⟨gb171, 0, none⟩ = some (u172000) := (blk_cell BK171.out 0).trans rfl
        have hfz73_0 := blk_frozen BK171.out 0
        obtain ⟨Ao74, co74, eo74⟩ := Kd.R_slice HO_172000.out
        subst eo74
        have hcz75_0 : wr.cell? ⟨gb159, 0, none⟩ = some (.slice none 0 0) := (blk_cell BK159.out 0).trans rfl
        have hfz75_0 := blk_frozen BK159.out 0
        go_wp2
        refine bodyPost_ret (results_ct rfl _ _ gb159 29 #[.slice Ao74 x172000_1.length co74] (0, 0) _ rfl u5_4 Try.underlying29 rfl (by kernel_rfl)) rfl ?_
        exact ⟨_, by first | rfl | (simp [errW_none, errW_some] <;> rfl) | (simp [*, errW_none, errW_some] <;> rfl), (by (with_reducible repeat (first | apply Kd.R_alloc | apply Kd.R_drewN | apply Kd.R_drew)); exact Kd.R_mono (Kd.R_far (p := ⟨gb159, 0, none⟩) (Kd.R_types HO_172000.out BK159.out (by decide)) (fun _ hk => hk.2) (.slice Ao74 x172000_1.length co74)) (fun _ hk => trivial)), u5_0⟩
      replace c68 := Bool.eq_false_iff.mpr c68
      subst c68
      have H1 : (if x172000_1.length < 3518437208883 then (some ((x172000_1 ++ [(⟨a1, 0, 0, 0, 0⟩ : S53)]), 0)) else (none)) = some (r1, r2) := by rw [if_neg (show ¬ (false = true) by decide)] at H; exact H
      clear H
      have H := H1
      clear H1
      by_cases c76 : x172000_1.length < 3518437208883
      rotate_left
      · rw [if_neg c76] at H
        exact absurd H (by simp)
      rw [if_pos c76] at H
      have LMc76 := Aside0.mk c76
      clear c76
      obtain ⟨y188, hy188⟩ : ∃ y_ : List (S53), y_ = (x172000_1 ++ [(⟨a1, 0, 0, 0, 0⟩ : S53)]) := ⟨_, rfl⟩
      replace H : (some (y188, 0)) = some (r1, r2) := by first | (rw [hy188]; with_reducible exact H) | (have H2_ := (Option.bind_some _ _).symm.trans H; rw [hy188]; with_reducible exact H2_) | (have H2_ := (Option.bind_some _ _).symm.trans H; with_reducible exact H2_) | with_reducible exact H | (rw [hy188]; exact H) | exact H
      have Ny188 := Aside0.mk hy188
      clear hy188
      simp only [Option.some.injEq, Prod.mk.injEq] at H
      obtain ⟨rfl, rfl⟩ := H
      have hnb77 := NB158_159.out
      have hnc77 := NB159_158.out
      have hnb78 := NB158_171.out
      have hnc78 := NB171_158.out
      have hcz79_0 : wr.cell? ⟨gb158, 0, none⟩ = some (.slice A0_0 l0_0.length c0_0) := (blk_cell BK158.out 0).trans rfl
      have hfz79_0 := blk_frozen BK158.out 0
      have hnb80 := NB171_159.out
      have hnc80 := NB159_171.out
      have hcz81_0 : wr.cell? ⟨gb171, 0, none⟩ = some (u172000) := (blk_cell BK171.out 0).trans rfl
      have hfz81_0 := blk_frozen BK171.out 0
      go_wp2_with (first | ((with_reducible refine gate_builtin (b := .append) (xs := #[.tmp 66, .tmp 69]) rfl ?_); at_builtin; refine Kd.R_append k53 (w0 := w) w.heap.size rfl (.tmp 66) (.tmp 69) 27 53 (.agg #[(.int .u64 0), (.int .u64 0), (.int .u64 0), (.int .u64 0), (.int .i64 0)]) 40 rfl Try.underlying27 info53 rfl (by decide) (by omega) u172000 x172000_1 (⟨a1, 0, 0, 0, 0⟩ : S53) [.int .u64 a1, .int .u64 0, .int .u64 0, .int .u64 0, .int .i64 0] (fun _ => True) (fun _ => False) rfl rfl ?aP (fun _ hk => hk.elim) ?aF ?aO ?aB ?aS ?aL ?_; (case aP => exact k53_mkM _ _ _ (⟨a1, 0, 0, 0, 0⟩ : S53)); (case aB => exact u5_0); (case aF => exact (fun _ _ => trivial)); (case aO => exact u5_11); (case aS => exact (below_size u5_0)); (case aL => have := LMc76.out; omega); intro v189 w82 ho hb hg hat; rw [← Ny188.out] at ho; have n0_ := Aside0.mk (blk_grown (g := gb158) (o := .cells #[.slice A0_0 l0_0.length c0_0] 29 (0, 0)) u5_2 hg (Kd.R_ne HO_172000.out BK158.out (by decide))); have n1_ := Aside0.mk (blk_grown (g := gb159) (o := .cells #[.slice none 0 0] 29 (0, 0)) u5_3 hg (Kd.R_ne HO_172000.out BK159.out (by decide))); have n2_ := Aside0.mk (blk_grown (g := gb171) (o := .cells #[u172000] 29 (0, 0)) u5_9 hg (Kd.R_ne HO_172000.out BK171.out (by decide))); have n3_ := Aside0.mk (hb); have n4_ := Aside0.mk (ho); clear BK158; clear BK159; clear BK171; clear HB; clear HO_172000; have BK158 := n0_; have BK159 := n1_; have BK171 := n2_; have HB := n3_; have HO190 := n4_; clear n0_ n1_ n2_ n3_ n4_; clear ho hb hg hat; obtain ⟨Ao83, co83, eo83⟩ := Kd.R_slice HO190.out; subst eo83; have hcz84_0 : w82.cell? ⟨gb171, 0, none⟩ = some (u172000) := (blk_cell BK171.out 0).trans rfl; have hfz84_0 := blk_frozen BK171.out 0; have hcz85_0 : w82.cell? ⟨gb159, 0, none⟩ = some (.slice none 0 0) := (blk_cell BK159.out 0).trans rfl; have hfz85_0 := blk_frozen BK159.out 0))
      refine bodyPost_ret (results_ct rfl _ _ gb159 29 #[.slice Ao83 y188.length co83] (0, 0) _ rfl (by (with_reducible repeat (first | refine blk_drewN ?_ _ | refine blk_drew ?_ | refine blk_alloc ?_ _)); refine blk_put (cs := #[.slice none 0 0]) ?_ 0 _ rfl; (with_reducible repeat (first | refine blk_drewN ?_ _ | refine blk_drew ?_ | refine blk_alloc ?_ _)); refine blk_far ?_ NB159_171.out _; (with_reducible repeat (first | refine blk_drewN ?_ _ | refine blk_drew ?_ | refine blk_alloc ?_ _)); exact BK159.out) Try.underlying29 rfl (by kernel_rfl)) rfl ?_
      exact ⟨_, by first | rfl | (simp [errW_none, errW_some] <;> rfl) | (simp [*, errW_none, errW_some] <;> rfl), (by (with_reducible repeat (first | apply Kd.R_alloc | apply Kd.R_drewN | apply Kd.R_drew)); exact Kd.R_mono (Kd.R_far (p := ⟨gb159, 0, none⟩) (Kd.R_far (p := ⟨gb171, 0, none⟩) (Kd.R_types (Kd.R_types HO190.out BK171.out (by decide)) BK159.out (by decide)) (fun _ hk => hk.1.2) (.slice Ao83 y188.length co83)) (fun _ hk => hk.2) (.slice Ao83 y188.length co83)) (fun _ hk => trivial)), u5_0⟩
    rw [if_pos c34] at H
    have c34b0 : decide (x8_1 < (l0_0.length : Int)) = true := decide_eq_true c34
    clear c34
    by_cases c35 : x7_1 = true
    · subst c35
      have H1 : (if 0 ≤ x8_1 then (if x172000_1.length < 3518437208883 then (spec_OpenAccount.l0 k1 a1 true (wrap64 (x8_1 + 1)) l0_0 (x172000_1 ++ [(⟨(rd_T53 l0_0 x8_1).f0, (rd_T53 l0_0 x8_1).f1, (rd_T53 l0_0 x8_1).f2, (rd_T53 l0_0 x8_1).f3, (rd_T53 l0_0 x8_1).f4⟩ : S53)])) else (none)) else (none)) = some (r1, r2) := by rw [if_pos rfl] at H; exact H
      clear H
      have H := H1
      clear H1
      by_cases c36 : 0 ≤ x8_1
      rotate_left
      · rw [if_neg c36] at H
        exact absurd H (by simp)
      rw [if_pos c36] at H
      have c36b0 : decide (0 ≤ x8_1) = true := decide_eq_true c36
      clear c36
      by_cases c37 : x172000_1.length < 3518437208883
      rotate_left
      · rw [if_neg c37] at H
        exact absurd H (by simp)
      rw [if_pos c37] at H
      have LMc37 := Aside0.mk c37
      clear c37
      obtain ⟨y173, hy173⟩ : ∃ y_ : List (S53), y_ = (x172000_1 ++ [(⟨(rd_T53 l0_0 x8_1).f0, (rd_T53 l0_0 x8_1).f1, (rd_T53 l0_0 x8_1).f2, (rd_T53 l0_0 x8_1).f3, (rd_T53 l0_0 x8_1).f4⟩ : S53)]) := ⟨_, rfl⟩
      replace H : (spec_OpenAccount.l0 k1 a1 true (wrap64 (x8_1 + 1)) l0_0 y173) = some (r1, r2) := by first | (rw [hy173]; with_reducible exact H) | (have H2_ := (Option.bind_some _ _).symm.trans H; rw [hy173]; with_reducible exact H2_) | (have H2_ := (Option.bind_some _ _).symm.trans H; with_reducible exact H2_) | with_reducible exact H | (rw [hy173]; exact H) | exact H
      have Ny173 := Aside0.mk hy173
      clear hy173
      have H' := Aside0.mk H
      clear H
      have hnb38 := NB158_159.out
      have hnc38 := NB159_158.out
      have hnb39 := NB158_171.out
      have hnc39 := NB171_158.out
      have hcz40_0 : wr.cell? ⟨gb158, 0, none⟩ = some (.slice A0_0 l0_0.length c0_0) := (blk_cell BK158.out 0).trans rfl
      have hfz40_0 := blk_frozen BK158.out 0
      try go_wp2
      have n0_ := Aside0.mk (Kd.R_drew HO_172000.out)
      have n1_ := Aside0.mk (blk_drew BK158.out)
      have n2_ := Aside0.mk (blk_drew BK159.out)
      have n3_ := Aside0.mk (blk_drew BK171.out)
      have n4_ := Aside0.mk (below_drew1 HB.out)
      clear HO_172000
      clear BK158
      clear BK159
      clear BK171
      clear HB
      have HO_172000 := n0_
      have BK158 := n1_
      have BK159 := n2_
      have BK171 := n3_
      have HB := n4_
      clear n0_ n1_ n2_ n3_ n4_
      have p172 : 0 ≤ (x8_1 : Int) := of_decide_eq_true u5_12
      have q172 : x8_1 < (l0_0.length : Int) := of_decide_eq_true u5_12
      obtain ⟨ad172, e172, hx172_0, hx172_1, hx172_2, hx172_3, hx172_4⟩ := at_T53 HR0_0.out x8_1 p172 q172
      have hw172_4 := hx172_4
      have hw172_3 := hx172_3
      have hw172_2 := hx172_2
      have hw172_1 := hx172_1
      have hw172_0 := hx172_0
      cases e172
      replace hx172_0 := (HB.out.cell (World.block_lt_of_cell? w _ hx172_0)).trans hx172_0
      replace hx172_1 := (HB.out.cell (World.block_lt_of_cell? w _ hx172_1)).trans hx172_1
      replace hx172_2 := (HB.out.cell (World.block_lt_of_cell? w _ hx172_2)).trans hx172_2
      replace hx172_3 := (HB.out.cell (World.block_lt_of_cell? w _ hx172_3)).trans hx172_3
      replace hx172_4 := (HB.out.cell (World.block_lt_of_cell? w _ hx172_4)).trans hx172_4
      replace p172 := eq_true p172
      replace q172 := eq_true q172
      refine start_ (n := 11) (S := fun w' => w'.cell? ⟨gb171, 0, none⟩ = some (u172000) ∧ w'.cell? ⟨gb158, 0, none⟩ = some (.slice (some ad172) l0_0.length c0_0) ∧ w'.cell? (ad172.add ((x8_1).toNat * 5)) = some (.int .u64 ((rd_T53 l0_0 x8_1).f0)) ∧ w'.cell? ⟨(ad172.add ((x8_1).toNat * 5)).block, (ad172.add ((x8_1).toNat * 5)).off + 1, none⟩ = some (.int .u64 ((rd_T53 l0_0 x8_1).f1)) ∧ w'.cell? ⟨(ad172.add ((x8_1).toNat * 5)).block, (ad172.add ((x8_1).toNat * 5)).off + 2, none⟩ = some (.int .u64 ((rd_T53 l0_0 x8_1).f2)) ∧ w'.cell? ⟨(ad172.add ((x8_1).toNat * 5)).block, (ad172.add ((x8_1).toNat * 5)).off + 3, none⟩ = some (.int .u64 ((rd_T53 l0_0 x8_1).f3)) ∧ w'.cell? ⟨(ad172.add ((x8_1).toNat * 5)).block, (ad172.add ((x8_1).toNat * 5)).off + 4, none⟩ = some (.int .i64 ((rd_T53 l0_0 x8_1).f4))) (ds := [10]) #[false, false, false, false, false, false, false, false, false, false, false] (by kernel_rfl) rfl rfl ⟨(blk_cell BK171.out 0).trans rfl, (blk_cell BK158.out 0).trans rfl, ((HB.out.cell (World.block_lt_of_cell? w _ hw172_0)).trans hw172_0), ((HB.out.cell (World.block_lt_of_cell? w _ hw172_1)).trans hw172_1), ((HB.out.cell (World.block_lt_of_cell? w _ hw172_2)).trans hw172_2), ((HB.out.cell (World.block_lt_of_cell? w _ hw172_3)).trans hw172_3), ((HB.out.cell (World.block_lt_of_cell? w _ hw172_4)).trans hw172_4)⟩ (fun hHeld => ?_); refine with_tabW spec_OpenAccount.tab15 spec_OpenAccount.bits15 (fun HT_ HW_ => ?_)
      generalize wr.drew = w41 at HO_172000 BK158 BK159 BK171 HB hx172_0 hx172_1 hx172_2 hx172_3 hx172_4 hHeld ⊢
      refine pure_ (i := 0) (N := some 53) (v := ?_) (a' := ?_) #[true, false, false, false, false, false, false, false, false, false, false] rfl rfl (any_of HT_.out (by kernel_rfl)) (fun _ _ _ h => h) (Or.inl ⟨by rfl, ?_⟩) ?_ ?_
      rotate_left
      · intro w'
        go_simp
        with_reducible rfl
      rotate_left
      · simp only [Act.put, List.setIfInBounds_toArray, List.set_cons_zero, List.set_cons_succ, i64_w, i32_w]
        rfl
      refine pure_ (i := 2) (N := some 55) (v := ?_) (a' := ?_) #[true, false, true, false, false, false, false, false, false, false, false] rfl rfl (any_of HT_.out (by kernel_rfl)) (fun _ _ _ h => h) (Or.inl ⟨by rfl, ?_⟩) ?_ ?_
      rotate_left
      · intro w'
        go_simp
        with_reducible rfl
      rotate_left
      · simp only [Act.put, List.setIfInBounds_toArray, List.set_cons_zero, List.set_cons_succ, i64_w, i32_w]
        rfl
      refine pure_ (i := 4) (N := some 57) (v := ?_) (a' := ?_) #[true, false, true, false, true, false, false, false, false, false, false] rfl rfl (any_of HT_.out (by kernel_rfl)) (fun _ _ _ h => h) (Or.inl ⟨by rfl, ?_⟩) ?_ ?_
      rotate_left
      · intro w'
        go_simp
        with_reducible rfl
      rotate_left
      · simp only [Act.put, List.setIfInBounds_toArray, List.set_cons_zero, List.set_cons_succ, i64_w, i32_w]
        rfl
      refine take_ (i := 1) (N := some 54) (v := ?_) (a' := ?_) #[true, true, true, false, true, false, false, false, false, false, false] rfl rfl (take_ofW HT_.out HW_.out (by kernel_rfl)) (fun _ _ _ h => h) (Or.inl ⟨by rfl, ?_⟩) hHeld ?_ ?_
      rotate_left
      · rintro w' ⟨s0, s1, s2, s3, s4, s5, s6⟩
        go_simp
        with_reducible rfl
      rotate_left
      · simp only [Act.put, List.setIfInBounds_toArray, List.set_cons_zero, List.set_cons_succ, i64_w, i32_w]
        rfl
      refine take_ (i := 3) (N := some 56) (v := ?_) (a' := ?_) #[true, true, true, true, true, false, false, false, false, false, false] rfl rfl (take_ofW HT_.out HW_.out (by kernel_rfl)) (fun _ _ _ h => h) (Or.inl ⟨by rfl, ?_⟩) hHeld ?_ ?_
      rotate_left
      · rintro w' ⟨s0, s1, s2, s3, s4, s5, s6⟩
        go_simp
        with_reducible rfl
      rotate_left
      · simp only [Act.put, List.setIfInBounds_toArray, List.set_cons_zero, List.set_cons_succ, i64_w, i32_w]
        rfl
      refine pure_ (i := 5) (N := some 58) (v := ?_) (a' := ?_) #[true, true, true, true, true, true, false, false, false, false, false] rfl rfl (any_of HT_.out (by kernel_rfl)) (fun _ _ _ h => h) (Or.inl ⟨by rfl, ?_⟩) ?_ ?_
      rotate_left
      · intro w'
        go_simp
        with_reducible rfl
      rotate_left
      · simp only [Act.put, List.setIfInBounds_toArray, List.set_cons_zero, List.set_cons_succ, i64_w, i32_w]
        rfl
      refine take_ (i := 6) (N := some 59) (v := ?_) (a' := ?_) #[true, true, true, true, true, true, true, false, false, false, false] rfl rfl (take_ofW HT_.out HW_.out (by kernel_rfl)) (fun _ _ _ h => h) (Or.inl ⟨by rfl, ?_⟩) hHeld ?_ ?_
      rotate_left
      · rintro w' ⟨s0, s1, s2, s3, s4, s5, s6⟩
        go_simp
        with_reducible rfl
      rotate_left
      · simp only [Act.put, List.setIfInBounds_toArray, List.set_cons_zero, List.set_cons_succ, i64_w, i32_w]
        rfl
      refine one_ (i := 7) (N := some 60) #[true, true, true, true, true, true, true, true, false, false, false] rfl rfl (one_of HT_.out (by kernel_rfl)) (by decide) (fun K hK => ?_)
      refine value_ (w1 := ?_) (v := ?_) (by rfl) rfl ?_ ?_
      rotate_left 2
      · go_simp
        constructor
        · rfl
        rfl
      refine hK.out _ _ ⟨(blk_cell (blk_alloc BK171.out _) 0).trans rfl, (blk_cell (blk_alloc BK158.out _) 0).trans rfl, (World.cell?_alloc_lt _ _ _ (World.block_lt_of_cell? _ _ (((HB.out.cell (World.block_lt_of_cell? w _ hw172_0)).trans hw172_0)))).trans (((HB.out.cell (World.block_lt_of_cell? w _ hw172_0)).trans hw172_0)), (World.cell?_alloc_lt _ _ _ (World.block_lt_of_cell? _ _ (((HB.out.cell (World.block_lt_of_cell? w _ hw172_1)).trans hw172_1)))).trans (((HB.out.cell (World.block_lt_of_cell? w _ hw172_1)).trans hw172_1)), (World.cell?_alloc_lt _ _ _ (World.block_lt_of_cell? _ _ (((HB.out.cell (World.block_lt_of_cell? w _ hw172_2)).trans hw172_2)))).trans (((HB.out.cell (World.block_lt_of_cell? w _ hw172_2)).trans hw172_2)), (World.cell?_alloc_lt _ _ _ (World.block_lt_of_cell? _ _ (((HB.out.cell (World.block_lt_of_cell? w _ hw172_3)).trans hw172_3)))).trans (((HB.out.cell (World.block_lt_of_cell? w _ hw172_3)).trans hw172_3)), (World.cell?_alloc_lt _ _ _ (World.block_lt_of_cell? _ _ (((HB.out.cell (World.block_lt_of_cell? w _ hw172_4)).trans hw172_4)))).trans (((HB.out.cell (World.block_lt_of_cell? w _ hw172_4)).trans hw172_4))⟩ (fun hHeld => ?_)
      clear hK K
      refine norm_ (a' := ?_) ?_ ?_
      rotate_left
      · show Act.put _ (some 60) _ = _
        simp only [Act.put, List.setIfInBounds_toArray, List.set_cons_zero, List.set_cons_succ, i64_w, i32_w]
        rfl
      refine one_ (i := 8) (N := some 61) #[true, true, true, true, true, true, true, true, true, false, false] rfl rfl (one_of HT_.out (by kernel_rfl)) (by decide) (fun K hK => ?_)
      refine Kd.R_append_step k53 (w0 := w) w.heap.size (by rfl) (.tmp 54) (.tmp 60) 27 53 (.agg #[(.int .u64 0), (.int .u64 0), (.int .u64 0), (.int .u64 0), (.int .i64 0)]) 40 rfl Try.underlying27 info53 rfl (by decide) (by omega) u172000 x172000_1 (⟨(rd_T53 l0_0 x8_1).f0, (rd_T53 l0_0 x8_1).f1, (rd_T53 l0_0 x8_1).f2, (rd_T53 l0_0 x8_1).f3, (rd_T53 l0_0 x8_1).f4⟩ : S53) [.int .u64 ((rd_T53 l0_0 x8_1).f0), .int .u64 ((rd_T53 l0_0 x8_1).f1), .int .u64 ((rd_T53 l0_0 x8_1).f2), .int .u64 ((rd_T53 l0_0 x8_1).f3), .int .i64 ((rd_T53 l0_0 x8_1).f4)] (fun _ => True) (fun _ => False) rfl rfl ?aP (fun _ hk => hk.elim) ?aF ?aO ?aB ?aS ?aL ?_
      (case aP => exact k53_mkM _ _ _ (⟨(rd_T53 l0_0 x8_1).f0, (rd_T53 l0_0 x8_1).f1, (rd_T53 l0_0 x8_1).f2, (rd_T53 l0_0 x8_1).f3, (rd_T53 l0_0 x8_1).f4⟩ : S53))
      (case aB => exact u5_0)
      (case aF => exact (fun _ _ => trivial))
      (case aO => exact u5_11)
      (case aS => exact (below_size u5_0))
      (case aL => have := LMc37.out; omega)
      intro v174 w42 ho hb hg hat
      rw [← Ny173.out] at ho
      have n0_ := Aside0.mk (blk_grown (g := gb158) (o := .cells #[.slice (some ad172) l0_0.length c0_0] 29 (0, 0)) u5_2 hg (Kd.R_ne HO_172000.out BK158.out (by decide)))
      have n1_ := Aside0.mk (blk_grown (g := gb159) (o := .cells #[.slice none 0 0] 29 (0, 0)) u5_3 hg (Kd.R_ne HO_172000.out BK159.out (by decide)))
      have n2_ := Aside0.mk (blk_grown (g := gb171) (o := .cells #[u172000] 29 (0, 0)) u5_9 hg (Kd.R_ne HO_172000.out BK171.out (by decide)))
      have n3_ := Aside0.mk (hb)
      have n4_ := Aside0.mk (ho)
      clear BK158
      clear BK159
      clear BK171
      clear HB
      clear HO_172000
      have BK158 := n0_
      have BK159 := n1_
      have BK171 := n2_
      have HB := n3_
      have HO175 := n4_
      clear n0_ n1_ n2_ n3_ n4_
      clear ho hb hg hat
      obtain ⟨Ao43, co43, eo43⟩ := Kd.R_slice HO175.out
      (first | subst eo43 | (injection eo43 with f1_ f2_ f3_; have f4_ := f1_.symm; have f5_ := f3_.symm; clear f1_ f2_ f3_; subst f4_; subst f5_))
      refine hK.out _ _ ⟨(blk_cell BK171.out 0).trans rfl, (blk_cell BK158.out 0).trans rfl, ((HB.out.cell (World.block_lt_of_cell? w _ hw172_0)).trans hw172_0), ((HB.out.cell (World.block_lt_of_cell? w _ hw172_1)).trans hw172_1), ((HB.out.cell (World.block_lt_of_cell? w _ hw172_2)).trans hw172_2), ((HB.out.cell (World.block_lt_of_cell? w _ hw172_3)).trans hw172_3), ((HB.out.cell (World.block_lt_of_cell? w _ hw172_4)).trans hw172_4)⟩ (fun hHeld => ?_)
      clear hK K
      refine norm_ (a' := ?_) ?_ ?_
      rotate_left
      · show Act.put _ (some 61) _ = _
        simp only [Act.put, List.setIfInBounds_toArray, List.set_cons_zero, List.set_cons_succ, i64_w, i32_w]
        rfl
      refine pure_ (i := 9) (N := some 62) (v := ?_) (a' := ?_) #[true, true, true, true, true, true, true, true, true, true, false] rfl rfl (any_of HT_.out (by kernel_rfl)) (fun _ _ _ h => h) (Or.inl ⟨by rfl, ?_⟩) ?_ ?_
      rotate_left
      · intro w'
        go_simp
        with_reducible rfl
      rotate_left
      · simp only [Act.put, List.setIfInBounds_toArray, List.set_cons_zero, List.set_cons_succ, i64_w, i32_w]
        rfl
      refine last_ (i := 10) (N := none) #[true, true, true, true, true, true, true, true, true, true, true] rfl rfl (one_of HT_.out (by kernel_rfl)) (by decide) (fun K hK => ?_)
      have hs44 : w42.cell? ⟨gb171, 0, none⟩ = some (u172000) := (blk_cell BK171.out 0).trans rfl
      have hfs44 := blk_frozen BK171.out 0
      have hns44_0 := NB158_171.out
      have hns44_1 := NB159_171.out
      have hms44_0 := NB171_158.out
      have hms44_1 := NB171_159.out
      refine skip_ (w1 := ?_) (by rfl) rfl ?_ ?_
      rotate_left
      · go_simp
        rfl
      refine hK.out _ _ ?_
      clear hK K
      refine done_ (done_of HT_.out (by kernel_rfl)) ?_
      try go_wp2
      go_roundg k1
      case measure => have := HK1.out; omega
      case rel => exact ⟨(true), (wrap64 (x8_1 + 1)), (y173), (.slice Ao43 y173.length co43), u5_13, u5_13, H', ⟨by have := HK1.out; omega⟩, ⟨(by (with_reducible repeat (first | apply Kd.R_alloc | apply Kd.R_drewN | apply Kd.R_drew)); exact Kd.R_mono (Kd.R_far (p := ⟨gb171, 0, none⟩) (Kd.R_types HO175.out BK171.out (by decide)) (fun _ hk => hk.2) (.slice Ao43 y173.length co43)) (fun _ hk => trivial))⟩, ⟨u5_5⟩, ⟨u5_6⟩, ⟨u5_14⟩, ⟨u5_0⟩⟩
    replace c35 := Bool.eq_false_iff.mpr c35
    subst c35
    have H1 : (if 0 ≤ x8_1 then (if ((rd_T53 l0_0 x8_1).f0) > a1 then (if x172000_1.length < 3518437208883 then ((some (x172000_1 ++ [(⟨a1, 0, 0, 0, 0⟩ : S53)] : List (S53))).bind fun y177 => (if y177.length < 3518437208883 then (spec_OpenAccount.l0 k1 a1 true (wrap64 (x8_1 + 1)) l0_0 (y177 ++ [(⟨(rd_T53 l0_0 x8_1).f0, (rd_T53 l0_0 x8_1).f1, (rd_T53 l0_0 x8_1).f2, (rd_T53 l0_0 x8_1).f3, (rd_T53 l0_0 x8_1).f4⟩ : S53)])) else (none))) else (none)) else (if x172000_1.length < 3518437208883 then (spec_OpenAccount.l0 k1 a1 false (wrap64 (x8_1 + 1)) l0_0 (x172000_1 ++ [(⟨(rd_T53 l0_0 x8_1).f0, (rd_T53 l0_0 x8_1).f1, (rd_T53 l0_0 x8_1).f2, (rd_T53 l0_0 x8_1).f3, (rd_T53 l0_0 x8_1).f4⟩ : S53)])) else (none))) else (none)) = some (r1, r2) := by rw [if_neg (show ¬ (false = true) by decide)] at H; exact H
    clear H
    have H := H1
    clear H1
    by_cases c45 : 0 ≤ x8_1
    rotate_left
    · rw [if_neg c45] at H
      exact absurd H (by simp)
    rw [if_pos c45] at H
    have c45b0 : decide (0 ≤ x8_1) = true := decide_eq_true c45
    clear c45
    have H9 := Aside0.mk H
    clear H
    have hnb46 := NB158_159.out
    have hnc46 := NB159_158.out
    have hnb47 := NB158_171.out
    have hnc47 := NB171_158.out
    have hcz48_0 : wr.cell? ⟨gb158, 0, none⟩ = some (.slice A0_0 l0_0.length c0_0) := (blk_cell BK158.out 0).trans rfl
    have hfz48_0 := blk_frozen BK158.out 0
    have p176 : 0 ≤ (x8_1 : Int) := of_decide_eq_true u5_12
    have q176 : x8_1 < (l0_0.length : Int) := of_decide_eq_true u5_12
    obtain ⟨ad176, e176, hx176_0, hx176_1, hx176_2, hx176_3, hx176_4⟩ := at_T53 HR0_0.out x8_1 p176 q176
    cases e176
    replace hx176_0 := (HB.out.cell (World.block_lt_of_cell? w _ hx176_0)).trans hx176_0
    replace hx176_1 := (HB.out.cell (World.block_lt_of_cell? w _ hx176_1)).trans hx176_1
    replace hx176_2 := (HB.out.cell (World.block_lt_of_cell? w _ hx176_2)).trans hx176_2
    replace hx176_3 := (HB.out.cell (World.block_lt_of_cell? w _ hx176_3)).trans hx176_3
    replace hx176_4 := (HB.out.cell (World.block_lt_of_cell? w _ hx176_4)).trans hx176_4
    replace p176 := eq_true p176
    replace q176 := eq_true q176
    go_upto_if 45 with (fail)
    have H := H9.out
    clear H9
    by_cases c49 : ((rd_T53 l0_0 x8_1).f0) > a1
    rotate_left
    · rw [if_neg c49] at H
      have c49b0 : decide (a1 < ((rd_T53 l0_0 x8_1).f0)) = false := decide_eq_false c49
      clear c49
      (first | rw [c49b0] | (simp only [i64_w, i32_w]; rw [c49b0]) | skip)
      by_cases c63 : x172000_1.length < 3518437208883
      rotate_left
      · rw [if_neg c63] at H
        exact absurd H (by simp)
      rw [if_pos c63] at H
      have LMc63 := Aside0.mk c63
      clear c63
      obtain ⟨y185, hy185⟩ : ∃ y_ : List (S53), y_ = (x172000_1 ++ [(⟨(rd_T53 l0_0 x8_1).f0, (rd_T53 l0_0 x8_1).f1, (rd_T53 l0_0 x8_1).f2, (rd_T53 l0_0 x8_1).f3, (rd_T53 l0_0 x8_1).f4⟩ : S53)]) := ⟨_, rfl⟩
      replace H : (spec_OpenAccount.l0 k1 a1 false (wrap64 (x8_1 + 1)) l0_0 y185) = some (r1, r2) := by first | (rw [hy185]; with_reducible exact H) | (have H2_ := (Option.bind_some _ _).symm.trans H; rw [hy185]; with_reducible exact H2_) | (have H2_ := (Option.bind_some _ _).symm.trans H; with_reducible exact H2_) | with_reducible exact H | (rw [hy185]; exact H) | exact H
      have Ny185 := Aside0.mk hy185
      clear hy185
      have H' := Aside0.mk H
      clear H
      try go_wp2
      have n0_ := Aside0.mk (Kd.R_drew HO_172000.out)
      have n1_ := Aside0.mk (blk_drew BK158.out)
      have n2_ := Aside0.mk (blk_drew BK159.out)
      have n3_ := Aside0.mk (blk_drew BK171.out)
      have n4_ := Aside0.mk (below_drew1 HB.out)
      clear HO_172000
      clear BK158
      clear BK159
      clear BK171
      clear HB
      have HO_172000 := n0_
      have BK158 := n1_
      have BK159 := n2_
      have BK171 := n3_
      have HB := n4_
      clear n0_ n1_ n2_ n3_ n4_
      have p184 : 0 ≤ (x8_1 : Int) := of_decide_eq_true u5_12
      have q184 : x8_1 < (l0_0.length : Int) := of_decide_eq_true u5_12
      obtain ⟨ad184, e184, hx184_0, hx184_1, hx184_2, hx184_3, hx184_4⟩ := at_T53 HR0_0.out x8_1 p184 q184
      have hw184_4 := hx184_4
      have hw184_3 := hx184_3
      have hw184_2 := hx184_2
      have hw184_1 := hx184_1
      have hw184_0 := hx184_0
      obtain rfl : ad176 = ad184 := (by injection e184)
      replace hx184_0 := (HB.out.cell (World.block_lt_of_cell? w _ hx184_0)).trans hx184_0
      replace hx184_1 := (HB.out.cell (World.block_lt_of_cell? w _ hx184_1)).trans hx184_1
      replace hx184_2 := (HB.out.cell (World.block_lt_of_cell? w _ hx184_2)).trans hx184_2
      replace hx184_3 := (HB.out.cell (World.block_lt_of_cell? w _ hx184_3)).trans hx184_3
      replace hx184_4 := (HB.out.cell (World.block_lt_of_cell? w _ hx184_4)).trans hx184_4
      replace p184 := eq_true p184
      replace q184 := eq_true q184
      refine start_ (n := 11) (S := fun w' => w'.cell? ⟨gb171, 0, none⟩ = some (u172000) ∧ w'.cell? ⟨gb158, 0, none⟩ = some (.slice (some ad176) l0_0.length c0_0) ∧ w'.cell? (ad176.add ((x8_1).toNat * 5)) = some (.int .u64 ((rd_T53 l0_0 x8_1).f0)) ∧ w'.cell? ⟨(ad176.add ((x8_1).toNat * 5)).block, (ad176.add ((x8_1).toNat * 5)).off + 1, none⟩ = some (.int .u64 ((rd_T53 l0_0 x8_1).f1)) ∧ w'.cell? ⟨(ad176.add ((x8_1).toNat * 5)).block, (ad176.add ((x8_1).toNat * 5)).off + 2, none⟩ = some (.int .u64 ((rd_T53 l0_0 x8_1).f2)) ∧ w'.cell? ⟨(ad176.add ((x8_1).toNat * 5)).block, (ad176.add ((x8_1).toNat * 5)).off + 3, none⟩ = some (.int .u64 ((rd_T53 l0_0 x8_1).f3)) ∧ w'.cell? ⟨(ad176.add ((x8_1).toNat * 5)).block, (ad176.add ((x8_1).toNat * 5)).off + 4, none⟩ = some (.int .i64 ((rd_T53 l0_0 x8_1).f4))) (ds := [10]) #[false, false, false, false, false, false, false, false, false, false, false] (by kernel_rfl) rfl rfl ⟨(blk_cell BK171.out 0).trans rfl, (blk_cell BK158.out 0).trans rfl, ((HB.out.cell (World.block_lt_of_cell? w _ hw184_0)).trans hw184_0), ((HB.out.cell (World.block_lt_of_cell? w _ hw184_1)).trans hw184_1), ((HB.out.cell (World.block_lt_of_cell? w _ hw184_2)).trans hw184_2), ((HB.out.cell (World.block_lt_of_cell? w _ hw184_3)).trans hw184_3), ((HB.out.cell (World.block_lt_of_cell? w _ hw184_4)).trans hw184_4)⟩ (fun hHeld => ?_); refine with_tabW spec_OpenAccount.tab15 spec_OpenAccount.bits15 (fun HT_ HW_ => ?_)
      generalize wr.drew = w64 at HO_172000 BK158 BK159 BK171 HB hx184_0 hx184_1 hx184_2 hx184_3 hx184_4 hHeld ⊢
      refine pure_ (i := 0) (N := some 53) (v := ?_) (a' := ?_) #[true, false, false, false, false, false, false, false, false, false, false] rfl rfl (any_of HT_.out (by kernel_rfl)) (fun _ _ _ h => h) (Or.inl ⟨by rfl, ?_⟩) ?_ ?_
      rotate_left
      · intro w'
        go_simp
        with_reducible rfl
      rotate_left
      · simp only [Act.put, List.setIfInBounds_toArray, List.set_cons_zero, List.set_cons_succ, i64_w, i32_w]
        rfl
      refine pure_ (i := 2) (N := some 55) (v := ?_) (a' := ?_) #[true, false, true, false, false, false, false, false, false, false, false] rfl rfl (any_of HT_.out (by kernel_rfl)) (fun _ _ _ h => h) (Or.inl ⟨by rfl, ?_⟩) ?_ ?_
      rotate_left
      · intro w'
        go_simp
        with_reducible rfl
      rotate_left
      · simp only [Act.put, List.setIfInBounds_toArray, List.set_cons_zero, List.set_cons_succ, i64_w, i32_w]
        rfl
      refine pure_ (i := 4) (N := some 57) (v := ?_) (a' := ?_) #[true, false, true, false, true, false, false, false, false, false, false] rfl rfl (any_of HT_.out (by kernel_rfl)) (fun _ _ _ h => h) (Or.inl ⟨by rfl, ?_⟩) ?_ ?_
      rotate_left
      · intro w'
        go_simp
        with_reducible rfl
      rotate_left
      · simp only [Act.put, List.setIfInBounds_toArray, List.set_cons_zero, List.set_cons_succ, i64_w, i32_w]
        rfl
      refine take_ (i := 1) (N := some 54) (v := ?_) (a' := ?_) #[true, true, true, false, true, false, false, false, false, false, false] rfl rfl (take_ofW HT_.out HW_.out (by kernel_rfl)) (fun _ _ _ h => h) (Or.inl ⟨by rfl, ?_⟩) hHeld ?_ ?_
      rotate_left
      · rintro w' ⟨s0, s1, s2, s3, s4, s5, s6⟩
        go_simp
        with_reducible rfl
      rotate_left
      · simp only [Act.put, List.setIfInBounds_toArray, List.set_cons_zero, List.set_cons_succ, i64_w, i32_w]
        rfl
      refine take_ (i := 3) (N := some 56) (v := ?_) (a' := ?_) #[true, true, true, true, true, false, false, false, false, false, false] rfl rfl (take_ofW HT_.out HW_.out (by kernel_rfl)) (fun _ _ _ h => h) (Or.inl ⟨by rfl, ?_⟩) hHeld ?_ ?_
      rotate_left
      · rintro w' ⟨s0, s1, s2, s3, s4, s5, s6⟩
        go_simp
        with_reducible rfl
      rotate_left
      · simp only [Act.put, List.setIfInBounds_toArray, List.set_cons_zero, List.set_cons_succ, i64_w, i32_w]
        rfl
      refine pure_ (i := 5) (N := some 58) (v := ?_) (a' := ?_) #[true, true, true, true, true, true, false, false, false, false, false] rfl rfl (any_of HT_.out (by kernel_rfl)) (fun _ _ _ h => h) (Or.inl ⟨by rfl, ?_⟩) ?_ ?_
      rotate_left
      · intro w'
        go_simp
        with_reducible rfl
      rotate_left
      · simp only [Act.put, List.setIfInBounds_toArray, List.set_cons_zero, List.set_cons_succ, i64_w, i32_w]
        rfl
      refine take_ (i := 6) (N := some 59) (v := ?_) (a' := ?_) #[true, true, true, true, true, true, true, false, false, false, false] rfl rfl (take_ofW HT_.out HW_.out (by kernel_rfl)) (fun _ _ _ h => h) (Or.inl ⟨by rfl, ?_⟩) hHeld ?_ ?_
      rotate_left
      · rintro w' ⟨s0, s1, s2, s3, s4, s5, s6⟩
        go_simp
        with_reducible rfl
      rotate_left
      · simp only [Act.put, List.setIfInBounds_toArray, List.set_cons_zero, List.set_cons_succ, i64_w, i32_w]
        rfl
      refine one_ (i := 7) (N := some 60) #[true, true, true, true, true, true, true, true, false, false, false] rfl rfl (one_of HT_.out (by kernel_rfl)) (by decide) (fun K hK => ?_)
      refine value_ (w1 := ?_) (v := ?_) (by rfl) rfl ?_ ?_
      rotate_left 2
      · go_simp
        constructor
        · rfl
        rfl
      refine hK.out _ _ ⟨(blk_cell (blk_alloc BK171.out _) 0).trans rfl, (blk_cell (blk_alloc BK158.out _) 0).trans rfl, (World.cell?_alloc_lt _ _ _ (World.block_lt_of_cell? _ _ (((HB.out.cell (World.block_lt_of_cell? w _ hw184_0)).trans hw184_0)))).trans (((HB.out.cell (World.block_lt_of_cell? w _ hw184_0)).trans hw184_0)), (World.cell?_alloc_lt _ _ _ (World.block_lt_of_cell? _ _ (((HB.out.cell (World.block_lt_of_cell? w _ hw184_1)).trans hw184_1)))).trans (((HB.out.cell (World.block_lt_of_cell? w _ hw184_1)).trans hw184_1)), (World.cell?_alloc_lt _ _ _ (World.block_lt_of_cell? _ _ (((HB.out.cell (World.block_lt_of_cell? w _ hw184_2)).trans hw184_2)))).trans (((HB.out.cell (World.block_lt_of_cell? w _ hw184_2)).trans hw184_2)), (World.cell?_alloc_lt _ _ _ (World.block_lt_of_cell? _ _ (((HB.out.cell (World.block_lt_of_cell? w _ hw184_3)).trans hw184_3)))).trans (((HB.out.cell (World.block_lt_of_cell? w _ hw184_3)).trans hw184_3)), (World.cell?_alloc_lt _ _ _ (World.block_lt_of_cell? _ _ (((HB.out.cell (World.block_lt_of_cell? w _ hw184_4)).trans hw184_4)))).trans (((HB.out.cell (World.block_lt_of_cell? w _ hw184_4)).trans hw184_4))⟩ (fun hHeld => ?_)
      clear hK K
      refine norm_ (a' := ?_) ?_ ?_
      rotate_left
      · show Act.put _ (some 60) _ = _
        simp only [Act.put, List.setIfInBounds_toArray, List.set_cons_zero, List.set_cons_succ, i64_w, i32_w]
        rfl
      refine one_ (i := 8) (N := some 61) #[true, true, true, true, true, true, true, true, true, false, false] rfl rfl (one_of HT_.out (by kernel_rfl)) (by decide) (fun K hK => ?_)
      refine Kd.R_append_step k53 (w0 := w) w.heap.size (by rfl) (.tmp 54) (.tmp 60) 27 53 (.agg #[(.int .u64 0), (.int .u64 0), (.int .u64 0), (.int .u64 0), (.int .i64 0)]) 40 rfl Try.underlying27 info53 rfl (by decide) (by omega) u172000 x172000_1 (⟨(rd_T53 l0_0 x8_1).f0, (rd_T53 l0_0 x8_1).f1, (rd_T53 l0_0 x8_1).f2, (rd_T53 l0_0 x8_1).f3, (rd_T53 l0_0 x8_1).f4⟩ : S53) [.int .u64 ((rd_T53 l0_0 x8_1).f0), .int .u64 ((rd_T53 l0_0 x8_1).f1), .int .u64 ((rd_T53 l0_0 x8_1).f2), .int .u64 ((rd_T53 l0_0 x8_1).f3), .int .i64 ((rd_T53 l0_0 x8_1).f4)] (fun _ => True) (fun _ => False) rfl rfl ?aP (fun _ hk => hk.elim) ?aF ?aO ?aB ?aS ?aL ?_
      (case aP => exact k53_mkM _ _ _ (⟨(rd_T53 l0_0 x8_1).f0, (rd_T53 l0_0 x8_1).f1, (rd_T53 l0_0 x8_1).f2, (rd_T53 l0_0 x8_1).f3, (rd_T53 l0_0 x8_1).f4⟩ : S53))
      (case aB => exact u5_0)
      (case aF => exact (fun _ _ => trivial))
      (case aO => exact u5_11)
      (case aS => exact (below_size u5_0))
      (case aL => have := LMc63.out; omega)
      intro v186 w65 ho hb hg hat
      rw [← Ny185.out] at ho
      have n0_ := Aside0.mk (blk_grown (g := gb158) (o := .cells #[.slice (some ad176) l0_0.length c0_0] 29 (0, 0)) u5_2 hg (Kd.R_ne HO_172000.out BK158.out (by decide)))
      have n1_ := Aside0.mk (blk_grown (g := gb159) (o := .cells #[.slice none 0 0] 29 (0, 0)) u5_3 hg (Kd.R_ne HO_172000.out BK159.out (by decide)))
      have n2_ := Aside0.mk (blk_grown (g := gb171) (o := .cells #[u172000] 29 (0, 0)) u5_9 hg (Kd.R_ne HO_172000.out BK171.out (by decide)))
      have n3_ := Aside0.mk (hb)
      have n4_ := Aside0.mk (ho)
      clear BK158
      clear BK159
      clear BK171
      clear HB
      clear HO_172000
      have BK158 := n0_
      have BK159 := n1_
      have BK171 := n2_
      have HB := n3_
      have HO187 := n4_
      clear n0_ n1_ n2_ n3_ n4_
      clear ho hb hg hat
      obtain ⟨Ao66, co66, eo66⟩ := Kd.R_slice HO187.out
      (first | subst eo66 | (injection eo66 with f1_ f2_ f3_; have f4_ := f1_.symm; have f5_ := f3_.symm; clear f1_ f2_ f3_; subst f4_; subst f5_))
      refine hK.out _ _ ⟨(blk_cell BK171.out 0).trans rfl, (blk_cell BK158.out 0).trans rfl, ((HB.out.cell (World.block_lt_of_cell? w _ hw184_0)).trans hw184_0), ((HB.out.cell (World.block_lt_of_cell? w _ hw184_1)).trans hw184_1), ((HB.out.cell (World.block_lt_of_cell? w _ hw184_2)).trans hw184_2), ((HB.out.cell (World.block_lt_of_cell? w _ hw184_3)).trans hw184_3), ((HB.out.cell (World.block_lt_of_cell? w _ hw184_4)).trans hw184_4)⟩ (fun hHeld => ?_)
      clear hK K
      refine norm_ (a' := ?_) ?_ ?_
      rotate_left
      · show Act.put _ (some 61) _ = _
        simp only [Act.put, List.setIfInBounds_toArray, List.set_cons_zero, List.set_cons_succ, i64_w, i32_w]
        rfl
      refine pure_ (i := 9) (N := some 62) (v := ?_) (a' := ?_) #[true, true, true, true, true, true, true, true, true, true, false] rfl rfl (any_of HT_.out (by kernel_rfl)) (fun _ _ _ h => h) (Or.inl ⟨by rfl, ?_⟩) ?_ ?_
      rotate_left
      · intro w'
        go_simp
        with_reducible rfl
      rotate_left
      · simp only [Act.put, List.setIfInBounds_toArray, List.set_cons_zero, List.set_cons_succ, i64_w, i32_w]
        rfl
      refine last_ (i := 10) (N := none) #[true, true, true, true, true, true, true, true, true, true, true] rfl rfl (one_of HT_.out (by kernel_rfl)) (by decide) (fun K hK => ?_)
      have hs67 : w65.cell? ⟨gb171, 0, none⟩ = some (u172000) := (blk_cell BK171.out 0).trans rfl
      have hfs67 := blk_frozen BK171.out 0
      have hns67_0 := NB158_171.out
      have hns67_1 := NB159_171.out
      have hms67_0 := NB171_158.out
      have hms67_1 := NB171_159.out
      refine skip_ (w1 := ?_) (by rfl) rfl ?_ ?_
      rotate_left
      · go_simp
        rfl
      refine hK.out _ _ ?_
      clear hK K
      refine done_ (done_of HT_.out (by kernel_rfl)) ?_
      try go_wp2
      go_roundg k1
      case measure => have := HK1.out; omega
      case rel => exact ⟨(false), (wrap64 (x8_1 + 1)), (y185), (.slice Ao66 y185.length co66), u5_13, u5_13, H', ⟨by have := HK1.out; omega⟩, ⟨(by (with_reducible repeat (first | apply Kd.R_alloc | apply Kd.R_drewN | apply Kd.R_drew)); exact Kd.R_mono (Kd.R_far (p := ⟨gb171, 0, none⟩) (Kd.R_types HO187.out BK171.out (by decide)) (fun _ hk => hk.2) (.slice Ao66 y185.length co66)) (fun _ hk => trivial))⟩, ⟨u5_5⟩, ⟨u5_6⟩, ⟨u5_14⟩, ⟨u5_0⟩⟩
    rw [if_pos c49] at H
    have c49b0 : decide (a1 < ((rd_T53 l0_0 x8_1).f0)) = true := decide_eq_true c49
    clear c49
    (first | rw [c49b0] | (simp only [i64_w, i32_w]; rw [c49b0]) | skip)
    by_cases c50 : x172000_1.length < 3518437208883
    rotate_left
    · rw [if_neg c50] at H
      exact absurd H (by simp)
    rw [if_pos c50] at H
    have LMc50 := Aside0.mk c50
    clear c50
    obtain ⟨y177, hy177⟩ : ∃ y_ : List (S53), y_ = (x172000_1 ++ [(⟨a1, 0, 0, 0, 0⟩ : S53)]) := ⟨_, rfl⟩
    replace H : (if y177.length < 3518437208883 then (spec_OpenAccount.l0 k1 a1 true (wrap64 (x8_1 + 1)) l0_0 (y177 ++ [(⟨(rd_T53 l0_0 x8_1).f0, (rd_T53 l0_0 x8_1).f1, (rd_T53 l0_0 x8_1).f2, (rd_T53 l0_0 x8_1).f3, (rd_T53 l0_0 x8_1).f4⟩ : S53)])) else (none)) = some (r1, r2) := by first | (rw [hy177]; with_reducible exact H) | (have H2_ := (Option.bind_some _ _).symm.trans H; rw [hy177]; with_reducible exact H2_) | (have H2_ := (Option.bind_some _ _).symm.trans H; with_reducible exact H2_) | with_reducible exact H | (rw [hy177]; exact H) | exact H
    have Ny177 := Aside0.mk hy177
    clear hy177
    by_cases c51 : y177.length < 3518437208883
    rotate_left
    · rw [if_neg c51] at H
      exact absurd H (by simp)
    rw [if_pos c51] at H
    have LMc51 := Aside0.mk c51
    clear c51
    obtain ⟨y181, hy181⟩ : ∃ y_ : List (S53), y_ = (y177 ++ [(⟨(rd_T53 l0_0 x8_1).f0, (rd_T53 l0_0 x8_1).f1, (rd_T53 l0_0 x8_1).f2, (rd_T53 l0_0 x8_1).f3, (rd_T53 l0_0 x8_1).f4⟩ : S53)]) := ⟨_, rfl⟩
    replace H : (spec_OpenAccount.l0 k1 a1 true (wrap64 (x8_1 + 1)) l0_0 y181) = some (r1, r2) := by first | (rw [hy181]; with_reducible exact H) | (have H2_ := (Option.bind_some _ _).symm.trans H; rw [hy181]; with_reducible exact H2_) | (have H2_ := (Option.bind_some _ _).symm.trans H; with_reducible exact H2_) | with_reducible exact H | (rw [hy181]; exact H) | exact H
    have Ny181 := Aside0.mk hy181
    clear hy181
    have H' := Aside0.mk H
    clear H
    have hnb52 := NB171_158.out
    have hnc52 := NB158_171.out
    have hnb53 := NB171_159.out
    have hnc53 := NB159_171.out
    have hcz54_0 : wr.cell? ⟨gb171, 0, none⟩ = some (u172000) := (blk_cell BK171.out 0).trans rfl
    have hfz54_0 := blk_frozen BK171.out 0
    try go_wp2_with (first | ((with_reducible refine gate_builtin (b := .append) (xs := #[.tmp 47, .tmp 50]) rfl ?_); at_builtin; refine Kd.R_append k53 (w0 := w) w.heap.size rfl (.tmp 47) (.tmp 50) 27 53 (.agg #[(.int .u64 0), (.int .u64 0), (.int .u64 0), (.int .u64 0), (.int .i64 0)]) 40 rfl Try.underlying27 info53 rfl (by decide) (by omega) u172000 x172000_1 (⟨a1, 0, 0, 0, 0⟩ : S53) [.int .u64 a1, .int .u64 0, .int .u64 0, .int .u64 0, .int .i64 0] (fun _ => True) (fun _ => False) rfl rfl ?aP (fun _ hk => hk.elim) ?aF ?aO ?aB ?aS ?aL ?_; (case aP => exact k53_mkM _ _ _ (⟨a1, 0, 0, 0, 0⟩ : S53)); (case aB => exact u5_0); (case aF => exact (fun _ _ => trivial)); (case aO => exact u5_11); (case aS => exact (below_size u5_0)); (case aL => have := LMc50.out; omega); intro v178 w55 ho hb hg hat; rw [← Ny177.out] at ho; have n0_ := Aside0.mk (blk_grown (g := gb158) (o := .cells #[.slice (some ad176) l0_0.length c0_0] 29 (0, 0)) u5_2 hg (Kd.R_ne HO_172000.out BK158.out (by decide))); have n1_ := Aside0.mk (blk_grown (g := gb159) (o := .cells #[.slice none 0 0] 29 (0, 0)) u5_3 hg (Kd.R_ne HO_172000.out BK159.out (by decide))); have n2_ := Aside0.mk (blk_grown (g := gb171) (o := .cells #[u172000] 29 (0, 0)) u5_9 hg (Kd.R_ne HO_172000.out BK171.out (by decide))); have n3_ := Aside0.mk (hb); have n4_ := Aside0.mk (ho); clear BK158; clear BK159; clear BK171; clear HB; clear HO_172000; have BK158 := n0_; have BK159 := n1_; have BK171 := n2_; have HB := n3_; have HO179 := n4_; clear n0_ n1_ n2_ n3_ n4_; clear ho hb hg hat; obtain ⟨Ao56, co56, eo56⟩ := Kd.R_slice HO179.out; subst eo56; have hcz57_0 : w55.cell? ⟨gb171, 0, none⟩ = some (u172000) := (blk_cell BK171.out 0).trans rfl; have hfz57_0 := blk_frozen BK171.out 0))
    have n0_ : Aside0 (Kd.R k53 53 (w55.setCell ⟨gb171, 0, none⟩ (.slice Ao56 y177.length co56)) w.heap.size (fun _ => True) (.slice Ao56 y177.length co56) y177) := ⟨by (with_reducible repeat (first | apply Kd.R_alloc | apply Kd.R_drewN | apply Kd.R_drew)); exact Kd.R_mono (Kd.R_far (p := ⟨gb171, 0, none⟩) (Kd.R_types HO179.out BK171.out (by decide)) (fun _ hk => hk.2) (.slice Ao56 y177.length co56)) (fun _ hk => trivial)⟩
    have n1_ : Aside0 ((w55.setCell ⟨gb171, 0, none⟩ (.slice Ao56 y177.length co56)).heap[gb158]? = some (.cells #[.slice (some ad176) l0_0.length c0_0] 29 (0, 0))) := ⟨by (with_reducible repeat (first | refine blk_drewN ?_ _ | refine blk_drew ?_ | refine blk_alloc ?_ _)); refine blk_far ?_ NB158_171.out _; (with_reducible repeat (first | refine blk_drewN ?_ _ | refine blk_drew ?_ | refine blk_alloc ?_ _)); exact BK158.out⟩
    have n2_ : Aside0 ((w55.setCell ⟨gb171, 0, none⟩ (.slice Ao56 y177.length co56)).heap[gb159]? = some (.cells #[.slice none 0 0] 29 (0, 0))) := ⟨by (with_reducible repeat (first | refine blk_drewN ?_ _ | refine blk_drew ?_ | refine blk_alloc ?_ _)); refine blk_far ?_ NB159_171.out _; (with_reducible repeat (first | refine blk_drewN ?_ _ | refine blk_drew ?_ | refine blk_alloc ?_ _)); exact BK159.out⟩
    have n3_ : Aside0 ((w55.setCell ⟨gb171, 0, none⟩ (.slice Ao56 y177.length co56)).heap[gb171]? = some (.cells #[.slice Ao56 y177.length co56] 29 (0, 0))) := ⟨by (with_reducible repeat (first | refine blk_drewN ?_ _ | refine blk_drew ?_ | refine blk_alloc ?_ _)); refine blk_put (cs := #[u172000]) ?_ 0 _ rfl; (with_reducible repeat (first | refine blk_drewN ?_ _ | refine blk_drew ?_ | refine blk_alloc ?_ _)); exact BK171.out⟩
    have n4_ : Aside0 (Below w.heap.size w (w55.setCell ⟨gb171, 0, none⟩ (.slice Ao56 y177.length co56))) := ⟨by repeat (first | (with_reducible first | exact HB.out | apply below_alloc | apply pw_below_drewN | apply below_drew1 | refine below_set ?_ GE158.out | refine below_set ?_ GE159.out | refine below_set ?_ GE171.out) | exact HB.out)⟩
    (try clear HO179)
    (try clear BK158)
    (try clear BK159)
    (try clear BK171)
    (try clear HB)
    generalize (w55.setCell ⟨gb171, 0, none⟩ (.slice Ao56 y177.length co56)) = w58 at n0_ n1_ n2_ n3_ n4_ ⊢
    have HO179 := n0_
    have BK158 := n1_
    have BK159 := n2_
    have BK171 := n3_
    have HB := n4_
    clear n0_ n1_ n2_ n3_ n4_
    have n0_ := Aside0.mk (Kd.R_drew HO179.out)
    have n1_ := Aside0.mk (blk_drew BK158.out)
    have n2_ := Aside0.mk (blk_drew BK159.out)
    have n3_ := Aside0.mk (blk_drew BK171.out)
    have n4_ := Aside0.mk (below_drew1 HB.out)
    clear HO179
    clear BK158
    clear BK159
    clear BK171
    clear HB
    have HO179 := n0_
    have BK158 := n1_
    have BK159 := n2_
    have BK171 := n3_
    have HB := n4_
    clear n0_ n1_ n2_ n3_ n4_
    have p180 : 0 ≤ (x8_1 : Int) := of_decide_eq_true u5_12
    have q180 : x8_1 < (l0_0.length : Int) := of_decide_eq_true u5_12
    obtain ⟨ad180, e180, hx180_0, hx180_1, hx180_2, hx180_3, hx180_4⟩ := at_T53 HR0_0.out x8_1 p180 q180
    have hw180_4 := hx180_4
    have hw180_3 := hx180_3
    have hw180_2 := hx180_2
    have hw180_1 := hx180_1
    have hw180_0 := hx180_0
    obtain rfl : ad176 = ad180 := (by injection e180)
    replace hx180_0 := (HB.out.cell (World.block_lt_of_cell? w _ hx180_0)).trans hx180_0
    replace hx180_1 := (HB.out.cell (World.block_lt_of_cell? w _ hx180_1)).trans hx180_1
    replace hx180_2 := (HB.out.cell (World.block_lt_of_cell? w _ hx180_2)).trans hx180_2
    replace hx180_3 := (HB.out.cell (World.block_lt_of_cell? w _ hx180_3)).trans hx180_3
    replace hx180_4 := (HB.out.cell (World.block_lt_of_cell? w _ hx180_4)).trans hx180_4
    replace p180 := eq_true p180
    replace q180 := eq_true q180
    refine start_ (n := 11) (S := fun w' => w'.cell? ⟨gb171, 0, none⟩ = some (.slice Ao56 y177.length co56) ∧ w'.cell? ⟨gb158, 0, none⟩ = some (.slice (some ad176) l0_0.length c0_0) ∧ w'.cell? (ad176.add ((x8_1).toNat * 5)) = some (.int .u64 ((rd_T53 l0_0 x8_1).f0)) ∧ w'.cell? ⟨(ad176.add ((x8_1).toNat * 5)).block, (ad176.add ((x8_1).toNat * 5)).off + 1, none⟩ = some (.int .u64 ((rd_T53 l0_0 x8_1).f1)) ∧ w'.cell? ⟨(ad176.add ((x8_1).toNat * 5)).block, (ad176.add ((x8_1).toNat * 5)).off + 2, none⟩ = some (.int .u64 ((rd_T53 l0_0 x8_1).f2)) ∧ w'.cell? ⟨(ad176.add ((x8_1).toNat * 5)).block, (ad176.add ((x8_1).toNat * 5)).off + 3, none⟩ = some (.int .u64 ((rd_T53 l0_0 x8_1).f3)) ∧ w'.cell? ⟨(ad176.add ((x8_1).toNat * 5)).block, (ad176.add ((x8_1).toNat * 5)).off + 4, none⟩ = some (.int .i64 ((rd_T53 l0_0 x8_1).f4))) (ds := [10]) #[false, false, false, false, false, false, false, false, false, false, false] (by kernel_rfl) rfl rfl ⟨(blk_cell BK171.out 0).trans rfl, (blk_cell BK158.out 0).trans rfl, ((HB.out.cell (World.block_lt_of_cell? w _ hw180_0)).trans hw180_0), ((HB.out.cell (World.block_lt_of_cell? w _ hw180_1)).trans hw180_1), ((HB.out.cell (World.block_lt_of_cell? w _ hw180_2)).trans hw180_2), ((HB.out.cell (World.block_lt_of_cell? w _ hw180_3)).trans hw180_3), ((HB.out.cell (World.block_lt_of_cell? w _ hw180_4)).trans hw180_4)⟩ (fun hHeld => ?_); refine with_tabW spec_OpenAccount.tab15 spec_OpenAccount.bits15 (fun HT_ HW_ => ?_)
    generalize w58.drew = w59 at HO179 BK158 BK159 BK171 HB hx180_0 hx180_1 hx180_2 hx180_3 hx180_4 hHeld ⊢
    refine pure_ (i := 0) (N := some 53) (v := ?_) (a' := ?_) #[true, false, false, false, false, false, false, false, false, false, false] rfl rfl (any_of HT_.out (by kernel_rfl)) (fun _ _ _ h => h) (Or.inl ⟨by rfl, ?_⟩) ?_ ?_
    rotate_left
    · intro w'
      go_simp
      with_reducible rfl
    rotate_left
    · simp only [Act.put, List.setIfInBounds_toArray, List.set_cons_zero, List.set_cons_succ, i64_w, i32_w]
      rfl
    refine pure_ (i := 2) (N := some 55) (v := ?_) (a' := ?_) #[true, false, true, false, false, false, false, false, false, false, false] rfl rfl (any_of HT_.out (by kernel_rfl)) (fun _ _ _ h => h) (Or.inl ⟨by rfl, ?_⟩) ?_ ?_
    rotate_left
    · intro w'
      go_simp
      with_reducible rfl
    rotate_left
    · simp only [Act.put, List.setIfInBounds_toArray, List.set_cons_zero, List.set_cons_succ, i64_w, i32_w]
      rfl
    refine pure_ (i := 4) (N := some 57) (v := ?_) (a' := ?_) #[true, false, true, false, true, false, false, false, false, false, false] rfl rfl (any_of HT_.out (by kernel_rfl)) (fun _ _ _ h => h) (Or.inl ⟨by rfl, ?_⟩) ?_ ?_
    rotate_left
    · intro w'
      go_simp
      with_reducible rfl
    rotate_left
    · simp only [Act.put, List.setIfInBounds_toArray, List.set_cons_zero, List.set_cons_succ, i64_w, i32_w]
      rfl
    refine take_ (i := 1) (N := some 54) (v := ?_) (a' := ?_) #[true, true, true, false, true, false, false, false, false, false, false] rfl rfl (take_ofW HT_.out HW_.out (by kernel_rfl)) (fun _ _ _ h => h) (Or.inl ⟨by rfl, ?_⟩) hHeld ?_ ?_
    rotate_left
    · rintro w' ⟨s0, s1, s2, s3, s4, s5, s6⟩
      go_simp
      with_reducible rfl
    rotate_left
    · simp only [Act.put, List.setIfInBounds_toArray, List.set_cons_zero, List.set_cons_succ, i64_w, i32_w]
      rfl
    refine take_ (i := 3) (N := some 56) (v := ?_) (a' := ?_) #[true, true, true, true, true, false, false, false, false, false, false] rfl rfl (take_ofW HT_.out HW_.out (by kernel_rfl)) (fun _ _ _ h => h) (Or.inl ⟨by rfl, ?_⟩) hHeld ?_ ?_
    rotate_left
    · rintro w' ⟨s0, s1, s2, s3, s4, s5, s6⟩
      go_simp
      with_reducible rfl
    rotate_left
    · simp only [Act.put, List.setIfInBounds_toArray, List.set_cons_zero, List.set_cons_succ, i64_w, i32_w]
      rfl
    refine pure_ (i := 5) (N := some 58) (v := ?_) (a' := ?_) #[true, true, true, true, true, true, false, false, false, false, false] rfl rfl (any_of HT_.out (by kernel_rfl)) (fun _ _ _ h => h) (Or.inl ⟨by rfl, ?_⟩) ?_ ?_
    rotate_left
    · intro w'
      go_simp
      with_reducible rfl
    rotate_left
    · simp only [Act.put, List.setIfInBounds_toArray, List.set_cons_zero, List.set_cons_succ, i64_w, i32_w]
      rfl
    refine take_ (i := 6) (N := some 59) (v := ?_) (a' := ?_) #[true, true, true, true, true, true, true, false, false, false, false] rfl rfl (take_ofW HT_.out HW_.out (by kernel_rfl)) (fun _ _ _ h => h) (Or.inl ⟨by rfl, ?_⟩) hHeld ?_ ?_
    rotate_left
    · rintro w' ⟨s0, s1, s2, s3, s4, s5, s6⟩
      go_simp
      with_reducible rfl
    rotate_left
    · simp only [Act.put, List.setIfInBounds_toArray, List.set_cons_zero, List.set_cons_succ, i64_w, i32_w]
      rfl
    refine one_ (i := 7) (N := some 60) #[true, true, true, true, true, true, true, true, false, false, false] rfl rfl (one_of HT_.out (by kernel_rfl)) (by decide) (fun K hK => ?_)
    refine value_ (w1 := ?_) (v := ?_) (by rfl) rfl ?_ ?_
    rotate_left 2
    · go_simp
      constructor
      · rfl
      rfl
    refine hK.out _ _ ⟨(blk_cell (blk_alloc BK171.out _) 0).trans rfl, (blk_cell (blk_alloc BK158.out _) 0).trans rfl, (World.cell?_alloc_lt _ _ _ (World.block_lt_of_cell? _ _ (((HB.out.cell (World.block_lt_of_cell? w _ hw180_0)).trans hw180_0)))).trans (((HB.out.cell (World.block_lt_of_cell? w _ hw180_0)).trans hw180_0)), (World.cell?_alloc_lt _ _ _ (World.block_lt_of_cell? _ _ (((HB.out.cell (World.block_lt_of_cell? w _ hw180_1)).trans hw180_1)))).trans (((HB.out.cell (World.block_lt_of_cell? w _ hw180_1)).trans hw180_1)), (World.cell?_alloc_lt _ _ _ (World.block_lt_of_cell? _ _ (((HB.out.cell (World.block_lt_of_cell? w _ hw180_2)).trans hw180_2)))).trans (((HB.out.cell (World.block_lt_of_cell? w _ hw180_2)).trans hw180_2)), (World.cell?_alloc_lt _ _ _ (World.block_lt_of_cell? _ _ (((HB.out.cell (World.block_lt_of_cell? w _ hw180_3)).trans hw180_3)))).trans (((HB.out.cell (World.block_lt_of_cell? w _ hw180_3)).trans hw180_3)), (World.cell?_alloc_lt _ _ _ (World.block_lt_of_cell? _ _ (((HB.out.cell (World.block_lt_of_cell? w _ hw180_4)).trans hw180_4)))).trans (((HB.out.cell (World.block_lt_of_cell? w _ hw180_4)).trans hw180_4))⟩ (fun hHeld => ?_)
    clear hK K
    refine norm_ (a' := ?_) ?_ ?_
    rotate_left
    · show Act.put _ (some 60) _ = _
      simp only [Act.put, List.setIfInBounds_toArray, List.set_cons_zero, List.set_cons_succ, i64_w, i32_w]
      rfl
    refine one_ (i := 8) (N := some 61) #[true, true, true, true, true, true, true, true, true, false, false] rfl rfl (one_of HT_.out (by kernel_rfl)) (by decide) (fun K hK => ?_)
    refine Kd.R_append_step k53 (w0 := w) w.heap.size (by rfl) (.tmp 54) (.tmp 60) 27 53 (.agg #[(.int .u64 0), (.int .u64 0), (.int .u64 0), (.int .u64 0), (.int .i64 0)]) 40 rfl Try.underlying27 info53 rfl (by decide) (by omega) (.slice Ao56 y177.length co56) y177 (⟨(rd_T53 l0_0 x8_1).f0, (rd_T53 l0_0 x8_1).f1, (rd_T53 l0_0 x8_1).f2, (rd_T53 l0_0 x8_1).f3, (rd_T53 l0_0 x8_1).f4⟩ : S53) [.int .u64 ((rd_T53 l0_0 x8_1).f0), .int .u64 ((rd_T53 l0_0 x8_1).f1), .int .u64 ((rd_T53 l0_0 x8_1).f2), .int .u64 ((rd_T53 l0_0 x8_1).f3), .int .i64 ((rd_T53 l0_0 x8_1).f4)] (fun _ => True) (fun _ => False) rfl rfl ?aP (fun _ hk => hk.elim) ?aF ?aO ?aB ?aS ?aL ?_
    (case aP => exact k53_mkM _ _ _ (⟨(rd_T53 l0_0 x8_1).f0, (rd_T53 l0_0 x8_1).f1, (rd_T53 l0_0 x8_1).f2, (rd_T53 l0_0 x8_1).f3, (rd_T53 l0_0 x8_1).f4⟩ : S53))
    (case aB => exact u5_0)
    (case aF => exact (fun _ _ => trivial))
    (case aO => exact (by (with_reducible repeat (first | apply Kd.R_alloc | apply Kd.R_drewN | apply Kd.R_drew)); exact HO179.out))
    (case aS => exact (below_size u5_0))
    (case aL => have := LMc51.out; omega)
    intro v182 w60 ho hb hg hat
    rw [← Ny181.out] at ho
    have n0_ := Aside0.mk (blk_grown (g := gb158) (o := .cells #[.slice (some ad176) l0_0.length c0_0] 29 (0, 0)) u5_2 hg (Kd.R_ne HO179.out BK158.out (by decide)))
    have n1_ := Aside0.mk (blk_grown (g := gb159) (o := .cells #[.slice none 0 0] 29 (0, 0)) u5_3 hg (Kd.R_ne HO179.out BK159.out (by decide)))
    have n2_ := Aside0.mk (blk_grown (g := gb171) (o := .cells #[.slice Ao56 y177.length co56] 29 (0, 0)) u5_9 hg (Kd.R_ne HO179.out BK171.out (by decide)))
    have n3_ := Aside0.mk (hb)
    have n4_ := Aside0.mk (ho)
    clear BK158
    clear BK159
    clear BK171
    clear HB
    clear HO179
    have BK158 := n0_
    have BK159 := n1_
    have BK171 := n2_
    have HB := n3_
    have HO183 := n4_
    clear n0_ n1_ n2_ n3_ n4_
    clear ho hb hg hat
    obtain ⟨Ao61, co61, eo61⟩ := Kd.R_slice HO183.out
    (first | subst eo61 | (injection eo61 with f1_ f2_ f3_; have f4_ := f1_.symm; have f5_ := f3_.symm; clear f1_ f2_ f3_; subst f4_; subst f5_))
    refine hK.out _ _ ⟨(blk_cell BK171.out 0).trans rfl, (blk_cell BK158.out 0).trans rfl, ((HB.out.cell (World.block_lt_of_cell? w _ hw180_0)).trans hw180_0), ((HB.out.cell (World.block_lt_of_cell? w _ hw180_1)).trans hw180_1), ((HB.out.cell (World.block_lt_of_cell? w _ hw180_2)).trans hw180_2), ((HB.out.cell (World.block_lt_of_cell? w _ hw180_3)).trans hw180_3), ((HB.out.cell (World.block_lt_of_cell? w _ hw180_4)).trans hw180_4)⟩ (fun hHeld => ?_)
    clear hK K
    refine norm_ (a' := ?_) ?_ ?_
    rotate_left
    · show Act.put _ (some 61) _ = _
      simp only [Act.put, List.setIfInBounds_toArray, List.set_cons_zero, List.set_cons_succ, i64_w, i32_w]
      rfl
    refine pure_ (i := 9) (N := some 62) (v := ?_) (a' := ?_) #[true, true, true, true, true, true, true, true, true, true, false] rfl rfl (any_of HT_.out (by kernel_rfl)) (fun _ _ _ h => h) (Or.inl ⟨by rfl, ?_⟩) ?_ ?_
    rotate_left
    · intro w'
      go_simp
      with_reducible rfl
    rotate_left
    · simp only [Act.put, List.setIfInBounds_toArray, List.set_cons_zero, List.set_cons_succ, i64_w, i32_w]
      rfl
    refine last_ (i := 10) (N := none) #[true, true, true, true, true, true, true, true, true, true, true] rfl rfl (one_of HT_.out (by kernel_rfl)) (by decide) (fun K hK => ?_)
    have hs62 : w60.cell? ⟨gb171, 0, none⟩ = some (.slice Ao56 y177.length co56) := (blk_cell BK171.out 0).trans rfl
    have hfs62 := blk_frozen BK171.out 0
    have hns62_0 := NB158_171.out
    have hns62_1 := NB159_171.out
    have hms62_0 := NB171_158.out
    have hms62_1 := NB171_159.out
    refine skip_ (w1 := ?_) (by rfl) rfl ?_ ?_
    rotate_left
    · go_simp
      rfl
    refine hK.out _ _ ?_
    clear hK K
    refine done_ (done_of HT_.out (by kernel_rfl)) ?_
    try go_wp2
    go_roundg k1
    case measure => have := HK1.out; omega
    case rel => exact ⟨(true), (wrap64 (x8_1 + 1)), (y181), (.slice Ao61 y181.length co61), u5_13, u5_13, H', ⟨by have := HK1.out; omega⟩, ⟨(by (with_reducible repeat (first | apply Kd.R_alloc | apply Kd.R_drewN | apply Kd.R_drew)); exact Kd.R_mono (Kd.R_far (p := ⟨gb171, 0, none⟩) (Kd.R_types HO183.out BK171.out (by decide)) (fun _ hk => hk.2) (.slice Ao61 y181.length co61)) (fun _ hk => trivial))⟩, ⟨u5_5⟩, ⟨u5_6⟩, ⟨(by (with_reducible repeat (first | refine blk_drewN ?_ _ | refine blk_drew ?_ | refine blk_alloc ?_ _)); refine blk_put (cs := #[.slice Ao56 y177.length co56]) ?_ 0 _ rfl; (with_reducible repeat (first | refine blk_drewN ?_ _ | refine blk_drew ?_ | refine blk_alloc ?_ _)); exact BK171.out)⟩, ⟨u5_0⟩⟩

end Go.Proofs.Ytdbfjakhkclggaa.QFnExactOpenAccount
