-- Printed by the session's own program wip/prx.py.
import Derived.Test.YtoemdmjdpikfbaaQFnExactLearnerx0
import Derived.Test.YtoemdmjdpikfbaaQFnExactLearnerx4
import Derived.Test.YtoemdmjdpikfbaaQFnExactLearnerx5
import Derived.Test.YtoemdmjdpikfbaaQFnExactLearnerx6
namespace Go.Proofs.Ytoemdmjdpikfbaa.QFnExactLearner
open Go.RowKit Go.Proofs.YtoemdmjdpikfbaaW.PrintWords Go.Proofs.YtoemdmjdpikfbaaW.PrintLast Go.Proofs.YtoemdmjdpikfbaaW.PrintMore
attribute [local go_sem] max2_int min2_int max_two min_two max_three min_three max_four min_four Go.Proofs.Ytoemdmjdpikfbaa.Set.isSome_setCell   -- for this text's walks alone
set_option linter.unusedVariables false
set_option linter.unusedSimpArgs false

-- squeezed
theorem u7_0 {P : Prop} (h : P := by repeat (first | (with_reducible first | exact HB.out | apply below_alloc | apply pw_below_drewN | apply below_drew1 | refine below_set ?_ GE235.out | refine below_set ?_ GE236.out | refine below_set ?_ GE257.out) | exact HB.out)) : P := h
theorem u7_1 {P : Prop} (h : P := by repeat (first | (with_reducible first | exact HB.out | apply below_alloc | apply pw_below_drewN | apply below_drew1 | refine below_set ?_ GE235.out | refine below_set ?_ GE236.out) | exact HB.out)) : P := h
theorem u7_2 {P : Prop} (h : P := by (with_reducible repeat (first | refine blk_drewN ?_ _ | refine blk_drew ?_ | refine blk_alloc ?_ _)); exact BK235.out) : P := h
theorem u7_3 {P : Prop} (h : P := by (with_reducible repeat (first | refine blk_drewN ?_ _ | refine blk_drew ?_ | refine blk_alloc ?_ _)); exact BK236.out) : P := h
theorem u7_4 {P : Prop} (h : P := by (with_reducible repeat (first | apply Kd.R_alloc | apply Kd.R_drewN | apply Kd.R_drew)); exact HO_258000.out) : P := h
theorem u7_5 {P : Prop} (h : P := by (with_reducible repeat (first | apply Kd.R_alloc | apply Kd.R_drewN | apply Kd.R_drew)); exact HO_258001.out) : P := h
theorem u7_6 {P : Prop} (h : P := by repeat (first | exact (Kd.C_below HR0_2.out HB.out) | (with_reducible refine Kd.C_alloc ?_ _) | (with_reducible refine Kd.C_drewN ?_ _) | (with_reducible refine Kd.C_drew ?_))) : P := h
theorem u7_7 {P : Prop} (h : P := by (with_reducible repeat (first | apply Kd.R_alloc | apply Kd.R_drewN | apply Kd.R_drew)); exact HO_258002.out) : P := h
theorem u7_8 {P : Prop} (h : P := by (try simp only [List.map_toArray, List.map_cons, List.map_nil]); first | done | rfl | (simp only [List.length_drop, List.length_take]; rfl)) : P := h
theorem u7_9 {P : Prop} (h : P := by (with_reducible repeat (first | refine blk_drewN ?_ _ | refine blk_drew ?_ | refine blk_alloc ?_ _)); refine blk_far ?_ NB235_257.out _; (with_reducible repeat (first | refine blk_drewN ?_ _ | refine blk_drew ?_ | refine blk_alloc ?_ _)); exact BK235.out) : P := h
theorem u7_10 {P : Prop} (h : P := by (with_reducible repeat (first | refine blk_drewN ?_ _ | refine blk_drew ?_ | refine blk_alloc ?_ _)); refine blk_far ?_ NB236_257.out _; (with_reducible repeat (first | refine blk_drewN ?_ _ | refine blk_drew ?_ | refine blk_alloc ?_ _)); exact BK236.out) : P := h
theorem u7_11 {P : Prop} (h : P := by (with_reducible repeat (first | refine blk_drewN ?_ _ | refine blk_drew ?_ | refine blk_alloc ?_ _)); exact BK257.out) : P := h
theorem u7_12 {P : Prop} (h : P := by repeat (first | exact (Kd.C_below HR0_0.out HB.out) | (with_reducible refine Kd.C_alloc ?_ _) | (with_reducible refine Kd.C_drewN ?_ _) | (with_reducible refine Kd.C_drew ?_))) : P := h
theorem u7_13 {P : Prop} (h : P := by repeat (first | exact (Kd.C_below HR0_1.out HB.out) | (with_reducible refine Kd.C_alloc ?_ _) | (with_reducible refine Kd.C_drewN ?_ _) | (with_reducible refine Kd.C_drew ?_))) : P := h
theorem u7_14 {P : Prop} (h : P := by (with_reducible repeat (first | apply Kd.R_alloc | apply Kd.R_drewN | apply Kd.R_drew)); exact (Kd.R_mono (Kd.R_far (p := ⟨gb257, 2, none⟩) (Kd.R_far (p := ⟨gb257, 1, none⟩) (Kd.R_far (p := ⟨gb257, 0, none⟩) (Kd.R_types HO250.out BK257.out (by decide)) (fun _ hk => hk.2) (.slice Ao33 t248.length co33)) (fun _ hk => hk.2) (.slice Ao37 t251.length co37)) (fun _ hk => hk.2) (.slice Ao38 t254.length co38)) (fun _ h_ => h_.1))) : P := h
theorem u7_15 {P : Prop} (h : P := by (with_reducible repeat (first | apply Kd.R_alloc | apply Kd.R_drewN | apply Kd.R_drew)); exact (Kd.R_mono (Kd.R_far (p := ⟨gb257, 2, none⟩) (Kd.R_far (p := ⟨gb257, 1, none⟩) (Kd.R_far (p := ⟨gb257, 0, none⟩) (Kd.R_types HO253.out BK257.out (by decide)) (fun _ hk => hk.2) (.slice Ao33 t248.length co33)) (fun _ hk => hk.2) (.slice Ao37 t251.length co37)) (fun _ hk => hk.2) (.slice Ao38 t254.length co38)) (fun _ h_ => h_.1))) : P := h
theorem u7_16 {P : Prop} (h : P := by (with_reducible repeat (first | apply Kd.R_alloc | apply Kd.R_drewN | apply Kd.R_drew)); exact (Kd.R_mono (Kd.R_far (p := ⟨gb257, 2, none⟩) (Kd.R_far (p := ⟨gb257, 1, none⟩) (Kd.R_far (p := ⟨gb257, 0, none⟩) (Kd.R_types HO256.out BK257.out (by decide)) (fun _ hk => hk.2) (.slice Ao33 t248.length co33)) (fun _ hk => hk.2) (.slice Ao37 t251.length co37)) (fun _ hk => hk.2) (.slice Ao38 t254.length co38)) (fun _ h_ => h_.1))) : P := h
theorem u7_17 {P : Prop} (h : P := by repeat (first | exact (Kd.R_reads' HO_258002.out).2.2 | (with_reducible refine Kd.C_alloc ?_ _) | (with_reducible refine Kd.C_drewN ?_ _) | (with_reducible refine Kd.C_drew ?_))) : P := h
theorem u7_18 {P : Prop} (h : P := by (with_reducible repeat (first | refine blk_drewN ?_ _ | refine blk_drew ?_ | refine blk_alloc ?_ _)); refine blk_put (cs := #[.slice Ao33 t248.length co33, .slice Ao37 t251.length co37, .slice Ao38 t254.length co38]) ?_ 2 _ rfl; (with_reducible repeat (first | refine blk_drewN ?_ _ | refine blk_drew ?_ | refine blk_alloc ?_ _)); exact BK257.out) : P := h
theorem u7_19 {P : Prop} (h : P := by repeat (first | (with_reducible first | exact HB.out | apply below_alloc | apply pw_below_drewN | apply below_drew1 | refine below_set ?_ GE235.out) | exact HB.out)) : P := h
theorem u7_20 {P : Prop} (h : P := by (with_reducible repeat (first | refine blk_drewN ?_ _ | refine blk_drew ?_ | refine blk_alloc ?_ _)); refine blk_put (cs := #[.slice Ao33 t248.length co33, .slice Ao37 t251.length co37, u258002]) ?_ 2 _ rfl; (with_reducible repeat (first | refine blk_drewN ?_ _ | refine blk_drew ?_ | refine blk_alloc ?_ _)); exact BK257.out) : P := h
theorem u7_21 {P : Prop} (h : P := by repeat (first | (with_reducible first | exact HB.out | apply below_alloc | apply pw_below_drewN | apply below_drew1) | exact HB.out)) : P := h
theorem u7_22 {P : Prop} (h : P := by (with_reducible repeat (first | apply Kd.R_alloc | apply Kd.R_drewN | apply Kd.R_drew)); exact (Kd.R_mono (Kd.R_far (p := ⟨gb257, 2, none⟩) (Kd.R_types HO250.out BK257.out (by decide)) (fun _ hk => hk.2) (.slice Ao44 t261.length co44)) (fun _ h_ => h_.1))) : P := h
theorem u7_23 {P : Prop} (h : P := by (with_reducible repeat (first | apply Kd.R_alloc | apply Kd.R_drewN | apply Kd.R_drew)); exact (Kd.R_mono (Kd.R_far (p := ⟨gb257, 2, none⟩) (Kd.R_types HO253.out BK257.out (by decide)) (fun _ hk => hk.2) (.slice Ao44 t261.length co44)) (fun _ h_ => h_.1))) : P := h
theorem u7_24 {P : Prop} (h : P := by (with_reducible repeat (first | apply Kd.R_alloc | apply Kd.R_drewN | apply Kd.R_drew)); exact (Kd.R_mono (Kd.R_far (p := ⟨gb257, 2, none⟩) (Kd.R_types HO256.out BK257.out (by decide)) (fun _ hk => hk.2) (.slice Ao44 t261.length co44)) (fun _ h_ => h_.1))) : P := h
theorem u7_25 {P : Prop} (h : P := by (with_reducible repeat (first | apply Kd.R_alloc | apply Kd.R_drewN | apply Kd.R_drew)); exact (Kd.R_mono (Kd.R_far (p := ⟨gb257, 2, none⟩) (Kd.R_types HO260.out BK257.out (by decide)) (fun _ hk => hk.2) (.slice Ao44 t261.length co44)) (fun _ h_ => h_.1))) : P := h
theorem u7_26 {P : Prop} (h : P := by (with_reducible repeat (first | apply Kd.R_alloc | apply Kd.R_drewN | apply Kd.R_drew)); exact (Kd.R_mono (Kd.R_far (p := ⟨gb257, 2, none⟩) (Kd.R_types HO263.out BK257.out (by decide)) (fun _ hk => hk.2) (.slice Ao44 t261.length co44)) (fun _ h_ => h_.1))) : P := h
theorem u7_27 {P : Prop} (h : P := by first | rfl | (simp; done) | (simp [*]; done)) : P := h
theorem u7_28 {P : Prop} (h : P := by (with_reducible repeat (first | apply Kd.R_alloc | apply Kd.R_drewN | apply Kd.R_drew)); exact HO250.out) : P := h
theorem u7_29 {P : Prop} (h : P := by (with_reducible repeat (first | apply Kd.R_alloc | apply Kd.R_drewN | apply Kd.R_drew)); exact HO253.out) : P := h
theorem u7_30 {P : Prop} (h : P := by (with_reducible repeat (first | apply Kd.R_alloc | apply Kd.R_drewN | apply Kd.R_drew)); exact HO256.out) : P := h
theorem u7_31 {P : Prop} (h : P := by repeat (first | exact (Kd.R_reads' HO_258000.out).2.2 | (with_reducible refine Kd.C_alloc ?_ _) | (with_reducible refine Kd.C_drewN ?_ _) | (with_reducible refine Kd.C_drew ?_))) : P := h
theorem u7_32 {P : Prop} (h : P := by repeat (first | exact (Kd.R_reads' HO_258001.out).2.2 | (with_reducible refine Kd.C_alloc ?_ _) | (with_reducible refine Kd.C_drewN ?_ _) | (with_reducible refine Kd.C_drew ?_))) : P := h
theorem u7_33 {P : Prop} (h : P := by (with_reducible repeat (first | apply Kd.R_alloc | apply Kd.R_drewN | apply Kd.R_drew)); exact HO260.out) : P := h
theorem u7_34 {P : Prop} (h : P := by have := HJ3.out; have := HK2.out; omega) : P := h
/-! ### spec_Learner: function 21 -/
mutual
def spec_Learner.j0 : Nat → Int → Bool → Bool → List Int → List Int → List Int → Option (List Int × List Int × List Int × Bool)
  | 0, _, _, _, _, _, _ => none
  | k + 1, x1, x2, x20, x236000, x236001, x236002 => if x20 = true then ((spec_l06Copy.f k x236000 x236001 x236002).bind fun bt239 => (some (bt239.1, bt239.2.1, bt239.2.2, false))) else ((spec_l06Copy.f k x236000 x236001 x236002).bind fun bt248 => ((spec_l06Less.f k x236002 (([x1] : List Int))).bind fun t261 => (if x2 = true then (spec_Learner.l0 k x1 0 x236000 x236001 x236002 bt248.1 bt248.2.1 (([] : List Int))) else (spec_Learner.j2 k x236000 x236001 x236002 bt248.1 bt248.2.1 t261))))
def spec_Learner.j2 : Nat → List Int → List Int → List Int → List Int → List Int → List Int → Option (List Int × List Int × List Int × Bool)
  | 0, _, _, _, _, _, _ => none
  | k + 1, x236000, x236001, x236002, x258000, x258001, x258002 => (spec_ConfOk.f k x258000 x258001 x258002).bind fun t274 => (if t274 = true then ((spec_l06Same.f k x258002 x236002).bind fun t275 => (if t275 = true then ((spec_l06Copy.f k x236000 x236001 x236002).bind fun bt276 => (some (bt276.1, bt276.2.1, bt276.2.2, false))) else (some (x258000, x258001, x258002, true)))) else ((spec_l06Copy.f k x236000 x236001 x236002).bind fun bt285 => (some (bt285.1, bt285.2.1, bt285.2.2, false))))
def spec_Learner.l0 : Nat → Int → Int → List Int → List Int → List Int → List Int → List Int → List Int → Option (List Int × List Int × List Int × Bool)
  | 0, _, _, _, _, _, _, _, _ => none
  | k + 1, x1, x9, x236000, x236001, x236002, x258000, x258001, x258002 => if x9 < 100 then (if x9 = x1 then (if x258002.length < 17592186044416 then (spec_Learner.l0 k x1 (wrap64 (x9 + 1)) x236000 x236001 x236002 x258000 x258001 (x258002 ++ [x9])) else (none)) else ((spec_l01Has.f k x236002 x9).bind fun t270 => (if t270 = true then (if x258002.length < 17592186044416 then (spec_Learner.l0 k x1 (wrap64 (x9 + 1)) x236000 x236001 x236002 x258000 x258001 (x258002 ++ [x9])) else (none)) else (spec_Learner.l0 k x1 (wrap64 (x9 + 1)) x236000 x236001 x236002 x258000 x258001 x258002)))) else (spec_Learner.j2 k x236000 x236001 x236002 x258000 x258001 x258002)
end
def spec_Learner.f (k : Nat) (l0_0 : List Int) (l0_1 : List Int) (l0_2 : List Int) (a1 : Int) (a2 : Bool) : Option (List Int × List Int × List Int × Bool) := (spec_ConfOk.f k l0_0 l0_1 l0_2).bind fun t237 => (if t237 = true then ((spec_l01Has.f k l0_2 a1).bind fun t238 => (spec_Learner.j0 k a1 a2 (t238 == a2) l0_0 l0_1 l0_2)) else (spec_Learner.j0 k a1 a2 true l0_0 l0_1 l0_2))
theorem spec_Learner.mono_l : ∀ k, (∀ y0 y1 y2 y3 y4 y5, LeO (spec_Learner.j0 k y0 y1 y2 y3 y4 y5) (spec_Learner.j0 (k + 1) y0 y1 y2 y3 y4 y5)) ∧ (∀ y0 y1 y2 y3 y4 y5, LeO (spec_Learner.j2 k y0 y1 y2 y3 y4 y5) (spec_Learner.j2 (k + 1) y0 y1 y2 y3 y4 y5)) ∧ (∀ y0 y1 y2 y3 y4 y5 y6 y7, LeO (spec_Learner.l0 k y0 y1 y2 y3 y4 y5 y6 y7) (spec_Learner.l0 (k + 1) y0 y1 y2 y3 y4 y5 y6 y7))
  | 0 => ⟨fun _ _ _ _ _ _ r h => by simp [spec_Learner.j0] at h, fun _ _ _ _ _ _ r h => by simp [spec_Learner.j2] at h, fun _ _ _ _ _ _ _ _ r h => by simp [spec_Learner.l0] at h⟩
  | k + 1 => by
    obtain ⟨ih0, ih1, ih2⟩ := spec_Learner.mono_l k
    refine ⟨?_, ?_, ?_⟩
    · intro y0 y1 y2 y3 y4 y5
      unfold spec_Learner.j0
      repeat' first
      | (with_reducible exact ih0 _ _ _ _ _ _)
      | (with_reducible exact ih1 _ _ _ _ _ _)
      | (with_reducible exact ih2 _ _ _ _ _ _ _ _)
      | (with_reducible exact spec_ConfOk.mono _ _ _ _)
      | (with_reducible exact spec_l01Has.mono _ _ _)
      | (with_reducible exact spec_l06Copy.mono _ _ _ _)
      | (with_reducible exact spec_l06Less.mono _ _ _)
      | (with_reducible exact spec_l06Same.mono _ _ _)
      | (with_reducible exact LeO.refl _)
      | (with_reducible exact LeO.none _)
      | (with_reducible refine LeO.ite ?_ ?_)
      | (with_reducible refine LeO.bind ?_ (fun _ => ?_))
      | exact ih0 _ _ _ _ _ _
      | exact ih1 _ _ _ _ _ _
      | exact ih2 _ _ _ _ _ _ _ _
      | exact spec_ConfOk.mono _ _ _ _
      | exact spec_l01Has.mono _ _ _
      | exact spec_l06Copy.mono _ _ _ _
      | exact spec_l06Less.mono _ _ _
      | exact spec_l06Same.mono _ _ _
      | exact LeO.none _
      | refine LeO.ite ?_ ?_
      | refine LeO.bind ?_ (fun _ => ?_)
    · intro y0 y1 y2 y3 y4 y5
      unfold spec_Learner.j2
      repeat' first
      | (with_reducible exact ih0 _ _ _ _ _ _)
      | (with_reducible exact ih1 _ _ _ _ _ _)
      | (with_reducible exact ih2 _ _ _ _ _ _ _ _)
      | (with_reducible exact spec_ConfOk.mono _ _ _ _)
      | (with_reducible exact spec_l01Has.mono _ _ _)
      | (with_reducible exact spec_l06Copy.mono _ _ _ _)
      | (with_reducible exact spec_l06Less.mono _ _ _)
      | (with_reducible exact spec_l06Same.mono _ _ _)
      | (with_reducible exact LeO.refl _)
      | (with_reducible exact LeO.none _)
      | (with_reducible refine LeO.ite ?_ ?_)
      | (with_reducible refine LeO.bind ?_ (fun _ => ?_))
      | exact ih0 _ _ _ _ _ _
      | exact ih1 _ _ _ _ _ _
      | exact ih2 _ _ _ _ _ _ _ _
      | exact spec_ConfOk.mono _ _ _ _
      | exact spec_l01Has.mono _ _ _
      | exact spec_l06Copy.mono _ _ _ _
      | exact spec_l06Less.mono _ _ _
      | exact spec_l06Same.mono _ _ _
      | exact LeO.none _
      | refine LeO.ite ?_ ?_
      | refine LeO.bind ?_ (fun _ => ?_)
    · intro y0 y1 y2 y3 y4 y5 y6 y7
      unfold spec_Learner.l0
      repeat' first
      | (with_reducible exact ih0 _ _ _ _ _ _)
      | (with_reducible exact ih1 _ _ _ _ _ _)
      | (with_reducible exact ih2 _ _ _ _ _ _ _ _)
      | (with_reducible exact spec_ConfOk.mono _ _ _ _)
      | (with_reducible exact spec_l01Has.mono _ _ _)
      | (with_reducible exact spec_l06Copy.mono _ _ _ _)
      | (with_reducible exact spec_l06Less.mono _ _ _)
      | (with_reducible exact spec_l06Same.mono _ _ _)
      | (with_reducible exact LeO.refl _)
      | (with_reducible exact LeO.none _)
      | (with_reducible refine LeO.ite ?_ ?_)
      | (with_reducible refine LeO.bind ?_ (fun _ => ?_))
      | exact ih0 _ _ _ _ _ _
      | exact ih1 _ _ _ _ _ _
      | exact ih2 _ _ _ _ _ _ _ _
      | exact spec_ConfOk.mono _ _ _ _
      | exact spec_l01Has.mono _ _ _
      | exact spec_l06Copy.mono _ _ _ _
      | exact spec_l06Less.mono _ _ _
      | exact spec_l06Same.mono _ _ _
      | exact LeO.none _
      | refine LeO.ite ?_ ?_
      | refine LeO.bind ?_ (fun _ => ?_)
theorem spec_Learner.mono : ∀ a0 a1 a2 a3 a4 k, LeO (spec_Learner.f k a0 a1 a2 a3 a4) (spec_Learner.f (k + 1) a0 a1 a2 a3 a4) := by
  intro a0 a1 a2 a3 a4 k
  obtain ⟨ih0, ih1, ih2⟩ := spec_Learner.mono_l k
  unfold spec_Learner.f
  repeat' first
      | (with_reducible exact ih0 _ _ _ _ _ _)
      | (with_reducible exact ih1 _ _ _ _ _ _)
      | (with_reducible exact ih2 _ _ _ _ _ _ _ _)
      | (with_reducible exact spec_ConfOk.mono _ _ _ _)
      | (with_reducible exact spec_l01Has.mono _ _ _)
      | (with_reducible exact spec_l06Copy.mono _ _ _ _)
      | (with_reducible exact spec_l06Less.mono _ _ _)
      | (with_reducible exact spec_l06Same.mono _ _ _)
      | (with_reducible exact LeO.refl _)
      | (with_reducible exact LeO.none _)
      | (with_reducible refine LeO.ite ?_ ?_)
      | (with_reducible refine LeO.bind ?_ (fun _ => ?_))
      | exact ih0 _ _ _ _ _ _
      | exact ih1 _ _ _ _ _ _
      | exact ih2 _ _ _ _ _ _ _ _
      | exact spec_ConfOk.mono _ _ _ _
      | exact spec_l01Has.mono _ _ _
      | exact spec_l06Copy.mono _ _ _ _
      | exact spec_l06Less.mono _ _ _
      | exact spec_l06Same.mono _ _ _
      | exact LeO.none _
      | refine LeO.ite ?_ ?_
      | refine LeO.bind ?_ (fun _ => ?_)
set_option maxHeartbeats 8000000 in
set_option maxRecDepth 100000 in
theorem spec_Learner.calls (k : Nat) (A0_0 : Option Addr) (c0_0 : Nat) (l0_0 : List Int) (A0_1 : Option Addr) (c0_1 : Nat) (l0_1 : List Int) (A0_2 : Option Addr) (c0_2 : Nat) (l0_2 : List Int) (a1 : Int) (a2 : Bool) (r1 : List Int) (r2 : List Int) (r3 : List Int) (r4 : Bool) (w : World) (hr0_0 : Kd.C (Kd.int .i64) w A0_0 l0_0.length l0_0) (hc0_0 : l0_0.length ≤ c0_0) (hr0_1 : Kd.C (Kd.int .i64) w A0_1 l0_1.length l0_1) (hc0_1 : l0_1.length ≤ c0_1) (hr0_2 : Kd.C (Kd.int .i64) w A0_2 l0_2.length l0_2) (hc0_2 : l0_2.length ≤ c0_2) (h : spec_Learner.f k l0_0 l0_1 l0_2 a1 a2 = some (r1, r2, r3, r4)) :
    Calls Try.prog 21 #[.agg #[.slice A0_0 l0_0.length c0_0, .slice A0_1 l0_1.length c0_1, .slice A0_2 l0_2.length c0_2], .int .i64 a1, .bool a2] w fun e w' => ∃ v0_ v1_ v2_ : Value, e = .returned (.tuple #[.agg #[v0_, v1_, v2_], .bool r4]) ∧ Kd.R (Kd.int .i64) 3 w' w.heap.size (fun k_ => some k_ ≠ (v1_ : Value).ownBlock ∧ some k_ ≠ (v2_ : Value).ownBlock) v0_ r1 ∧ Kd.R (Kd.int .i64) 3 w' w.heap.size (fun k_ => some k_ ≠ (v0_ : Value).ownBlock ∧ some k_ ≠ (v2_ : Value).ownBlock) v1_ r2 ∧ Kd.R (Kd.int .i64) 3 w' w.heap.size (fun k_ => some k_ ≠ (v0_ : Value).ownBlock ∧ some k_ ≠ (v1_ : Value).ownBlock) v2_ r3 ∧ Below w.heap.size w w' := by
  have hu26 := Try.underlying26
  have HR0_0 := Aside0.mk hr0_0
  have HC0_0 := Aside0.mk hc0_0
  clear hr0_0 hc0_0
  have HR0_1 := Aside0.mk hr0_1
  have HC0_1 := Aside0.mk hc0_1
  clear hr0_1 hc0_1
  have HR0_2 := Aside0.mk hr0_2
  have HC0_2 := Aside0.mk hc0_2
  clear hr0_2 hc0_2
  have HB := Aside0.mk (Below.refl w.heap.size w)
  have H : ((spec_ConfOk.f k l0_0 l0_1 l0_2).bind fun t237 => (if t237 = true then ((spec_l01Has.f k l0_2 a1).bind fun t238 => (spec_Learner.j0 k a1 a2 (t238 == a2) l0_0 l0_1 l0_2)) else (spec_Learner.j0 k a1 a2 true l0_0 l0_1 l0_2))) = some (r1, r2, r3, r4) := h
  clear h
  have HC4 := Aside0.mk H
  clear H
  go_enter Try.func21, Try.ntmps21
  go_upto_region 1 with (first | ((with_reducible refine gate_dst (N := 3) rfl ?_); refine box_event ?hg (N := 3) ?hd (cs := #[.slice A0_0 l0_0.length c0_0, .slice A0_1 l0_1.length c0_1, .slice A0_2 l0_2.length c0_2]) (t := 26) ?hr ?_; (case hd => rfl); (case hg => rfl); (case hr => first | (go_simp; done) | (go_simp; rfl)); intro gb235 hg w5 hbox hb; have n0_ := Aside0.mk (below_step u7_21 hb); have n1_ := Aside0.mk (hbox); have n2_ := Aside0.mk ((by rw [hg]; exact (below_size u7_21) : w.heap.size ≤ gb235)); have n3_ := Aside0.mk ((by rw [hg]; exact (below_size u7_21) : w.heap.size ≤ gb235)); clear HB; have HB := n0_; have BK235 := n1_; have GW235 := n2_; have GE235 := n3_; clear n0_ n1_ n2_ n3_; clear hb hbox hg) | ((with_reducible refine gate_dst (N := 6) rfl ?_); refine box_event ?hg (N := 6) ?hd (cs := #[.slice none 0 0, .slice none 0 0, .slice none 0 0]) (t := 26) ?hr ?_; (case hd => rfl); (case hg => rfl); (case hr => first | (go_simp; done) | (go_simp; rfl)); intro gb236 hg w6 hbox hb; have n0_ := Aside0.mk (blk_below (g := gb235) (o := .cells #[.slice A0_0 l0_0.length c0_0, .slice A0_1 l0_1.length c0_1, .slice A0_2 l0_2.length c0_2] 26 (0, 0)) u7_2 hb); have n1_ := Aside0.mk (below_step u7_19 hb); have n2_ := Aside0.mk (hbox); have n3_ := Aside0.mk ((by rw [hg]; exact (below_size u7_19) : w.heap.size ≤ gb236)); have n4_ := Aside0.mk ((by rw [hg]; exact (below_size u7_19) : w.heap.size ≤ gb236)); have n5_ := Aside0.mk ((by rw [hg]; exact Nat.ne_of_lt (blk_lt (g := gb235) (o := .cells #[.slice A0_0 l0_0.length c0_0, .slice A0_1 l0_1.length c0_1, .slice A0_2 l0_2.length c0_2] 26 (0, 0)) u7_2) : gb235 ≠ gb236)); have n6_ := Aside0.mk ((by rw [hg]; exact Nat.ne_of_gt (blk_lt (g := gb235) (o := .cells #[.slice A0_0 l0_0.length c0_0, .slice A0_1 l0_1.length c0_1, .slice A0_2 l0_2.length c0_2] 26 (0, 0)) u7_2) : gb236 ≠ gb235)); clear BK235; clear HB; have BK235 := n0_; have HB := n1_; have BK236 := n2_; have GW236 := n3_; have GE236 := n4_; have NB235_236 := n5_; have NB236_235 := n6_; clear n0_ n1_ n2_ n3_ n4_ n5_ n6_; clear hb hbox hg))
  (try simp only [Act.put, List.setIfInBounds_toArray, List.set_cons_zero, List.set_cons_succ])
  go_cut [20] (fun v20 wc => ∃ (kq : Nat) (x20_3 : Bool), v20 = .bool x20_3 ∧ Aside0 (spec_Learner.j0 kq a1 a2 x20_3 l0_0 l0_1 l0_2 = some (r1, r2, r3, r4)) ∧ Aside0 (kq ≤ k) ∧ Aside0 (wc.heap[gb235]? = some (.cells #[(.slice A0_0 l0_0.length c0_0), (.slice A0_1 l0_1.length c0_1), (.slice A0_2 l0_2.length c0_2)] 26 (0, 0))) ∧ Aside0 (wc.heap[gb236]? = some (.cells #[(.slice none 0 0), (.slice none 0 0), (.slice none 0 0)] 26 (0, 0))) ∧ Aside0 (Below w.heap.size w wc))
  case first =>
    have H := HC4.out
    clear HC4
    replace H := Option.bind_eq_some_iff.mp H
    obtain ⟨t237, A70, H⟩ := H
    have A7 := Aside0.mk A70
    clear A70
    by_cases c8 : t237 = true
    rotate_left
    · replace c8 := Bool.eq_false_iff.mpr c8
      subst c8
      rw [if_neg (show ¬ (false = true) by decide)] at H
      have H' := Aside0.mk H
      clear H
      have hnb14 := NB235_236.out
      have hnc14 := NB236_235.out
      have hcz15_0 : w6.cell? ⟨gb235, 0, none⟩ = some (.slice A0_0 l0_0.length c0_0) := (blk_cell BK235.out 0).trans rfl
      have hcz15_1 : w6.cell? ⟨gb235, 1, none⟩ = some (.slice A0_1 l0_1.length c0_1) := (blk_cell BK235.out 1).trans rfl
      have hcz15_2 : w6.cell? ⟨gb235, 2, none⟩ = some (.slice A0_2 l0_2.length c0_2) := (blk_cell BK235.out 2).trans rfl
      have hfz15_0 := blk_frozen BK235.out 0
      have hfz15_1 := blk_frozen BK235.out 1
      have hfz15_2 := blk_frozen BK235.out 2
      go_wp2_with (first | ((with_reducible refine gate_callee (f := 53) rfl ?_); refine goesL_ (some 11) rfl rfl Try.func53 (by kernel_rfl) rfl #[.agg #[.slice A0_0 l0_0.length c0_0, .slice A0_1 l0_1.length c0_1, .slice A0_2 l0_2.length c0_2]] rfl u7_8 ?_; (with_reducible refine (spec_ConfOk.calls k _ _ l0_0 _ _ l0_1 _ _ l0_2 false _ ?side1 ?side2 ?side3 ?side4 ?side5 ?side6 A7.out).mono ?_); (case side1 => exact u7_12); (case side2 => exact HC0_0.out); (case side3 => exact u7_13); (case side4 => exact HC0_1.out); (case side5 => exact u7_6); (case side6 => exact HC0_2.out); rintro e w16 ⟨rfl, hb⟩; refine ⟨_, rfl, ?_⟩; have n0_ := Aside0.mk (blk_below (g := gb235) (o := .cells #[.slice A0_0 l0_0.length c0_0, .slice A0_1 l0_1.length c0_1, .slice A0_2 l0_2.length c0_2] 26 (0, 0)) u7_2 hb); have n1_ := Aside0.mk (blk_below (g := gb236) (o := .cells #[.slice none 0 0, .slice none 0 0, .slice none 0 0] 26 (0, 0)) u7_3 hb); have n2_ := Aside0.mk (below_step u7_1 hb); clear BK235; clear BK236; clear HB; have BK235 := n0_; have BK236 := n1_; have HB := n2_; clear n0_ n1_ n2_; (try clear hb); (try clear hb2); (try clear hk); (try clear hi)))
      go_meet
      case rel => exact ⟨_, (true), u7_27, H', ⟨by first | omega | exact Nat.le_refl _⟩, ⟨u7_2⟩, ⟨u7_3⟩, ⟨u7_1⟩⟩
    subst c8
    rw [if_pos rfl] at H
    replace H := Option.bind_eq_some_iff.mp H
    obtain ⟨t238, A90, H⟩ := H
    replace H : (spec_Learner.j0 k a1 a2 (t238 == a2) l0_0 l0_1 l0_2) = some (r1, r2, r3, r4) := H
    have A9 := Aside0.mk A90
    clear A90
    have H' := Aside0.mk H
    clear H
    have hnb10 := NB235_236.out
    have hnc10 := NB236_235.out
    have hcz11_0 : w6.cell? ⟨gb235, 0, none⟩ = some (.slice A0_0 l0_0.length c0_0) := (blk_cell BK235.out 0).trans rfl
    have hcz11_1 : w6.cell? ⟨gb235, 1, none⟩ = some (.slice A0_1 l0_1.length c0_1) := (blk_cell BK235.out 1).trans rfl
    have hcz11_2 : w6.cell? ⟨gb235, 2, none⟩ = some (.slice A0_2 l0_2.length c0_2) := (blk_cell BK235.out 2).trans rfl
    have hfz11_0 := blk_frozen BK235.out 0
    have hfz11_1 := blk_frozen BK235.out 1
    have hfz11_2 := blk_frozen BK235.out 2
    go_wp2_with (first | ((with_reducible refine gate_callee (f := 53) rfl ?_); refine goesL_ (some 11) rfl rfl Try.func53 (by kernel_rfl) rfl #[.agg #[.slice A0_0 l0_0.length c0_0, .slice A0_1 l0_1.length c0_1, .slice A0_2 l0_2.length c0_2]] rfl u7_8 ?_; (with_reducible refine (spec_ConfOk.calls k _ _ l0_0 _ _ l0_1 _ _ l0_2 true _ ?side1 ?side2 ?side3 ?side4 ?side5 ?side6 A7.out).mono ?_); (case side1 => exact u7_12); (case side2 => exact HC0_0.out); (case side3 => exact u7_13); (case side4 => exact HC0_1.out); (case side5 => exact u7_6); (case side6 => exact HC0_2.out); rintro e w12 ⟨rfl, hb⟩; refine ⟨_, rfl, ?_⟩; have n0_ := Aside0.mk (blk_below (g := gb235) (o := .cells #[.slice A0_0 l0_0.length c0_0, .slice A0_1 l0_1.length c0_1, .slice A0_2 l0_2.length c0_2] 26 (0, 0)) u7_2 hb); have n1_ := Aside0.mk (blk_below (g := gb236) (o := .cells #[.slice none 0 0, .slice none 0 0, .slice none 0 0] 26 (0, 0)) u7_3 hb); have n2_ := Aside0.mk (below_step u7_1 hb); clear BK235; clear BK236; clear HB; have BK235 := n0_; have BK236 := n1_; have HB := n2_; clear n0_ n1_ n2_; (try clear hb); (try clear hb2); (try clear hk); (try clear hi); have hcz13_0 : w12.cell? ⟨gb235, 0, none⟩ = some (.slice A0_0 l0_0.length c0_0) := (blk_cell BK235.out 0).trans rfl; have hcz13_1 : w12.cell? ⟨gb235, 1, none⟩ = some (.slice A0_1 l0_1.length c0_1) := (blk_cell BK235.out 1).trans rfl; have hcz13_2 : w12.cell? ⟨gb235, 2, none⟩ = some (.slice A0_2 l0_2.length c0_2) := (blk_cell BK235.out 2).trans rfl; have hfz13_0 := blk_frozen BK235.out 0; have hfz13_1 := blk_frozen BK235.out 1; have hfz13_2 := blk_frozen BK235.out 2) | (go_at_call 54; (with_reducible refine (spec_l01Has.calls k _ _ l0_2 a1 t238 _ ?side1 ?side2 A9.out).mono ?_); (case side1 => exact u7_6); (case side2 => exact HC0_2.out); rintro e w' ⟨rfl, ⟨nd, rfl⟩⟩))
    go_meet
    case rel => exact ⟨_, ((t238 == a2)), u7_27, H', ⟨by first | omega | exact Nat.le_refl _⟩, ⟨u7_2⟩, ⟨u7_3⟩, ⟨u7_1⟩⟩
  clear HC4
  try clear c1
  try clear c2
  try clear p2
  try clear c5
  try clear c8
  try clear c10
  try clear c14
  try clear hcz11_0
  try clear hcz11_1
  try clear hcz11_2
  try clear hcz13_0
  try clear hcz13_1
  try clear hcz13_2
  try clear hcz15_0
  try clear hcz15_1
  try clear hcz15_2
  try clear hfz11_0
  try clear hfz11_1
  try clear hfz11_2
  try clear hfz13_0
  try clear hfz13_1
  try clear hfz13_2
  try clear hfz15_0
  try clear hfz15_1
  try clear hfz15_2
  obtain ⟨kq, x20_3, rfl, HA, HJ3, BK235, BK236, HB⟩ := hcut
  cases kq with
  | zero => exact absurd HA.out (by simp [spec_Learner.j0])
  | succ kj3 =>
    have H := HA.out
    clear HA
    simp only [spec_Learner.j0] at H
    by_cases c17 : x20_3 = true
    · subst c17
      rw [if_pos rfl] at H
      replace H := Option.bind_eq_some_iff.mp H
      obtain ⟨⟨t239, t242, t245⟩, A180, H⟩ := H
      replace H : (some (t239, t242, t245, false)) = some (r1, r2, r3, r4) := H
      have A18 := Aside0.mk A180
      clear A180
      simp only [Option.some.injEq, Prod.mk.injEq] at H
      obtain ⟨rfl, rfl, rfl, rfl⟩ := H
      have hnb19 := NB235_236.out
      have hnc19 := NB236_235.out
      have hcz20_0 : wc.cell? ⟨gb235, 0, none⟩ = some (.slice A0_0 l0_0.length c0_0) := (blk_cell BK235.out 0).trans rfl
      have hcz20_1 : wc.cell? ⟨gb235, 1, none⟩ = some (.slice A0_1 l0_1.length c0_1) := (blk_cell BK235.out 1).trans rfl
      have hcz20_2 : wc.cell? ⟨gb235, 2, none⟩ = some (.slice A0_2 l0_2.length c0_2) := (blk_cell BK235.out 2).trans rfl
      have hfz20_0 := blk_frozen BK235.out 0
      have hfz20_1 := blk_frozen BK235.out 1
      have hfz20_2 := blk_frozen BK235.out 2
      go_wp2_with (first | ((with_reducible refine gate_callee (f := 55) rfl ?_); refine goesL_ (some 22) rfl rfl Try.func55 (by kernel_rfl) rfl #[.agg #[.slice A0_0 l0_0.length c0_0, .slice A0_1 l0_1.length c0_1, .slice A0_2 l0_2.length c0_2]] rfl u7_8 ?_; (with_reducible refine (spec_l06Copy.calls kj3 _ _ l0_0 _ _ l0_1 _ _ l0_2 t239 t242 t245 _ ?side1 ?side2 ?side3 ?side4 ?side5 ?side6 A18.out).mono ?_); (case side1 => exact u7_12); (case side2 => exact HC0_0.out); (case side3 => exact u7_13); (case side4 => exact HC0_1.out); (case side5 => exact u7_6); (case side6 => exact HC0_2.out); rintro e w21 ⟨v240, v243, v246, rfl, ho0, ho1, ho2, hb⟩; refine ⟨_, rfl, ?_⟩; have n0_ := Aside0.mk (Kd.R_lower ho0 (below_size u7_1)); have n1_ := Aside0.mk (Kd.R_lower ho1 (below_size u7_1)); have n2_ := Aside0.mk (Kd.R_lower ho2 (below_size u7_1)); have n3_ := Aside0.mk (blk_below (g := gb235) (o := .cells #[.slice A0_0 l0_0.length c0_0, .slice A0_1 l0_1.length c0_1, .slice A0_2 l0_2.length c0_2] 26 (0, 0)) u7_2 hb); have n4_ := Aside0.mk (blk_below (g := gb236) (o := .cells #[.slice none 0 0, .slice none 0 0, .slice none 0 0] 26 (0, 0)) u7_3 hb); have n5_ := Aside0.mk (below_step u7_1 hb); clear BK235; clear BK236; clear HB; have HO241 := n0_; have HO244 := n1_; have HO247 := n2_; have BK235 := n3_; have BK236 := n4_; have HB := n5_; clear n0_ n1_ n2_ n3_ n4_ n5_; (try clear hb); (try clear hb2); (try clear hk); (try clear hi); (try clear ho0); (try clear ho1); (try clear ho2); obtain ⟨Ao22, co22, eo22⟩ := Kd.R_slice HO241.out; subst eo22; have hcz23_0 : w21.cell? ⟨gb236, 0, none⟩ = some (.slice none 0 0) := (blk_cell BK236.out 0).trans rfl; have hcz23_1 : w21.cell? ⟨gb236, 1, none⟩ = some (.slice none 0 0) := (blk_cell BK236.out 1).trans rfl; have hcz23_2 : w21.cell? ⟨gb236, 2, none⟩ = some (.slice none 0 0) := (blk_cell BK236.out 2).trans rfl; have hfz23_0 := blk_frozen BK236.out 0; have hfz23_1 := blk_frozen BK236.out 1; have hfz23_2 := blk_frozen BK236.out 2; obtain ⟨Ao24, co24, eo24⟩ := Kd.R_slice HO244.out; subst eo24; obtain ⟨Ao25, co25, eo25⟩ := Kd.R_slice HO247.out; subst eo25))
      refine bodyPost_ret (results_ct rfl _ _ gb236 26 #[.slice Ao22 t239.length co22, .slice Ao24 t242.length co24, .slice Ao25 t245.length co25] (0, 0) _ rfl (by (with_reducible repeat (first | refine blk_drewN ?_ _ | refine blk_drew ?_ | refine blk_alloc ?_ _)); refine blk_put (cs := #[.slice Ao22 t239.length co22, .slice Ao24 t242.length co24, .slice none 0 0]) ?_ 2 _ rfl; (with_reducible repeat (first | refine blk_drewN ?_ _ | refine blk_drew ?_ | refine blk_alloc ?_ _)); refine blk_put (cs := #[.slice Ao22 t239.length co22, .slice none 0 0, .slice none 0 0]) ?_ 1 _ rfl; (with_reducible repeat (first | refine blk_drewN ?_ _ | refine blk_drew ?_ | refine blk_alloc ?_ _)); refine blk_put (cs := #[.slice none 0 0, .slice none 0 0, .slice none 0 0]) ?_ 0 _ rfl; (with_reducible repeat (first | refine blk_drewN ?_ _ | refine blk_drew ?_ | refine blk_alloc ?_ _)); exact BK236.out) Try.underlying26 rfl (by kernel_rfl)) rfl ?_
      exact ⟨_, _, _, by first | rfl | (simp [errW_none, errW_some] <;> rfl) | (simp [*, errW_none, errW_some] <;> rfl), (by (with_reducible repeat (first | apply Kd.R_alloc | apply Kd.R_drewN | apply Kd.R_drew)); exact Kd.R_mono (Kd.R_far (p := ⟨gb236, 2, none⟩) (Kd.R_far (p := ⟨gb236, 1, none⟩) (Kd.R_far (p := ⟨gb236, 0, none⟩) (Kd.R_types HO241.out BK236.out (by decide)) (fun _ hk => hk.2) (.slice Ao22 t239.length co22)) (fun _ hk => hk.2) (.slice Ao24 t242.length co24)) (fun _ hk => hk.2) (.slice Ao25 t245.length co25)) (fun _ hk => ⟨hk.1.1, hk.1.2⟩)), (by (with_reducible repeat (first | apply Kd.R_alloc | apply Kd.R_drewN | apply Kd.R_drew)); exact Kd.R_mono (Kd.R_far (p := ⟨gb236, 2, none⟩) (Kd.R_far (p := ⟨gb236, 1, none⟩) (Kd.R_far (p := ⟨gb236, 0, none⟩) (Kd.R_types HO244.out BK236.out (by decide)) (fun _ hk => hk.2) (.slice Ao22 t239.length co22)) (fun _ hk => hk.2) (.slice Ao24 t242.length co24)) (fun _ hk => hk.2) (.slice Ao25 t245.length co25)) (fun _ hk => ⟨hk.1.1, hk.1.2⟩)), (by (with_reducible repeat (first | apply Kd.R_alloc | apply Kd.R_drewN | apply Kd.R_drew)); exact Kd.R_mono (Kd.R_far (p := ⟨gb236, 2, none⟩) (Kd.R_far (p := ⟨gb236, 1, none⟩) (Kd.R_far (p := ⟨gb236, 0, none⟩) (Kd.R_types HO247.out BK236.out (by decide)) (fun _ hk => hk.2) (.slice Ao22 t239.length co22)) (fun _ hk => hk.2) (.slice Ao24 t242.length co24)) (fun _ hk => hk.2) (.slice Ao25 t245.length co25)) (fun _ hk => ⟨hk.1.1, hk.1.2⟩)), u7_1⟩
    replace c17 := Bool.eq_false_iff.mpr c17
    subst c17
    rw [if_neg (show ¬ (false = true) by decide)] at H
    replace H := Option.bind_eq_some_iff.mp H
    obtain ⟨⟨t248, t251, t254⟩, A260, H⟩ := H
    (try dsimp only at H)
    have A26 := Aside0.mk A260
    clear A260
    obtain ⟨y258, hy258⟩ : ∃ y_ : List Int, y_ = (([a1] : List Int)) := ⟨_, rfl⟩
    replace H : ((spec_l06Less.f kj3 l0_2 y258).bind fun t261 => (if a2 = true then (spec_Learner.l0 kj3 a1 0 l0_0 l0_1 l0_2 t248 t251 (([] : List Int))) else (spec_Learner.j2 kj3 l0_0 l0_1 l0_2 t248 t251 t261))) = some (r1, r2, r3, r4) := by first | (rw [hy258]; with_reducible exact H) | (have H2_ := (Option.bind_some _ _).symm.trans H; rw [hy258]; with_reducible exact H2_) | (have H2_ := (Option.bind_some _ _).symm.trans H; with_reducible exact H2_) | with_reducible exact H | (rw [hy258]; exact H) | exact H
    have Ny258 := Aside0.mk hy258
    clear hy258
    replace H := Option.bind_eq_some_iff.mp H
    obtain ⟨t261, A270, H⟩ := H
    have A27 := Aside0.mk A270
    clear A270
    have HC28 := Aside0.mk H
    clear H
    have hnb29 := NB235_236.out
    have hnc29 := NB236_235.out
    have hcz30_0 : wc.cell? ⟨gb235, 0, none⟩ = some (.slice A0_0 l0_0.length c0_0) := (blk_cell BK235.out 0).trans rfl
    have hcz30_1 : wc.cell? ⟨gb235, 1, none⟩ = some (.slice A0_1 l0_1.length c0_1) := (blk_cell BK235.out 1).trans rfl
    have hcz30_2 : wc.cell? ⟨gb235, 2, none⟩ = some (.slice A0_2 l0_2.length c0_2) := (blk_cell BK235.out 2).trans rfl
    have hfz30_0 := blk_frozen BK235.out 0
    have hfz30_1 := blk_frozen BK235.out 1
    have hfz30_2 := blk_frozen BK235.out 2
    go_upto_if 31 with (first | ((with_reducible refine gate_callee (f := 55) rfl ?_); refine goesL_ (some 24) rfl rfl Try.func55 (by kernel_rfl) rfl #[.agg #[.slice A0_0 l0_0.length c0_0, .slice A0_1 l0_1.length c0_1, .slice A0_2 l0_2.length c0_2]] rfl u7_8 ?_; (with_reducible refine (spec_l06Copy.calls kj3 _ _ l0_0 _ _ l0_1 _ _ l0_2 t248 t251 t254 _ ?side1 ?side2 ?side3 ?side4 ?side5 ?side6 A26.out).mono ?_); (case side1 => exact u7_12); (case side2 => exact HC0_0.out); (case side3 => exact u7_13); (case side4 => exact HC0_1.out); (case side5 => exact u7_6); (case side6 => exact HC0_2.out); rintro e w31 ⟨v249, v252, v255, rfl, ho0, ho1, ho2, hb⟩; refine ⟨_, rfl, ?_⟩; have n0_ := Aside0.mk (Kd.R_lower ho0 (below_size u7_1)); have n1_ := Aside0.mk (Kd.R_lower ho1 (below_size u7_1)); have n2_ := Aside0.mk (Kd.R_lower ho2 (below_size u7_1)); have n3_ := Aside0.mk (blk_below (g := gb235) (o := .cells #[.slice A0_0 l0_0.length c0_0, .slice A0_1 l0_1.length c0_1, .slice A0_2 l0_2.length c0_2] 26 (0, 0)) u7_2 hb); have n4_ := Aside0.mk (blk_below (g := gb236) (o := .cells #[.slice none 0 0, .slice none 0 0, .slice none 0 0] 26 (0, 0)) u7_3 hb); have n5_ := Aside0.mk (below_step u7_1 hb); clear BK235; clear BK236; clear HB; have HO250 := n0_; have HO253 := n1_; have HO256 := n2_; have BK235 := n3_; have BK236 := n4_; have HB := n5_; clear n0_ n1_ n2_ n3_ n4_ n5_; (try clear hb); (try clear hb2); (try clear hk); (try clear hi); (try clear ho0); (try clear ho1); (try clear ho2)) | ((with_reducible refine gate_dst (N := 8) rfl ?_); refine box_event ?hg (N := 8) ?hd (cs := #[.slice none 0 0, .slice none 0 0, .slice none 0 0]) (t := 26) ?hr ?_; (case hd => rfl); (case hg => rfl); (case hr => first | (go_simp; done) | (go_simp; rfl)); intro gb257 hg w32 hbox hb; have n0_ := Aside0.mk (Kd.R_below u7_28 hb); have n1_ := Aside0.mk (Kd.R_below u7_29 hb); have n2_ := Aside0.mk (Kd.R_below u7_30 hb); have n3_ := Aside0.mk (blk_below (g := gb235) (o := .cells #[.slice A0_0 l0_0.length c0_0, .slice A0_1 l0_1.length c0_1, .slice A0_2 l0_2.length c0_2] 26 (0, 0)) u7_2 hb); have n4_ := Aside0.mk (blk_below (g := gb236) (o := .cells #[.slice none 0 0, .slice none 0 0, .slice none 0 0] 26 (0, 0)) u7_3 hb); have n5_ := Aside0.mk (below_step u7_1 hb); have n6_ := Aside0.mk (hbox); have n7_ := Aside0.mk ((by rw [hg]; exact (below_size u7_1) : w.heap.size ≤ gb257)); have n8_ := Aside0.mk ((by rw [hg]; exact (below_size u7_1) : w.heap.size ≤ gb257)); have n9_ := Aside0.mk ((by rw [hg]; exact Nat.ne_of_lt (blk_lt (g := gb235) (o := .cells #[.slice A0_0 l0_0.length c0_0, .slice A0_1 l0_1.length c0_1, .slice A0_2 l0_2.length c0_2] 26 (0, 0)) u7_2) : gb235 ≠ gb257)); have n10_ := Aside0.mk ((by rw [hg]; exact Nat.ne_of_gt (blk_lt (g := gb235) (o := .cells #[.slice A0_0 l0_0.length c0_0, .slice A0_1 l0_1.length c0_1, .slice A0_2 l0_2.length c0_2] 26 (0, 0)) u7_2) : gb257 ≠ gb235)); have n11_ := Aside0.mk ((by rw [hg]; exact Nat.ne_of_lt (blk_lt (g := gb236) (o := .cells #[.slice none 0 0, .slice none 0 0, .slice none 0 0] 26 (0, 0)) u7_3) : gb236 ≠ gb257)); have n12_ := Aside0.mk ((by rw [hg]; exact Nat.ne_of_gt (blk_lt (g := gb236) (o := .cells #[.slice none 0 0, .slice none 0 0, .slice none 0 0] 26 (0, 0)) u7_3) : gb257 ≠ gb236)); clear HO250; clear HO253; clear HO256; clear BK235; clear BK236; clear HB; have HO250 := n0_; have HO253 := n1_; have HO256 := n2_; have BK235 := n3_; have BK236 := n4_; have HB := n5_; have BK257 := n6_; have GW257 := n7_; have GE257 := n8_; have NB235_257 := n9_; have NB257_235 := n10_; have NB236_257 := n11_; have NB257_236 := n12_; clear n0_ n1_ n2_ n3_ n4_ n5_ n6_ n7_ n8_ n9_ n10_ n11_ n12_; clear hb hbox hg; obtain ⟨Ao33, co33, eo33⟩ := Kd.R_slice HO250.out; subst eo33; have hnb34 := NB257_235.out; have hnc34 := NB235_257.out; have hnb35 := NB257_236.out; have hnc35 := NB236_257.out; have hcz36_0 : w32.cell? ⟨gb257, 0, none⟩ = some (.slice none 0 0) := (blk_cell BK257.out 0).trans rfl; have hcz36_1 : w32.cell? ⟨gb257, 1, none⟩ = some (.slice none 0 0) := (blk_cell BK257.out 1).trans rfl; have hcz36_2 : w32.cell? ⟨gb257, 2, none⟩ = some (.slice none 0 0) := (blk_cell BK257.out 2).trans rfl; have hfz36_0 := blk_frozen BK257.out 0; have hfz36_1 := blk_frozen BK257.out 1; have hfz36_2 := blk_frozen BK257.out 2; obtain ⟨Ao37, co37, eo37⟩ := Kd.R_slice HO253.out; subst eo37; obtain ⟨Ao38, co38, eo38⟩ := Kd.R_slice HO256.out; subst eo38; have hcz39_0 : w32.cell? ⟨gb235, 0, none⟩ = some (.slice A0_0 l0_0.length c0_0) := (blk_cell BK235.out 0).trans rfl; have hcz39_1 : w32.cell? ⟨gb235, 1, none⟩ = some (.slice A0_1 l0_1.length c0_1) := (blk_cell BK235.out 1).trans rfl; have hcz39_2 : w32.cell? ⟨gb235, 2, none⟩ = some (.slice A0_2 l0_2.length c0_2) := (blk_cell BK235.out 2).trans rfl; have hfz39_0 := blk_frozen BK235.out 0; have hfz39_1 := blk_frozen BK235.out 1; have hfz39_2 := blk_frozen BK235.out 2) | ((with_reducible refine gate_dst (N := 28) rfl ?_); refine Kd.R_lit (Kd.int .i64) _ 3 ?hg (N := 28) ?hd (xs := ([a1] : List Int)) (inner := [.int .i64 a1]) (ok := fun _ => True) (okp := fun _ => True) ?hr ?hp (fun _ hk => hk) trivial (Below.refl _ _) (Nat.le_refl _) (by simp) ?_; (case hd => rfl); (case hg => rfl); (case hr => first | (go_simp; done) | (go_simp; rfl)); (case hp => exact (Reps.one (show Kd.M (Kd.int .i64) _ _ _ a1 [.int .i64 a1] from rfl) (Reps.none _ _))); intro v259 w40 ho41 hb hg_ hnew_; clear hg_ hnew_; (first | rw [← Ny258.out] at ho41 | (simp only [Int.reduceToNat] at ho41; rw [← Ny258.out] at ho41)); have n0_ := Aside0.mk (Kd.R_elder' u7_14 (Kd.R_base ho41) hb); have n1_ := Aside0.mk (Kd.R_elder' u7_15 (Kd.R_base ho41) hb); have n2_ := Aside0.mk (Kd.R_elder' u7_16 (Kd.R_base ho41) hb); have n3_ := Aside0.mk (Kd.R_lower (Kd.R_new' (Kd.R_new' (Kd.R_new' ho41 (Kd.R_lt u7_14)) (Kd.R_lt u7_15)) (Kd.R_lt u7_16)) (below_size u7_0)); have n4_ := Aside0.mk (blk_below (g := gb235) (o := .cells #[.slice A0_0 l0_0.length c0_0, .slice A0_1 l0_1.length c0_1, .slice A0_2 l0_2.length c0_2] 26 (0, 0)) (by (with_reducible repeat (first | refine blk_drewN ?_ _ | refine blk_drew ?_ | refine blk_alloc ?_ _)); refine blk_far ?_ NB235_257.out _; (with_reducible repeat (first | refine blk_drewN ?_ _ | refine blk_drew ?_ | refine blk_alloc ?_ _)); refine blk_far ?_ NB235_257.out _; (with_reducible repeat (first | refine blk_drewN ?_ _ | refine blk_drew ?_ | refine blk_alloc ?_ _)); refine blk_far ?_ NB235_257.out _; (with_reducible repeat (first | refine blk_drewN ?_ _ | refine blk_drew ?_ | refine blk_alloc ?_ _)); exact BK235.out) hb); have n5_ := Aside0.mk (blk_below (g := gb236) (o := .cells #[.slice none 0 0, .slice none 0 0, .slice none 0 0] 26 (0, 0)) (by (with_reducible repeat (first | refine blk_drewN ?_ _ | refine blk_drew ?_ | refine blk_alloc ?_ _)); refine blk_far ?_ NB236_257.out _; (with_reducible repeat (first | refine blk_drewN ?_ _ | refine blk_drew ?_ | refine blk_alloc ?_ _)); refine blk_far ?_ NB236_257.out _; (with_reducible repeat (first | refine blk_drewN ?_ _ | refine blk_drew ?_ | refine blk_alloc ?_ _)); refine blk_far ?_ NB236_257.out _; (with_reducible repeat (first | refine blk_drewN ?_ _ | refine blk_drew ?_ | refine blk_alloc ?_ _)); exact BK236.out) hb); have n6_ := Aside0.mk (blk_below (g := gb257) (o := .cells #[.slice Ao33 t248.length co33, .slice Ao37 t251.length co37, .slice Ao38 t254.length co38] 26 (0, 0)) (by (with_reducible repeat (first | refine blk_drewN ?_ _ | refine blk_drew ?_ | refine blk_alloc ?_ _)); refine blk_put (cs := #[.slice Ao33 t248.length co33, .slice Ao37 t251.length co37, .slice none 0 0]) ?_ 2 _ rfl; (with_reducible repeat (first | refine blk_drewN ?_ _ | refine blk_drew ?_ | refine blk_alloc ?_ _)); refine blk_put (cs := #[.slice Ao33 t248.length co33, .slice none 0 0, .slice none 0 0]) ?_ 1 _ rfl; (with_reducible repeat (first | refine blk_drewN ?_ _ | refine blk_drew ?_ | refine blk_alloc ?_ _)); refine blk_put (cs := #[.slice none 0 0, .slice none 0 0, .slice none 0 0]) ?_ 0 _ rfl; (with_reducible repeat (first | refine blk_drewN ?_ _ | refine blk_drew ?_ | refine blk_alloc ?_ _)); exact BK257.out) hb); have n7_ := Aside0.mk (below_step u7_0 hb); clear HO250; clear HO253; clear HO256; clear BK235; clear BK236; clear BK257; clear HB; have HO250 := n0_; have HO253 := n1_; have HO256 := n2_; have HO260 := n3_; have BK235 := n4_; have BK236 := n5_; have BK257 := n6_; have HB := n7_; clear n0_ n1_ n2_ n3_ n4_ n5_ n6_ n7_; clear hb ho41; obtain ⟨Ao42, co42, eo42⟩ := Kd.R_slice HO260.out; subst eo42) | ((with_reducible refine gate_callee (f := 56) rfl ?_); refine goesL_ (some 29) rfl rfl Try.func56 (by kernel_rfl) rfl #[.slice A0_2 l0_2.length c0_2, .slice Ao42 y258.length co42] rfl u7_8 ?_; (with_reducible refine (spec_l06Less.calls kj3 _ _ l0_2 _ _ y258 t261 _ ?side1 ?side2 ?side3 ?side4 A27.out).mono ?_); (case side1 => exact u7_6); (case side2 => exact HC0_2.out); (case side3 => exact (by repeat (first | exact (Kd.R_reads' HO260.out).2.2 | (with_reducible refine Kd.C_alloc ?_ _) | (with_reducible refine Kd.C_drewN ?_ _) | (with_reducible refine Kd.C_drew ?_)))); (case side4 => exact (Kd.R_reads' HO260.out).2.1); rintro e w43 ⟨v262, rfl, ho0, hb⟩; refine ⟨_, rfl, ?_⟩; have n0_ := Aside0.mk (Kd.R_elder' u7_28 (Kd.R_base ho0) hb); have n1_ := Aside0.mk (Kd.R_elder' u7_29 (Kd.R_base ho0) hb); have n2_ := Aside0.mk (Kd.R_elder' u7_30 (Kd.R_base ho0) hb); have n3_ := Aside0.mk (Kd.R_elder' u7_33 (Kd.R_base ho0) hb); have n4_ := Aside0.mk (Kd.R_lower (Kd.R_new' (Kd.R_new' (Kd.R_new' (Kd.R_new' ho0 (Kd.R_lt u7_28)) (Kd.R_lt u7_29)) (Kd.R_lt u7_30)) (Kd.R_lt u7_33)) (below_size u7_0)); have n5_ := Aside0.mk (blk_below (g := gb235) (o := .cells #[.slice A0_0 l0_0.length c0_0, .slice A0_1 l0_1.length c0_1, .slice A0_2 l0_2.length c0_2] 26 (0, 0)) u7_2 hb); have n6_ := Aside0.mk (blk_below (g := gb236) (o := .cells #[.slice none 0 0, .slice none 0 0, .slice none 0 0] 26 (0, 0)) u7_3 hb); have n7_ := Aside0.mk (blk_below (g := gb257) (o := .cells #[.slice Ao33 t248.length co33, .slice Ao37 t251.length co37, .slice Ao38 t254.length co38] 26 (0, 0)) u7_11 hb); have n8_ := Aside0.mk (below_step u7_0 hb); clear HO250; clear HO253; clear HO256; clear HO260; clear BK235; clear BK236; clear BK257; clear HB; have HO250 := n0_; have HO253 := n1_; have HO256 := n2_; have HO260 := n3_; have HO263 := n4_; have BK235 := n5_; have BK236 := n6_; have BK257 := n7_; have HB := n8_; clear n0_ n1_ n2_ n3_ n4_ n5_ n6_ n7_ n8_; (try clear hb); (try clear hb2); (try clear hk); (try clear hi); (try clear ho0); obtain ⟨Ao44, co44, eo44⟩ := Kd.R_slice HO263.out; subst eo44; have hcz45_0 : w43.cell? ⟨gb257, 0, none⟩ = some (.slice Ao33 t248.length co33) := (blk_cell BK257.out 0).trans rfl; have hcz45_1 : w43.cell? ⟨gb257, 1, none⟩ = some (.slice Ao37 t251.length co37) := (blk_cell BK257.out 1).trans rfl; have hcz45_2 : w43.cell? ⟨gb257, 2, none⟩ = some (.slice Ao38 t254.length co38) := (blk_cell BK257.out 2).trans rfl; have hfz45_0 := blk_frozen BK257.out 0; have hfz45_1 := blk_frozen BK257.out 1; have hfz45_2 := blk_frozen BK257.out 2))
    (try simp only [Act.put, List.setIfInBounds_toArray, List.set_cons_zero, List.set_cons_succ])
    go_cut [] (fun wc => ∃ (kq : Nat) (x258002_27 : List Int) (u258002 : Value), Aside0 (spec_Learner.j2 kq l0_0 l0_1 l0_2 t248 t251 x258002_27 = some (r1, r2, r3, r4)) ∧ Aside0 (kq ≤ kj3) ∧ Aside0 (Kd.R (Kd.int .i64) 3 wc w.heap.size (fun k_ => some k_ ≠ ((.slice Ao37 t251.length co37) : Value).ownBlock ∧ some k_ ≠ (u258002 : Value).ownBlock) (.slice Ao33 t248.length co33) t248) ∧ Aside0 (Kd.R (Kd.int .i64) 3 wc w.heap.size (fun k_ => some k_ ≠ ((.slice Ao33 t248.length co33) : Value).ownBlock ∧ some k_ ≠ (u258002 : Value).ownBlock) (.slice Ao37 t251.length co37) t251) ∧ Aside0 (Kd.R (Kd.int .i64) 3 wc w.heap.size (fun k_ => some k_ ≠ ((.slice Ao33 t248.length co33) : Value).ownBlock ∧ some k_ ≠ ((.slice Ao37 t251.length co37) : Value).ownBlock) u258002 x258002_27) ∧ Aside0 (wc.heap[gb235]? = some (.cells #[(.slice A0_0 l0_0.length c0_0), (.slice A0_1 l0_1.length c0_1), (.slice A0_2 l0_2.length c0_2)] 26 (0, 0))) ∧ Aside0 (wc.heap[gb236]? = some (.cells #[(.slice none 0 0), (.slice none 0 0), (.slice none 0 0)] 26 (0, 0))) ∧ Aside0 (wc.heap[gb257]? = some (.cells #[(.slice Ao33 t248.length co33), (.slice Ao37 t251.length co37), u258002] 26 (0, 0))) ∧ Aside0 (Below w.heap.size w wc))
    case first =>
      have H := HC28.out
      clear HC28
      by_cases c46 : a2 = true
      rotate_left
      · replace c46 := Bool.eq_false_iff.mpr c46
        subst c46
        rw [if_neg (show ¬ (false = true) by decide)] at H
        have H' := Aside0.mk H
        clear H
        go_wp2
        go_meet
        case rel => exact ⟨_, (t261), (.slice Ao44 t261.length co44), H', ⟨(by have := HJ3.out; first | omega | exact Nat.le_refl _)⟩, ⟨(by (with_reducible repeat (first | apply Kd.R_alloc | apply Kd.R_drewN | apply Kd.R_drew)); exact Kd.R_mono (Kd.R_far (p := ⟨gb257, 2, none⟩) (Kd.R_types HO250.out BK257.out (by decide)) (fun _ hk => hk.2) (.slice Ao44 t261.length co44)) (fun _ hk => ⟨hk.1.1.1.1, hk.1.2⟩))⟩, ⟨(by (with_reducible repeat (first | apply Kd.R_alloc | apply Kd.R_drewN | apply Kd.R_drew)); exact Kd.R_mono (Kd.R_far (p := ⟨gb257, 2, none⟩) (Kd.R_types HO253.out BK257.out (by decide)) (fun _ hk => hk.2) (.slice Ao44 t261.length co44)) (fun _ hk => ⟨hk.1.1.1.1, hk.1.2⟩))⟩, ⟨(by (with_reducible repeat (first | apply Kd.R_alloc | apply Kd.R_drewN | apply Kd.R_drew)); exact Kd.R_mono (Kd.R_far (p := ⟨gb257, 2, none⟩) (Kd.R_types HO263.out BK257.out (by decide)) (fun _ hk => hk.2) (.slice Ao44 t261.length co44)) (fun _ hk => ⟨hk.1.1.1.1.2, hk.1.1.1.2⟩))⟩, ⟨u7_9⟩, ⟨u7_10⟩, ⟨u7_18⟩, ⟨u7_0⟩⟩
      subst c46
      rw [if_pos rfl] at H
      obtain ⟨y264, hy264⟩ : ∃ y_ : List Int, y_ = (([] : List Int)) := ⟨_, rfl⟩
      replace H : (spec_Learner.l0 kj3 a1 0 l0_0 l0_1 l0_2 t248 t251 y264) = some (r1, r2, r3, r4) := by first | (rw [hy264]; with_reducible exact H) | (have H2_ := (Option.bind_some _ _).symm.trans H; rw [hy264]; with_reducible exact H2_) | (have H2_ := (Option.bind_some _ _).symm.trans H; with_reducible exact H2_) | with_reducible exact H | (rw [hy264]; exact H) | exact H
      have Ny264 := Aside0.mk hy264
      clear hy264
      have H' := Aside0.mk H
      clear H
      go_wp2_with (first | ((with_reducible refine gate_dst (N := 32) rfl ?_); refine Kd.R_lit (Kd.int .i64) _ 3 ?hg (N := 32) ?hd (xs := ([] : List Int)) (inner := []) (ok := fun _ => True) (okp := fun _ => True) ?hr ?hp (fun _ hk => hk) trivial (Below.refl _ _) (Nat.le_refl _) (by simp) ?_; (case hd => rfl); (case hg => rfl); (case hr => first | (go_simp; done) | (go_simp; rfl)); (case hp => exact (Reps.none _ _)); intro v265 w47 ho48 hb hg_ hnew_; clear hg_ hnew_; (first | rw [← Ny264.out] at ho48 | (simp only [Int.reduceToNat] at ho48; rw [← Ny264.out] at ho48)); have n0_ := Aside0.mk (Kd.R_elder' u7_22 (Kd.R_base ho48) hb); have n1_ := Aside0.mk (Kd.R_elder' u7_23 (Kd.R_base ho48) hb); have n2_ := Aside0.mk (Kd.R_elder' u7_24 (Kd.R_base ho48) hb); have n3_ := Aside0.mk (Kd.R_elder' u7_25 (Kd.R_base ho48) hb); have n4_ := Aside0.mk (Kd.R_elder' u7_26 (Kd.R_base ho48) hb); have n5_ := Aside0.mk (Kd.R_lower (Kd.R_new' (Kd.R_new' (Kd.R_new' (Kd.R_new' (Kd.R_new' ho48 (Kd.R_lt u7_22)) (Kd.R_lt u7_23)) (Kd.R_lt u7_24)) (Kd.R_lt u7_25)) (Kd.R_lt u7_26)) (below_size u7_0)); have n6_ := Aside0.mk (blk_below (g := gb235) (o := .cells #[.slice A0_0 l0_0.length c0_0, .slice A0_1 l0_1.length c0_1, .slice A0_2 l0_2.length c0_2] 26 (0, 0)) u7_9 hb); have n7_ := Aside0.mk (blk_below (g := gb236) (o := .cells #[.slice none 0 0, .slice none 0 0, .slice none 0 0] 26 (0, 0)) u7_10 hb); have n8_ := Aside0.mk (blk_below (g := gb257) (o := .cells #[.slice Ao33 t248.length co33, .slice Ao37 t251.length co37, .slice Ao44 t261.length co44] 26 (0, 0)) u7_18 hb); have n9_ := Aside0.mk (below_step u7_0 hb); clear HO250; clear HO253; clear HO256; clear HO260; clear HO263; clear BK235; clear BK236; clear BK257; clear HB; have HO250 := n0_; have HO253 := n1_; have HO256 := n2_; have HO260 := n3_; have HO263 := n4_; have HO266 := n5_; have BK235 := n6_; have BK236 := n7_; have BK257 := n8_; have HB := n9_; clear n0_ n1_ n2_ n3_ n4_ n5_ n6_ n7_ n8_ n9_; clear hb ho48; obtain ⟨Ao49, co49, eo49⟩ := Kd.R_slice HO266.out; subst eo49; have hnb50 := NB257_235.out; have hnc50 := NB235_257.out; have hnb51 := NB257_236.out; have hnc51 := NB236_257.out; have hcz52_0 : w47.cell? ⟨gb257, 0, none⟩ = some (.slice Ao33 t248.length co33) := (blk_cell BK257.out 0).trans rfl; have hcz52_1 : w47.cell? ⟨gb257, 1, none⟩ = some (.slice Ao37 t251.length co37) := (blk_cell BK257.out 1).trans rfl; have hcz52_2 : w47.cell? ⟨gb257, 2, none⟩ = some (.slice Ao44 t261.length co44) := (blk_cell BK257.out 2).trans rfl; have hfz52_0 := blk_frozen BK257.out 0; have hfz52_1 := blk_frozen BK257.out 1; have hfz52_2 := blk_frozen BK257.out 2))
      go_loopg [9] kj3 (fun kq v9 w' => ∃ (x9_2 : Int) (x258002_2 : List Int) (u258002 : Value), v9 = .int .i64 x9_2 ∧ Aside0 (spec_Learner.l0 kq a1 x9_2 l0_0 l0_1 l0_2 t248 t251 x258002_2 = some (r1, r2, r3, r4)) ∧ Aside0 (kq ≤ kj3) ∧ Aside0 (Kd.R (Kd.int .i64) 3 w' w.heap.size (fun k_ => some k_ ≠ ((.slice Ao37 t251.length co37) : Value).ownBlock ∧ some k_ ≠ (u258002 : Value).ownBlock) (.slice Ao33 t248.length co33) t248) ∧ Aside0 (Kd.R (Kd.int .i64) 3 w' w.heap.size (fun k_ => some k_ ≠ ((.slice Ao33 t248.length co33) : Value).ownBlock ∧ some k_ ≠ (u258002 : Value).ownBlock) (.slice Ao37 t251.length co37) t251) ∧ Aside0 (Kd.R (Kd.int .i64) 3 w' w.heap.size (fun k_ => some k_ ≠ ((.slice Ao33 t248.length co33) : Value).ownBlock ∧ some k_ ≠ ((.slice Ao37 t251.length co37) : Value).ownBlock) u258002 x258002_2) ∧ Aside0 (w'.heap[gb235]? = some (.cells #[(.slice A0_0 l0_0.length c0_0), (.slice A0_1 l0_1.length c0_1), (.slice A0_2 l0_2.length c0_2)] 26 (0, 0))) ∧ Aside0 (w'.heap[gb236]? = some (.cells #[(.slice none 0 0), (.slice none 0 0), (.slice none 0 0)] 26 (0, 0))) ∧ Aside0 (w'.heap[gb257]? = some (.cells #[(.slice Ao33 t248.length co33), (.slice Ao37 t251.length co37), u258002] 26 (0, 0))) ∧ Aside0 (Below w.heap.size w w'))
      case atStart => exact ⟨(0), (y264), (.slice Ao49 y264.length co49), u7_27, H', ⟨Nat.le_refl _⟩, ⟨(by (with_reducible repeat (first | apply Kd.R_alloc | apply Kd.R_drewN | apply Kd.R_drew)); exact Kd.R_mono (Kd.R_far (p := ⟨gb257, 2, none⟩) (Kd.R_types HO250.out BK257.out (by decide)) (fun _ hk => hk.2) (.slice Ao49 y264.length co49)) (fun _ hk => ⟨hk.1.1.1.1.1, hk.1.2⟩))⟩, ⟨(by (with_reducible repeat (first | apply Kd.R_alloc | apply Kd.R_drewN | apply Kd.R_drew)); exact Kd.R_mono (Kd.R_far (p := ⟨gb257, 2, none⟩) (Kd.R_types HO253.out BK257.out (by decide)) (fun _ hk => hk.2) (.slice Ao49 y264.length co49)) (fun _ hk => ⟨hk.1.1.1.1.1, hk.1.2⟩))⟩, ⟨(by (with_reducible repeat (first | apply Kd.R_alloc | apply Kd.R_drewN | apply Kd.R_drew)); exact Kd.R_mono (Kd.R_far (p := ⟨gb257, 2, none⟩) (Kd.R_types HO266.out BK257.out (by decide)) (fun _ hk => hk.2) (.slice Ao49 y264.length co49)) (fun _ hk => ⟨hk.1.1.1.1.1.2, hk.1.1.1.1.2⟩))⟩, ⟨u7_9⟩, ⟨u7_10⟩, ⟨(by (with_reducible repeat (first | refine blk_drewN ?_ _ | refine blk_drew ?_ | refine blk_alloc ?_ _)); refine blk_put (cs := #[.slice Ao33 t248.length co33, .slice Ao37 t251.length co37, .slice Ao44 t261.length co44]) ?_ 2 _ rfl; (with_reducible repeat (first | refine blk_drewN ?_ _ | refine blk_drew ?_ | refine blk_alloc ?_ _)); exact BK257.out)⟩, ⟨u7_0⟩⟩
      clear H'
      try clear c1
      try clear c2
      try clear p2
      try clear c3
      try clear c4
      try clear c5
      try clear c8
      try clear c10
      try clear c14
      try clear c17
      try clear c19
      try clear c21
      try clear c29
      try clear c34
      try clear c35
      try clear c46
      try clear c50
      try clear c51
      try clear hcz11_0
      try clear hcz11_1
      try clear hcz11_2
      try clear hcz13_0
      try clear hcz13_1
      try clear hcz13_2
      try clear hcz15_0
      try clear hcz15_1
      try clear hcz15_2
      try clear hcz20_0
      try clear hcz20_1
      try clear hcz20_2
      try clear hcz23_0
      try clear hcz23_1
      try clear hcz23_2
      try clear hcz30_0
      try clear hcz30_1
      try clear hcz30_2
      try clear hcz36_0
      try clear hcz36_1
      try clear hcz36_2
      try clear hcz39_0
      try clear hcz39_1
      try clear hcz39_2
      try clear hcz45_0
      try clear hcz45_1
      try clear hcz45_2
      try clear hcz52_0
      try clear hcz52_1
      try clear hcz52_2
      try clear hfz11_0
      try clear hfz11_1
      try clear hfz11_2
      try clear hfz13_0
      try clear hfz13_1
      try clear hfz13_2
      try clear hfz15_0
      try clear hfz15_1
      try clear hfz15_2
      try clear hfz20_0
      try clear hfz20_1
      try clear hfz20_2
      try clear hfz23_0
      try clear hfz23_1
      try clear hfz23_2
      try clear hfz30_0
      try clear hfz30_1
      try clear hfz30_2
      try clear hfz36_0
      try clear hfz36_1
      try clear hfz36_2
      try clear hfz39_0
      try clear hfz39_1
      try clear hfz39_2
      try clear hfz45_0
      try clear hfz45_1
      try clear hfz45_2
      try clear hfz52_0
      try clear hfz52_1
      try clear hfz52_2
      try clear p2
      obtain ⟨x9_2, x258002_2, u258002, rfl, HA, HK2, HO_258000, HO_258001, HO_258002, BK235, BK236, BK257, HB⟩ := hrel
      cases gk with
      | zero => exact absurd HA.out (by simp [spec_Learner.l0])
      | succ k2 =>
        have H := HA.out
        clear HA
        simp only [spec_Learner.l0] at H
        by_cases c53 : x9_2 < 100
        rotate_left
        · rw [if_neg c53] at H
          have c53b0 : decide (x9_2 < 100) = false := decide_eq_false c53
          clear c53
          (first | rw [c53b0] | (simp only [i64_w, i32_w]; rw [c53b0]) | skip)
          have H' := Aside0.mk H
          clear H
          go_wp2
          go_meet
          case rel => exact ⟨_, (x258002_2), (u258002), H', ⟨(by have := HJ3.out; have := HK2.out; first | omega | exact Nat.le_refl _)⟩, ⟨u7_4⟩, ⟨u7_5⟩, ⟨u7_7⟩, ⟨u7_2⟩, ⟨u7_3⟩, ⟨u7_11⟩, ⟨u7_0⟩⟩
        rw [if_pos c53] at H
        have c53b0 : decide (x9_2 < 100) = true := decide_eq_true c53
        clear c53
        (first | rw [c53b0] | (simp only [i64_w, i32_w]; rw [c53b0]) | skip)
        by_cases c54 : x9_2 = a1
        · rw [if_pos c54] at H
          have c54b0 : (x9_2 == a1) = true := beq_iff_eq.mpr c54
          have c54b1 : (x9_2 != a1) = false := bne_eq_false_iff_eq.mpr c54
          clear c54
          by_cases c55 : x258002_2.length < 17592186044416
          rotate_left
          · rw [if_neg c55] at H
            exact absurd H (by simp)
          rw [if_pos c55] at H
          have LMc55 := Aside0.mk c55
          clear c55
          obtain ⟨y267, hy267⟩ : ∃ y_ : List Int, y_ = (x258002_2 ++ [x9_2]) := ⟨_, rfl⟩
          replace H : (spec_Learner.l0 k2 a1 (wrap64 (x9_2 + 1)) l0_0 l0_1 l0_2 t248 t251 y267) = some (r1, r2, r3, r4) := by first | (rw [hy267]; with_reducible exact H) | (have H2_ := (Option.bind_some _ _).symm.trans H; rw [hy267]; with_reducible exact H2_) | (have H2_ := (Option.bind_some _ _).symm.trans H; with_reducible exact H2_) | with_reducible exact H | (rw [hy267]; exact H) | exact H
          have Ny267 := Aside0.mk hy267
          clear hy267
          have H' := Aside0.mk H
          clear H
          have hnb56 := NB257_235.out
          have hnc56 := NB235_257.out
          have hnb57 := NB257_236.out
          have hnc57 := NB236_257.out
          have hcz58_0 : wr.cell? ⟨gb257, 0, none⟩ = some (.slice Ao33 t248.length co33) := (blk_cell BK257.out 0).trans rfl
          have hcz58_1 : wr.cell? ⟨gb257, 1, none⟩ = some (.slice Ao37 t251.length co37) := (blk_cell BK257.out 1).trans rfl
          have hcz58_2 : wr.cell? ⟨gb257, 2, none⟩ = some (u258002) := (blk_cell BK257.out 2).trans rfl
          have hfz58_0 := blk_frozen BK257.out 0
          have hfz58_1 := blk_frozen BK257.out 1
          have hfz58_2 := blk_frozen BK257.out 2
          go_wp2_with (first | ((with_reducible refine gate_builtin (b := .append) (xs := #[.tmp 48, .tmp 50]) rfl ?_); at_builtin; refine Kd.R_append (Kd.int .i64) (w0 := w) w.heap.size rfl (.tmp 48) (.tmp 50) 24 3 (.int .i64 0) 8 rfl Try.underlying24 info3 rfl (by decide) (by omega) u258002 x258002_2 x9_2 [.int .i64 x9_2] (fun k_ => some k_ ≠ (.slice Ao33 t248.length co33 : Value).ownBlock ∧ some k_ ≠ (.slice Ao37 t251.length co37 : Value).ownBlock) (fun _ => False) rfl rfl ?aP (fun _ hk => hk.elim) ?aF ?aO ?aB ?aS ?aL ?_; (case aP => exact rfl); (case aB => exact u7_0); (case aF => exact (fun k_ hk => ⟨Kd.fresh' (Kd.R_lt u7_4) k_ hk, Kd.fresh' (Kd.R_lt u7_5) k_ hk⟩)); (case aO => exact u7_7); (case aS => exact (below_size u7_0)); (case aL => have := LMc55.out; omega); intro v268 w59 ho hb hg hat; rw [← Ny267.out] at ho; have n0_ := Aside0.mk (Kd.R_after (ok := (fun k_ => some k_ ≠ (.slice Ao37 t251.length co37 : Value).ownBlock)) u7_4 hg hat); have n1_ := Aside0.mk (Kd.R_after (ok := (fun k_ => some k_ ≠ (.slice Ao33 t248.length co33 : Value).ownBlock)) u7_5 hg hat); have n2_ := Aside0.mk (blk_grown (g := gb235) (o := .cells #[.slice A0_0 l0_0.length c0_0, .slice A0_1 l0_1.length c0_1, .slice A0_2 l0_2.length c0_2] 26 (0, 0)) u7_2 hg (Kd.R_ne HO_258002.out BK235.out (by decide))); have n3_ := Aside0.mk (blk_grown (g := gb236) (o := .cells #[.slice none 0 0, .slice none 0 0, .slice none 0 0] 26 (0, 0)) u7_3 hg (Kd.R_ne HO_258002.out BK236.out (by decide))); have n4_ := Aside0.mk (blk_grown (g := gb257) (o := .cells #[.slice Ao33 t248.length co33, .slice Ao37 t251.length co37, u258002] 26 (0, 0)) u7_11 hg (Kd.R_ne HO_258002.out BK257.out (by decide))); have n5_ := Aside0.mk (hb); have n6_ := Aside0.mk (ho); clear HO_258000; clear HO_258001; clear BK235; clear BK236; clear BK257; clear HB; clear HO_258002; have HO_258000 := n0_; have HO_258001 := n1_; have BK235 := n2_; have BK236 := n3_; have BK257 := n4_; have HB := n5_; have HO269 := n6_; clear n0_ n1_ n2_ n3_ n4_ n5_ n6_; clear ho hb hg hat; obtain ⟨Ao60, co60, eo60⟩ := Kd.R_slice HO269.out; subst eo60; have hcz61_0 : w59.cell? ⟨gb257, 0, none⟩ = some (.slice Ao33 t248.length co33) := (blk_cell BK257.out 0).trans rfl; have hcz61_1 : w59.cell? ⟨gb257, 1, none⟩ = some (.slice Ao37 t251.length co37) := (blk_cell BK257.out 1).trans rfl; have hcz61_2 : w59.cell? ⟨gb257, 2, none⟩ = some (u258002) := (blk_cell BK257.out 2).trans rfl; have hfz61_0 := blk_frozen BK257.out 0; have hfz61_1 := blk_frozen BK257.out 1; have hfz61_2 := blk_frozen BK257.out 2))
          go_roundg k2
          case measure => have := HJ3.out; have := HK2.out; omega
          case rel => exact ⟨(wrap64 (x9_2 + 1)), (y267), (.slice Ao60 y267.length co60), u7_27, H', ⟨u7_34⟩, ⟨(by (with_reducible repeat (first | apply Kd.R_alloc | apply Kd.R_drewN | apply Kd.R_drew)); exact Kd.R_mono (Kd.R_far (p := ⟨gb257, 2, none⟩) (Kd.R_types HO_258000.out BK257.out (by decide)) (fun _ hk => hk.2) (.slice Ao60 y267.length co60)) (fun _ hk => ⟨hk.1.1, hk.1.2⟩))⟩, ⟨(by (with_reducible repeat (first | apply Kd.R_alloc | apply Kd.R_drewN | apply Kd.R_drew)); exact Kd.R_mono (Kd.R_far (p := ⟨gb257, 2, none⟩) (Kd.R_types HO_258001.out BK257.out (by decide)) (fun _ hk => hk.2) (.slice Ao60 y267.length co60)) (fun _ hk => ⟨hk.1.1, hk.1.2⟩))⟩, ⟨(by (with_reducible repeat (first | apply Kd.R_alloc | apply Kd.R_drewN | apply Kd.R_drew)); exact Kd.R_mono (Kd.R_far (p := ⟨gb257, 2, none⟩) (Kd.R_types HO269.out BK257.out (by decide)) (fun _ hk => hk.2) (.slice Ao60 y267.length co60)) (fun _ hk => ⟨hk.1.1, hk.1.2⟩))⟩, ⟨u7_9⟩, ⟨u7_10⟩, ⟨u7_20⟩, ⟨u7_0⟩⟩
        rw [if_neg c54] at H
        have c54b0 : (x9_2 == a1) = false := beq_eq_false_iff_ne.mpr c54
        have c54b1 : (x9_2 != a1) = true := bne_iff_ne.mpr c54
        replace H := Option.bind_eq_some_iff.mp H
        obtain ⟨t270, A620, H⟩ := H
        have A62 := Aside0.mk A620
        clear A620
        have H9 := Aside0.mk H
        clear H
        have hnb63 := NB235_236.out
        have hnc63 := NB236_235.out
        have hnb64 := NB235_257.out
        have hnc64 := NB257_235.out
        have hcz65_0 : wr.cell? ⟨gb235, 0, none⟩ = some (.slice A0_0 l0_0.length c0_0) := (blk_cell BK235.out 0).trans rfl
        have hcz65_1 : wr.cell? ⟨gb235, 1, none⟩ = some (.slice A0_1 l0_1.length c0_1) := (blk_cell BK235.out 1).trans rfl
        have hcz65_2 : wr.cell? ⟨gb235, 2, none⟩ = some (.slice A0_2 l0_2.length c0_2) := (blk_cell BK235.out 2).trans rfl
        have hfz65_0 := blk_frozen BK235.out 0
        have hfz65_1 := blk_frozen BK235.out 1
        have hfz65_2 := blk_frozen BK235.out 2
        go_upto_if 46 with (first | (go_at_call 54; (with_reducible refine (spec_l01Has.calls k2 _ _ l0_2 x9_2 t270 _ ?side1 ?side2 A62.out).mono ?_); (case side1 => exact u7_6); (case side2 => exact HC0_2.out); rintro e w' ⟨rfl, ⟨nd, rfl⟩⟩))
        have H := H9.out
        clear H9
        by_cases c66 : t270 = true
        rotate_left
        · replace c66 := Bool.eq_false_iff.mpr c66
          subst c66
          rw [if_neg (show ¬ (false = true) by decide)] at H
          have H' := Aside0.mk H
          clear H
          go_wp2
          go_roundg k2
          case measure => have := HJ3.out; have := HK2.out; omega
          case rel => exact ⟨(wrap64 (x9_2 + 1)), (x258002_2), (u258002), u7_27, H', ⟨u7_34⟩, ⟨u7_4⟩, ⟨u7_5⟩, ⟨u7_7⟩, ⟨u7_2⟩, ⟨u7_3⟩, ⟨u7_11⟩, ⟨u7_0⟩⟩
        subst c66
        rw [if_pos rfl] at H
        by_cases c67 : x258002_2.length < 17592186044416
        rotate_left
        · rw [if_neg c67] at H
          exact absurd H (by simp)
        rw [if_pos c67] at H
        have LMc67 := Aside0.mk c67
        clear c67
        obtain ⟨y271, hy271⟩ : ∃ y_ : List Int, y_ = (x258002_2 ++ [x9_2]) := ⟨_, rfl⟩
        replace H : (spec_Learner.l0 k2 a1 (wrap64 (x9_2 + 1)) l0_0 l0_1 l0_2 t248 t251 y271) = some (r1, r2, r3, r4) := by first | (rw [hy271]; with_reducible exact H) | (have H2_ := (Option.bind_some _ _).symm.trans H; rw [hy271]; with_reducible exact H2_) | (have H2_ := (Option.bind_some _ _).symm.trans H; with_reducible exact H2_) | with_reducible exact H | (rw [hy271]; exact H) | exact H
        have Ny271 := Aside0.mk hy271
        clear hy271
        have H' := Aside0.mk H
        clear H
        have hnb68 := NB257_235.out
        have hnc68 := NB235_257.out
        have hnb69 := NB257_236.out
        have hnc69 := NB236_257.out
        have hcz70_0 : wr.cell? ⟨gb257, 0, none⟩ = some (.slice Ao33 t248.length co33) := (blk_cell BK257.out 0).trans rfl
        have hcz70_1 : wr.cell? ⟨gb257, 1, none⟩ = some (.slice Ao37 t251.length co37) := (blk_cell BK257.out 1).trans rfl
        have hcz70_2 : wr.cell? ⟨gb257, 2, none⟩ = some (u258002) := (blk_cell BK257.out 2).trans rfl
        have hfz70_0 := blk_frozen BK257.out 0
        have hfz70_1 := blk_frozen BK257.out 1
        have hfz70_2 := blk_frozen BK257.out 2
        go_wp2_with (first | ((with_reducible refine gate_builtin (b := .append) (xs := #[.tmp 48, .tmp 50]) rfl ?_); at_builtin; refine Kd.R_append (Kd.int .i64) (w0 := w) w.heap.size rfl (.tmp 48) (.tmp 50) 24 3 (.int .i64 0) 8 rfl Try.underlying24 info3 rfl (by decide) (by omega) u258002 x258002_2 x9_2 [.int .i64 x9_2] (fun k_ => some k_ ≠ (.slice Ao33 t248.length co33 : Value).ownBlock ∧ some k_ ≠ (.slice Ao37 t251.length co37 : Value).ownBlock) (fun _ => False) rfl rfl ?aP (fun _ hk => hk.elim) ?aF ?aO ?aB ?aS ?aL ?_; (case aP => exact rfl); (case aB => exact u7_0); (case aF => exact (fun k_ hk => ⟨Kd.fresh' (Kd.R_lt u7_4) k_ hk, Kd.fresh' (Kd.R_lt u7_5) k_ hk⟩)); (case aO => exact u7_7); (case aS => exact (below_size u7_0)); (case aL => have := LMc67.out; omega); intro v272 w71 ho hb hg hat; rw [← Ny271.out] at ho; have n0_ := Aside0.mk (Kd.R_after (ok := (fun k_ => some k_ ≠ (.slice Ao37 t251.length co37 : Value).ownBlock)) u7_4 hg hat); have n1_ := Aside0.mk (Kd.R_after (ok := (fun k_ => some k_ ≠ (.slice Ao33 t248.length co33 : Value).ownBlock)) u7_5 hg hat); have n2_ := Aside0.mk (blk_grown (g := gb235) (o := .cells #[.slice A0_0 l0_0.length c0_0, .slice A0_1 l0_1.length c0_1, .slice A0_2 l0_2.length c0_2] 26 (0, 0)) u7_2 hg (Kd.R_ne HO_258002.out BK235.out (by decide))); have n3_ := Aside0.mk (blk_grown (g := gb236) (o := .cells #[.slice none 0 0, .slice none 0 0, .slice none 0 0] 26 (0, 0)) u7_3 hg (Kd.R_ne HO_258002.out BK236.out (by decide))); have n4_ := Aside0.mk (blk_grown (g := gb257) (o := .cells #[.slice Ao33 t248.length co33, .slice Ao37 t251.length co37, u258002] 26 (0, 0)) u7_11 hg (Kd.R_ne HO_258002.out BK257.out (by decide))); have n5_ := Aside0.mk (hb); have n6_ := Aside0.mk (ho); clear HO_258000; clear HO_258001; clear BK235; clear BK236; clear BK257; clear HB; clear HO_258002; have HO_258000 := n0_; have HO_258001 := n1_; have BK235 := n2_; have BK236 := n3_; have BK257 := n4_; have HB := n5_; have HO273 := n6_; clear n0_ n1_ n2_ n3_ n4_ n5_ n6_; clear ho hb hg hat; obtain ⟨Ao72, co72, eo72⟩ := Kd.R_slice HO273.out; subst eo72; have hcz73_0 : w71.cell? ⟨gb257, 0, none⟩ = some (.slice Ao33 t248.length co33) := (blk_cell BK257.out 0).trans rfl; have hcz73_1 : w71.cell? ⟨gb257, 1, none⟩ = some (.slice Ao37 t251.length co37) := (blk_cell BK257.out 1).trans rfl; have hcz73_2 : w71.cell? ⟨gb257, 2, none⟩ = some (u258002) := (blk_cell BK257.out 2).trans rfl; have hfz73_0 := blk_frozen BK257.out 0; have hfz73_1 := blk_frozen BK257.out 1; have hfz73_2 := blk_frozen BK257.out 2))
        go_roundg k2
        case measure => have := HJ3.out; have := HK2.out; omega
        case rel => exact ⟨(wrap64 (x9_2 + 1)), (y271), (.slice Ao72 y271.length co72), u7_27, H', ⟨u7_34⟩, ⟨(by (with_reducible repeat (first | apply Kd.R_alloc | apply Kd.R_drewN | apply Kd.R_drew)); exact Kd.R_mono (Kd.R_far (p := ⟨gb257, 2, none⟩) (Kd.R_types HO_258000.out BK257.out (by decide)) (fun _ hk => hk.2) (.slice Ao72 y271.length co72)) (fun _ hk => ⟨hk.1.1, hk.1.2⟩))⟩, ⟨(by (with_reducible repeat (first | apply Kd.R_alloc | apply Kd.R_drewN | apply Kd.R_drew)); exact Kd.R_mono (Kd.R_far (p := ⟨gb257, 2, none⟩) (Kd.R_types HO_258001.out BK257.out (by decide)) (fun _ hk => hk.2) (.slice Ao72 y271.length co72)) (fun _ hk => ⟨hk.1.1, hk.1.2⟩))⟩, ⟨(by (with_reducible repeat (first | apply Kd.R_alloc | apply Kd.R_drewN | apply Kd.R_drew)); exact Kd.R_mono (Kd.R_far (p := ⟨gb257, 2, none⟩) (Kd.R_types HO273.out BK257.out (by decide)) (fun _ hk => hk.2) (.slice Ao72 y271.length co72)) (fun _ hk => ⟨hk.1.1, hk.1.2⟩))⟩, ⟨u7_9⟩, ⟨u7_10⟩, ⟨u7_20⟩, ⟨u7_0⟩⟩
    clear HC28
    try clear c1
    try clear c2
    try clear p2
    try clear c3
    try clear c4
    try clear c5
    try clear c6
    try clear p6
    try clear c8
    try clear c10
    try clear c14
    try clear c17
    try clear c19
    try clear c21
    try clear c29
    try clear c34
    try clear c35
    try clear c46
    try clear c50
    try clear c51
    try clear c53
    try clear c53b0
    try clear c54
    try clear c54b0
    try clear c54b1
    try clear c55
    try clear c56
    try clear c57
    try clear c63
    try clear c64
    try clear p64
    try clear c66
    try clear c67
    try clear c68
    try clear c69
    try clear hcz11_0
    try clear hcz11_1
    try clear hcz11_2
    try clear hcz13_0
    try clear hcz13_1
    try clear hcz13_2
    try clear hcz15_0
    try clear hcz15_1
    try clear hcz15_2
    try clear hcz20_0
    try clear hcz20_1
    try clear hcz20_2
    try clear hcz23_0
    try clear hcz23_1
    try clear hcz23_2
    try clear hcz30_0
    try clear hcz30_1
    try clear hcz30_2
    try clear hcz36_0
    try clear hcz36_1
    try clear hcz36_2
    try clear hcz39_0
    try clear hcz39_1
    try clear hcz39_2
    try clear hcz45_0
    try clear hcz45_1
    try clear hcz45_2
    try clear hcz52_0
    try clear hcz52_1
    try clear hcz52_2
    try clear hcz58_0
    try clear hcz58_1
    try clear hcz58_2
    try clear hcz61_0
    try clear hcz61_1
    try clear hcz61_2
    try clear hcz65_0
    try clear hcz65_1
    try clear hcz65_2
    try clear hcz70_0
    try clear hcz70_1
    try clear hcz70_2
    try clear hcz73_0
    try clear hcz73_1
    try clear hcz73_2
    try clear hfz11_0
    try clear hfz11_1
    try clear hfz11_2
    try clear hfz13_0
    try clear hfz13_1
    try clear hfz13_2
    try clear hfz15_0
    try clear hfz15_1
    try clear hfz15_2
    try clear hfz20_0
    try clear hfz20_1
    try clear hfz20_2
    try clear hfz23_0
    try clear hfz23_1
    try clear hfz23_2
    try clear hfz30_0
    try clear hfz30_1
    try clear hfz30_2
    try clear hfz36_0
    try clear hfz36_1
    try clear hfz36_2
    try clear hfz39_0
    try clear hfz39_1
    try clear hfz39_2
    try clear hfz45_0
    try clear hfz45_1
    try clear hfz45_2
    try clear hfz52_0
    try clear hfz52_1
    try clear hfz52_2
    try clear hfz58_0
    try clear hfz58_1
    try clear hfz58_2
    try clear hfz61_0
    try clear hfz61_1
    try clear hfz61_2
    try clear hfz65_0
    try clear hfz65_1
    try clear hfz65_2
    try clear hfz70_0
    try clear hfz70_1
    try clear hfz70_2
    try clear hfz73_0
    try clear hfz73_1
    try clear hfz73_2
    try clear p2
    obtain ⟨kq, x258002_27, u258002, HA, HJ27, HO_258000, HO_258001, HO_258002, BK235, BK236, BK257, HB⟩ := hcut
    cases kq with
    | zero => exact absurd HA.out (by simp [spec_Learner.j2])
    | succ kj27 =>
      have H := HA.out
      clear HA
      simp only [spec_Learner.j2] at H
      replace H := Option.bind_eq_some_iff.mp H
      obtain ⟨t274, A740, H⟩ := H
      have A74 := Aside0.mk A740
      clear A740
      by_cases c75 : t274 = true
      rotate_left
      · replace c75 := Bool.eq_false_iff.mpr c75
        subst c75
        rw [if_neg (show ¬ (false = true) by decide)] at H
        replace H := Option.bind_eq_some_iff.mp H
        obtain ⟨⟨t285, t288, t291⟩, A1010, H⟩ := H
        replace H : (some (t285, t288, t291, false)) = some (r1, r2, r3, r4) := H
        have A101 := Aside0.mk A1010
        clear A1010
        simp only [Option.some.injEq, Prod.mk.injEq] at H
        obtain ⟨rfl, rfl, rfl, rfl⟩ := H
        have hnb102 := NB257_235.out
        have hnc102 := NB235_257.out
        have hnb103 := NB257_236.out
        have hnc103 := NB236_257.out
        have hcz104_0 : wc.cell? ⟨gb257, 0, none⟩ = some (.slice Ao33 t248.length co33) := (blk_cell BK257.out 0).trans rfl
        have hcz104_1 : wc.cell? ⟨gb257, 1, none⟩ = some (.slice Ao37 t251.length co37) := (blk_cell BK257.out 1).trans rfl
        have hcz104_2 : wc.cell? ⟨gb257, 2, none⟩ = some (u258002) := (blk_cell BK257.out 2).trans rfl
        have hfz104_0 := blk_frozen BK257.out 0
        have hfz104_1 := blk_frozen BK257.out 1
        have hfz104_2 := blk_frozen BK257.out 2
        obtain ⟨Ao105, co105, eo105⟩ := Kd.R_slice HO_258002.out
        subst eo105
        go_wp2_with (first | ((with_reducible refine gate_callee (f := 53) rfl ?_); refine goesL_ (some 54) rfl rfl Try.func53 (by kernel_rfl) rfl #[.agg #[.slice Ao33 t248.length co33, .slice Ao37 t251.length co37, .slice Ao105 x258002_27.length co105]] rfl u7_8 ?_; (with_reducible refine (spec_ConfOk.calls kj27 _ _ t248 _ _ t251 _ _ x258002_27 false _ ?side1 ?side2 ?side3 ?side4 ?side5 ?side6 A74.out).mono ?_); (case side1 => exact u7_31); (case side2 => exact (Kd.R_reads' HO_258000.out).2.1); (case side3 => exact u7_32); (case side4 => exact (Kd.R_reads' HO_258001.out).2.1); (case side5 => exact u7_17); (case side6 => exact (Kd.R_reads' HO_258002.out).2.1); rintro e w106 ⟨rfl, hb⟩; refine ⟨_, rfl, ?_⟩; have n0_ := Aside0.mk (Kd.R_below u7_4 hb); have n1_ := Aside0.mk (Kd.R_below u7_5 hb); have n2_ := Aside0.mk (Kd.R_below u7_7 hb); have n3_ := Aside0.mk (blk_below (g := gb235) (o := .cells #[.slice A0_0 l0_0.length c0_0, .slice A0_1 l0_1.length c0_1, .slice A0_2 l0_2.length c0_2] 26 (0, 0)) u7_2 hb); have n4_ := Aside0.mk (blk_below (g := gb236) (o := .cells #[.slice none 0 0, .slice none 0 0, .slice none 0 0] 26 (0, 0)) u7_3 hb); have n5_ := Aside0.mk (blk_below (g := gb257) (o := .cells #[.slice Ao33 t248.length co33, .slice Ao37 t251.length co37, .slice Ao105 x258002_27.length co105] 26 (0, 0)) u7_11 hb); have n6_ := Aside0.mk (below_step u7_0 hb); clear HO_258000; clear HO_258001; clear HO_258002; clear BK235; clear BK236; clear BK257; clear HB; have HO_258000 := n0_; have HO_258001 := n1_; have HO_258002 := n2_; have BK235 := n3_; have BK236 := n4_; have BK257 := n5_; have HB := n6_; clear n0_ n1_ n2_ n3_ n4_ n5_ n6_; (try clear hb); (try clear hb2); (try clear hk); (try clear hi); have hnb107 := NB235_236.out; have hnc107 := NB236_235.out; have hcz108_0 : w106.cell? ⟨gb235, 0, none⟩ = some (.slice A0_0 l0_0.length c0_0) := (blk_cell BK235.out 0).trans rfl; have hcz108_1 : w106.cell? ⟨gb235, 1, none⟩ = some (.slice A0_1 l0_1.length c0_1) := (blk_cell BK235.out 1).trans rfl; have hcz108_2 : w106.cell? ⟨gb235, 2, none⟩ = some (.slice A0_2 l0_2.length c0_2) := (blk_cell BK235.out 2).trans rfl; have hfz108_0 := blk_frozen BK235.out 0; have hfz108_1 := blk_frozen BK235.out 1; have hfz108_2 := blk_frozen BK235.out 2) | ((with_reducible refine gate_callee (f := 55) rfl ?_); refine goesL_ (some 64) rfl rfl Try.func55 (by kernel_rfl) rfl #[.agg #[.slice A0_0 l0_0.length c0_0, .slice A0_1 l0_1.length c0_1, .slice A0_2 l0_2.length c0_2]] rfl u7_8 ?_; (with_reducible refine (spec_l06Copy.calls kj27 _ _ l0_0 _ _ l0_1 _ _ l0_2 t285 t288 t291 _ ?side1 ?side2 ?side3 ?side4 ?side5 ?side6 A101.out).mono ?_); (case side1 => exact u7_12); (case side2 => exact HC0_0.out); (case side3 => exact u7_13); (case side4 => exact HC0_1.out); (case side5 => exact u7_6); (case side6 => exact HC0_2.out); rintro e w109 ⟨v286, v289, v292, rfl, ho0, ho1, ho2, hb⟩; refine ⟨_, rfl, ?_⟩; have n0_ := Aside0.mk (Kd.R_mono (Kd.R_told (Kd.R_told (Kd.R_told (Kd.R_old u7_4 hb) (Kd.R_base ho0)) (Kd.R_base ho1)) (Kd.R_base ho2)) (fun _ h_ => h_.1)); have n1_ := Aside0.mk (Kd.R_mono (Kd.R_told (Kd.R_told (Kd.R_told (Kd.R_old u7_5 hb) (Kd.R_base ho0)) (Kd.R_base ho1)) (Kd.R_base ho2)) (fun _ h_ => h_.1)); have n2_ := Aside0.mk (Kd.R_mono (Kd.R_told (Kd.R_told (Kd.R_told (Kd.R_old u7_7 hb) (Kd.R_base ho0)) (Kd.R_base ho1)) (Kd.R_base ho2)) (fun _ h_ => h_.1)); have n3_ := Aside0.mk (Kd.R_lower (Kd.R_new' (Kd.R_new' (Kd.R_new' ho0 (Kd.R_lt u7_4)) (Kd.R_lt u7_5)) (Kd.R_lt u7_7)) (below_size u7_0)); have n4_ := Aside0.mk (Kd.R_lower (Kd.R_new' (Kd.R_new' (Kd.R_new' ho1 (Kd.R_lt u7_4)) (Kd.R_lt u7_5)) (Kd.R_lt u7_7)) (below_size u7_0)); have n5_ := Aside0.mk (Kd.R_lower (Kd.R_new' (Kd.R_new' (Kd.R_new' ho2 (Kd.R_lt u7_4)) (Kd.R_lt u7_5)) (Kd.R_lt u7_7)) (below_size u7_0)); have n6_ := Aside0.mk (blk_below (g := gb235) (o := .cells #[.slice A0_0 l0_0.length c0_0, .slice A0_1 l0_1.length c0_1, .slice A0_2 l0_2.length c0_2] 26 (0, 0)) u7_2 hb); have n7_ := Aside0.mk (blk_below (g := gb236) (o := .cells #[.slice none 0 0, .slice none 0 0, .slice none 0 0] 26 (0, 0)) u7_3 hb); have n8_ := Aside0.mk (blk_below (g := gb257) (o := .cells #[.slice Ao33 t248.length co33, .slice Ao37 t251.length co37, .slice Ao105 x258002_27.length co105] 26 (0, 0)) u7_11 hb); have n9_ := Aside0.mk (below_step u7_0 hb); clear HO_258000; clear HO_258001; clear HO_258002; clear BK235; clear BK236; clear BK257; clear HB; have HO_258000 := n0_; have HO_258001 := n1_; have HO_258002 := n2_; have HO287 := n3_; have HO290 := n4_; have HO293 := n5_; have BK235 := n6_; have BK236 := n7_; have BK257 := n8_; have HB := n9_; clear n0_ n1_ n2_ n3_ n4_ n5_ n6_ n7_ n8_ n9_; (try clear hb); (try clear hb2); (try clear hk); (try clear hi); (try clear ho0); (try clear ho1); (try clear ho2); obtain ⟨Ao110, co110, eo110⟩ := Kd.R_slice HO287.out; subst eo110; have hcz111_0 : w109.cell? ⟨gb236, 0, none⟩ = some (.slice none 0 0) := (blk_cell BK236.out 0).trans rfl; have hcz111_1 : w109.cell? ⟨gb236, 1, none⟩ = some (.slice none 0 0) := (blk_cell BK236.out 1).trans rfl; have hcz111_2 : w109.cell? ⟨gb236, 2, none⟩ = some (.slice none 0 0) := (blk_cell BK236.out 2).trans rfl; have hfz111_0 := blk_frozen BK236.out 0; have hfz111_1 := blk_frozen BK236.out 1; have hfz111_2 := blk_frozen BK236.out 2; obtain ⟨Ao112, co112, eo112⟩ := Kd.R_slice HO290.out; subst eo112; obtain ⟨Ao113, co113, eo113⟩ := Kd.R_slice HO293.out; subst eo113))
        refine bodyPost_ret (results_ct rfl _ _ gb236 26 #[.slice Ao110 t285.length co110, .slice Ao112 t288.length co112, .slice Ao113 t291.length co113] (0, 0) _ rfl (by (with_reducible repeat (first | refine blk_drewN ?_ _ | refine blk_drew ?_ | refine blk_alloc ?_ _)); refine blk_put (cs := #[.slice Ao110 t285.length co110, .slice Ao112 t288.length co112, .slice none 0 0]) ?_ 2 _ rfl; (with_reducible repeat (first | refine blk_drewN ?_ _ | refine blk_drew ?_ | refine blk_alloc ?_ _)); refine blk_put (cs := #[.slice Ao110 t285.length co110, .slice none 0 0, .slice none 0 0]) ?_ 1 _ rfl; (with_reducible repeat (first | refine blk_drewN ?_ _ | refine blk_drew ?_ | refine blk_alloc ?_ _)); refine blk_put (cs := #[.slice none 0 0, .slice none 0 0, .slice none 0 0]) ?_ 0 _ rfl; (with_reducible repeat (first | refine blk_drewN ?_ _ | refine blk_drew ?_ | refine blk_alloc ?_ _)); exact BK236.out) Try.underlying26 rfl (by kernel_rfl)) rfl ?_
        exact ⟨_, _, _, by first | rfl | (simp [errW_none, errW_some] <;> rfl) | (simp [*, errW_none, errW_some] <;> rfl), (by (with_reducible repeat (first | apply Kd.R_alloc | apply Kd.R_drewN | apply Kd.R_drew)); exact Kd.R_mono (Kd.R_far (p := ⟨gb236, 2, none⟩) (Kd.R_far (p := ⟨gb236, 1, none⟩) (Kd.R_far (p := ⟨gb236, 0, none⟩) (Kd.R_types HO287.out BK236.out (by decide)) (fun _ hk => hk.2) (.slice Ao110 t285.length co110)) (fun _ hk => hk.2) (.slice Ao112 t288.length co112)) (fun _ hk => hk.2) (.slice Ao113 t291.length co113)) (fun _ hk => ⟨hk.1.1.1.1.1, hk.1.1.1.1.2⟩)), (by (with_reducible repeat (first | apply Kd.R_alloc | apply Kd.R_drewN | apply Kd.R_drew)); exact Kd.R_mono (Kd.R_far (p := ⟨gb236, 2, none⟩) (Kd.R_far (p := ⟨gb236, 1, none⟩) (Kd.R_far (p := ⟨gb236, 0, none⟩) (Kd.R_types HO290.out BK236.out (by decide)) (fun _ hk => hk.2) (.slice Ao110 t285.length co110)) (fun _ hk => hk.2) (.slice Ao112 t288.length co112)) (fun _ hk => hk.2) (.slice Ao113 t291.length co113)) (fun _ hk => ⟨hk.1.1.1.1.1, hk.1.1.1.1.2⟩)), (by (with_reducible repeat (first | apply Kd.R_alloc | apply Kd.R_drewN | apply Kd.R_drew)); exact Kd.R_mono (Kd.R_far (p := ⟨gb236, 2, none⟩) (Kd.R_far (p := ⟨gb236, 1, none⟩) (Kd.R_far (p := ⟨gb236, 0, none⟩) (Kd.R_types HO293.out BK236.out (by decide)) (fun _ hk => hk.2) (.slice Ao110 t285.length co110)) (fun _ hk => hk.2) (.slice Ao112 t288.length co112)) (fun _ hk => hk.2) (.slice Ao113 t291.length co113)) (fun _ hk => ⟨hk.1.1.1.1.1, hk.1.1.1.1.2⟩)), u7_0⟩
      subst c75
      rw [if_pos rfl] at H
      replace H := Option.bind_eq_some_iff.mp H
      obtain ⟨t275, A760, H⟩ := H
      have A76 := Aside0.mk A760
      clear A760
      have H9 := Aside0.mk H
      clear H
      have hnb77 := NB257_235.out
      have hnc77 := NB235_257.out
      have hnb78 := NB257_236.out
      have hnc78 := NB236_257.out
      have hcz79_0 : wc.cell? ⟨gb257, 0, none⟩ = some (.slice Ao33 t248.length co33) := (blk_cell BK257.out 0).trans rfl
      have hcz79_1 : wc.cell? ⟨gb257, 1, none⟩ = some (.slice Ao37 t251.length co37) := (blk_cell BK257.out 1).trans rfl
      have hcz79_2 : wc.cell? ⟨gb257, 2, none⟩ = some (u258002) := (blk_cell BK257.out 2).trans rfl
      have hfz79_0 := blk_frozen BK257.out 0
      have hfz79_1 := blk_frozen BK257.out 1
      have hfz79_2 := blk_frozen BK257.out 2
      obtain ⟨Ao80, co80, eo80⟩ := Kd.R_slice HO_258002.out
      subst eo80
      go_upto_if 62 with (first | ((with_reducible refine gate_callee (f := 53) rfl ?_); refine goesL_ (some 54) rfl rfl Try.func53 (by kernel_rfl) rfl #[.agg #[.slice Ao33 t248.length co33, .slice Ao37 t251.length co37, .slice Ao80 x258002_27.length co80]] rfl u7_8 ?_; (with_reducible refine (spec_ConfOk.calls kj27 _ _ t248 _ _ t251 _ _ x258002_27 true _ ?side1 ?side2 ?side3 ?side4 ?side5 ?side6 A74.out).mono ?_); (case side1 => exact u7_31); (case side2 => exact (Kd.R_reads' HO_258000.out).2.1); (case side3 => exact u7_32); (case side4 => exact (Kd.R_reads' HO_258001.out).2.1); (case side5 => exact u7_17); (case side6 => exact (Kd.R_reads' HO_258002.out).2.1); rintro e w81 ⟨rfl, hb⟩; refine ⟨_, rfl, ?_⟩; have n0_ := Aside0.mk (Kd.R_below u7_4 hb); have n1_ := Aside0.mk (Kd.R_below u7_5 hb); have n2_ := Aside0.mk (Kd.R_below u7_7 hb); have n3_ := Aside0.mk (blk_below (g := gb235) (o := .cells #[.slice A0_0 l0_0.length c0_0, .slice A0_1 l0_1.length c0_1, .slice A0_2 l0_2.length c0_2] 26 (0, 0)) u7_2 hb); have n4_ := Aside0.mk (blk_below (g := gb236) (o := .cells #[.slice none 0 0, .slice none 0 0, .slice none 0 0] 26 (0, 0)) u7_3 hb); have n5_ := Aside0.mk (blk_below (g := gb257) (o := .cells #[.slice Ao33 t248.length co33, .slice Ao37 t251.length co37, .slice Ao80 x258002_27.length co80] 26 (0, 0)) u7_11 hb); have n6_ := Aside0.mk (below_step u7_0 hb); clear HO_258000; clear HO_258001; clear HO_258002; clear BK235; clear BK236; clear BK257; clear HB; have HO_258000 := n0_; have HO_258001 := n1_; have HO_258002 := n2_; have BK235 := n3_; have BK236 := n4_; have BK257 := n5_; have HB := n6_; clear n0_ n1_ n2_ n3_ n4_ n5_ n6_; (try clear hb); (try clear hb2); (try clear hk); (try clear hi); have hcz82_0 : w81.cell? ⟨gb257, 0, none⟩ = some (.slice Ao33 t248.length co33) := (blk_cell BK257.out 0).trans rfl; have hcz82_1 : w81.cell? ⟨gb257, 1, none⟩ = some (.slice Ao37 t251.length co37) := (blk_cell BK257.out 1).trans rfl; have hcz82_2 : w81.cell? ⟨gb257, 2, none⟩ = some (.slice Ao80 x258002_27.length co80) := (blk_cell BK257.out 2).trans rfl; have hfz82_0 := blk_frozen BK257.out 0; have hfz82_1 := blk_frozen BK257.out 1; have hfz82_2 := blk_frozen BK257.out 2; have hnb83 := NB235_236.out; have hnc83 := NB236_235.out; have hcz84_0 : w81.cell? ⟨gb235, 0, none⟩ = some (.slice A0_0 l0_0.length c0_0) := (blk_cell BK235.out 0).trans rfl; have hcz84_1 : w81.cell? ⟨gb235, 1, none⟩ = some (.slice A0_1 l0_1.length c0_1) := (blk_cell BK235.out 1).trans rfl; have hcz84_2 : w81.cell? ⟨gb235, 2, none⟩ = some (.slice A0_2 l0_2.length c0_2) := (blk_cell BK235.out 2).trans rfl; have hfz84_0 := blk_frozen BK235.out 0; have hfz84_1 := blk_frozen BK235.out 1; have hfz84_2 := blk_frozen BK235.out 2) | (go_at_call 57; (with_reducible refine (spec_l06Same.calls kj27 _ _ x258002_27 _ _ l0_2 t275 _ ?side1 ?side2 ?side3 ?side4 A76.out).mono ?_); (case side1 => exact u7_17); (case side2 => exact (Kd.R_reads' HO_258002.out).2.1); (case side3 => exact u7_6); (case side4 => exact HC0_2.out); rintro e w' ⟨rfl, ⟨nd, rfl⟩⟩))
      have H := H9.out
      clear H9
      by_cases c85 : t275 = true
      rotate_left
      · replace c85 := Bool.eq_false_iff.mpr c85
        subst c85
        rw [if_neg (show ¬ (false = true) by decide)] at H
        simp only [Option.some.injEq, Prod.mk.injEq] at H
        obtain ⟨rfl, rfl, rfl, rfl⟩ := H
        have hnb96 := NB257_235.out
        have hnc96 := NB235_257.out
        have hnb97 := NB257_236.out
        have hnc97 := NB236_257.out
        have hcz98_0 : w81.cell? ⟨gb257, 0, none⟩ = some (.slice Ao33 t248.length co33) := (blk_cell BK257.out 0).trans rfl
        have hcz98_1 : w81.cell? ⟨gb257, 1, none⟩ = some (.slice Ao37 t251.length co37) := (blk_cell BK257.out 1).trans rfl
        have hcz98_2 : w81.cell? ⟨gb257, 2, none⟩ = some (.slice Ao80 x258002_27.length co80) := (blk_cell BK257.out 2).trans rfl
        have hfz98_0 := blk_frozen BK257.out 0
        have hfz98_1 := blk_frozen BK257.out 1
        have hfz98_2 := blk_frozen BK257.out 2
        have hnb99 := NB236_235.out
        have hnc99 := NB235_236.out
        have hcz100_0 : w81.cell? ⟨gb236, 0, none⟩ = some (.slice none 0 0) := (blk_cell BK236.out 0).trans rfl
        have hcz100_1 : w81.cell? ⟨gb236, 1, none⟩ = some (.slice none 0 0) := (blk_cell BK236.out 1).trans rfl
        have hcz100_2 : w81.cell? ⟨gb236, 2, none⟩ = some (.slice none 0 0) := (blk_cell BK236.out 2).trans rfl
        have hfz100_0 := blk_frozen BK236.out 0
        have hfz100_1 := blk_frozen BK236.out 1
        have hfz100_2 := blk_frozen BK236.out 2
        go_wp2
        refine bodyPost_ret (results_ct rfl _ _ gb236 26 #[.slice Ao33 t248.length co33, .slice Ao37 t251.length co37, .slice Ao80 x258002_27.length co80] (0, 0) _ rfl (by (with_reducible repeat (first | refine blk_drewN ?_ _ | refine blk_drew ?_ | refine blk_alloc ?_ _)); refine blk_put (cs := #[.slice Ao33 t248.length co33, .slice Ao37 t251.length co37, .slice none 0 0]) ?_ 2 _ rfl; (with_reducible repeat (first | refine blk_drewN ?_ _ | refine blk_drew ?_ | refine blk_alloc ?_ _)); refine blk_put (cs := #[.slice Ao33 t248.length co33, .slice none 0 0, .slice none 0 0]) ?_ 1 _ rfl; (with_reducible repeat (first | refine blk_drewN ?_ _ | refine blk_drew ?_ | refine blk_alloc ?_ _)); refine blk_put (cs := #[.slice none 0 0, .slice none 0 0, .slice none 0 0]) ?_ 0 _ rfl; (with_reducible repeat (first | refine blk_drewN ?_ _ | refine blk_drew ?_ | refine blk_alloc ?_ _)); exact BK236.out) Try.underlying26 rfl (by kernel_rfl)) rfl ?_
        exact ⟨_, _, _, by first | rfl | (simp [errW_none, errW_some] <;> rfl) | (simp [*, errW_none, errW_some] <;> rfl), (by (with_reducible repeat (first | apply Kd.R_alloc | apply Kd.R_drewN | apply Kd.R_drew)); exact Kd.R_mono (Kd.R_far (p := ⟨gb236, 2, none⟩) (Kd.R_far (p := ⟨gb236, 1, none⟩) (Kd.R_far (p := ⟨gb236, 0, none⟩) (Kd.R_types HO_258000.out BK236.out (by decide)) (fun _ hk => hk.2) (.slice Ao33 t248.length co33)) (fun _ hk => hk.2) (.slice Ao37 t251.length co37)) (fun _ hk => hk.2) (.slice Ao80 x258002_27.length co80)) (fun _ hk => ⟨hk.1.1, hk.1.2⟩)), (by (with_reducible repeat (first | apply Kd.R_alloc | apply Kd.R_drewN | apply Kd.R_drew)); exact Kd.R_mono (Kd.R_far (p := ⟨gb236, 2, none⟩) (Kd.R_far (p := ⟨gb236, 1, none⟩) (Kd.R_far (p := ⟨gb236, 0, none⟩) (Kd.R_types HO_258001.out BK236.out (by decide)) (fun _ hk => hk.2) (.slice Ao33 t248.length co33)) (fun _ hk => hk.2) (.slice Ao37 t251.length co37)) (fun _ hk => hk.2) (.slice Ao80 x258002_27.length co80)) (fun _ hk => ⟨hk.1.1, hk.1.2⟩)), (by (with_reducible repeat (first | apply Kd.R_alloc | apply Kd.R_drewN | apply Kd.R_drew)); exact Kd.R_mono (Kd.R_far (p := ⟨gb236, 2, none⟩) (Kd.R_far (p := ⟨gb236, 1, none⟩) (Kd.R_far (p := ⟨gb236, 0, none⟩) (Kd.R_types HO_258002.out BK236.out (by decide)) (fun _ hk => hk.2) (.slice Ao33 t248.length co33)) (fun _ hk => hk.2) (.slice Ao37 t251.length co37)) (fun _ hk => hk.2) (.slice Ao80 x258002_27.length co80)) (fun _ hk => ⟨hk.1.1, hk.1.2⟩)), u7_0⟩
      subst c85
      rw [if_pos rfl] at H
      replace H := Option.bind_eq_some_iff.mp H
      obtain ⟨⟨t276, t279, t282⟩, A860, H⟩ := H
      replace H : (some (t276, t279, t282, false)) = some (r1, r2, r3, r4) := H
      have A86 := Aside0.mk A860
      clear A860
      simp only [Option.some.injEq, Prod.mk.injEq] at H
      obtain ⟨rfl, rfl, rfl, rfl⟩ := H
      have hnb87 := NB235_236.out
      have hnc87 := NB236_235.out
      have hnb88 := NB235_257.out
      have hnc88 := NB257_235.out
      have hcz89_0 : w81.cell? ⟨gb235, 0, none⟩ = some (.slice A0_0 l0_0.length c0_0) := (blk_cell BK235.out 0).trans rfl
      have hcz89_1 : w81.cell? ⟨gb235, 1, none⟩ = some (.slice A0_1 l0_1.length c0_1) := (blk_cell BK235.out 1).trans rfl
      have hcz89_2 : w81.cell? ⟨gb235, 2, none⟩ = some (.slice A0_2 l0_2.length c0_2) := (blk_cell BK235.out 2).trans rfl
      have hfz89_0 := blk_frozen BK235.out 0
      have hfz89_1 := blk_frozen BK235.out 1
      have hfz89_2 := blk_frozen BK235.out 2
      go_wp2_with (first | ((with_reducible refine gate_callee (f := 55) rfl ?_); refine goesL_ (some 64) rfl rfl Try.func55 (by kernel_rfl) rfl #[.agg #[.slice A0_0 l0_0.length c0_0, .slice A0_1 l0_1.length c0_1, .slice A0_2 l0_2.length c0_2]] rfl u7_8 ?_; (with_reducible refine (spec_l06Copy.calls kj27 _ _ l0_0 _ _ l0_1 _ _ l0_2 t276 t279 t282 _ ?side1 ?side2 ?side3 ?side4 ?side5 ?side6 A86.out).mono ?_); (case side1 => exact u7_12); (case side2 => exact HC0_0.out); (case side3 => exact u7_13); (case side4 => exact HC0_1.out); (case side5 => exact u7_6); (case side6 => exact HC0_2.out); rintro e w90 ⟨v277, v280, v283, rfl, ho0, ho1, ho2, hb⟩; refine ⟨_, rfl, ?_⟩; have n0_ := Aside0.mk (Kd.R_mono (Kd.R_told (Kd.R_told (Kd.R_told (Kd.R_old u7_4 hb) (Kd.R_base ho0)) (Kd.R_base ho1)) (Kd.R_base ho2)) (fun _ h_ => h_.1)); have n1_ := Aside0.mk (Kd.R_mono (Kd.R_told (Kd.R_told (Kd.R_told (Kd.R_old u7_5 hb) (Kd.R_base ho0)) (Kd.R_base ho1)) (Kd.R_base ho2)) (fun _ h_ => h_.1)); have n2_ := Aside0.mk (Kd.R_mono (Kd.R_told (Kd.R_told (Kd.R_told (Kd.R_old u7_7 hb) (Kd.R_base ho0)) (Kd.R_base ho1)) (Kd.R_base ho2)) (fun _ h_ => h_.1)); have n3_ := Aside0.mk (Kd.R_lower (Kd.R_new' (Kd.R_new' (Kd.R_new' ho0 (Kd.R_lt u7_4)) (Kd.R_lt u7_5)) (Kd.R_lt u7_7)) (below_size u7_0)); have n4_ := Aside0.mk (Kd.R_lower (Kd.R_new' (Kd.R_new' (Kd.R_new' ho1 (Kd.R_lt u7_4)) (Kd.R_lt u7_5)) (Kd.R_lt u7_7)) (below_size u7_0)); have n5_ := Aside0.mk (Kd.R_lower (Kd.R_new' (Kd.R_new' (Kd.R_new' ho2 (Kd.R_lt u7_4)) (Kd.R_lt u7_5)) (Kd.R_lt u7_7)) (below_size u7_0)); have n6_ := Aside0.mk (blk_below (g := gb235) (o := .cells #[.slice A0_0 l0_0.length c0_0, .slice A0_1 l0_1.length c0_1, .slice A0_2 l0_2.length c0_2] 26 (0, 0)) u7_2 hb); have n7_ := Aside0.mk (blk_below (g := gb236) (o := .cells #[.slice none 0 0, .slice none 0 0, .slice none 0 0] 26 (0, 0)) u7_3 hb); have n8_ := Aside0.mk (blk_below (g := gb257) (o := .cells #[.slice Ao33 t248.length co33, .slice Ao37 t251.length co37, .slice Ao80 x258002_27.length co80] 26 (0, 0)) u7_11 hb); have n9_ := Aside0.mk (below_step u7_0 hb); clear HO_258000; clear HO_258001; clear HO_258002; clear BK235; clear BK236; clear BK257; clear HB; have HO_258000 := n0_; have HO_258001 := n1_; have HO_258002 := n2_; have HO278 := n3_; have HO281 := n4_; have HO284 := n5_; have BK235 := n6_; have BK236 := n7_; have BK257 := n8_; have HB := n9_; clear n0_ n1_ n2_ n3_ n4_ n5_ n6_ n7_ n8_ n9_; (try clear hb); (try clear hb2); (try clear hk); (try clear hi); (try clear ho0); (try clear ho1); (try clear ho2); obtain ⟨Ao91, co91, eo91⟩ := Kd.R_slice HO278.out; subst eo91; have hnb92 := NB236_257.out; have hnc92 := NB257_236.out; have hcz93_0 : w90.cell? ⟨gb236, 0, none⟩ = some (.slice none 0 0) := (blk_cell BK236.out 0).trans rfl; have hcz93_1 : w90.cell? ⟨gb236, 1, none⟩ = some (.slice none 0 0) := (blk_cell BK236.out 1).trans rfl; have hcz93_2 : w90.cell? ⟨gb236, 2, none⟩ = some (.slice none 0 0) := (blk_cell BK236.out 2).trans rfl; have hfz93_0 := blk_frozen BK236.out 0; have hfz93_1 := blk_frozen BK236.out 1; have hfz93_2 := blk_frozen BK236.out 2; obtain ⟨Ao94, co94, eo94⟩ := Kd.R_slice HO281.out; subst eo94; obtain ⟨Ao95, co95, eo95⟩ := Kd.R_slice HO284.out; subst eo95))
      refine bodyPost_ret (results_ct rfl _ _ gb236 26 #[.slice Ao91 t276.length co91, .slice Ao94 t279.length co94, .slice Ao95 t282.length co95] (0, 0) _ rfl (by (with_reducible repeat (first | refine blk_drewN ?_ _ | refine blk_drew ?_ | refine blk_alloc ?_ _)); refine blk_put (cs := #[.slice Ao91 t276.length co91, .slice Ao94 t279.length co94, .slice none 0 0]) ?_ 2 _ rfl; (with_reducible repeat (first | refine blk_drewN ?_ _ | refine blk_drew ?_ | refine blk_alloc ?_ _)); refine blk_put (cs := #[.slice Ao91 t276.length co91, .slice none 0 0, .slice none 0 0]) ?_ 1 _ rfl; (with_reducible repeat (first | refine blk_drewN ?_ _ | refine blk_drew ?_ | refine blk_alloc ?_ _)); refine blk_put (cs := #[.slice none 0 0, .slice none 0 0, .slice none 0 0]) ?_ 0 _ rfl; (with_reducible repeat (first | refine blk_drewN ?_ _ | refine blk_drew ?_ | refine blk_alloc ?_ _)); exact BK236.out) Try.underlying26 rfl (by kernel_rfl)) rfl ?_
      exact ⟨_, _, _, by first | rfl | (simp [errW_none, errW_some] <;> rfl) | (simp [*, errW_none, errW_some] <;> rfl), (by (with_reducible repeat (first | apply Kd.R_alloc | apply Kd.R_drewN | apply Kd.R_drew)); exact Kd.R_mono (Kd.R_far (p := ⟨gb236, 2, none⟩) (Kd.R_far (p := ⟨gb236, 1, none⟩) (Kd.R_far (p := ⟨gb236, 0, none⟩) (Kd.R_types HO278.out BK236.out (by decide)) (fun _ hk => hk.2) (.slice Ao91 t276.length co91)) (fun _ hk => hk.2) (.slice Ao94 t279.length co94)) (fun _ hk => hk.2) (.slice Ao95 t282.length co95)) (fun _ hk => ⟨hk.1.1.1.1.1, hk.1.1.1.1.2⟩)), (by (with_reducible repeat (first | apply Kd.R_alloc | apply Kd.R_drewN | apply Kd.R_drew)); exact Kd.R_mono (Kd.R_far (p := ⟨gb236, 2, none⟩) (Kd.R_far (p := ⟨gb236, 1, none⟩) (Kd.R_far (p := ⟨gb236, 0, none⟩) (Kd.R_types HO281.out BK236.out (by decide)) (fun _ hk => hk.2) (.slice Ao91 t276.length co91)) (fun _ hk => hk.2) (.slice Ao94 t279.length co94)) (fun _ hk => hk.2) (.slice Ao95 t282.length co95)) (fun _ hk => ⟨hk.1.1.1.1.1, hk.1.1.1.1.2⟩)), (by (with_reducible repeat (first | apply Kd.R_alloc | apply Kd.R_drewN | apply Kd.R_drew)); exact Kd.R_mono (Kd.R_far (p := ⟨gb236, 2, none⟩) (Kd.R_far (p := ⟨gb236, 1, none⟩) (Kd.R_far (p := ⟨gb236, 0, none⟩) (Kd.R_types HO284.out BK236.out (by decide)) (fun _ hk => hk.2) (.slice Ao91 t276.length co91)) (fun _ hk => hk.2) (.slice Ao94 t279.length co94)) (fun _ hk => hk.2) (.slice Ao95 t282.length co95)) (fun _ hk => ⟨hk.1.1.1.1.1, hk.1.1.1.1.2⟩)), u7_0⟩

end Go.Proofs.Ytoemdmjdpikfbaa.QFnExactLearner
