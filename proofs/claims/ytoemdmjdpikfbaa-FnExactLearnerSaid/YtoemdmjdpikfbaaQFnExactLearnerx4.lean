-- Printed by the session's own program wip/prx.py.
import Derived.Test.YtoemdmjdpikfbaaQFnExactLearnerx0
import Derived.Test.YtoemdmjdpikfbaaQFnExactLearnerx1
import Derived.Test.YtoemdmjdpikfbaaQFnExactLearnerx2
import Derived.Test.YtoemdmjdpikfbaaQFnExactLearnerx3
namespace Go.Proofs.Ytoemdmjdpikfbaa.QFnExactLearner
open Go.RowKit Go.Proofs.YtoemdmjdpikfbaaW.PrintWords Go.Proofs.YtoemdmjdpikfbaaW.PrintLast Go.Proofs.YtoemdmjdpikfbaaW.PrintMore
attribute [local go_sem] max2_int min2_int max_two min_two max_three min_three max_four min_four Go.Proofs.Ytoemdmjdpikfbaa.Set.isSome_setCell   -- for this text's walks alone
set_option linter.unusedVariables false
set_option linter.unusedSimpArgs false

-- squeezed
theorem u4_0 {P : Prop} (h : P := by repeat (first | (with_reducible first | exact HB.out | apply below_alloc | apply pw_below_drewN | apply below_drew1 | refine below_set ?_ GE141.out | refine below_set ?_ GE142.out | refine below_set ?_ GE152.out) | exact HB.out)) : P := h
theorem u4_1 {P : Prop} (h : P := by (try simp only [List.map_toArray, List.map_cons, List.map_nil]); first | done | rfl | (simp only [List.length_drop, List.length_take]; rfl)) : P := h
theorem u4_2 {P : Prop} (h : P := by (with_reducible repeat (first | refine blk_drewN ?_ _ | refine blk_drew ?_ | refine blk_alloc ?_ _)); exact BK141.out) : P := h
theorem u4_3 {P : Prop} (h : P := by repeat (first | (with_reducible first | exact HB.out | apply below_alloc | apply pw_below_drewN | apply below_drew1 | refine below_set ?_ GE141.out | refine below_set ?_ GE142.out) | exact HB.out)) : P := h
theorem u4_4 {P : Prop} (h : P := by (with_reducible repeat (first | refine blk_drewN ?_ _ | refine blk_drew ?_ | refine blk_alloc ?_ _)); exact BK142.out) : P := h
theorem u4_5 {P : Prop} (h : P := by repeat (first | (with_reducible first | exact HB.out | apply below_alloc | apply pw_below_drewN | apply below_drew1) | exact HB.out)) : P := h
theorem u4_6 {P : Prop} (h : P := by (with_reducible repeat (first | apply Kd.R_alloc | apply Kd.R_drewN | apply Kd.R_drew)); exact HO_153000.out) : P := h
theorem u4_7 {P : Prop} (h : P := by (with_reducible repeat (first | apply Kd.R_alloc | apply Kd.R_drewN | apply Kd.R_drew)); exact HO_153001.out) : P := h
theorem u4_8 {P : Prop} (h : P := by repeat (first | (with_reducible first | exact HB.out | apply below_alloc | apply pw_below_drewN | apply below_drew1 | refine below_set ?_ GE175.out | refine below_set ?_ GE176.out) | exact HB.out)) : P := h
theorem u4_9 {P : Prop} (h : P := by (with_reducible repeat (first | refine blk_drewN ?_ _ | refine blk_drew ?_ | refine blk_alloc ?_ _)); refine blk_put (cs := #[.slice Ao13 t143.length co13, .slice Ao17 t146.length co17, .slice none 0 0]) ?_ 2 _ rfl; (with_reducible repeat (first | refine blk_drewN ?_ _ | refine blk_drew ?_ | refine blk_alloc ?_ _)); refine blk_put (cs := #[.slice Ao13 t143.length co13, .slice none 0 0, .slice none 0 0]) ?_ 1 _ rfl; (with_reducible repeat (first | refine blk_drewN ?_ _ | refine blk_drew ?_ | refine blk_alloc ?_ _)); refine blk_put (cs := #[.slice none 0 0, .slice none 0 0, .slice none 0 0]) ?_ 0 _ rfl; (with_reducible repeat (first | refine blk_drewN ?_ _ | refine blk_drew ?_ | refine blk_alloc ?_ _)); exact BK152.out) : P := h
theorem u4_10 {P : Prop} (h : P := by (with_reducible repeat (first | refine blk_drewN ?_ _ | refine blk_drew ?_ | refine blk_alloc ?_ _)); refine blk_put (cs := #[.slice Ao13 t143.length co13, .slice Ao17 t146.length co17, .slice none 0 0]) ?_ 2 _ rfl; (with_reducible repeat (first | refine blk_drewN ?_ _ | refine blk_drew ?_ | refine blk_alloc ?_ _)); refine blk_put (cs := #[.slice Ao13 t143.length co13, .slice none 0 0, .slice none 0 0]) ?_ 1 _ rfl; (with_reducible repeat (first | refine blk_drewN ?_ _ | refine blk_drew ?_ | refine blk_alloc ?_ _)); refine blk_put (cs := #[.slice none 0 0, .slice none 0 0, .slice none 0 0]) ?_ 0 _ rfl; (with_reducible repeat (first | refine blk_drewN ?_ _ | refine blk_drew ?_ | refine blk_alloc ?_ _)); exact BK142.out) : P := h
theorem u4_11 {P : Prop} (h : P := by (with_reducible repeat (first | refine blk_drewN ?_ _ | refine blk_drew ?_ | refine blk_alloc ?_ _)); exact BK152.out) : P := h
theorem u4_12 {P : Prop} (h : P := by (with_reducible repeat (first | apply Kd.R_alloc | apply Kd.R_drewN | apply Kd.R_drew)); exact HO_153002.out) : P := h
theorem u4_13 {P : Prop} (h : P := by (with_reducible repeat (first | refine blk_drewN ?_ _ | refine blk_drew ?_ | refine blk_alloc ?_ _)); refine blk_far ?_ NB141_152.out _; (with_reducible repeat (first | refine blk_drewN ?_ _ | refine blk_drew ?_ | refine blk_alloc ?_ _)); refine blk_far ?_ NB141_152.out _; (with_reducible repeat (first | refine blk_drewN ?_ _ | refine blk_drew ?_ | refine blk_alloc ?_ _)); refine blk_far ?_ NB141_152.out _; (with_reducible repeat (first | refine blk_drewN ?_ _ | refine blk_drew ?_ | refine blk_alloc ?_ _)); exact BK141.out) : P := h
theorem u4_14 {P : Prop} (h : P := by (with_reducible repeat (first | refine blk_drewN ?_ _ | refine blk_drew ?_ | refine blk_alloc ?_ _)); refine blk_far ?_ NB142_152.out _; (with_reducible repeat (first | refine blk_drewN ?_ _ | refine blk_drew ?_ | refine blk_alloc ?_ _)); refine blk_far ?_ NB142_152.out _; (with_reducible repeat (first | refine blk_drewN ?_ _ | refine blk_drew ?_ | refine blk_alloc ?_ _)); refine blk_far ?_ NB142_152.out _; (with_reducible repeat (first | refine blk_drewN ?_ _ | refine blk_drew ?_ | refine blk_alloc ?_ _)); exact BK142.out) : P := h
theorem u4_15 {P : Prop} (h : P := by repeat (first | exact (Kd.C_below HR0_0.out HB.out) | (with_reducible refine Kd.C_alloc ?_ _) | (with_reducible refine Kd.C_drewN ?_ _) | (with_reducible refine Kd.C_drew ?_))) : P := h
theorem u4_16 {P : Prop} (h : P := by repeat (first | exact (Kd.C_below HR0_1.out HB.out) | (with_reducible refine Kd.C_alloc ?_ _) | (with_reducible refine Kd.C_drewN ?_ _) | (with_reducible refine Kd.C_drew ?_))) : P := h
theorem u4_17 {P : Prop} (h : P := by repeat (first | exact (Kd.C_below HR0_2.out HB.out) | (with_reducible refine Kd.C_alloc ?_ _) | (with_reducible refine Kd.C_drewN ?_ _) | (with_reducible refine Kd.C_drew ?_))) : P := h
theorem u4_18 {P : Prop} (h : P := by repeat (first | (with_reducible first | exact HB.out | apply below_alloc | apply pw_below_drewN | apply below_drew1 | refine below_set ?_ GE187.out) | exact HB.out)) : P := h
theorem u4_19 {P : Prop} (h : P := by (with_reducible repeat (first | apply Kd.R_alloc | apply Kd.R_drewN | apply Kd.R_drew)); exact (Kd.R_mono (Kd.R_far (p := ⟨gb152, 2, none⟩) (Kd.R_far (p := ⟨gb152, 1, none⟩) (Kd.R_far (p := ⟨gb152, 0, none⟩) (Kd.R_types HO145.out BK152.out (by decide)) (fun _ hk => hk.2) (.slice Ao13 t143.length co13)) (fun _ hk => hk.2) (.slice Ao17 t146.length co17)) (fun _ hk => hk.2) (.slice Ao18 t149.length co18)) (fun _ h_ => h_.1))) : P := h
theorem u4_20 {P : Prop} (h : P := by (with_reducible repeat (first | apply Kd.R_alloc | apply Kd.R_drewN | apply Kd.R_drew)); exact (Kd.R_mono (Kd.R_far (p := ⟨gb152, 2, none⟩) (Kd.R_far (p := ⟨gb152, 1, none⟩) (Kd.R_far (p := ⟨gb152, 0, none⟩) (Kd.R_types HO148.out BK152.out (by decide)) (fun _ hk => hk.2) (.slice Ao13 t143.length co13)) (fun _ hk => hk.2) (.slice Ao17 t146.length co17)) (fun _ hk => hk.2) (.slice Ao18 t149.length co18)) (fun _ h_ => h_.1))) : P := h
theorem u4_21 {P : Prop} (h : P := by (with_reducible repeat (first | apply Kd.R_alloc | apply Kd.R_drewN | apply Kd.R_drew)); exact (Kd.R_mono (Kd.R_far (p := ⟨gb152, 2, none⟩) (Kd.R_far (p := ⟨gb152, 1, none⟩) (Kd.R_far (p := ⟨gb152, 0, none⟩) (Kd.R_types HO151.out BK152.out (by decide)) (fun _ hk => hk.2) (.slice Ao13 t143.length co13)) (fun _ hk => hk.2) (.slice Ao17 t146.length co17)) (fun _ hk => hk.2) (.slice Ao18 t149.length co18)) (fun _ h_ => h_.1))) : P := h
theorem u4_22 {P : Prop} (h : P := by (with_reducible repeat (first | refine blk_drewN ?_ _ | refine blk_drew ?_ | refine blk_alloc ?_ _)); refine blk_put (cs := #[.slice Ao13 t143.length co13, .slice Ao17 t146.length co17, .slice Ao18 t149.length co18]) ?_ 2 _ rfl; (with_reducible repeat (first | refine blk_drewN ?_ _ | refine blk_drew ?_ | refine blk_alloc ?_ _)); exact BK152.out) : P := h
theorem u4_23 {P : Prop} (h : P := by (with_reducible repeat (first | refine blk_drewN ?_ _ | refine blk_drew ?_ | refine blk_alloc ?_ _)); exact BK175.out) : P := h
theorem u4_24 {P : Prop} (h : P := by repeat (first | (with_reducible first | exact HB.out | apply below_alloc | apply pw_below_drewN | apply below_drew1 | refine below_set ?_ GE141.out) | exact HB.out)) : P := h
theorem u4_25 {P : Prop} (h : P := by repeat (first | (with_reducible first | exact HB.out | apply below_alloc | apply pw_below_drewN | apply below_drew1 | refine below_set ?_ GE175.out) | exact HB.out)) : P := h
theorem u4_26 {P : Prop} (h : P := by repeat (first | exact Drawn0.refl _ | apply Drawn0.step)) : P := h
theorem u4_27 {P : Prop} (h : P := by (with_reducible repeat (first | refine blk_drewN ?_ _ | refine blk_drew ?_ | refine blk_alloc ?_ _)); refine blk_far ?_ NB141_152.out _; (with_reducible repeat (first | refine blk_drewN ?_ _ | refine blk_drew ?_ | refine blk_alloc ?_ _)); exact BK141.out) : P := h
theorem u4_28 {P : Prop} (h : P := by (with_reducible repeat (first | refine blk_drewN ?_ _ | refine blk_drew ?_ | refine blk_alloc ?_ _)); refine blk_far ?_ NB142_152.out _; (with_reducible repeat (first | refine blk_drewN ?_ _ | refine blk_drew ?_ | refine blk_alloc ?_ _)); exact BK142.out) : P := h
theorem u4_29 {P : Prop} (h : P := by (with_reducible repeat (first | apply Kd.R_alloc | apply Kd.R_drewN | apply Kd.R_drew)); exact HO145.out) : P := h
theorem u4_30 {P : Prop} (h : P := by (with_reducible repeat (first | apply Kd.R_alloc | apply Kd.R_drewN | apply Kd.R_drew)); exact HO148.out) : P := h
theorem u4_31 {P : Prop} (h : P := by (with_reducible repeat (first | apply Kd.R_alloc | apply Kd.R_drewN | apply Kd.R_drew)); exact HO151.out) : P := h
theorem u4_32 {P : Prop} (h : P := by first | rfl | (simp; done) | (simp [*]; done)) : P := h
/-! ### impl_learner: function 49 -/
mutual
def impl_learner.j0 : Nat → Int → Bool → Int → Bool → List Int → List Int → List Int → List Int → List Int → List Int → Option (List Int × List Int × List Int × Bool)
  | 0, _, _, _, _, _, _, _, _, _, _ => none
  | k + 1, x1, x2, x9, x27, x142000, x142001, x142002, x153000, x153001, x153002 => if x27 = true then (some (x153000, x153001, x153002, false)) else (if x2 = true then ((slices_Insert_int_int.f x153002 x9 (([x1] : List Int))).bind fun t159 => (impl_learner.j1 k x142000 x142001 x142002 x153000 x153001 t159)) else ((slices_Delete_int_int.f x153002 x9 (wrap64 (x9 + 1))).bind fun t162 => (impl_learner.j1 k x142000 x142001 x142002 x153000 x153001 t162)))
def impl_learner.j1 : Nat → List Int → List Int → List Int → List Int → List Int → List Int → Option (List Int × List Int × List Int × Bool)
  | 0, _, _, _, _, _, _ => none
  | k + 1, x142000, x142001, x142002, x153000, x153001, x153002 => (impl_isConf.f k x153000 x153001 x153002).bind fun t165 => (if t165 = true then (some (x153000, x153001, x153002, true)) else ((impl_copyConf.f x142000 x142001 x142002).bind fun bt166 => (some (bt166.1, bt166.2.1, bt166.2.2, false))))
end
def impl_learner.f (k : Nat) (l0_0 : List Int) (l0_1 : List Int) (l0_2 : List Int) (a1 : Int) (a2 : Bool) : Option (List Int × List Int × List Int × Bool) := (impl_copyConf.f l0_0 l0_1 l0_2).bind fun bt143 => ((slices_BinarySearch_int_int.f k l0_2 a1).bind fun bt153 => ((impl_isConf.f k l0_0 l0_1 l0_2).bind fun t155 => (if t155 = true then (impl_learner.j0 k a1 a2 bt153.1 (bt153.2 == a2) l0_0 l0_1 l0_2 bt143.1 bt143.2.1 bt143.2.2) else (impl_learner.j0 k a1 a2 bt153.1 true l0_0 l0_1 l0_2 bt143.1 bt143.2.1 bt143.2.2))))
theorem impl_learner.mono_l : ∀ k, (∀ y0 y1 y2 y3 y4 y5 y6 y7 y8 y9, LeO (impl_learner.j0 k y0 y1 y2 y3 y4 y5 y6 y7 y8 y9) (impl_learner.j0 (k + 1) y0 y1 y2 y3 y4 y5 y6 y7 y8 y9)) ∧ (∀ y0 y1 y2 y3 y4 y5, LeO (impl_learner.j1 k y0 y1 y2 y3 y4 y5) (impl_learner.j1 (k + 1) y0 y1 y2 y3 y4 y5))
  | 0 => ⟨fun _ _ _ _ _ _ _ _ _ _ r h => by simp [impl_learner.j0] at h, fun _ _ _ _ _ _ r h => by simp [impl_learner.j1] at h⟩
  | k + 1 => by
    obtain ⟨ih0, ih1⟩ := impl_learner.mono_l k
    refine ⟨?_, ?_⟩
    · intro y0 y1 y2 y3 y4 y5 y6 y7 y8 y9
      unfold impl_learner.j0
      repeat' first
      | (with_reducible exact ih0 _ _ _ _ _ _ _ _ _ _)
      | (with_reducible exact ih1 _ _ _ _ _ _)
      | (with_reducible exact impl_isConf.mono _ _ _ _)
      | (with_reducible exact slices_BinarySearch_int_int.mono _ _ _)
      | (with_reducible exact LeO.refl _)
      | (with_reducible exact LeO.none _)
      | (with_reducible refine LeO.ite ?_ ?_)
      | (with_reducible refine LeO.bind ?_ (fun _ => ?_))
      | exact ih0 _ _ _ _ _ _ _ _ _ _
      | exact ih1 _ _ _ _ _ _
      | exact impl_isConf.mono _ _ _ _
      | exact slices_BinarySearch_int_int.mono _ _ _
      | exact LeO.none _
      | refine LeO.ite ?_ ?_
      | refine LeO.bind ?_ (fun _ => ?_)
    · intro y0 y1 y2 y3 y4 y5
      unfold impl_learner.j1
      repeat' first
      | (with_reducible exact ih0 _ _ _ _ _ _ _ _ _ _)
      | (with_reducible exact ih1 _ _ _ _ _ _)
      | (with_reducible exact impl_isConf.mono _ _ _ _)
      | (with_reducible exact slices_BinarySearch_int_int.mono _ _ _)
      | (with_reducible exact LeO.refl _)
      | (with_reducible exact LeO.none _)
      | (with_reducible refine LeO.ite ?_ ?_)
      | (with_reducible refine LeO.bind ?_ (fun _ => ?_))
      | exact ih0 _ _ _ _ _ _ _ _ _ _
      | exact ih1 _ _ _ _ _ _
      | exact impl_isConf.mono _ _ _ _
      | exact slices_BinarySearch_int_int.mono _ _ _
      | exact LeO.none _
      | refine LeO.ite ?_ ?_
      | refine LeO.bind ?_ (fun _ => ?_)
theorem impl_learner.mono : ∀ a0 a1 a2 a3 a4 k, LeO (impl_learner.f k a0 a1 a2 a3 a4) (impl_learner.f (k + 1) a0 a1 a2 a3 a4) := by
  intro a0 a1 a2 a3 a4 k
  obtain ⟨ih0, ih1⟩ := impl_learner.mono_l k
  unfold impl_learner.f
  repeat' first
      | (with_reducible exact ih0 _ _ _ _ _ _ _ _ _ _)
      | (with_reducible exact ih1 _ _ _ _ _ _)
      | (with_reducible exact impl_isConf.mono _ _ _ _)
      | (with_reducible exact slices_BinarySearch_int_int.mono _ _ _)
      | (with_reducible exact LeO.refl _)
      | (with_reducible exact LeO.none _)
      | (with_reducible refine LeO.ite ?_ ?_)
      | (with_reducible refine LeO.bind ?_ (fun _ => ?_))
      | exact ih0 _ _ _ _ _ _ _ _ _ _
      | exact ih1 _ _ _ _ _ _
      | exact impl_isConf.mono _ _ _ _
      | exact slices_BinarySearch_int_int.mono _ _ _
      | exact LeO.none _
      | refine LeO.ite ?_ ?_
      | refine LeO.bind ?_ (fun _ => ?_)
set_option maxHeartbeats 8000000 in
set_option maxRecDepth 100000 in
theorem impl_learner.calls (k : Nat) (A0_0 : Option Addr) (c0_0 : Nat) (l0_0 : List Int) (A0_1 : Option Addr) (c0_1 : Nat) (l0_1 : List Int) (A0_2 : Option Addr) (c0_2 : Nat) (l0_2 : List Int) (a1 : Int) (a2 : Bool) (r1 : List Int) (r2 : List Int) (r3 : List Int) (r4 : Bool) (w : World) (hr0_0 : Kd.C (Kd.int .i64) w A0_0 l0_0.length l0_0) (hc0_0 : l0_0.length ≤ c0_0) (hr0_1 : Kd.C (Kd.int .i64) w A0_1 l0_1.length l0_1) (hc0_1 : l0_1.length ≤ c0_1) (hr0_2 : Kd.C (Kd.int .i64) w A0_2 l0_2.length l0_2) (hc0_2 : l0_2.length ≤ c0_2) (h : impl_learner.f k l0_0 l0_1 l0_2 a1 a2 = some (r1, r2, r3, r4)) :
    Calls Try.prog 49 #[.agg #[.slice A0_0 l0_0.length c0_0, .slice A0_1 l0_1.length c0_1, .slice A0_2 l0_2.length c0_2], .int .i64 a1, .bool a2] w fun e w' => ∃ v0_ v1_ v2_ : Value, e = .returned (.tuple #[.agg #[v0_, v1_, v2_], .bool r4]) ∧ Kd.R (Kd.int .i64) 3 w' w.heap.size (fun k_ => some k_ ≠ (v1_ : Value).ownBlock ∧ some k_ ≠ (v2_ : Value).ownBlock) v0_ r1 ∧ Kd.R (Kd.int .i64) 3 w' w.heap.size (fun k_ => some k_ ≠ (v0_ : Value).ownBlock ∧ some k_ ≠ (v2_ : Value).ownBlock) v1_ r2 ∧ Kd.R (Kd.int .i64) 3 w' w.heap.size (fun k_ => some k_ ≠ (v0_ : Value).ownBlock ∧ some k_ ≠ (v1_ : Value).ownBlock) v2_ r3 ∧ Below w.heap.size w w' := by
  have hu26 := Try.underlying26
  have HR0_0 := Aside0.mk hr0_0
  have HC0_0 := Aside0.mk hc0_0
  clear hr0_0 hc0_0
  have HR0_1 := Aside0.mk hr0_1
  have HC0_1 := Aside0.mk hc0_1
  clear hr0_1 hc0_1
  have HR0_2 := Aside0.mk hr0_2
  have HC0_2 := Aside0.mk hc0_2
  clear hr0_2 hc0_2
  have HB := Aside0.mk (Below.refl w.heap.size w)
  have H : ((impl_copyConf.f l0_0 l0_1 l0_2).bind fun bt143 => ((slices_BinarySearch_int_int.f k l0_2 a1).bind fun bt153 => ((impl_isConf.f k l0_0 l0_1 l0_2).bind fun t155 => (if t155 = true then (impl_learner.j0 k a1 a2 bt153.1 (bt153.2 == a2) l0_0 l0_1 l0_2 bt143.1 bt143.2.1 bt143.2.2) else (impl_learner.j0 k a1 a2 bt153.1 true l0_0 l0_1 l0_2 bt143.1 bt143.2.1 bt143.2.2))))) = some (r1, r2, r3, r4) := h
  clear h
  replace H := Option.bind_eq_some_iff.mp H
  obtain ⟨⟨t143, t146, t149⟩, A40, H⟩ := H
  (try dsimp only at H)
  have A4 := Aside0.mk A40
  clear A40
  replace H := Option.bind_eq_some_iff.mp H
  obtain ⟨⟨t153, t154⟩, A50, H⟩ := H
  (try dsimp only at H)
  have A5 := Aside0.mk A50
  clear A50
  have HC6 := Aside0.mk H
  clear H
  go_enter Try.func49, Try.ntmps49
  go_upto_region 3 with (first | ((with_reducible refine gate_dst (N := 3) rfl ?_); refine box_event ?hg (N := 3) ?hd (cs := #[.slice A0_0 l0_0.length c0_0, .slice A0_1 l0_1.length c0_1, .slice A0_2 l0_2.length c0_2]) (t := 26) ?hr ?_; (case hd => rfl); (case hg => rfl); (case hr => first | (go_simp; done) | (go_simp; rfl)); intro gb141 hg w7 hbox hb; have n0_ := Aside0.mk (below_step u4_5 hb); have n1_ := Aside0.mk (hbox); have n2_ := Aside0.mk ((by rw [hg]; exact (below_size u4_5) : w.heap.size ≤ gb141)); have n3_ := Aside0.mk ((by rw [hg]; exact (below_size u4_5) : w.heap.size ≤ gb141)); clear HB; have HB := n0_; have BK141 := n1_; have GW141 := n2_; have GE141 := n3_; clear n0_ n1_ n2_ n3_; clear hb hbox hg) | ((with_reducible refine gate_dst (N := 6) rfl ?_); refine box_event ?hg (N := 6) ?hd (cs := #[.slice none 0 0, .slice none 0 0, .slice none 0 0]) (t := 26) ?hr ?_; (case hd => rfl); (case hg => rfl); (case hr => first | (go_simp; done) | (go_simp; rfl)); intro gb142 hg w8 hbox hb; have n0_ := Aside0.mk (blk_below (g := gb141) (o := .cells #[.slice A0_0 l0_0.length c0_0, .slice A0_1 l0_1.length c0_1, .slice A0_2 l0_2.length c0_2] 26 (0, 0)) u4_2 hb); have n1_ := Aside0.mk (below_step u4_24 hb); have n2_ := Aside0.mk (hbox); have n3_ := Aside0.mk ((by rw [hg]; exact (below_size u4_24) : w.heap.size ≤ gb142)); have n4_ := Aside0.mk ((by rw [hg]; exact (below_size u4_24) : w.heap.size ≤ gb142)); have n5_ := Aside0.mk ((by rw [hg]; exact Nat.ne_of_lt (blk_lt (g := gb141) (o := .cells #[.slice A0_0 l0_0.length c0_0, .slice A0_1 l0_1.length c0_1, .slice A0_2 l0_2.length c0_2] 26 (0, 0)) u4_2) : gb141 ≠ gb142)); have n6_ := Aside0.mk ((by rw [hg]; exact Nat.ne_of_gt (blk_lt (g := gb141) (o := .cells #[.slice A0_0 l0_0.length c0_0, .slice A0_1 l0_1.length c0_1, .slice A0_2 l0_2.length c0_2] 26 (0, 0)) u4_2) : gb142 ≠ gb141)); clear BK141; clear HB; have BK141 := n0_; have HB := n1_; have BK142 := n2_; have GW142 := n3_; have GE142 := n4_; have NB141_142 := n5_; have NB142_141 := n6_; clear n0_ n1_ n2_ n3_ n4_ n5_ n6_; clear hb hbox hg; have hnb9 := NB141_142.out; have hnc9 := NB142_141.out; have hcz10_0 : w8.cell? ⟨gb141, 0, none⟩ = some (.slice A0_0 l0_0.length c0_0) := (blk_cell BK141.out 0).trans rfl; have hcz10_1 : w8.cell? ⟨gb141, 1, none⟩ = some (.slice A0_1 l0_1.length c0_1) := (blk_cell BK141.out 1).trans rfl; have hcz10_2 : w8.cell? ⟨gb141, 2, none⟩ = some (.slice A0_2 l0_2.length c0_2) := (blk_cell BK141.out 2).trans rfl; have hfz10_0 := blk_frozen BK141.out 0; have hfz10_1 := blk_frozen BK141.out 1; have hfz10_2 := blk_frozen BK141.out 2) | ((with_reducible refine gate_callee (f := 63) rfl ?_); refine goesL_ (some 12) rfl rfl Try.func63 (by kernel_rfl) rfl #[.agg #[.slice A0_0 l0_0.length c0_0, .slice A0_1 l0_1.length c0_1, .slice A0_2 l0_2.length c0_2]] rfl u4_1 ?_; (with_reducible refine (impl_copyConf.calls _ _ l0_0 _ _ l0_1 _ _ l0_2 t143 t146 t149 _ ?side1 ?side2 ?side3 ?side4 ?side5 ?side6 A4.out).mono ?_); (case side1 => exact u4_15); (case side2 => exact HC0_0.out); (case side3 => exact u4_16); (case side4 => exact HC0_1.out); (case side5 => exact u4_17); (case side6 => exact HC0_2.out); rintro e w11 ⟨v144, v147, v150, rfl, ho0, ho1, ho2, hb⟩; refine ⟨_, rfl, ?_⟩; have n0_ := Aside0.mk (Kd.R_lower ho0 (below_size u4_3)); have n1_ := Aside0.mk (Kd.R_lower ho1 (below_size u4_3)); have n2_ := Aside0.mk (Kd.R_lower ho2 (below_size u4_3)); have n3_ := Aside0.mk (blk_below (g := gb141) (o := .cells #[.slice A0_0 l0_0.length c0_0, .slice A0_1 l0_1.length c0_1, .slice A0_2 l0_2.length c0_2] 26 (0, 0)) u4_2 hb); have n4_ := Aside0.mk (blk_below (g := gb142) (o := .cells #[.slice none 0 0, .slice none 0 0, .slice none 0 0] 26 (0, 0)) u4_4 hb); have n5_ := Aside0.mk (below_step u4_3 hb); clear BK141; clear BK142; clear HB; have HO145 := n0_; have HO148 := n1_; have HO151 := n2_; have BK141 := n3_; have BK142 := n4_; have HB := n5_; clear n0_ n1_ n2_ n3_ n4_ n5_; (try clear hb); (try clear hb2); (try clear hk); (try clear hi); (try clear ho0); (try clear ho1); (try clear ho2)) | ((with_reducible refine gate_dst (N := 8) rfl ?_); refine box_event ?hg (N := 8) ?hd (cs := #[.slice none 0 0, .slice none 0 0, .slice none 0 0]) (t := 26) ?hr ?_; (case hd => rfl); (case hg => rfl); (case hr => first | (go_simp; done) | (go_simp; rfl)); intro gb152 hg w12 hbox hb; have n0_ := Aside0.mk (Kd.R_below u4_29 hb); have n1_ := Aside0.mk (Kd.R_below u4_30 hb); have n2_ := Aside0.mk (Kd.R_below u4_31 hb); have n3_ := Aside0.mk (blk_below (g := gb141) (o := .cells #[.slice A0_0 l0_0.length c0_0, .slice A0_1 l0_1.length c0_1, .slice A0_2 l0_2.length c0_2] 26 (0, 0)) u4_2 hb); have n4_ := Aside0.mk (blk_below (g := gb142) (o := .cells #[.slice none 0 0, .slice none 0 0, .slice none 0 0] 26 (0, 0)) u4_4 hb); have n5_ := Aside0.mk (below_step u4_3 hb); have n6_ := Aside0.mk (hbox); have n7_ := Aside0.mk ((by rw [hg]; exact (below_size u4_3) : w.heap.size ≤ gb152)); have n8_ := Aside0.mk ((by rw [hg]; exact (below_size u4_3) : w.heap.size ≤ gb152)); have n9_ := Aside0.mk ((by rw [hg]; exact Nat.ne_of_lt (blk_lt (g := gb141) (o := .cells #[.slice A0_0 l0_0.length c0_0, .slice A0_1 l0_1.length c0_1, .slice A0_2 l0_2.length c0_2] 26 (0, 0)) u4_2) : gb141 ≠ gb152)); have n10_ := Aside0.mk ((by rw [hg]; exact Nat.ne_of_gt (blk_lt (g := gb141) (o := .cells #[.slice A0_0 l0_0.length c0_0, .slice A0_1 l0_1.length c0_1, .slice A0_2 l0_2.length c0_2] 26 (0, 0)) u4_2) : gb152 ≠ gb141)); have n11_ := Aside0.mk ((by rw [hg]; exact Nat.ne_of_lt (blk_lt (g := gb142) (o := .cells #[.slice none 0 0, .slice none 0 0, .slice none 0 0] 26 (0, 0)) u4_4) : gb142 ≠ gb152)); have n12_ := Aside0.mk ((by rw [hg]; exact Nat.ne_of_gt (blk_lt (g := gb142) (o := .cells #[.slice none 0 0, .slice none 0 0, .slice none 0 0] 26 (0, 0)) u4_4) : gb152 ≠ gb142)); clear HO145; clear HO148; clear HO151; clear BK141; clear BK142; clear HB; have HO145 := n0_; have HO148 := n1_; have HO151 := n2_; have BK141 := n3_; have BK142 := n4_; have HB := n5_; have BK152 := n6_; have GW152 := n7_; have GE152 := n8_; have NB141_152 := n9_; have NB152_141 := n10_; have NB142_152 := n11_; have NB152_142 := n12_; clear n0_ n1_ n2_ n3_ n4_ n5_ n6_ n7_ n8_ n9_ n10_ n11_ n12_; clear hb hbox hg; obtain ⟨Ao13, co13, eo13⟩ := Kd.R_slice HO145.out; subst eo13; have hnb14 := NB152_141.out; have hnc14 := NB141_152.out; have hnb15 := NB152_142.out; have hnc15 := NB142_152.out; have hcz16_0 : w12.cell? ⟨gb152, 0, none⟩ = some (.slice none 0 0) := (blk_cell BK152.out 0).trans rfl; have hcz16_1 : w12.cell? ⟨gb152, 1, none⟩ = some (.slice none 0 0) := (blk_cell BK152.out 1).trans rfl; have hcz16_2 : w12.cell? ⟨gb152, 2, none⟩ = some (.slice none 0 0) := (blk_cell BK152.out 2).trans rfl; have hfz16_0 := blk_frozen BK152.out 0; have hfz16_1 := blk_frozen BK152.out 1; have hfz16_2 := blk_frozen BK152.out 2; obtain ⟨Ao17, co17, eo17⟩ := Kd.R_slice HO148.out; subst eo17; obtain ⟨Ao18, co18, eo18⟩ := Kd.R_slice HO151.out; subst eo18; have hcz19_0 : w12.cell? ⟨gb141, 0, none⟩ = some (.slice A0_0 l0_0.length c0_0) := (blk_cell BK141.out 0).trans rfl; have hcz19_1 : w12.cell? ⟨gb141, 1, none⟩ = some (.slice A0_1 l0_1.length c0_1) := (blk_cell BK141.out 1).trans rfl; have hcz19_2 : w12.cell? ⟨gb141, 2, none⟩ = some (.slice A0_2 l0_2.length c0_2) := (blk_cell BK141.out 2).trans rfl; have hfz19_0 := blk_frozen BK141.out 0; have hfz19_1 := blk_frozen BK141.out 1; have hfz19_2 := blk_frozen BK141.out 2) | ((with_reducible refine gate_callee (f := 76) rfl ?_); refine goesL_ (some 17) rfl rfl Try.func76 (by kernel_rfl) rfl #[.slice A0_2 l0_2.length c0_2, .int .i64 a1] rfl u4_1 ?_; (with_reducible refine (slices_BinarySearch_int_int.calls k _ _ l0_2 a1 t153 t154 _ ?side1 ?side2 A5.out).mono ?_); (case side1 => exact (by exact Kd.C_below HR0_2.out u4_0)); (case side2 => exact HC0_2.out); rintro e w' ⟨rfl, ⟨nd, rfl⟩⟩; refine ⟨_, rfl, ?_⟩))
  (try simp only [Act.put, List.setIfInBounds_toArray, List.set_cons_zero, List.set_cons_succ])
  go_cut [27] (fun v27 wc => ∃ (kq : Nat) (x27_5 : Bool), v27 = .bool x27_5 ∧ Aside0 (impl_learner.j0 kq a1 a2 t153 x27_5 l0_0 l0_1 l0_2 t143 t146 t149 = some (r1, r2, r3, r4)) ∧ Aside0 (kq ≤ k) ∧ Aside0 (Kd.R (Kd.int .i64) 3 wc w.heap.size (fun k_ => some k_ ≠ ((.slice Ao17 t146.length co17) : Value).ownBlock ∧ some k_ ≠ ((.slice Ao18 t149.length co18) : Value).ownBlock) (.slice Ao13 t143.length co13) t143) ∧ Aside0 (Kd.R (Kd.int .i64) 3 wc w.heap.size (fun k_ => some k_ ≠ ((.slice Ao13 t143.length co13) : Value).ownBlock ∧ some k_ ≠ ((.slice Ao18 t149.length co18) : Value).ownBlock) (.slice Ao17 t146.length co17) t146) ∧ Aside0 (Kd.R (Kd.int .i64) 3 wc w.heap.size (fun k_ => some k_ ≠ ((.slice Ao13 t143.length co13) : Value).ownBlock ∧ some k_ ≠ ((.slice Ao17 t146.length co17) : Value).ownBlock) (.slice Ao18 t149.length co18) t149) ∧ Aside0 (wc.heap[gb141]? = some (.cells #[(.slice A0_0 l0_0.length c0_0), (.slice A0_1 l0_1.length c0_1), (.slice A0_2 l0_2.length c0_2)] 26 (0, 0))) ∧ Aside0 (wc.heap[gb142]? = some (.cells #[(.slice none 0 0), (.slice none 0 0), (.slice none 0 0)] 26 (0, 0))) ∧ Aside0 (wc.heap[gb152]? = some (.cells #[(.slice Ao13 t143.length co13), (.slice Ao17 t146.length co17), (.slice Ao18 t149.length co18)] 26 (0, 0))) ∧ Aside0 (Below w.heap.size w wc))
  case first =>
    have H := HC6.out
    clear HC6
    replace H := Option.bind_eq_some_iff.mp H
    obtain ⟨t155, A200, H⟩ := H
    have A20 := Aside0.mk A200
    clear A200
    by_cases c21 : t155 = true
    · subst c21
      rw [if_pos rfl] at H
      have H' := Aside0.mk H
      clear H
      have hnb22 := NB141_142.out
      have hnc22 := NB142_141.out
      have hnb23 := NB141_152.out
      have hnc23 := NB152_141.out
      have hcz24_0 : w12.cell? ⟨gb141, 0, none⟩ = some (.slice A0_0 l0_0.length c0_0) := (blk_cell BK141.out 0).trans rfl
      have hcz24_1 : w12.cell? ⟨gb141, 1, none⟩ = some (.slice A0_1 l0_1.length c0_1) := (blk_cell BK141.out 1).trans rfl
      have hcz24_2 : w12.cell? ⟨gb141, 2, none⟩ = some (.slice A0_2 l0_2.length c0_2) := (blk_cell BK141.out 2).trans rfl
      have hfz24_0 := blk_frozen BK141.out 0
      have hfz24_1 := blk_frozen BK141.out 1
      have hfz24_2 := blk_frozen BK141.out 2
      go_wp2_with (first | ((with_reducible refine gate_callee (f := 48) rfl ?_); refine goesL_ (some 21) rfl rfl Try.func48 (by kernel_rfl) rfl #[.agg #[.slice A0_0 l0_0.length c0_0, .slice A0_1 l0_1.length c0_1, .slice A0_2 l0_2.length c0_2]] rfl u4_1 ?_; (with_reducible refine (impl_isConf.calls k _ _ l0_0 _ _ l0_1 _ _ l0_2 true _ ?side1 ?side2 ?side3 ?side4 ?side5 ?side6 A20.out).mono ?_); (case side1 => exact (by exact Kd.C_below HR0_0.out u4_0)); (case side2 => exact HC0_0.out); (case side3 => exact (by exact Kd.C_below HR0_1.out u4_0)); (case side4 => exact HC0_1.out); (case side5 => exact (by exact Kd.C_below HR0_2.out u4_0)); (case side6 => exact HC0_2.out); rintro e w25 ⟨rfl, hb⟩; refine ⟨_, rfl, ?_⟩; have n0_ := Aside0.mk (Kd.R_below u4_19 hb); have n1_ := Aside0.mk (Kd.R_below u4_20 hb); have n2_ := Aside0.mk (Kd.R_below u4_21 hb); have n3_ := Aside0.mk (blk_below (g := gb141) (o := .cells #[.slice A0_0 l0_0.length c0_0, .slice A0_1 l0_1.length c0_1, .slice A0_2 l0_2.length c0_2] 26 (0, 0)) u4_13 hb); have n4_ := Aside0.mk (blk_below (g := gb142) (o := .cells #[.slice none 0 0, .slice none 0 0, .slice none 0 0] 26 (0, 0)) u4_14 hb); have n5_ := Aside0.mk (blk_below (g := gb152) (o := .cells #[.slice Ao13 t143.length co13, .slice Ao17 t146.length co17, .slice Ao18 t149.length co18] 26 (0, 0)) u4_9 hb); have n6_ := Aside0.mk (below_step u4_0 hb); clear HO145; clear HO148; clear HO151; clear BK141; clear BK142; clear BK152; clear HB; have HO145 := n0_; have HO148 := n1_; have HO151 := n2_; have BK141 := n3_; have BK142 := n4_; have BK152 := n5_; have HB := n6_; clear n0_ n1_ n2_ n3_ n4_ n5_ n6_; (try clear hb); (try clear hb2); (try clear hk); (try clear hi)))
      go_meet
      case rel => exact ⟨_, ((t154 == a2)), u4_32, H', ⟨by first | omega | exact Nat.le_refl _⟩, ⟨u4_29⟩, ⟨u4_30⟩, ⟨u4_31⟩, ⟨u4_2⟩, ⟨u4_4⟩, ⟨u4_11⟩, ⟨u4_0⟩⟩
    replace c21 := Bool.eq_false_iff.mpr c21
    subst c21
    rw [if_neg (show ¬ (false = true) by decide)] at H
    have H' := Aside0.mk H
    clear H
    have hnb26 := NB141_142.out
    have hnc26 := NB142_141.out
    have hnb27 := NB141_152.out
    have hnc27 := NB152_141.out
    have hcz28_0 : w12.cell? ⟨gb141, 0, none⟩ = some (.slice A0_0 l0_0.length c0_0) := (blk_cell BK141.out 0).trans rfl
    have hcz28_1 : w12.cell? ⟨gb141, 1, none⟩ = some (.slice A0_1 l0_1.length c0_1) := (blk_cell BK141.out 1).trans rfl
    have hcz28_2 : w12.cell? ⟨gb141, 2, none⟩ = some (.slice A0_2 l0_2.length c0_2) := (blk_cell BK141.out 2).trans rfl
    have hfz28_0 := blk_frozen BK141.out 0
    have hfz28_1 := blk_frozen BK141.out 1
    have hfz28_2 := blk_frozen BK141.out 2
    go_wp2_with (first | ((with_reducible refine gate_callee (f := 48) rfl ?_); refine goesL_ (some 21) rfl rfl Try.func48 (by kernel_rfl) rfl #[.agg #[.slice A0_0 l0_0.length c0_0, .slice A0_1 l0_1.length c0_1, .slice A0_2 l0_2.length c0_2]] rfl u4_1 ?_; (with_reducible refine (impl_isConf.calls k _ _ l0_0 _ _ l0_1 _ _ l0_2 false _ ?side1 ?side2 ?side3 ?side4 ?side5 ?side6 A20.out).mono ?_); (case side1 => exact (by exact Kd.C_below HR0_0.out u4_0)); (case side2 => exact HC0_0.out); (case side3 => exact (by exact Kd.C_below HR0_1.out u4_0)); (case side4 => exact HC0_1.out); (case side5 => exact (by exact Kd.C_below HR0_2.out u4_0)); (case side6 => exact HC0_2.out); rintro e w29 ⟨rfl, hb⟩; refine ⟨_, rfl, ?_⟩; have n0_ := Aside0.mk (Kd.R_below u4_19 hb); have n1_ := Aside0.mk (Kd.R_below u4_20 hb); have n2_ := Aside0.mk (Kd.R_below u4_21 hb); have n3_ := Aside0.mk (blk_below (g := gb141) (o := .cells #[.slice A0_0 l0_0.length c0_0, .slice A0_1 l0_1.length c0_1, .slice A0_2 l0_2.length c0_2] 26 (0, 0)) u4_13 hb); have n4_ := Aside0.mk (blk_below (g := gb142) (o := .cells #[.slice none 0 0, .slice none 0 0, .slice none 0 0] 26 (0, 0)) u4_14 hb); have n5_ := Aside0.mk (blk_below (g := gb152) (o := .cells #[.slice Ao13 t143.length co13, .slice Ao17 t146.length co17, .slice Ao18 t149.length co18] 26 (0, 0)) u4_9 hb); have n6_ := Aside0.mk (below_step u4_0 hb); clear HO145; clear HO148; clear HO151; clear BK141; clear BK142; clear BK152; clear HB; have HO145 := n0_; have HO148 := n1_; have HO151 := n2_; have BK141 := n3_; have BK142 := n4_; have BK152 := n5_; have HB := n6_; clear n0_ n1_ n2_ n3_ n4_ n5_ n6_; (try clear hb); (try clear hb2); (try clear hk); (try clear hi)))
    go_meet
    case rel => exact ⟨_, (true), u4_32, H', ⟨by first | omega | exact Nat.le_refl _⟩, ⟨u4_29⟩, ⟨u4_30⟩, ⟨u4_31⟩, ⟨u4_2⟩, ⟨u4_4⟩, ⟨u4_11⟩, ⟨u4_0⟩⟩
  clear HC6
  try clear c1
  try clear c2
  try clear p2
  try clear c4
  try clear c6
  try clear c7
  try clear c9
  try clear c14
  try clear c15
  try clear c21
  try clear c22
  try clear c23
  try clear c26
  try clear c27
  try clear hcz10_0
  try clear hcz10_1
  try clear hcz10_2
  try clear hcz16_0
  try clear hcz16_1
  try clear hcz16_2
  try clear hcz19_0
  try clear hcz19_1
  try clear hcz19_2
  try clear hcz24_0
  try clear hcz24_1
  try clear hcz24_2
  try clear hcz28_0
  try clear hcz28_1
  try clear hcz28_2
  try clear hfz10_0
  try clear hfz10_1
  try clear hfz10_2
  try clear hfz16_0
  try clear hfz16_1
  try clear hfz16_2
  try clear hfz19_0
  try clear hfz19_1
  try clear hfz19_2
  try clear hfz24_0
  try clear hfz24_1
  try clear hfz24_2
  try clear hfz28_0
  try clear hfz28_1
  try clear hfz28_2
  obtain ⟨kq, x27_5, rfl, HA, HJ5, HO_153000, HO_153001, HO_153002, BK141, BK142, BK152, HB⟩ := hcut
  cases kq with
  | zero => exact absurd HA.out (by simp [impl_learner.j0])
  | succ kj5 =>
    have H := HA.out
    clear HA
    simp only [impl_learner.j0] at H
    by_cases c30 : x27_5 = true
    · subst c30
      rw [if_pos rfl] at H
      simp only [Option.some.injEq, Prod.mk.injEq] at H
      obtain ⟨rfl, rfl, rfl, rfl⟩ := H
      have hnb31 := NB152_141.out
      have hnc31 := NB141_152.out
      have hnb32 := NB152_142.out
      have hnc32 := NB142_152.out
      have hcz33_0 : wc.cell? ⟨gb152, 0, none⟩ = some (.slice Ao13 t143.length co13) := (blk_cell BK152.out 0).trans rfl
      have hcz33_1 : wc.cell? ⟨gb152, 1, none⟩ = some (.slice Ao17 t146.length co17) := (blk_cell BK152.out 1).trans rfl
      have hcz33_2 : wc.cell? ⟨gb152, 2, none⟩ = some (.slice Ao18 t149.length co18) := (blk_cell BK152.out 2).trans rfl
      have hfz33_0 := blk_frozen BK152.out 0
      have hfz33_1 := blk_frozen BK152.out 1
      have hfz33_2 := blk_frozen BK152.out 2
      have hnb34 := NB142_141.out
      have hnc34 := NB141_142.out
      have hcz35_0 : wc.cell? ⟨gb142, 0, none⟩ = some (.slice none 0 0) := (blk_cell BK142.out 0).trans rfl
      have hcz35_1 : wc.cell? ⟨gb142, 1, none⟩ = some (.slice none 0 0) := (blk_cell BK142.out 1).trans rfl
      have hcz35_2 : wc.cell? ⟨gb142, 2, none⟩ = some (.slice none 0 0) := (blk_cell BK142.out 2).trans rfl
      have hfz35_0 := blk_frozen BK142.out 0
      have hfz35_1 := blk_frozen BK142.out 1
      have hfz35_2 := blk_frozen BK142.out 2
      go_wp2
      refine bodyPost_ret (results_ct rfl _ _ gb142 26 #[.slice Ao13 t143.length co13, .slice Ao17 t146.length co17, .slice Ao18 t149.length co18] (0, 0) _ rfl u4_10 Try.underlying26 rfl (by kernel_rfl)) rfl ?_
      exact ⟨_, _, _, by first | rfl | (simp [errW_none, errW_some] <;> rfl) | (simp [*, errW_none, errW_some] <;> rfl), (by (with_reducible repeat (first | apply Kd.R_alloc | apply Kd.R_drewN | apply Kd.R_drew)); exact Kd.R_mono (Kd.R_far (p := ⟨gb142, 2, none⟩) (Kd.R_far (p := ⟨gb142, 1, none⟩) (Kd.R_far (p := ⟨gb142, 0, none⟩) (Kd.R_types HO_153000.out BK142.out (by decide)) (fun _ hk => hk.2) (.slice Ao13 t143.length co13)) (fun _ hk => hk.2) (.slice Ao17 t146.length co17)) (fun _ hk => hk.2) (.slice Ao18 t149.length co18)) (fun _ hk => ⟨hk.1.1, hk.1.2⟩)), (by (with_reducible repeat (first | apply Kd.R_alloc | apply Kd.R_drewN | apply Kd.R_drew)); exact Kd.R_mono (Kd.R_far (p := ⟨gb142, 2, none⟩) (Kd.R_far (p := ⟨gb142, 1, none⟩) (Kd.R_far (p := ⟨gb142, 0, none⟩) (Kd.R_types HO_153001.out BK142.out (by decide)) (fun _ hk => hk.2) (.slice Ao13 t143.length co13)) (fun _ hk => hk.2) (.slice Ao17 t146.length co17)) (fun _ hk => hk.2) (.slice Ao18 t149.length co18)) (fun _ hk => ⟨hk.1.1, hk.1.2⟩)), (by (with_reducible repeat (first | apply Kd.R_alloc | apply Kd.R_drewN | apply Kd.R_drew)); exact Kd.R_mono (Kd.R_far (p := ⟨gb142, 2, none⟩) (Kd.R_far (p := ⟨gb142, 1, none⟩) (Kd.R_far (p := ⟨gb142, 0, none⟩) (Kd.R_types HO_153002.out BK142.out (by decide)) (fun _ hk => hk.2) (.slice Ao13 t143.length co13)) (fun _ hk => hk.2) (.slice Ao17 t146.length co17)) (fun _ hk => hk.2) (.slice Ao18 t149.length co18)) (fun _ hk => ⟨hk.1.1, hk.1.2⟩)), u4_0⟩
    replace c30 := Bool.eq_false_iff.mpr c30
    subst c30
    rw [if_neg (show ¬ (false = true) by decide)] at H
    have HC36 := Aside0.mk H
    clear H
    go_upto_if 29 with (fail)
    go_cut [] (fun wc => ∃ (kq : Nat) (x153002_35 : List Int) (u153002 : Value), Aside0 (impl_learner.j1 kq l0_0 l0_1 l0_2 t143 t146 x153002_35 = some (r1, r2, r3, r4)) ∧ Aside0 (kq ≤ kj5) ∧ Aside0 (Kd.R (Kd.int .i64) 3 wc w.heap.size (fun k_ => some k_ ≠ ((.slice Ao17 t146.length co17) : Value).ownBlock ∧ some k_ ≠ (u153002 : Value).ownBlock) (.slice Ao13 t143.length co13) t143) ∧ Aside0 (Kd.R (Kd.int .i64) 3 wc w.heap.size (fun k_ => some k_ ≠ ((.slice Ao13 t143.length co13) : Value).ownBlock ∧ some k_ ≠ (u153002 : Value).ownBlock) (.slice Ao17 t146.length co17) t146) ∧ Aside0 (Kd.R (Kd.int .i64) 3 wc w.heap.size (fun k_ => some k_ ≠ ((.slice Ao13 t143.length co13) : Value).ownBlock ∧ some k_ ≠ ((.slice Ao17 t146.length co17) : Value).ownBlock) u153002 x153002_35) ∧ Aside0 (wc.heap[gb141]? = some (.cells #[(.slice A0_0 l0_0.length c0_0), (.slice A0_1 l0_1.length c0_1), (.slice A0_2 l0_2.length c0_2)] 26 (0, 0))) ∧ Aside0 (wc.heap[gb142]? = some (.cells #[(.slice none 0 0), (.slice none 0 0), (.slice none 0 0)] 26 (0, 0))) ∧ Aside0 (wc.heap[gb152]? = some (.cells #[(.slice Ao13 t143.length co13), (.slice Ao17 t146.length co17), u153002] 26 (0, 0))) ∧ Aside0 (Below w.heap.size w wc))
    case first =>
      have H := HC36.out
      clear HC36
      by_cases c37 : a2 = true
      rotate_left
      · replace c37 := Bool.eq_false_iff.mpr c37
        subst c37
        rw [if_neg (show ¬ (false = true) by decide)] at H
        replace H := Option.bind_eq_some_iff.mp H
        obtain ⟨t162, A480, H⟩ := H
        replace H : (impl_learner.j1 kj5 l0_0 l0_1 l0_2 t143 t146 t162) = some (r1, r2, r3, r4) := H
        have A48 := Aside0.mk A480
        clear A480
        have H' := Aside0.mk H
        clear H
        have hnb49 := NB152_141.out
        have hnc49 := NB141_152.out
        have hnb50 := NB152_142.out
        have hnc50 := NB142_152.out
        have hcz51_0 : wc.cell? ⟨gb152, 0, none⟩ = some (.slice Ao13 t143.length co13) := (blk_cell BK152.out 0).trans rfl
        have hcz51_1 : wc.cell? ⟨gb152, 1, none⟩ = some (.slice Ao17 t146.length co17) := (blk_cell BK152.out 1).trans rfl
        have hcz51_2 : wc.cell? ⟨gb152, 2, none⟩ = some (.slice Ao18 t149.length co18) := (blk_cell BK152.out 2).trans rfl
        have hfz51_0 := blk_frozen BK152.out 0
        have hfz51_1 := blk_frozen BK152.out 1
        have hfz51_2 := blk_frozen BK152.out 2
        go_wp2_with (first | ((with_reducible refine gate_callee (f := 78) rfl ?_); refine goesL_ (some 42) rfl rfl Try.func78 (by kernel_rfl) rfl #[.slice Ao18 t149.length co18, .int .i64 t153, .int .i64 (wrap64 (t153 + 1))] rfl u4_1 ?_; (with_reducible refine (slices_Delete_int_int.calls (fun k_ => some k_ = (.slice Ao18 t149.length co18 : Value).ownBlock) (.slice Ao18 t149.length co18) t149 t153 (wrap64 (t153 + 1)) t162 w _ ?side1 ?side2 A48.out).mono ?_); (case side1 => exact u4_0); (case side2 => exact Kd.R_tight rfl HO_153002.out); rintro e w52 ⟨v163, rfl, ho0, hb, hkp⟩; refine ⟨_, rfl, ?_⟩; have n0_ := Aside0.mk (Kd.R_mono (ok' := fun k_ => some k_ ≠ (.slice Ao17 t146.length co17 : Value).ownBlock ∧ some k_ ≠ (v163 : Value).ownBlock) (Kd.R_keptB (HO_153000.out) hkp (fun k_ hk_ hs_ => (hk_.2) hs_)) (fun k_ hk_ => ⟨hk_.1.1, fun e_ => Or.elim (ho0.1 k_ e_.symm) (fun hs_ => hk_.2.1 hs_) (fun hn_ => Nat.not_le.2 hk_.2.2 hn_)⟩)); have n1_ := Aside0.mk (Kd.R_mono (ok' := fun k_ => some k_ ≠ (.slice Ao13 t143.length co13 : Value).ownBlock ∧ some k_ ≠ (v163 : Value).ownBlock) (Kd.R_keptB (HO_153001.out) hkp (fun k_ hk_ hs_ => (hk_.2) hs_)) (fun k_ hk_ => ⟨hk_.1.1, fun e_ => Or.elim (ho0.1 k_ e_.symm) (fun hs_ => hk_.2.1 hs_) (fun hn_ => Nat.not_le.2 hk_.2.2 hn_)⟩)); have n2_ := Aside0.mk (blk_kept u4_2 hkp (fun hs_ => (fun e_ => (Kd.R_ne HO_153002.out BK141.out (by decide)) e_) hs_)); have n3_ := Aside0.mk (blk_kept u4_4 hkp (fun hs_ => (fun e_ => (Kd.R_ne HO_153002.out BK142.out (by decide)) e_) hs_)); have n4_ := Aside0.mk (blk_kept u4_11 hkp (fun hs_ => (fun e_ => (Kd.R_ne HO_153002.out BK152.out (by decide)) e_) hs_)); have n5_ := Aside0.mk (Kd.R_mono (ok' := fun k_ => some k_ ≠ (.slice Ao13 t143.length co13 : Value).ownBlock ∧ some k_ ≠ (.slice Ao17 t146.length co17 : Value).ownBlock) ho0 (fun k_ hk_ => ⟨Or.elim hk_ (fun hs_ => fun e_ => (((HO_153000.out).1 k_ e_.symm).2) hs_) (fun hn_ => (Kd.fresh' (Kd.R_lt u4_6) k_ hn_)), Or.elim hk_ (fun hs_ => fun e_ => (((HO_153001.out).1 k_ e_.symm).2) hs_) (fun hn_ => (Kd.fresh' (Kd.R_lt u4_7) k_ hn_))⟩)); have n6_ := Aside0.mk (hb); clear HO_153000; clear HO_153001; clear BK141; clear BK142; clear BK152; clear HB; clear HO_153002; have HO_153000 := n0_; have HO_153001 := n1_; have BK141 := n2_; have BK142 := n3_; have BK152 := n4_; have HO164 := n5_; have HB := n6_; clear n0_ n1_ n2_ n3_ n4_ n5_ n6_; (try clear hb); (try clear hkp); (try clear ho0); obtain ⟨Ao53, co53, eo53⟩ := Kd.R_slice HO164.out; subst eo53; have hcz54_0 : w52.cell? ⟨gb152, 0, none⟩ = some (.slice Ao13 t143.length co13) := (blk_cell BK152.out 0).trans rfl; have hcz54_1 : w52.cell? ⟨gb152, 1, none⟩ = some (.slice Ao17 t146.length co17) := (blk_cell BK152.out 1).trans rfl; have hcz54_2 : w52.cell? ⟨gb152, 2, none⟩ = some (.slice Ao18 t149.length co18) := (blk_cell BK152.out 2).trans rfl; have hfz54_0 := blk_frozen BK152.out 0; have hfz54_1 := blk_frozen BK152.out 1; have hfz54_2 := blk_frozen BK152.out 2))
        go_meet
        case rel => exact ⟨_, (t162), (.slice Ao53 t162.length co53), H', ⟨(by have := HJ5.out; first | omega | exact Nat.le_refl _)⟩, ⟨(by (with_reducible repeat (first | apply Kd.R_alloc | apply Kd.R_drewN | apply Kd.R_drew)); exact Kd.R_mono (Kd.R_far (p := ⟨gb152, 2, none⟩) (Kd.R_types HO_153000.out BK152.out (by decide)) (fun _ hk => hk.2) (.slice Ao53 t162.length co53)) (fun _ hk => ⟨hk.1.1, hk.1.2⟩))⟩, ⟨(by (with_reducible repeat (first | apply Kd.R_alloc | apply Kd.R_drewN | apply Kd.R_drew)); exact Kd.R_mono (Kd.R_far (p := ⟨gb152, 2, none⟩) (Kd.R_types HO_153001.out BK152.out (by decide)) (fun _ hk => hk.2) (.slice Ao53 t162.length co53)) (fun _ hk => ⟨hk.1.1, hk.1.2⟩))⟩, ⟨(by (with_reducible repeat (first | apply Kd.R_alloc | apply Kd.R_drewN | apply Kd.R_drew)); exact Kd.R_mono (Kd.R_far (p := ⟨gb152, 2, none⟩) (Kd.R_types HO164.out BK152.out (by decide)) (fun _ hk => hk.2) (.slice Ao53 t162.length co53)) (fun _ hk => ⟨hk.1.1, hk.1.2⟩))⟩, ⟨u4_27⟩, ⟨u4_28⟩, ⟨u4_22⟩, ⟨u4_0⟩⟩
      subst c37
      rw [if_pos rfl] at H
      obtain ⟨y156, hy156⟩ : ∃ y_ : List Int, y_ = (([a1] : List Int)) := ⟨_, rfl⟩
      replace H : ((slices_Insert_int_int.f t149 t153 y156).bind fun t159 => (impl_learner.j1 kj5 l0_0 l0_1 l0_2 t143 t146 t159)) = some (r1, r2, r3, r4) := by first | (rw [hy156]; with_reducible exact H) | (have H2_ := (Option.bind_some _ _).symm.trans H; rw [hy156]; with_reducible exact H2_) | (have H2_ := (Option.bind_some _ _).symm.trans H; with_reducible exact H2_) | with_reducible exact H | (rw [hy156]; exact H) | exact H
      have Ny156 := Aside0.mk hy156
      clear hy156
      replace H := Option.bind_eq_some_iff.mp H
      obtain ⟨t159, A380, H⟩ := H
      replace H : (impl_learner.j1 kj5 l0_0 l0_1 l0_2 t143 t146 t159) = some (r1, r2, r3, r4) := H
      have A38 := Aside0.mk A380
      clear A380
      have H' := Aside0.mk H
      clear H
      have hnb39 := NB152_141.out
      have hnc39 := NB141_152.out
      have hnb40 := NB152_142.out
      have hnc40 := NB142_152.out
      have hcz41_0 : wc.cell? ⟨gb152, 0, none⟩ = some (.slice Ao13 t143.length co13) := (blk_cell BK152.out 0).trans rfl
      have hcz41_1 : wc.cell? ⟨gb152, 1, none⟩ = some (.slice Ao17 t146.length co17) := (blk_cell BK152.out 1).trans rfl
      have hcz41_2 : wc.cell? ⟨gb152, 2, none⟩ = some (.slice Ao18 t149.length co18) := (blk_cell BK152.out 2).trans rfl
      have hfz41_0 := blk_frozen BK152.out 0
      have hfz41_1 := blk_frozen BK152.out 1
      have hfz41_2 := blk_frozen BK152.out 2
      go_wp2_with (first | ((with_reducible refine gate_dst (N := 34) rfl ?_); refine Kd.R_lit (Kd.int .i64) _ 3 ?hg (N := 34) ?hd (xs := ([a1] : List Int)) (inner := [.int .i64 a1]) (ok := fun _ => True) (okp := fun _ => True) ?hr ?hp (fun _ hk => hk) trivial (Below.refl _ _) (Nat.le_refl _) (by simp) ?_; (case hd => rfl); (case hg => rfl); (case hr => first | (go_simp; done) | (go_simp; rfl)); (case hp => exact (Reps.one (show Kd.M (Kd.int .i64) _ _ _ a1 [.int .i64 a1] from rfl) (Reps.none _ _))); intro v157 w42 ho43 hb hg_ hnew_; clear hg_ hnew_; (first | rw [← Ny156.out] at ho43 | (simp only [Int.reduceToNat] at ho43; rw [← Ny156.out] at ho43)); have n0_ := Aside0.mk (Kd.R_elder' u4_6 (Kd.R_base ho43) hb); have n1_ := Aside0.mk (Kd.R_elder' u4_7 (Kd.R_base ho43) hb); have n2_ := Aside0.mk (Kd.R_elder' u4_12 (Kd.R_base ho43) hb); have n3_ := Aside0.mk (Kd.R_lower (Kd.R_new' (Kd.R_new' (Kd.R_new' ho43 (Kd.R_lt u4_6)) (Kd.R_lt u4_7)) (Kd.R_lt u4_12)) (below_size u4_0)); have n4_ := Aside0.mk (blk_below (g := gb141) (o := .cells #[.slice A0_0 l0_0.length c0_0, .slice A0_1 l0_1.length c0_1, .slice A0_2 l0_2.length c0_2] 26 (0, 0)) u4_2 hb); have n5_ := Aside0.mk (blk_below (g := gb142) (o := .cells #[.slice none 0 0, .slice none 0 0, .slice none 0 0] 26 (0, 0)) u4_4 hb); have n6_ := Aside0.mk (blk_below (g := gb152) (o := .cells #[.slice Ao13 t143.length co13, .slice Ao17 t146.length co17, .slice Ao18 t149.length co18] 26 (0, 0)) u4_11 hb); have n7_ := Aside0.mk (below_step u4_0 hb); clear HO_153000; clear HO_153001; clear HO_153002; clear BK141; clear BK142; clear BK152; clear HB; have HO_153000 := n0_; have HO_153001 := n1_; have HO_153002 := n2_; have HO158 := n3_; have BK141 := n4_; have BK142 := n5_; have BK152 := n6_; have HB := n7_; clear n0_ n1_ n2_ n3_ n4_ n5_ n6_ n7_; clear hb ho43; obtain ⟨Ao44, co44, eo44⟩ := Kd.R_slice HO158.out; subst eo44) | ((with_reducible refine gate_callee (f := 77) rfl ?_); refine goesL_ (some 35) rfl rfl Try.func77 (by kernel_rfl) rfl #[.slice Ao18 t149.length co18, .int .i64 t153, .slice Ao44 y156.length co44] rfl u4_1 ?_; (with_reducible refine (slices_Insert_int_int.calls (fun k_ => some k_ = (.slice Ao18 t149.length co18 : Value).ownBlock) (.slice Ao18 t149.length co18) t149 t153 (fun k_ => some k_ = (.slice Ao44 y156.length co44 : Value).ownBlock) (.slice Ao44 y156.length co44) y156 t159 w _ ?side1 ?side2 ?side3 ?side4 ?side5 A38.out).mono ?_); (case side1 => exact u4_0); (case side2 => exact Kd.R_tight rfl HO_153002.out); (case side3 => exact fun k_ e_ => (HO_153002.out.1 k_ e_.symm).2); (case side4 => exact Kd.R_tight rfl HO158.out); (case side5 => exact fun k_ e_ => (HO158.out.1 k_ e_.symm).2); rintro e w45 ⟨v160, rfl, ho0, hb, hkp⟩; refine ⟨_, rfl, ?_⟩; have n0_ := Aside0.mk (Kd.R_mono (ok' := fun k_ => some k_ ≠ (.slice Ao17 t146.length co17 : Value).ownBlock ∧ some k_ ≠ (v160 : Value).ownBlock) (Kd.R_keptB (HO_153000.out) hkp (fun k_ hk_ hs_ => Or.elim hs_ (fun e_ => (hk_.1.2) e_) (fun e_ => (hk_.2) e_))) (fun k_ hk_ => ⟨hk_.1.1.1, fun e_ => Or.elim (ho0.1 k_ e_.symm) (fun hs_ => hk_.2.1 hs_) (fun hn_ => Nat.not_le.2 hk_.2.2 hn_)⟩)); have n1_ := Aside0.mk (Kd.R_mono (ok' := fun k_ => some k_ ≠ (.slice Ao13 t143.length co13 : Value).ownBlock ∧ some k_ ≠ (v160 : Value).ownBlock) (Kd.R_keptB (HO_153001.out) hkp (fun k_ hk_ hs_ => Or.elim hs_ (fun e_ => (hk_.1.2) e_) (fun e_ => (hk_.2) e_))) (fun k_ hk_ => ⟨hk_.1.1.1, fun e_ => Or.elim (ho0.1 k_ e_.symm) (fun hs_ => hk_.2.1 hs_) (fun hn_ => Nat.not_le.2 hk_.2.2 hn_)⟩)); have n2_ := Aside0.mk (blk_kept u4_2 hkp (fun hs_ => Or.elim hs_ (fun e_ => (fun e_ => (Kd.R_ne HO_153002.out BK141.out (by decide)) e_) e_) (fun e_ => (fun e_ => (Kd.R_ne HO158.out BK141.out (by decide)) e_) e_))); have n3_ := Aside0.mk (blk_kept u4_4 hkp (fun hs_ => Or.elim hs_ (fun e_ => (fun e_ => (Kd.R_ne HO_153002.out BK142.out (by decide)) e_) e_) (fun e_ => (fun e_ => (Kd.R_ne HO158.out BK142.out (by decide)) e_) e_))); have n4_ := Aside0.mk (blk_kept u4_11 hkp (fun hs_ => Or.elim hs_ (fun e_ => (fun e_ => (Kd.R_ne HO_153002.out BK152.out (by decide)) e_) e_) (fun e_ => (fun e_ => (Kd.R_ne HO158.out BK152.out (by decide)) e_) e_))); have n5_ := Aside0.mk (Kd.R_mono (ok' := fun k_ => some k_ ≠ (.slice Ao13 t143.length co13 : Value).ownBlock ∧ some k_ ≠ (.slice Ao17 t146.length co17 : Value).ownBlock) ho0 (fun k_ hk_ => ⟨Or.elim hk_ (fun hs_ => Or.elim hs_ (fun hs_ => fun e_ => (((HO_153000.out).1 k_ e_.symm).1.2) hs_) (fun hs_ => fun e_ => (((HO_153000.out).1 k_ e_.symm).2) hs_)) (fun hn_ => (Kd.fresh' (Kd.R_lt u4_6) k_ hn_)), Or.elim hk_ (fun hs_ => Or.elim hs_ (fun hs_ => fun e_ => (((HO_153001.out).1 k_ e_.symm).1.2) hs_) (fun hs_ => fun e_ => (((HO_153001.out).1 k_ e_.symm).2) hs_)) (fun hn_ => (Kd.fresh' (Kd.R_lt u4_7) k_ hn_))⟩)); have n6_ := Aside0.mk (hb); clear HO_153000; clear HO_153001; clear BK141; clear BK142; clear BK152; clear HB; clear HO158; clear HO_153002; have HO_153000 := n0_; have HO_153001 := n1_; have BK141 := n2_; have BK142 := n3_; have BK152 := n4_; have HO161 := n5_; have HB := n6_; clear n0_ n1_ n2_ n3_ n4_ n5_ n6_; (try clear hb); (try clear hkp); (try clear ho0); obtain ⟨Ao46, co46, eo46⟩ := Kd.R_slice HO161.out; subst eo46; have hcz47_0 : w45.cell? ⟨gb152, 0, none⟩ = some (.slice Ao13 t143.length co13) := (blk_cell BK152.out 0).trans rfl; have hcz47_1 : w45.cell? ⟨gb152, 1, none⟩ = some (.slice Ao17 t146.length co17) := (blk_cell BK152.out 1).trans rfl; have hcz47_2 : w45.cell? ⟨gb152, 2, none⟩ = some (.slice Ao18 t149.length co18) := (blk_cell BK152.out 2).trans rfl; have hfz47_0 := blk_frozen BK152.out 0; have hfz47_1 := blk_frozen BK152.out 1; have hfz47_2 := blk_frozen BK152.out 2))
      go_meet
      case rel => exact ⟨_, (t159), (.slice Ao46 t159.length co46), H', ⟨(by have := HJ5.out; first | omega | exact Nat.le_refl _)⟩, ⟨(by (with_reducible repeat (first | apply Kd.R_alloc | apply Kd.R_drewN | apply Kd.R_drew)); exact Kd.R_mono (Kd.R_far (p := ⟨gb152, 2, none⟩) (Kd.R_types HO_153000.out BK152.out (by decide)) (fun _ hk => hk.2) (.slice Ao46 t159.length co46)) (fun _ hk => ⟨hk.1.1, hk.1.2⟩))⟩, ⟨(by (with_reducible repeat (first | apply Kd.R_alloc | apply Kd.R_drewN | apply Kd.R_drew)); exact Kd.R_mono (Kd.R_far (p := ⟨gb152, 2, none⟩) (Kd.R_types HO_153001.out BK152.out (by decide)) (fun _ hk => hk.2) (.slice Ao46 t159.length co46)) (fun _ hk => ⟨hk.1.1, hk.1.2⟩))⟩, ⟨(by (with_reducible repeat (first | apply Kd.R_alloc | apply Kd.R_drewN | apply Kd.R_drew)); exact Kd.R_mono (Kd.R_far (p := ⟨gb152, 2, none⟩) (Kd.R_types HO161.out BK152.out (by decide)) (fun _ hk => hk.2) (.slice Ao46 t159.length co46)) (fun _ hk => ⟨hk.1.1, hk.1.2⟩))⟩, ⟨u4_27⟩, ⟨u4_28⟩, ⟨u4_22⟩, ⟨u4_0⟩⟩
    clear HC36
    try clear c1
    try clear c2
    try clear p2
    try clear c3
    try clear c4
    try clear c5
    try clear c6
    try clear p6
    try clear c7
    try clear c9
    try clear c14
    try clear c15
    try clear c21
    try clear c22
    try clear c23
    try clear c26
    try clear c27
    try clear c30
    try clear c31
    try clear c32
    try clear c34
    try clear c37
    try clear c39
    try clear c40
    try clear c48
    try clear c49
    try clear c50
    try clear hcz10_0
    try clear hcz10_1
    try clear hcz10_2
    try clear hcz16_0
    try clear hcz16_1
    try clear hcz16_2
    try clear hcz19_0
    try clear hcz19_1
    try clear hcz19_2
    try clear hcz24_0
    try clear hcz24_1
    try clear hcz24_2
    try clear hcz28_0
    try clear hcz28_1
    try clear hcz28_2
    try clear hcz33_0
    try clear hcz33_1
    try clear hcz33_2
    try clear hcz35_0
    try clear hcz35_1
    try clear hcz35_2
    try clear hcz41_0
    try clear hcz41_1
    try clear hcz41_2
    try clear hcz47_0
    try clear hcz47_1
    try clear hcz47_2
    try clear hcz51_0
    try clear hcz51_1
    try clear hcz51_2
    try clear hcz54_0
    try clear hcz54_1
    try clear hcz54_2
    try clear hfz10_0
    try clear hfz10_1
    try clear hfz10_2
    try clear hfz16_0
    try clear hfz16_1
    try clear hfz16_2
    try clear hfz19_0
    try clear hfz19_1
    try clear hfz19_2
    try clear hfz24_0
    try clear hfz24_1
    try clear hfz24_2
    try clear hfz28_0
    try clear hfz28_1
    try clear hfz28_2
    try clear hfz33_0
    try clear hfz33_1
    try clear hfz33_2
    try clear hfz35_0
    try clear hfz35_1
    try clear hfz35_2
    try clear hfz41_0
    try clear hfz41_1
    try clear hfz41_2
    try clear hfz47_0
    try clear hfz47_1
    try clear hfz47_2
    try clear hfz51_0
    try clear hfz51_1
    try clear hfz51_2
    try clear hfz54_0
    try clear hfz54_1
    try clear hfz54_2
    try clear p2
    obtain ⟨kq, x153002_35, u153002, HA, HJ35, HO_153000, HO_153001, HO_153002, BK141, BK142, BK152, HB⟩ := hcut
    cases kq with
    | zero => exact absurd HA.out (by simp [impl_learner.j1])
    | succ kj35 =>
      have H := HA.out
      clear HA
      simp only [impl_learner.j1] at H
      replace H := Option.bind_eq_some_iff.mp H
      obtain ⟨t165, A550, H⟩ := H
      have A55 := Aside0.mk A550
      clear A550
      have H9 := Aside0.mk H
      clear H
      have hnb56 := NB152_141.out
      have hnc56 := NB141_152.out
      have hnb57 := NB152_142.out
      have hnc57 := NB142_152.out
      have hcz58_0 : wc.cell? ⟨gb152, 0, none⟩ = some (.slice Ao13 t143.length co13) := (blk_cell BK152.out 0).trans rfl
      have hcz58_1 : wc.cell? ⟨gb152, 1, none⟩ = some (.slice Ao17 t146.length co17) := (blk_cell BK152.out 1).trans rfl
      have hcz58_2 : wc.cell? ⟨gb152, 2, none⟩ = some (u153002) := (blk_cell BK152.out 2).trans rfl
      have hfz58_0 := blk_frozen BK152.out 0
      have hfz58_1 := blk_frozen BK152.out 1
      have hfz58_2 := blk_frozen BK152.out 2
      obtain ⟨Ao59, co59, eo59⟩ := Kd.R_slice HO_153002.out
      subst eo59
      go_upto_if 46 with (first | ((with_reducible refine gate_callee (f := 48) rfl ?_); refine goesL_ (some 45) rfl rfl Try.func48 (by kernel_rfl) rfl #[.agg #[.slice Ao13 t143.length co13, .slice Ao17 t146.length co17, .slice Ao59 x153002_35.length co59]] rfl u4_1 ?_; (with_reducible refine (impl_isConf.calls kj35 _ _ t143 _ _ t146 _ _ x153002_35 t165 _ ?side1 ?side2 ?side3 ?side4 ?side5 ?side6 A55.out).mono ?_); (case side1 => exact (by repeat (first | exact (Kd.R_reads' HO_153000.out).2.2 | (with_reducible refine Kd.C_alloc ?_ _) | (with_reducible refine Kd.C_drewN ?_ _) | (with_reducible refine Kd.C_drew ?_)))); (case side2 => exact (Kd.R_reads' HO_153000.out).2.1); (case side3 => exact (by repeat (first | exact (Kd.R_reads' HO_153001.out).2.2 | (with_reducible refine Kd.C_alloc ?_ _) | (with_reducible refine Kd.C_drewN ?_ _) | (with_reducible refine Kd.C_drew ?_)))); (case side4 => exact (Kd.R_reads' HO_153001.out).2.1); (case side5 => exact (by repeat (first | exact (Kd.R_reads' HO_153002.out).2.2 | (with_reducible refine Kd.C_alloc ?_ _) | (with_reducible refine Kd.C_drewN ?_ _) | (with_reducible refine Kd.C_drew ?_)))); (case side6 => exact (Kd.R_reads' HO_153002.out).2.1); rintro e w60 ⟨rfl, hb⟩; refine ⟨_, rfl, ?_⟩; have n0_ := Aside0.mk (Kd.R_below u4_6 hb); have n1_ := Aside0.mk (Kd.R_below u4_7 hb); have n2_ := Aside0.mk (Kd.R_below u4_12 hb); have n3_ := Aside0.mk (blk_below (g := gb141) (o := .cells #[.slice A0_0 l0_0.length c0_0, .slice A0_1 l0_1.length c0_1, .slice A0_2 l0_2.length c0_2] 26 (0, 0)) u4_2 hb); have n4_ := Aside0.mk (blk_below (g := gb142) (o := .cells #[.slice none 0 0, .slice none 0 0, .slice none 0 0] 26 (0, 0)) u4_4 hb); have n5_ := Aside0.mk (blk_below (g := gb152) (o := .cells #[.slice Ao13 t143.length co13, .slice Ao17 t146.length co17, .slice Ao59 x153002_35.length co59] 26 (0, 0)) u4_11 hb); have n6_ := Aside0.mk (below_step u4_0 hb); clear HO_153000; clear HO_153001; clear HO_153002; clear BK141; clear BK142; clear BK152; clear HB; have HO_153000 := n0_; have HO_153001 := n1_; have HO_153002 := n2_; have BK141 := n3_; have BK142 := n4_; have BK152 := n5_; have HB := n6_; clear n0_ n1_ n2_ n3_ n4_ n5_ n6_; (try clear hb); (try clear hb2); (try clear hk); (try clear hi)))
      have H := H9.out
      clear H9
      by_cases c61 : t165 = true
      · subst c61
        rw [if_pos rfl] at H
        simp only [Option.some.injEq, Prod.mk.injEq] at H
        obtain ⟨rfl, rfl, rfl, rfl⟩ := H
        have hnb62 := NB152_141.out
        have hnc62 := NB141_152.out
        have hnb63 := NB152_142.out
        have hnc63 := NB142_152.out
        have hcz64_0 : w60.cell? ⟨gb152, 0, none⟩ = some (.slice Ao13 t143.length co13) := (blk_cell BK152.out 0).trans rfl
        have hcz64_1 : w60.cell? ⟨gb152, 1, none⟩ = some (.slice Ao17 t146.length co17) := (blk_cell BK152.out 1).trans rfl
        have hcz64_2 : w60.cell? ⟨gb152, 2, none⟩ = some (.slice Ao59 x153002_35.length co59) := (blk_cell BK152.out 2).trans rfl
        have hfz64_0 := blk_frozen BK152.out 0
        have hfz64_1 := blk_frozen BK152.out 1
        have hfz64_2 := blk_frozen BK152.out 2
        have hnb65 := NB142_141.out
        have hnc65 := NB141_142.out
        have hcz66_0 : w60.cell? ⟨gb142, 0, none⟩ = some (.slice none 0 0) := (blk_cell BK142.out 0).trans rfl
        have hcz66_1 : w60.cell? ⟨gb142, 1, none⟩ = some (.slice none 0 0) := (blk_cell BK142.out 1).trans rfl
        have hcz66_2 : w60.cell? ⟨gb142, 2, none⟩ = some (.slice none 0 0) := (blk_cell BK142.out 2).trans rfl
        have hfz66_0 := blk_frozen BK142.out 0
        have hfz66_1 := blk_frozen BK142.out 1
        have hfz66_2 := blk_frozen BK142.out 2
        go_wp2
        refine bodyPost_ret (results_ct rfl _ _ gb142 26 #[.slice Ao13 t143.length co13, .slice Ao17 t146.length co17, .slice Ao59 x153002_35.length co59] (0, 0) _ rfl u4_10 Try.underlying26 rfl (by kernel_rfl)) rfl ?_
        exact ⟨_, _, _, by first | rfl | (simp [errW_none, errW_some] <;> rfl) | (simp [*, errW_none, errW_some] <;> rfl), (by (with_reducible repeat (first | apply Kd.R_alloc | apply Kd.R_drewN | apply Kd.R_drew)); exact Kd.R_mono (Kd.R_far (p := ⟨gb142, 2, none⟩) (Kd.R_far (p := ⟨gb142, 1, none⟩) (Kd.R_far (p := ⟨gb142, 0, none⟩) (Kd.R_types HO_153000.out BK142.out (by decide)) (fun _ hk => hk.2) (.slice Ao13 t143.length co13)) (fun _ hk => hk.2) (.slice Ao17 t146.length co17)) (fun _ hk => hk.2) (.slice Ao59 x153002_35.length co59)) (fun _ hk => ⟨hk.1.1, hk.1.2⟩)), (by (with_reducible repeat (first | apply Kd.R_alloc | apply Kd.R_drewN | apply Kd.R_drew)); exact Kd.R_mono (Kd.R_far (p := ⟨gb142, 2, none⟩) (Kd.R_far (p := ⟨gb142, 1, none⟩) (Kd.R_far (p := ⟨gb142, 0, none⟩) (Kd.R_types HO_153001.out BK142.out (by decide)) (fun _ hk => hk.2) (.slice Ao13 t143.length co13)) (fun _ hk => hk.2) (.slice Ao17 t146.length co17)) (fun _ hk => hk.2) (.slice Ao59 x153002_35.length co59)) (fun _ hk => ⟨hk.1.1, hk.1.2⟩)), (by (with_reducible repeat (first | apply Kd.R_alloc | apply Kd.R_drewN | apply Kd.R_drew)); exact Kd.R_mono (Kd.R_far (p := ⟨gb142, 2, none⟩) (Kd.R_far (p := ⟨gb142, 1, none⟩) (Kd.R_far (p := ⟨gb142, 0, none⟩) (Kd.R_types HO_153002.out BK142.out (by decide)) (fun _ hk => hk.2) (.slice Ao13 t143.length co13)) (fun _ hk => hk.2) (.slice Ao17 t146.length co17)) (fun _ hk => hk.2) (.slice Ao59 x153002_35.length co59)) (fun _ hk => ⟨hk.1.1, hk.1.2⟩)), u4_0⟩
      replace c61 := Bool.eq_false_iff.mpr c61
      subst c61
      rw [if_neg (show ¬ (false = true) by decide)] at H
      replace H := Option.bind_eq_some_iff.mp H
      obtain ⟨⟨t166, t169, t172⟩, A670, H⟩ := H
      replace H : (some (t166, t169, t172, false)) = some (r1, r2, r3, r4) := H
      have A67 := Aside0.mk A670
      clear A670
      simp only [Option.some.injEq, Prod.mk.injEq] at H
      obtain ⟨rfl, rfl, rfl, rfl⟩ := H
      have hnb68 := NB141_142.out
      have hnc68 := NB142_141.out
      have hnb69 := NB141_152.out
      have hnc69 := NB152_141.out
      have hcz70_0 : w60.cell? ⟨gb141, 0, none⟩ = some (.slice A0_0 l0_0.length c0_0) := (blk_cell BK141.out 0).trans rfl
      have hcz70_1 : w60.cell? ⟨gb141, 1, none⟩ = some (.slice A0_1 l0_1.length c0_1) := (blk_cell BK141.out 1).trans rfl
      have hcz70_2 : w60.cell? ⟨gb141, 2, none⟩ = some (.slice A0_2 l0_2.length c0_2) := (blk_cell BK141.out 2).trans rfl
      have hfz70_0 := blk_frozen BK141.out 0
      have hfz70_1 := blk_frozen BK141.out 1
      have hfz70_2 := blk_frozen BK141.out 2
      go_wp2_with (first | ((with_reducible refine gate_callee (f := 63) rfl ?_); refine goesL_ (some 48) rfl rfl Try.func63 (by kernel_rfl) rfl #[.agg #[.slice A0_0 l0_0.length c0_0, .slice A0_1 l0_1.length c0_1, .slice A0_2 l0_2.length c0_2]] rfl u4_1 ?_; (with_reducible refine (impl_copyConf.calls _ _ l0_0 _ _ l0_1 _ _ l0_2 t166 t169 t172 _ ?side1 ?side2 ?side3 ?side4 ?side5 ?side6 A67.out).mono ?_); (case side1 => exact u4_15); (case side2 => exact HC0_0.out); (case side3 => exact u4_16); (case side4 => exact HC0_1.out); (case side5 => exact u4_17); (case side6 => exact HC0_2.out); rintro e w71 ⟨v167, v170, v173, rfl, ho0, ho1, ho2, hb⟩; refine ⟨_, rfl, ?_⟩; have n0_ := Aside0.mk (Kd.R_mono (Kd.R_told (Kd.R_told (Kd.R_told (Kd.R_old u4_6 hb) (Kd.R_base ho0)) (Kd.R_base ho1)) (Kd.R_base ho2)) (fun _ h_ => h_.1)); have n1_ := Aside0.mk (Kd.R_mono (Kd.R_told (Kd.R_told (Kd.R_told (Kd.R_old u4_7 hb) (Kd.R_base ho0)) (Kd.R_base ho1)) (Kd.R_base ho2)) (fun _ h_ => h_.1)); have n2_ := Aside0.mk (Kd.R_mono (Kd.R_told (Kd.R_told (Kd.R_told (Kd.R_old u4_12 hb) (Kd.R_base ho0)) (Kd.R_base ho1)) (Kd.R_base ho2)) (fun _ h_ => h_.1)); have n3_ := Aside0.mk (Kd.R_lower (Kd.R_new' (Kd.R_new' (Kd.R_new' ho0 (Kd.R_lt u4_6)) (Kd.R_lt u4_7)) (Kd.R_lt u4_12)) (below_size u4_0)); have n4_ := Aside0.mk (Kd.R_lower (Kd.R_new' (Kd.R_new' (Kd.R_new' ho1 (Kd.R_lt u4_6)) (Kd.R_lt u4_7)) (Kd.R_lt u4_12)) (below_size u4_0)); have n5_ := Aside0.mk (Kd.R_lower (Kd.R_new' (Kd.R_new' (Kd.R_new' ho2 (Kd.R_lt u4_6)) (Kd.R_lt u4_7)) (Kd.R_lt u4_12)) (below_size u4_0)); have n6_ := Aside0.mk (blk_below (g := gb141) (o := .cells #[.slice A0_0 l0_0.length c0_0, .slice A0_1 l0_1.length c0_1, .slice A0_2 l0_2.length c0_2] 26 (0, 0)) u4_2 hb); have n7_ := Aside0.mk (blk_below (g := gb142) (o := .cells #[.slice none 0 0, .slice none 0 0, .slice none 0 0] 26 (0, 0)) u4_4 hb); have n8_ := Aside0.mk (blk_below (g := gb152) (o := .cells #[.slice Ao13 t143.length co13, .slice Ao17 t146.length co17, .slice Ao59 x153002_35.length co59] 26 (0, 0)) u4_11 hb); have n9_ := Aside0.mk (below_step u4_0 hb); clear HO_153000; clear HO_153001; clear HO_153002; clear BK141; clear BK142; clear BK152; clear HB; have HO_153000 := n0_; have HO_153001 := n1_; have HO_153002 := n2_; have HO168 := n3_; have HO171 := n4_; have HO174 := n5_; have BK141 := n6_; have BK142 := n7_; have BK152 := n8_; have HB := n9_; clear n0_ n1_ n2_ n3_ n4_ n5_ n6_ n7_ n8_ n9_; (try clear hb); (try clear hb2); (try clear hk); (try clear hi); (try clear ho0); (try clear ho1); (try clear ho2); obtain ⟨Ao72, co72, eo72⟩ := Kd.R_slice HO168.out; subst eo72; have hnb73 := NB142_152.out; have hnc73 := NB152_142.out; have hcz74_0 : w71.cell? ⟨gb142, 0, none⟩ = some (.slice none 0 0) := (blk_cell BK142.out 0).trans rfl; have hcz74_1 : w71.cell? ⟨gb142, 1, none⟩ = some (.slice none 0 0) := (blk_cell BK142.out 1).trans rfl; have hcz74_2 : w71.cell? ⟨gb142, 2, none⟩ = some (.slice none 0 0) := (blk_cell BK142.out 2).trans rfl; have hfz74_0 := blk_frozen BK142.out 0; have hfz74_1 := blk_frozen BK142.out 1; have hfz74_2 := blk_frozen BK142.out 2; obtain ⟨Ao75, co75, eo75⟩ := Kd.R_slice HO171.out; subst eo75; obtain ⟨Ao76, co76, eo76⟩ := Kd.R_slice HO174.out; subst eo76))
      refine bodyPost_ret (results_ct rfl _ _ gb142 26 #[.slice Ao72 t166.length co72, .slice Ao75 t169.length co75, .slice Ao76 t172.length co76] (0, 0) _ rfl (by (with_reducible repeat (first | refine blk_drewN ?_ _ | refine blk_drew ?_ | refine blk_alloc ?_ _)); refine blk_put (cs := #[.slice Ao72 t166.length co72, .slice Ao75 t169.length co75, .slice none 0 0]) ?_ 2 _ rfl; (with_reducible repeat (first | refine blk_drewN ?_ _ | refine blk_drew ?_ | refine blk_alloc ?_ _)); refine blk_put (cs := #[.slice Ao72 t166.length co72, .slice none 0 0, .slice none 0 0]) ?_ 1 _ rfl; (with_reducible repeat (first | refine blk_drewN ?_ _ | refine blk_drew ?_ | refine blk_alloc ?_ _)); refine blk_put (cs := #[.slice none 0 0, .slice none 0 0, .slice none 0 0]) ?_ 0 _ rfl; (with_reducible repeat (first | refine blk_drewN ?_ _ | refine blk_drew ?_ | refine blk_alloc ?_ _)); exact BK142.out) Try.underlying26 rfl (by kernel_rfl)) rfl ?_
      exact ⟨_, _, _, by first | rfl | (simp [errW_none, errW_some] <;> rfl) | (simp [*, errW_none, errW_some] <;> rfl), (by (with_reducible repeat (first | apply Kd.R_alloc | apply Kd.R_drewN | apply Kd.R_drew)); exact Kd.R_mono (Kd.R_far (p := ⟨gb142, 2, none⟩) (Kd.R_far (p := ⟨gb142, 1, none⟩) (Kd.R_far (p := ⟨gb142, 0, none⟩) (Kd.R_types HO168.out BK142.out (by decide)) (fun _ hk => hk.2) (.slice Ao72 t166.length co72)) (fun _ hk => hk.2) (.slice Ao75 t169.length co75)) (fun _ hk => hk.2) (.slice Ao76 t172.length co76)) (fun _ hk => ⟨hk.1.1.1.1.1, hk.1.1.1.1.2⟩)), (by (with_reducible repeat (first | apply Kd.R_alloc | apply Kd.R_drewN | apply Kd.R_drew)); exact Kd.R_mono (Kd.R_far (p := ⟨gb142, 2, none⟩) (Kd.R_far (p := ⟨gb142, 1, none⟩) (Kd.R_far (p := ⟨gb142, 0, none⟩) (Kd.R_types HO171.out BK142.out (by decide)) (fun _ hk => hk.2) (.slice Ao72 t166.length co72)) (fun _ hk => hk.2) (.slice Ao75 t169.length co75)) (fun _ hk => hk.2) (.slice Ao76 t172.length co76)) (fun _ hk => ⟨hk.1.1.1.1.1, hk.1.1.1.1.2⟩)), (by (with_reducible repeat (first | apply Kd.R_alloc | apply Kd.R_drewN | apply Kd.R_drew)); exact Kd.R_mono (Kd.R_far (p := ⟨gb142, 2, none⟩) (Kd.R_far (p := ⟨gb142, 1, none⟩) (Kd.R_far (p := ⟨gb142, 0, none⟩) (Kd.R_types HO174.out BK142.out (by decide)) (fun _ hk => hk.2) (.slice Ao72 t166.length co72)) (fun _ hk => hk.2) (.slice Ao75 t169.length co75)) (fun _ hk => hk.2) (.slice Ao76 t172.length co76)) (fun _ hk => ⟨hk.1.1.1.1.1, hk.1.1.1.1.2⟩)), u4_0⟩

/-! ### impl_Learner: function 17 -/
def impl_Learner.f (k : Nat) (l0_0 : List Int) (l0_1 : List Int) (l0_2 : List Int) (a1 : Int) (a2 : Bool) : Option (List Int × List Int × List Int × Bool) := (impl_learner.f k l0_0 l0_1 l0_2 a1 a2).bind fun bt177 => (some (bt177.1, bt177.2.1, bt177.2.2.1, bt177.2.2.2))
theorem impl_Learner.mono : ∀ a0 a1 a2 a3 a4 k, LeO (impl_Learner.f k a0 a1 a2 a3 a4) (impl_Learner.f (k + 1) a0 a1 a2 a3 a4) := by
  intro a0 a1 a2 a3 a4 k
  unfold impl_Learner.f
  repeat' first
      | (with_reducible exact impl_learner.mono _ _ _ _ _ _)
      | (with_reducible exact LeO.refl _)
      | (with_reducible exact LeO.none _)
      | (with_reducible refine LeO.ite ?_ ?_)
      | (with_reducible refine LeO.bind ?_ (fun _ => ?_))
      | exact impl_learner.mono _ _ _ _ _ _
      | exact LeO.none _
      | refine LeO.ite ?_ ?_
      | refine LeO.bind ?_ (fun _ => ?_)
set_option maxHeartbeats 8000000 in
set_option maxRecDepth 100000 in
theorem impl_Learner.calls (k : Nat) (A0_0 : Option Addr) (c0_0 : Nat) (l0_0 : List Int) (A0_1 : Option Addr) (c0_1 : Nat) (l0_1 : List Int) (A0_2 : Option Addr) (c0_2 : Nat) (l0_2 : List Int) (a1 : Int) (a2 : Bool) (r1 : List Int) (r2 : List Int) (r3 : List Int) (r4 : Bool) (w : World) (hr0_0 : Kd.C (Kd.int .i64) w A0_0 l0_0.length l0_0) (hc0_0 : l0_0.length ≤ c0_0) (hr0_1 : Kd.C (Kd.int .i64) w A0_1 l0_1.length l0_1) (hc0_1 : l0_1.length ≤ c0_1) (hr0_2 : Kd.C (Kd.int .i64) w A0_2 l0_2.length l0_2) (hc0_2 : l0_2.length ≤ c0_2) (h : impl_Learner.f k l0_0 l0_1 l0_2 a1 a2 = some (r1, r2, r3, r4)) :
    Calls Try.prog 17 #[.agg #[.slice A0_0 l0_0.length c0_0, .slice A0_1 l0_1.length c0_1, .slice A0_2 l0_2.length c0_2], .int .i64 a1, .bool a2] w fun e w' => ∃ v0_ v1_ v2_ : Value, e = .returned (.tuple #[.agg #[v0_, v1_, v2_], .bool r4]) ∧ Kd.R (Kd.int .i64) 3 w' w.heap.size (fun k_ => some k_ ≠ (v1_ : Value).ownBlock ∧ some k_ ≠ (v2_ : Value).ownBlock) v0_ r1 ∧ Kd.R (Kd.int .i64) 3 w' w.heap.size (fun k_ => some k_ ≠ (v0_ : Value).ownBlock ∧ some k_ ≠ (v2_ : Value).ownBlock) v1_ r2 ∧ Kd.R (Kd.int .i64) 3 w' w.heap.size (fun k_ => some k_ ≠ (v0_ : Value).ownBlock ∧ some k_ ≠ (v1_ : Value).ownBlock) v2_ r3 ∧ Below w.heap.size w w' := by
  have hu26 := Try.underlying26
  have HR0_0 := Aside0.mk hr0_0
  have HC0_0 := Aside0.mk hc0_0
  clear hr0_0 hc0_0
  have HR0_1 := Aside0.mk hr0_1
  have HC0_1 := Aside0.mk hc0_1
  clear hr0_1 hc0_1
  have HR0_2 := Aside0.mk hr0_2
  have HC0_2 := Aside0.mk hc0_2
  clear hr0_2 hc0_2
  have HB := Aside0.mk (Below.refl w.heap.size w)
  have H : ((impl_learner.f k l0_0 l0_1 l0_2 a1 a2).bind fun bt177 => (some (bt177.1, bt177.2.1, bt177.2.2.1, bt177.2.2.2))) = some (r1, r2, r3, r4) := h
  clear h
  replace H := Option.bind_eq_some_iff.mp H
  obtain ⟨⟨t177, t180, t183, t186⟩, A40, H⟩ := H
  replace H : (some (t177, t180, t183, t186)) = some (r1, r2, r3, r4) := H
  have A4 := Aside0.mk A40
  clear A40
  simp only [Option.some.injEq, Prod.mk.injEq] at H
  obtain ⟨rfl, rfl, rfl, rfl⟩ := H
  go_enter Try.func17, Try.ntmps17
  go_wp2_with (first | ((with_reducible refine gate_dst (N := 3) rfl ?_); refine box_event ?hg (N := 3) ?hd (cs := #[.slice A0_0 l0_0.length c0_0, .slice A0_1 l0_1.length c0_1, .slice A0_2 l0_2.length c0_2]) (t := 26) ?hr ?_; (case hd => rfl); (case hg => rfl); (case hr => first | (go_simp; done) | (go_simp; rfl)); intro gb175 hg w5 hbox hb; have n0_ := Aside0.mk (below_step u4_5 hb); have n1_ := Aside0.mk (hbox); have n2_ := Aside0.mk ((by rw [hg]; exact (below_size u4_5) : w.heap.size ≤ gb175)); have n3_ := Aside0.mk ((by rw [hg]; exact (below_size u4_5) : w.heap.size ≤ gb175)); clear HB; have HB := n0_; have BK175 := n1_; have GW175 := n2_; have GE175 := n3_; clear n0_ n1_ n2_ n3_; clear hb hbox hg) | ((with_reducible refine gate_dst (N := 6) rfl ?_); refine box_event ?hg (N := 6) ?hd (cs := #[.slice none 0 0, .slice none 0 0, .slice none 0 0]) (t := 26) ?hr ?_; (case hd => rfl); (case hg => rfl); (case hr => first | (go_simp; done) | (go_simp; rfl)); intro gb176 hg w6 hbox hb; have n0_ := Aside0.mk (blk_below (g := gb175) (o := .cells #[.slice A0_0 l0_0.length c0_0, .slice A0_1 l0_1.length c0_1, .slice A0_2 l0_2.length c0_2] 26 (0, 0)) u4_23 hb); have n1_ := Aside0.mk (below_step u4_25 hb); have n2_ := Aside0.mk (hbox); have n3_ := Aside0.mk ((by rw [hg]; exact (below_size u4_25) : w.heap.size ≤ gb176)); have n4_ := Aside0.mk ((by rw [hg]; exact (below_size u4_25) : w.heap.size ≤ gb176)); have n5_ := Aside0.mk ((by rw [hg]; exact Nat.ne_of_lt (blk_lt (g := gb175) (o := .cells #[.slice A0_0 l0_0.length c0_0, .slice A0_1 l0_1.length c0_1, .slice A0_2 l0_2.length c0_2] 26 (0, 0)) u4_23) : gb175 ≠ gb176)); have n6_ := Aside0.mk ((by rw [hg]; exact Nat.ne_of_gt (blk_lt (g := gb175) (o := .cells #[.slice A0_0 l0_0.length c0_0, .slice A0_1 l0_1.length c0_1, .slice A0_2 l0_2.length c0_2] 26 (0, 0)) u4_23) : gb176 ≠ gb175)); clear BK175; clear HB; have BK175 := n0_; have HB := n1_; have BK176 := n2_; have GW176 := n3_; have GE176 := n4_; have NB175_176 := n5_; have NB176_175 := n6_; clear n0_ n1_ n2_ n3_ n4_ n5_ n6_; clear hb hbox hg; have hnb7 := NB175_176.out; have hnc7 := NB176_175.out; have hcz8_0 : w6.cell? ⟨gb175, 0, none⟩ = some (.slice A0_0 l0_0.length c0_0) := (blk_cell BK175.out 0).trans rfl; have hcz8_1 : w6.cell? ⟨gb175, 1, none⟩ = some (.slice A0_1 l0_1.length c0_1) := (blk_cell BK175.out 1).trans rfl; have hcz8_2 : w6.cell? ⟨gb175, 2, none⟩ = some (.slice A0_2 l0_2.length c0_2) := (blk_cell BK175.out 2).trans rfl; have hfz8_0 := blk_frozen BK175.out 0; have hfz8_1 := blk_frozen BK175.out 1; have hfz8_2 := blk_frozen BK175.out 2) | ((with_reducible refine gate_callee (f := 49) rfl ?_); refine goesL_ (some 11) rfl rfl Try.func49 (by kernel_rfl) rfl #[.agg #[.slice A0_0 l0_0.length c0_0, .slice A0_1 l0_1.length c0_1, .slice A0_2 l0_2.length c0_2], .int .i64 a1, .bool a2] rfl u4_1 ?_; (with_reducible refine (impl_learner.calls k _ _ l0_0 _ _ l0_1 _ _ l0_2 a1 a2 t177 t180 t183 t186 _ ?side1 ?side2 ?side3 ?side4 ?side5 ?side6 A4.out).mono ?_); (case side1 => exact u4_15); (case side2 => exact HC0_0.out); (case side3 => exact u4_16); (case side4 => exact HC0_1.out); (case side5 => exact u4_17); (case side6 => exact HC0_2.out); rintro e w9 ⟨v178, v181, v184, rfl, ho0, ho1, ho2, hb⟩; refine ⟨_, rfl, ?_⟩; have n0_ := Aside0.mk (Kd.R_lower ho0 (below_size u4_8)); have n1_ := Aside0.mk (Kd.R_lower ho1 (below_size u4_8)); have n2_ := Aside0.mk (Kd.R_lower ho2 (below_size u4_8)); have n3_ := Aside0.mk (blk_below (g := gb175) (o := .cells #[.slice A0_0 l0_0.length c0_0, .slice A0_1 l0_1.length c0_1, .slice A0_2 l0_2.length c0_2] 26 (0, 0)) u4_23 hb); have n4_ := Aside0.mk (blk_below (g := gb176) (o := .cells #[.slice none 0 0, .slice none 0 0, .slice none 0 0] 26 (0, 0)) (by (with_reducible repeat (first | refine blk_drewN ?_ _ | refine blk_drew ?_ | refine blk_alloc ?_ _)); exact BK176.out) hb); have n5_ := Aside0.mk (below_step u4_8 hb); clear BK175; clear BK176; clear HB; have HO179 := n0_; have HO182 := n1_; have HO185 := n2_; have BK175 := n3_; have BK176 := n4_; have HB := n5_; clear n0_ n1_ n2_ n3_ n4_ n5_; (try clear hb); (try clear hb2); (try clear hk); (try clear hi); (try clear ho0); (try clear ho1); (try clear ho2); obtain ⟨Ao10, co10, eo10⟩ := Kd.R_slice HO179.out; subst eo10; have hcz11_0 : w9.cell? ⟨gb176, 0, none⟩ = some (.slice none 0 0) := (blk_cell BK176.out 0).trans rfl; have hcz11_1 : w9.cell? ⟨gb176, 1, none⟩ = some (.slice none 0 0) := (blk_cell BK176.out 1).trans rfl; have hcz11_2 : w9.cell? ⟨gb176, 2, none⟩ = some (.slice none 0 0) := (blk_cell BK176.out 2).trans rfl; have hfz11_0 := blk_frozen BK176.out 0; have hfz11_1 := blk_frozen BK176.out 1; have hfz11_2 := blk_frozen BK176.out 2; obtain ⟨Ao12, co12, eo12⟩ := Kd.R_slice HO182.out; subst eo12; obtain ⟨Ao13, co13, eo13⟩ := Kd.R_slice HO185.out; subst eo13))
  refine bodyPost_ret (results_ct rfl _ _ gb176 26 #[.slice Ao10 t177.length co10, .slice Ao12 t180.length co12, .slice Ao13 t183.length co13] (0, 0) _ rfl (by (with_reducible repeat (first | refine blk_drewN ?_ _ | refine blk_drew ?_ | refine blk_alloc ?_ _)); refine blk_put (cs := #[.slice Ao10 t177.length co10, .slice Ao12 t180.length co12, .slice none 0 0]) ?_ 2 _ rfl; (with_reducible repeat (first | refine blk_drewN ?_ _ | refine blk_drew ?_ | refine blk_alloc ?_ _)); refine blk_put (cs := #[.slice Ao10 t177.length co10, .slice none 0 0, .slice none 0 0]) ?_ 1 _ rfl; (with_reducible repeat (first | refine blk_drewN ?_ _ | refine blk_drew ?_ | refine blk_alloc ?_ _)); refine blk_put (cs := #[.slice none 0 0, .slice none 0 0, .slice none 0 0]) ?_ 0 _ rfl; (with_reducible repeat (first | refine blk_drewN ?_ _ | refine blk_drew ?_ | refine blk_alloc ?_ _)); exact BK176.out) Try.underlying26 rfl (by kernel_rfl)) rfl ?_
  exact ⟨_, _, _, by first | rfl | (simp [errW_none, errW_some] <;> rfl) | (simp [*, errW_none, errW_some] <;> rfl), (by (with_reducible repeat (first | apply Kd.R_alloc | apply Kd.R_drewN | apply Kd.R_drew)); exact Kd.R_mono (Kd.R_far (p := ⟨gb176, 2, none⟩) (Kd.R_far (p := ⟨gb176, 1, none⟩) (Kd.R_far (p := ⟨gb176, 0, none⟩) (Kd.R_types HO179.out BK176.out (by decide)) (fun _ hk => hk.2) (.slice Ao10 t177.length co10)) (fun _ hk => hk.2) (.slice Ao12 t180.length co12)) (fun _ hk => hk.2) (.slice Ao13 t183.length co13)) (fun _ hk => ⟨hk.1.1, hk.1.2⟩)), (by (with_reducible repeat (first | apply Kd.R_alloc | apply Kd.R_drewN | apply Kd.R_drew)); exact Kd.R_mono (Kd.R_far (p := ⟨gb176, 2, none⟩) (Kd.R_far (p := ⟨gb176, 1, none⟩) (Kd.R_far (p := ⟨gb176, 0, none⟩) (Kd.R_types HO182.out BK176.out (by decide)) (fun _ hk => hk.2) (.slice Ao10 t177.length co10)) (fun _ hk => hk.2) (.slice Ao12 t180.length co12)) (fun _ hk => hk.2) (.slice Ao13 t183.length co13)) (fun _ hk => ⟨hk.1.1, hk.1.2⟩)), (by (with_reducible repeat (first | apply Kd.R_alloc | apply Kd.R_drewN | apply Kd.R_drew)); exact Kd.R_mono (Kd.R_far (p := ⟨gb176, 2, none⟩) (Kd.R_far (p := ⟨gb176, 1, none⟩) (Kd.R_far (p := ⟨gb176, 0, none⟩) (Kd.R_types HO185.out BK176.out (by decide)) (fun _ hk => hk.2) (.slice Ao10 t177.length co10)) (fun _ hk => hk.2) (.slice Ao12 t180.length co12)) (fun _ hk => hk.2) (.slice Ao13 t183.length co13)) (fun _ hk => ⟨hk.1.1, hk.1.2⟩)), u4_8⟩

/-! ### laws_szIntS: function 52 -/
def laws_szIntS.f (l0 : List Int) (a1 : Int) : Option (Int) := if (wrap64 (a1 - (l0.length : Int))) < 0 then (some (-1)) else (some (wrap64 (a1 - (l0.length : Int))))
set_option maxHeartbeats 8000000 in
set_option maxRecDepth 100000 in
theorem laws_szIntS.calls (A0 : Option Addr) (c0 : Nat) (l0 : List Int) (a1 : Int) (r : Int) (w : World) (hr0 : Kd.C (Kd.int .i64) w A0 l0.length l0) (hc0 : l0.length ≤ c0) (h : laws_szIntS.f l0 a1 = some r) :
    Calls Try.prog 52 #[.slice A0 l0.length c0, .int .i64 a1] w fun e w' => e = .returned (.int .i64 r) ∧ Drawn0 w w' := by
  have HR0 := Aside0.mk hr0
  have HC0 := Aside0.mk hc0
  clear hr0 hc0
  have H : (if (wrap64 (a1 - (l0.length : Int))) < 0 then (some (-1)) else (some (wrap64 (a1 - (l0.length : Int))))) = some r := h
  clear h
  by_cases c3 : (wrap64 (a1 - (l0.length : Int))) < 0
  · rw [if_pos c3] at H
    have c3b0 : decide ((wrap64 (a1 - (l0.length : Int))) < 0) = true := decide_eq_true c3
    clear c3
    obtain rfl := Option.some.inj H
    go_enter Try.func52, Try.ntmps52
    go_wp2
    go_ret
    exact ⟨by first | rfl | (simp; done) | (simp [*]; done), u4_26⟩
  rw [if_neg c3] at H
  have c3b0 : decide ((wrap64 (a1 - (l0.length : Int))) < 0) = false := decide_eq_false c3
  clear c3
  obtain rfl := Option.some.inj H
  go_enter Try.func52, Try.ntmps52
  go_wp2
  go_ret
  exact ⟨by first | rfl | (simp; done) | (simp [*]; done), u4_26⟩

/-! ### laws_szConf: function 20 -/
def laws_szConf.f (l0_0 : List Int) (l0_1 : List Int) (l0_2 : List Int) (a1 : Int) : Option (Int) := (laws_szIntS.f l0_0 a1).bind fun t188 => (if t188 < 0 then (some (-1)) else ((laws_szIntS.f l0_1 t188).bind fun t189 => (if t189 < 0 then (some (-1)) else ((laws_szIntS.f l0_2 t189).bind fun t190 => (if t190 < 0 then (some (-1)) else (some t190))))))
set_option maxHeartbeats 8000000 in
set_option maxRecDepth 100000 in
theorem laws_szConf.calls (A0_0 : Option Addr) (c0_0 : Nat) (l0_0 : List Int) (A0_1 : Option Addr) (c0_1 : Nat) (l0_1 : List Int) (A0_2 : Option Addr) (c0_2 : Nat) (l0_2 : List Int) (a1 : Int) (r : Int) (w : World) (hr0_0 : Kd.C (Kd.int .i64) w A0_0 l0_0.length l0_0) (hc0_0 : l0_0.length ≤ c0_0) (hr0_1 : Kd.C (Kd.int .i64) w A0_1 l0_1.length l0_1) (hc0_1 : l0_1.length ≤ c0_1) (hr0_2 : Kd.C (Kd.int .i64) w A0_2 l0_2.length l0_2) (hc0_2 : l0_2.length ≤ c0_2) (h : laws_szConf.f l0_0 l0_1 l0_2 a1 = some r) :
    Calls Try.prog 20 #[.agg #[.slice A0_0 l0_0.length c0_0, .slice A0_1 l0_1.length c0_1, .slice A0_2 l0_2.length c0_2], .int .i64 a1] w fun e w' => e = .returned (.int .i64 r) ∧ Below w.heap.size w w' := by
  have hu39 := Try.underlying39
  have HR0_0 := Aside0.mk hr0_0
  have HC0_0 := Aside0.mk hc0_0
  clear hr0_0 hc0_0
  have HR0_1 := Aside0.mk hr0_1
  have HC0_1 := Aside0.mk hc0_1
  clear hr0_1 hc0_1
  have HR0_2 := Aside0.mk hr0_2
  have HC0_2 := Aside0.mk hc0_2
  clear hr0_2 hc0_2
  have HB := Aside0.mk (Below.refl w.heap.size w)
  have H : ((laws_szIntS.f l0_0 a1).bind fun t188 => (if t188 < 0 then (some (-1)) else ((laws_szIntS.f l0_1 t188).bind fun t189 => (if t189 < 0 then (some (-1)) else ((laws_szIntS.f l0_2 t189).bind fun t190 => (if t190 < 0 then (some (-1)) else (some t190))))))) = some r := h
  clear h
  replace H := Option.bind_eq_some_iff.mp H
  obtain ⟨t188, A30, H⟩ := H
  have A3 := Aside0.mk A30
  clear A30
  have H9 := Aside0.mk H
  clear H
  go_enter Try.func20, Try.ntmps20
  go_upto_if 10 with (first | ((with_reducible refine gate_dst (N := 2) rfl ?_); refine box_event ?hg (N := 2) ?hd (cs := #[.slice A0_0 l0_0.length c0_0, .slice A0_1 l0_1.length c0_1, .slice A0_2 l0_2.length c0_2]) (t := 39) ?hr ?_; (case hd => rfl); (case hg => rfl); (case hr => first | (go_simp; done) | (go_simp; rfl)); intro gb187 hg w4 hbox hb; have n0_ := Aside0.mk (below_step u4_5 hb); have n1_ := Aside0.mk (hbox); have n2_ := Aside0.mk ((by rw [hg]; exact (below_size u4_5) : w.heap.size ≤ gb187)); have n3_ := Aside0.mk ((by rw [hg]; exact (below_size u4_5) : w.heap.size ≤ gb187)); clear HB; have HB := n0_; have BK187 := n1_; have GW187 := n2_; have GE187 := n3_; clear n0_ n1_ n2_ n3_; clear hb hbox hg; have hcz5_0 : w4.cell? ⟨gb187, 0, none⟩ = some (.slice A0_0 l0_0.length c0_0) := (blk_cell BK187.out 0).trans rfl; have hcz5_1 : w4.cell? ⟨gb187, 1, none⟩ = some (.slice A0_1 l0_1.length c0_1) := (blk_cell BK187.out 1).trans rfl; have hcz5_2 : w4.cell? ⟨gb187, 2, none⟩ = some (.slice A0_2 l0_2.length c0_2) := (blk_cell BK187.out 2).trans rfl; have hfz5_0 := blk_frozen BK187.out 0; have hfz5_1 := blk_frozen BK187.out 1; have hfz5_2 := blk_frozen BK187.out 2) | ((with_reducible refine gate_callee (f := 52) rfl ?_); refine goesL_ (some 8) rfl rfl Try.func52 (by kernel_rfl) rfl #[.slice A0_0 l0_0.length c0_0, .int .i64 a1] rfl u4_1 ?_; (with_reducible refine (laws_szIntS.calls _ _ l0_0 a1 t188 _ ?side1 ?side2 A3.out).mono ?_); (case side1 => exact u4_15); (case side2 => exact HC0_0.out); rintro e w' ⟨rfl, ⟨nd, rfl⟩⟩; refine ⟨_, rfl, ?_⟩))
  have H := H9.out
  clear H9
  by_cases c6 : t188 < 0
  · rw [if_pos c6] at H
    have c6b0 : decide (t188 < 0) = true := decide_eq_true c6
    clear c6
    (first | rw [c6b0] | (simp only [i64_w, i32_w]; rw [c6b0]) | skip)
    obtain rfl := Option.some.inj H
    go_wp2
    go_ret
    exact ⟨by first | rfl | (simp [errW_none, errW_some] <;> rfl) | (simp [*, errW_none, errW_some] <;> rfl), u4_18⟩
  rw [if_neg c6] at H
  have c6b0 : decide (t188 < 0) = false := decide_eq_false c6
  clear c6
  (first | rw [c6b0] | (simp only [i64_w, i32_w]; rw [c6b0]) | skip)
  replace H := Option.bind_eq_some_iff.mp H
  obtain ⟨t189, A70, H⟩ := H
  have A7 := Aside0.mk A70
  clear A70
  have H9 := Aside0.mk H
  clear H
  have hcz8_0 : w4.cell? ⟨gb187, 0, none⟩ = some (.slice A0_0 l0_0.length c0_0) := (blk_cell BK187.out 0).trans rfl
  have hcz8_1 : w4.cell? ⟨gb187, 1, none⟩ = some (.slice A0_1 l0_1.length c0_1) := (blk_cell BK187.out 1).trans rfl
  have hcz8_2 : w4.cell? ⟨gb187, 2, none⟩ = some (.slice A0_2 l0_2.length c0_2) := (blk_cell BK187.out 2).trans rfl
  have hfz8_0 := blk_frozen BK187.out 0
  have hfz8_1 := blk_frozen BK187.out 1
  have hfz8_2 := blk_frozen BK187.out 2
  go_upto_if 16 with (first | ((with_reducible refine gate_callee (f := 52) rfl ?_); refine goesL_ (some 14) rfl rfl Try.func52 (by kernel_rfl) rfl #[.slice A0_1 l0_1.length c0_1, .int .i64 t188] rfl u4_1 ?_; (with_reducible refine (laws_szIntS.calls _ _ l0_1 t188 t189 _ ?side1 ?side2 A7.out).mono ?_); (case side1 => exact u4_16); (case side2 => exact HC0_1.out); rintro e w' ⟨rfl, ⟨nd, rfl⟩⟩; refine ⟨_, rfl, ?_⟩))
  have H := H9.out
  clear H9
  by_cases c9 : t189 < 0
  · rw [if_pos c9] at H
    have c9b0 : decide (t189 < 0) = true := decide_eq_true c9
    clear c9
    (first | rw [c9b0] | (simp only [i64_w, i32_w]; rw [c9b0]) | skip)
    obtain rfl := Option.some.inj H
    go_wp2
    go_ret
    exact ⟨by first | rfl | (simp [errW_none, errW_some] <;> rfl) | (simp [*, errW_none, errW_some] <;> rfl), u4_18⟩
  rw [if_neg c9] at H
  have c9b0 : decide (t189 < 0) = false := decide_eq_false c9
  clear c9
  (first | rw [c9b0] | (simp only [i64_w, i32_w]; rw [c9b0]) | skip)
  replace H := Option.bind_eq_some_iff.mp H
  obtain ⟨t190, A100, H⟩ := H
  replace H : (if t190 < 0 then (some (-1)) else (some t190)) = some r := H
  have A10 := Aside0.mk A100
  clear A100
  have H9 := Aside0.mk H
  clear H
  have hcz11_0 : w4.cell? ⟨gb187, 0, none⟩ = some (.slice A0_0 l0_0.length c0_0) := (blk_cell BK187.out 0).trans rfl
  have hcz11_1 : w4.cell? ⟨gb187, 1, none⟩ = some (.slice A0_1 l0_1.length c0_1) := (blk_cell BK187.out 1).trans rfl
  have hcz11_2 : w4.cell? ⟨gb187, 2, none⟩ = some (.slice A0_2 l0_2.length c0_2) := (blk_cell BK187.out 2).trans rfl
  have hfz11_0 := blk_frozen BK187.out 0
  have hfz11_1 := blk_frozen BK187.out 1
  have hfz11_2 := blk_frozen BK187.out 2
  go_upto_if 22 with (first | ((with_reducible refine gate_callee (f := 52) rfl ?_); refine goesL_ (some 20) rfl rfl Try.func52 (by kernel_rfl) rfl #[.slice A0_2 l0_2.length c0_2, .int .i64 t189] rfl u4_1 ?_; (with_reducible refine (laws_szIntS.calls _ _ l0_2 t189 t190 _ ?side1 ?side2 A10.out).mono ?_); (case side1 => exact u4_17); (case side2 => exact HC0_2.out); rintro e w' ⟨rfl, ⟨nd, rfl⟩⟩; refine ⟨_, rfl, ?_⟩))
  have H := H9.out
  clear H9
  by_cases c12 : t190 < 0
  · rw [if_pos c12] at H
    have c12b0 : decide (t190 < 0) = true := decide_eq_true c12
    clear c12
    (first | rw [c12b0] | (simp only [i64_w, i32_w]; rw [c12b0]) | skip)
    obtain rfl := Option.some.inj H
    go_wp2
    go_ret
    exact ⟨by first | rfl | (simp [errW_none, errW_some] <;> rfl) | (simp [*, errW_none, errW_some] <;> rfl), u4_18⟩
  rw [if_neg c12] at H
  have c12b0 : decide (t190 < 0) = false := decide_eq_false c12
  clear c12
  (first | rw [c12b0] | (simp only [i64_w, i32_w]; rw [c12b0]) | skip)
  obtain rfl := Option.some.inj H
  go_wp2
  go_ret
  exact ⟨by first | rfl | (simp [errW_none, errW_some] <;> rfl) | (simp [*, errW_none, errW_some] <;> rfl), u4_18⟩

/-! ### spec_l01Has: function 54 -/
def spec_l01Has.l0 : Nat → List Int → Int → Int → Option (Bool)
  | 0, _, _, _ => none
  | k + 1, x0, x1, x5 => if x5 < (x0.length : Int) then (if 0 ≤ x5 then (if (rd x0 x5) = x1 then (some true) else (spec_l01Has.l0 k x0 x1 (wrap64 (x5 + 1)))) else (none)) else (some false)
def spec_l01Has.f (k : Nat) (l0 : List Int) (a1 : Int) : Option (Bool) := spec_l01Has.l0 k l0 a1 0
theorem spec_l01Has.mono_l : ∀ k, (∀ y0 y1 y2, LeO (spec_l01Has.l0 k y0 y1 y2) (spec_l01Has.l0 (k + 1) y0 y1 y2))
  | 0 => fun _ _ _ r h => by simp [spec_l01Has.l0] at h
  | k + 1 => by
    have ih0 := spec_l01Has.mono_l k
    · intro y0 y1 y2
      unfold spec_l01Has.l0
      repeat' first
      | (with_reducible exact ih0 _ _ _)
      | (with_reducible exact LeO.refl _)
      | (with_reducible exact LeO.none _)
      | (with_reducible refine LeO.ite ?_ ?_)
      | (with_reducible refine LeO.bind ?_ (fun _ => ?_))
      | exact ih0 _ _ _
      | exact LeO.none _
      | refine LeO.ite ?_ ?_
      | refine LeO.bind ?_ (fun _ => ?_)
theorem spec_l01Has.mono : ∀ a0 a1 k, LeO (spec_l01Has.f k a0 a1) (spec_l01Has.f (k + 1) a0 a1) := by
  intro a0 a1 k
  have ih0 := spec_l01Has.mono_l k
  unfold spec_l01Has.f
  repeat' first
      | (with_reducible exact ih0 _ _ _)
      | (with_reducible exact LeO.refl _)
      | (with_reducible exact LeO.none _)
      | (with_reducible refine LeO.ite ?_ ?_)
      | (with_reducible refine LeO.bind ?_ (fun _ => ?_))
      | exact ih0 _ _ _
      | exact LeO.none _
      | refine LeO.ite ?_ ?_
      | refine LeO.bind ?_ (fun _ => ?_)
set_option maxHeartbeats 8000000 in
set_option maxRecDepth 100000 in
theorem spec_l01Has.calls (k : Nat) (A0 : Option Addr) (c0 : Nat) (l0 : List Int) (a1 : Int) (r : Bool) (w : World) (hr0 : Kd.C (Kd.int .i64) w A0 l0.length l0) (hc0 : l0.length ≤ c0) (h : spec_l01Has.f k l0 a1 = some r) :
    Calls Try.prog 54 #[.slice A0 l0.length c0, .int .i64 a1] w fun e w' => e = .returned (.bool r) ∧ Drawn0 w w' := by
  have HR0 := Aside0.mk hr0
  have HC0 := Aside0.mk hc0
  clear hr0 hc0
  have H : (spec_l01Has.l0 k l0 a1 0) = some r := h
  clear h
  have H' := Aside0.mk H
  clear H
  go_enter Try.func54, Try.ntmps54
  go_wp2
  go_loopg [5] k (fun kq v5 w' => ∃ (x5_1 : Int), v5 = .int .i64 x5_1 ∧ Aside0 (spec_l01Has.l0 kq l0 a1 x5_1 = some r) ∧ Aside0 (kq ≤ k) ∧ Drawn0 w w')
  case atStart => exact ⟨(0), u4_32, H', ⟨Nat.le_refl _⟩, u4_26⟩
  clear H'
  try clear p2
  obtain ⟨x5_1, rfl, HA, HK1, ⟨m1, rfl⟩⟩ := hrel
  cases gk with
  | zero => exact absurd HA.out (by simp [spec_l01Has.l0])
  | succ k1 =>
    have H := HA.out
    clear HA
    simp only [spec_l01Has.l0] at H
    by_cases c3 : x5_1 < (l0.length : Int)
    rotate_left
    · rw [if_neg c3] at H
      have c3b0 : decide (x5_1 < (l0.length : Int)) = false := decide_eq_false c3
      clear c3
      obtain rfl := Option.some.inj H
      go_wp2
      go_ret
      exact ⟨by first | rfl | (simp; done) | (simp [*]; done), u4_26⟩
    rw [if_pos c3] at H
    have c3b0 : decide (x5_1 < (l0.length : Int)) = true := decide_eq_true c3
    clear c3
    by_cases c4 : 0 ≤ x5_1
    rotate_left
    · rw [if_neg c4] at H
      exact absurd H (by simp)
    rw [if_pos c4] at H
    have c4b0 : decide (0 ≤ x5_1) = true := decide_eq_true c4
    clear c4
    have H9 := Aside0.mk H
    clear H
    have p191 : 0 ≤ (x5_1 : Int) := of_decide_eq_true (by first | (with_reducible assumption) | assumption)
    have q191 : x5_1 < (l0.length : Int) := of_decide_eq_true (by first | (with_reducible assumption) | assumption)
    obtain ⟨ad191, e191, hx191_0⟩ := Kd.at_int HR0.out x5_1 p191 q191
    cases e191
    replace p191 := eq_true p191
    replace q191 := eq_true q191
    go_upto_if 17 with (fail)
    have H := H9.out
    clear H9
    by_cases c5 : (rd l0 x5_1) = a1
    · rw [if_pos c5] at H
      have c5b0 : ((rd l0 x5_1) == a1) = true := beq_iff_eq.mpr c5
      have c5b1 : ((rd l0 x5_1) != a1) = false := bne_eq_false_iff_eq.mpr c5
      clear c5
      (first | rw [c5b0] | (simp only [i64_w, i32_w]; rw [c5b0]) | skip)
      obtain rfl := Option.some.inj H
      go_wp2
      go_ret
      exact ⟨by first | rfl | (simp; done) | (simp [*]; done), u4_26⟩
    rw [if_neg c5] at H
    have c5b0 : ((rd l0 x5_1) == a1) = false := beq_eq_false_iff_ne.mpr c5
    have c5b1 : ((rd l0 x5_1) != a1) = true := bne_iff_ne.mpr c5
    (first | rw [c5b0] | (simp only [i64_w, i32_w]; rw [c5b0]) | skip)
    have H' := Aside0.mk H
    clear H
    go_wp2
    go_roundg k1
    case measure => have := HK1.out; omega
    case rel => exact ⟨(wrap64 (x5_1 + 1)), u4_32, H', ⟨by have := HK1.out; omega⟩, u4_26⟩

end Go.Proofs.Ytoemdmjdpikfbaa.QFnExactLearner
