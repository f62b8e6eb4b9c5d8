-- Printed by the session's own program wip/prx.py.
import Derived.Test.YtoemdmjdpikfbaaSqFnConfs
import Derived.Test.YtoemdmjdpikfbaaQFnConfsx0
import Derived.Test.YtoemdmjdpikfbaaQFnConfsx8
import Derived.Test.YtoemdmjdpikfbaaQFnConfsx9
import Derived.Test.YtoemdmjdpikfbaaQFnConfsx11
import Derived.Test.YtoemdmjdpikfbaaQFnConfsx12
namespace Go.Proofs.Ytoemdmjdpikfbaa.QFnConfs
open Go.RowKit Go.Proofs.YtoemdmjdpikfbaaW.PrintWords Go.Proofs.YtoemdmjdpikfbaaW.PrintLast Go.Proofs.YtoemdmjdpikfbaaW.PrintMore Go.Proofs.Ytoemdmjdpikfbaa.SqFnConfs
attribute [local go_sem] max2_int min2_int max_two min_two max_three min_three max_four min_four Go.Proofs.Ytoemdmjdpikfbaa.Set.isSome_setCell
set_option linter.unusedVariables false
set_option linter.unusedSimpArgs false

-- squeezed
theorem u13_4 {P : Prop} (h : P := by (with_reducible repeat (first | refine blk_drewN ?_ _ | refine blk_drew ?_ | refine blk_alloc ?_ _)); exact BK552.out) : P := h
theorem u13_7 {P : Prop} (h : P := by (with_reducible repeat (first | refine blk_drewN ?_ _ | refine blk_drew ?_ | refine blk_alloc ?_ _)); exact BK553.out) : P := h
theorem u13_8 {P : Prop} (h : P := by (with_reducible repeat (first | refine blk_drewN ?_ _ | refine blk_drew ?_ | refine blk_alloc ?_ _)); exact BK598.out) : P := h
theorem u13_10 {P : Prop} (h : P := by (with_reducible repeat (first | apply Kd.R_alloc | apply Kd.R_drewN | apply Kd.R_drew)); exact HO_564000.out) : P := h
theorem u13_11 {P : Prop} (h : P := by (with_reducible repeat (first | apply Kd.R_alloc | apply Kd.R_drewN | apply Kd.R_drew)); exact HO_564001.out) : P := h
theorem u13_13 {P : Prop} (h : P := by (with_reducible repeat (first | refine blk_drewN ?_ _ | refine blk_drew ?_ | refine blk_alloc ?_ _)); refine blk_put (cs := #[.slice Ao13 t554.length co13, .slice Ao17 t557.length co17, .slice none 0 0]) ?_ 2 _ rfl; (with_reducible repeat (first | refine blk_drewN ?_ _ | refine blk_drew ?_ | refine blk_alloc ?_ _)); refine blk_put (cs := #[.slice Ao13 t554.length co13, .slice none 0 0, .slice none 0 0]) ?_ 1 _ rfl; (with_reducible repeat (first | refine blk_drewN ?_ _ | refine blk_drew ?_ | refine blk_alloc ?_ _)); refine blk_put (cs := #[.slice none 0 0, .slice none 0 0, .slice none 0 0]) ?_ 0 _ rfl; (with_reducible repeat (first | refine blk_drewN ?_ _ | refine blk_drew ?_ | refine blk_alloc ?_ _)); exact BK563.out) : P := h
theorem u13_14 {P : Prop} (h : P := by (with_reducible repeat (first | refine blk_drewN ?_ _ | refine blk_drew ?_ | refine blk_alloc ?_ _)); refine blk_put (cs := #[.slice Ao13 t554.length co13, .slice Ao17 t557.length co17, .slice none 0 0]) ?_ 2 _ rfl; (with_reducible repeat (first | refine blk_drewN ?_ _ | refine blk_drew ?_ | refine blk_alloc ?_ _)); refine blk_put (cs := #[.slice Ao13 t554.length co13, .slice none 0 0, .slice none 0 0]) ?_ 1 _ rfl; (with_reducible repeat (first | refine blk_drewN ?_ _ | refine blk_drew ?_ | refine blk_alloc ?_ _)); refine blk_put (cs := #[.slice none 0 0, .slice none 0 0, .slice none 0 0]) ?_ 0 _ rfl; (with_reducible repeat (first | refine blk_drewN ?_ _ | refine blk_drew ?_ | refine blk_alloc ?_ _)); exact BK553.out) : P := h
theorem u13_15 {P : Prop} (h : P := by (with_reducible repeat (first | refine blk_drewN ?_ _ | refine blk_drew ?_ | refine blk_alloc ?_ _)); exact BK563.out) : P := h
theorem u13_16 {P : Prop} (h : P := by (with_reducible repeat (first | apply Kd.R_alloc | apply Kd.R_drewN | apply Kd.R_drew)); exact HO_564002.out) : P := h
theorem u13_17 {P : Prop} (h : P := by (with_reducible repeat (first | refine blk_drewN ?_ _ | refine blk_drew ?_ | refine blk_alloc ?_ _)); refine blk_far ?_ NB552_563.out _; (with_reducible repeat (first | refine blk_drewN ?_ _ | refine blk_drew ?_ | refine blk_alloc ?_ _)); refine blk_far ?_ NB552_563.out _; (with_reducible repeat (first | refine blk_drewN ?_ _ | refine blk_drew ?_ | refine blk_alloc ?_ _)); refine blk_far ?_ NB552_563.out _; (with_reducible repeat (first | refine blk_drewN ?_ _ | refine blk_drew ?_ | refine blk_alloc ?_ _)); exact BK552.out) : P := h
theorem u13_18 {P : Prop} (h : P := by (with_reducible repeat (first | refine blk_drewN ?_ _ | refine blk_drew ?_ | refine blk_alloc ?_ _)); refine blk_far ?_ NB553_563.out _; (with_reducible repeat (first | refine blk_drewN ?_ _ | refine blk_drew ?_ | refine blk_alloc ?_ _)); refine blk_far ?_ NB553_563.out _; (with_reducible repeat (first | refine blk_drewN ?_ _ | refine blk_drew ?_ | refine blk_alloc ?_ _)); refine blk_far ?_ NB553_563.out _; (with_reducible repeat (first | refine blk_drewN ?_ _ | refine blk_drew ?_ | refine blk_alloc ?_ _)); exact BK553.out) : P := h
theorem u13_19 {P : Prop} (h : P := by (with_reducible repeat (first | apply Kd.R_alloc | apply Kd.R_drewN | apply Kd.R_drew)); exact (Kd.R_mono (Kd.R_far (p := ⟨gb563, 2, none⟩) (Kd.R_far (p := ⟨gb563, 1, none⟩) (Kd.R_far (p := ⟨gb563, 0, none⟩) (Kd.R_types HO556.out BK563.out (by decide)) (fun _ hk => hk.2) (.slice Ao13 t554.length co13)) (fun _ hk => hk.2) (.slice Ao17 t557.length co17)) (fun _ hk => hk.2) (.slice Ao18 t560.length co18)) (fun _ h_ => h_.1))) : P := h
theorem u13_20 {P : Prop} (h : P := by (with_reducible repeat (first | apply Kd.R_alloc | apply Kd.R_drewN | apply Kd.R_drew)); exact (Kd.R_mono (Kd.R_far (p := ⟨gb563, 2, none⟩) (Kd.R_far (p := ⟨gb563, 1, none⟩) (Kd.R_far (p := ⟨gb563, 0, none⟩) (Kd.R_types HO559.out BK563.out (by decide)) (fun _ hk => hk.2) (.slice Ao13 t554.length co13)) (fun _ hk => hk.2) (.slice Ao17 t557.length co17)) (fun _ hk => hk.2) (.slice Ao18 t560.length co18)) (fun _ h_ => h_.1))) : P := h
theorem u13_21 {P : Prop} (h : P := by (with_reducible repeat (first | apply Kd.R_alloc | apply Kd.R_drewN | apply Kd.R_drew)); exact (Kd.R_mono (Kd.R_far (p := ⟨gb563, 2, none⟩) (Kd.R_far (p := ⟨gb563, 1, none⟩) (Kd.R_far (p := ⟨gb563, 0, none⟩) (Kd.R_types HO562.out BK563.out (by decide)) (fun _ hk => hk.2) (.slice Ao13 t554.length co13)) (fun _ hk => hk.2) (.slice Ao17 t557.length co17)) (fun _ hk => hk.2) (.slice Ao18 t560.length co18)) (fun _ h_ => h_.1))) : P := h
theorem u13_24 {P : Prop} (h : P := by repeat (first | exact (Kd.C_below HR1_0.out HB.out) | (with_reducible refine Kd.C_alloc ?_ _) | (with_reducible refine Kd.C_drewN ?_ _) | (with_reducible refine Kd.C_drew ?_))) : P := h
theorem u13_25 {P : Prop} (h : P := by (with_reducible repeat (first | refine blk_drewN ?_ _ | refine blk_drew ?_ | refine blk_alloc ?_ _)); refine blk_put (cs := #[.slice Ao13 t554.length co13, .slice Ao17 t557.length co17, .slice Ao18 t560.length co18]) ?_ 2 _ rfl; (with_reducible repeat (first | refine blk_drewN ?_ _ | refine blk_drew ?_ | refine blk_alloc ?_ _)); exact BK563.out) : P := h
theorem u13_26 {P : Prop} (h : P := by (with_reducible repeat (first | refine blk_drewN ?_ _ | refine blk_drew ?_ | refine blk_alloc ?_ _)); exact BK586.out) : P := h
theorem u13_29 {P : Prop} (h : P := by (with_reducible repeat (first | refine blk_drewN ?_ _ | refine blk_drew ?_ | refine blk_alloc ?_ _)); refine blk_far ?_ NB552_563.out _; (with_reducible repeat (first | refine blk_drewN ?_ _ | refine blk_drew ?_ | refine blk_alloc ?_ _)); exact BK552.out) : P := h
theorem u13_30 {P : Prop} (h : P := by (with_reducible repeat (first | refine blk_drewN ?_ _ | refine blk_drew ?_ | refine blk_alloc ?_ _)); refine blk_far ?_ NB553_563.out _; (with_reducible repeat (first | refine blk_drewN ?_ _ | refine blk_drew ?_ | refine blk_alloc ?_ _)); exact BK553.out) : P := h
theorem u13_31 {P : Prop} (h : P := by (with_reducible repeat (first | apply Kd.R_alloc | apply Kd.R_drewN | apply Kd.R_drew)); exact HO556.out) : P := h
theorem u13_32 {P : Prop} (h : P := by (with_reducible repeat (first | apply Kd.R_alloc | apply Kd.R_drewN | apply Kd.R_drew)); exact HO559.out) : P := h
theorem u13_33 {P : Prop} (h : P := by (with_reducible repeat (first | apply Kd.R_alloc | apply Kd.R_drewN | apply Kd.R_drew)); exact HO562.out) : P := h
theorem u13_34 {P : Prop} (h : P := by repeat (first | exact (Kd.C_below HR0_1.out q0) | (with_reducible refine Kd.C_alloc ?_ _) | (with_reducible refine Kd.C_drewN ?_ _) | (with_reducible refine Kd.C_drew ?_))) : P := h
theorem u13_35 {P : Prop} (h : P := by repeat (first | exact (Kd.C_below HR1_1.out q0) | (with_reducible refine Kd.C_alloc ?_ _) | (with_reducible refine Kd.C_drewN ?_ _) | (with_reducible refine Kd.C_drew ?_))) : P := h
/-! ### impl_learner: function 49 -/
mutual
def impl_learner.j0 : Nat → Int → Bool → Int → Bool → List Int → List Int → List Int → List Int → List Int → List Int → Option (List Int × List Int × List Int × Bool)
 | 0, _, _, _, _, _, _, _, _, _, _ => none
 | k + 1, x1, x2, x9, x27, x553000, x553001, x553002, x564000, x564001, x564002 => if x27 = true then (some (x564000, x564001, x564002, false)) else (if x2 = true then ((slices_Insert_int_int.f x564002 x9 (([x1] : List Int))).bind fun t570 => (impl_learner.j1 k x553000 x553001 x553002 x564000 x564001 t570)) else ((slices_Delete_int_int.f x564002 x9 (wrap64 (x9 + 1))).bind fun t573 => (impl_learner.j1 k x553000 x553001 x553002 x564000 x564001 t573)))
def impl_learner.j1 : Nat → List Int → List Int → List Int → List Int → List Int → List Int → Option (List Int × List Int × List Int × Bool)
 | 0, _, _, _, _, _, _ => none
 | k + 1, x553000, x553001, x553002, x564000, x564001, x564002 => (impl_isConf.f k x564000 x564001 x564002).bind fun t576 => (if t576 = true then (some (x564000, x564001, x564002, true)) else ((impl_copyConf.f x553000 x553001 x553002).bind fun bt577 => (some (bt577.1, bt577.2.1, bt577.2.2, false))))
end
def impl_learner.f (k : Nat) (l0_0 : List Int) (l0_1 : List Int) (l0_2 : List Int) (a1 : Int) (a2 : Bool) : Option (List Int × List Int × List Int × Bool) := (impl_copyConf.f l0_0 l0_1 l0_2).bind fun bt554 => ((slices_BinarySearch_int_int.f k l0_2 a1).bind fun bt564 => ((impl_isConf.f k l0_0 l0_1 l0_2).bind fun t566 => (if t566 = true then (impl_learner.j0 k a1 a2 bt564.1 (bt564.2 == a2) l0_0 l0_1 l0_2 bt554.1 bt554.2.1 bt554.2.2) else (impl_learner.j0 k a1 a2 bt564.1 true l0_0 l0_1 l0_2 bt554.1 bt554.2.1 bt554.2.2))))
theorem impl_learner.mono_l : ∀ k, (∀ y0 y1 y2 y3 y4 y5 y6 y7 y8 y9, LeO (impl_learner.j0 k y0 y1 y2 y3 y4 y5 y6 y7 y8 y9) (impl_learner.j0 (k + 1) y0 y1 y2 y3 y4 y5 y6 y7 y8 y9)) ∧ (∀ y0 y1 y2 y3 y4 y5, LeO (impl_learner.j1 k y0 y1 y2 y3 y4 y5) (impl_learner.j1 (k + 1) y0 y1 y2 y3 y4 y5))
 | 0 => ⟨fun _ _ _ _ _ _ _ _ _ _ r h => by simp [impl_learner.j0] at h, fun _ _ _ _ _ _ r h => by simp [impl_learner.j1] at h⟩
 | k + 1 => by
   obtain ⟨ih0, ih1⟩ := impl_learner.mono_l k
   refine ⟨?_, ?_⟩ <;> intros <;> (first | unfold impl_learner.j0 | unfold impl_learner.j1) <;> repeat' first
   | (with_reducible exact ih0 _ _ _ _ _ _ _ _ _ _)
   | (with_reducible exact ih1 _ _ _ _ _ _)
   | (with_reducible exact impl_isConf.mono _ _ _ _)
   | (with_reducible exact slices_BinarySearch_int_int.mono _ _ _)
   | (with_reducible exact LeO.refl _)
   | (with_reducible exact LeO.none _)
   | (with_reducible refine LeO.ite ?_ ?_)
   | (with_reducible refine LeO.bind ?_ (fun _ => ?_))
   | exact ih0 _ _ _ _ _ _ _ _ _ _
   | exact ih1 _ _ _ _ _ _
   | exact impl_isConf.mono _ _ _ _
   | exact slices_BinarySearch_int_int.mono _ _ _
   | exact LeO.none _
   | refine LeO.ite ?_ ?_
   | refine LeO.bind ?_ (fun _ => ?_)
theorem impl_learner.mono : ∀ a0 a1 a2 a3 a4 k, LeO (impl_learner.f k a0 a1 a2 a3 a4) (impl_learner.f (k + 1) a0 a1 a2 a3 a4) := by
 intro a0 a1 a2 a3 a4 k
 obtain ⟨ih0, ih1⟩ := impl_learner.mono_l k
 unfold impl_learner.f
 repeat' first
     | (with_reducible exact ih0 _ _ _ _ _ _ _ _ _ _)
     | (with_reducible exact ih1 _ _ _ _ _ _)
     | (with_reducible exact impl_isConf.mono _ _ _ _)
     | (with_reducible exact slices_BinarySearch_int_int.mono _ _ _)
     | (with_reducible exact LeO.refl _)
     | (with_reducible exact LeO.none _)
     | (with_reducible refine LeO.ite ?_ ?_)
     | (with_reducible refine LeO.bind ?_ (fun _ => ?_))
     | exact ih0 _ _ _ _ _ _ _ _ _ _
     | exact ih1 _ _ _ _ _ _
     | exact impl_isConf.mono _ _ _ _
     | exact slices_BinarySearch_int_int.mono _ _ _
     | exact LeO.none _
     | refine LeO.ite ?_ ?_
     | refine LeO.bind ?_ (fun _ => ?_)
set_option maxHeartbeats 8000000 in
set_option maxRecDepth 100000 in
theorem impl_learner.calls (k : Nat) (A0_0 : Option Addr) (c0_0 : Nat) (l0_0 : List Int) (A0_1 : Option Addr) (c0_1 : Nat) (l0_1 : List Int) (A0_2 : Option Addr) (c0_2 : Nat) (l0_2 : List Int) (a1 : Int) (a2 : Bool) (r1 : List Int) (r2 : List Int) (r3 : List Int) (r4 : Bool) (w : World) (hr0_0 : Kd.C (Kd.int .i64) w A0_0 l0_0.length l0_0) (hc0_0 : l0_0.length ≤ c0_0) (hr0_1 : Kd.C (Kd.int .i64) w A0_1 l0_1.length l0_1) (hc0_1 : l0_1.length ≤ c0_1) (hr0_2 : Kd.C (Kd.int .i64) w A0_2 l0_2.length l0_2) (hc0_2 : l0_2.length ≤ c0_2) (h : impl_learner.f k l0_0 l0_1 l0_2 a1 a2 = some (r1, r2, r3, r4)) :
   Calls Try.prog 49 #[.agg #[.slice A0_0 l0_0.length c0_0, .slice A0_1 l0_1.length c0_1, .slice A0_2 l0_2.length c0_2], .int .i64 a1, .bool a2] w fun e w' => ∃ v0_ v1_ v2_ : Value, e = .returned (.tuple #[.agg #[v0_, v1_, v2_], .bool r4]) ∧ Kd.R (Kd.int .i64) 3 w' w.heap.size (fun k_ => some k_ ≠ (v1_ : Value).ownBlock ∧ some k_ ≠ (v2_ : Value).ownBlock) v0_ r1 ∧ Kd.R (Kd.int .i64) 3 w' w.heap.size (fun k_ => some k_ ≠ (v0_ : Value).ownBlock ∧ some k_ ≠ (v2_ : Value).ownBlock) v1_ r2 ∧ Kd.R (Kd.int .i64) 3 w' w.heap.size (fun k_ => some k_ ≠ (v0_ : Value).ownBlock ∧ some k_ ≠ (v1_ : Value).ownBlock) v2_ r3 ∧ Below w.heap.size w w' := by
 have hu26 := Try.underlying26
 have HR0_0 := am hr0_0
 have HC0_0 := am hc0_0
 clear hr0_0 hc0_0
 have HR0_1 := am hr0_1
 have HC0_1 := am hc0_1
 clear hr0_1 hc0_1
 have HR0_2 := am hr0_2
 have HC0_2 := am hc0_2
 clear hr0_2 hc0_2
 have HB := am (Below.refl w.heap.size w)
 have H : ((impl_copyConf.f l0_0 l0_1 l0_2).bind fun bt554 => ((slices_BinarySearch_int_int.f k l0_2 a1).bind fun bt564 => ((impl_isConf.f k l0_0 l0_1 l0_2).bind fun t566 => (if t566 = true then (impl_learner.j0 k a1 a2 bt564.1 (bt564.2 == a2) l0_0 l0_1 l0_2 bt554.1 bt554.2.1 bt554.2.2) else (impl_learner.j0 k a1 a2 bt564.1 true l0_0 l0_1 l0_2 bt554.1 bt554.2.1 bt554.2.2))))) = some (r1, r2, r3, r4) := h
 clear h
 replace H := Option.bind_eq_some_iff.mp H
 obtain ⟨⟨t554, t557, t560⟩, A40, H⟩ := H
 (try dsimp only at H)
 have A4 := am A40
 clear A40
 replace H := Option.bind_eq_some_iff.mp H
 obtain ⟨⟨t564, t565⟩, A50, H⟩ := H
 (try dsimp only at H)
 have A5 := am A50
 clear A50
 have HC6 := am H
 clear H
 go_enter Try.func49, Try.ntmps49
 go_upto_region 3 with (first | ((with_reducible refine gate_dst (N := 3) rfl ?_); refine box_event ?hg (N := 3) ?hd (cs := #[.slice A0_0 l0_0.length c0_0, .slice A0_1 l0_1.length c0_1, .slice A0_2 l0_2.length c0_2]) (t := 26) ?hr ?_; (case hd => rfl); (case hg => rfl); (case hr => first | (go_simp; done) | (go_simp; rfl)); intro gb552 hg w7 hbox hb; have BK552 := am (hbox); have GW552 := am ((by rw [hg]; exact (below_size q0) : w.heap.size ≤ gb552)); have GE552 := am ((by rw [hg]; exact (below_size q0) : w.heap.size ≤ gb552)); replace HB := am (below_step q0 hb); clear hb hbox hg) | ((with_reducible refine gate_dst (N := 6) rfl ?_); refine box_event ?hg (N := 6) ?hd (cs := #[.slice none 0 0, .slice none 0 0, .slice none 0 0]) (t := 26) ?hr ?_; (case hd => rfl); (case hg => rfl); (case hr => first | (go_simp; done) | (go_simp; rfl)); intro gb553 hg w8 hbox hb; have BK553 := am (hbox); have GW553 := am ((by rw [hg]; exact (below_size q0) : w.heap.size ≤ gb553)); have GE553 := am ((by rw [hg]; exact (below_size q0) : w.heap.size ≤ gb553)); replace HB := am (below_step q0 hb); have NB552_553 := am ((by rw [hg]; exact Nat.ne_of_lt (blk_lt (g := gb552) (o := .cells #[.slice A0_0 l0_0.length c0_0, .slice A0_1 l0_1.length c0_1, .slice A0_2 l0_2.length c0_2] 26 (0, 0)) u13_4) : gb552 ≠ gb553)); have NB553_552 := am ((by rw [hg]; exact Nat.ne_of_gt (blk_lt (g := gb552) (o := .cells #[.slice A0_0 l0_0.length c0_0, .slice A0_1 l0_1.length c0_1, .slice A0_2 l0_2.length c0_2] 26 (0, 0)) u13_4) : gb553 ≠ gb552)); replace BK552 := am (blk_below (g := gb552) (o := .cells #[.slice A0_0 l0_0.length c0_0, .slice A0_1 l0_1.length c0_1, .slice A0_2 l0_2.length c0_2] 26 (0, 0)) u13_4 hb); clear hb hbox hg; have hnb9 := NB552_553.out; have hnc9 := NB553_552.out; obtain ⟨hcz10_0, hcz10_1, hcz10_2, hfz10_0, hfz10_1, hfz10_2⟩ := bc3f w8 BK552.out) | ((with_reducible refine gate_callee (f := 63) rfl ?_); refine goesL_ (some 12) rfl rfl Try.func63 kr rfl #[.agg #[.slice A0_0 l0_0.length c0_0, .slice A0_1 l0_1.length c0_1, .slice A0_2 l0_2.length c0_2]] rfl q1 ?_; (with_reducible refine (impl_copyConf.calls _ _ l0_0 _ _ l0_1 _ _ l0_2 t554 t557 t560 _ ?side1 ?side2 ?side3 ?side4 ?side5 ?side6 A4.out).mono ?_); (case side1 => exact q6); (case side2 => exact HC0_0.out); (case side3 => exact q9); (case side4 => exact HC0_1.out); (case side5 => exact q8); (case side6 => exact HC0_2.out); rintro e w11 ⟨v555, v558, v561, rfl, ho0, ho1, ho2, hb⟩; refine ⟨_, rfl, ?_⟩; have HO556 := am (Kd.R_lower ho0 (below_size q0)); have HO559 := am (Kd.R_lower ho1 (below_size q0)); have HO562 := am (Kd.R_lower ho2 (below_size q0)); replace BK552 := am (blk_below (g := gb552) (o := .cells #[.slice A0_0 l0_0.length c0_0, .slice A0_1 l0_1.length c0_1, .slice A0_2 l0_2.length c0_2] 26 (0, 0)) u13_4 hb); replace BK553 := am (blk_below (g := gb553) (o := .cells #[.slice none 0 0, .slice none 0 0, .slice none 0 0] 26 (0, 0)) u13_7 hb); replace HB := am (below_step q0 hb); (try clear hb); (try clear hb2); (try clear hk); (try clear hi); (try clear ho0); (try clear ho1); (try clear ho2)) | ((with_reducible refine gate_dst (N := 8) rfl ?_); refine box_event ?hg (N := 8) ?hd (cs := #[.slice none 0 0, .slice none 0 0, .slice none 0 0]) (t := 26) ?hr ?_; (case hd => rfl); (case hg => rfl); (case hr => first | (go_simp; done) | (go_simp; rfl)); intro gb563 hg w12 hbox hb; replace HO556 := am (Kd.R_below u13_31 hb); replace HO559 := am (Kd.R_below u13_32 hb); replace HO562 := am (Kd.R_below u13_33 hb); have BK563 := am (hbox); have GW563 := am ((by rw [hg]; exact (below_size q0) : w.heap.size ≤ gb563)); have GE563 := am ((by rw [hg]; exact (below_size q0) : w.heap.size ≤ gb563)); replace HB := am (below_step q0 hb); have NB552_563 := am ((by rw [hg]; exact Nat.ne_of_lt (blk_lt (g := gb552) (o := .cells #[.slice A0_0 l0_0.length c0_0, .slice A0_1 l0_1.length c0_1, .slice A0_2 l0_2.length c0_2] 26 (0, 0)) u13_4) : gb552 ≠ gb563)); have NB563_552 := am ((by rw [hg]; exact Nat.ne_of_gt (blk_lt (g := gb552) (o := .cells #[.slice A0_0 l0_0.length c0_0, .slice A0_1 l0_1.length c0_1, .slice A0_2 l0_2.length c0_2] 26 (0, 0)) u13_4) : gb563 ≠ gb552)); replace BK552 := am (blk_below (g := gb552) (o := .cells #[.slice A0_0 l0_0.length c0_0, .slice A0_1 l0_1.length c0_1, .slice A0_2 l0_2.length c0_2] 26 (0, 0)) u13_4 hb); have NB553_563 := am ((by rw [hg]; exact Nat.ne_of_lt (blk_lt (g := gb553) (o := .cells #[.slice none 0 0, .slice none 0 0, .slice none 0 0] 26 (0, 0)) u13_7) : gb553 ≠ gb563)); have NB563_553 := am ((by rw [hg]; exact Nat.ne_of_gt (blk_lt (g := gb553) (o := .cells #[.slice none 0 0, .slice none 0 0, .slice none 0 0] 26 (0, 0)) u13_7) : gb563 ≠ gb553)); replace BK553 := am (blk_below (g := gb553) (o := .cells #[.slice none 0 0, .slice none 0 0, .slice none 0 0] 26 (0, 0)) u13_7 hb); clear hb hbox hg; obtain ⟨Ao13, co13, eo13⟩ := Kd.R_slice HO556.out; subst eo13; have hnb14 := NB563_552.out; have hnc14 := NB552_563.out; have hnb15 := NB563_553.out; have hnc15 := NB553_563.out; obtain ⟨hcz16_0, hcz16_1, hcz16_2, hfz16_0, hfz16_1, hfz16_2⟩ := bc3f w12 BK563.out; obtain ⟨Ao17, co17, eo17⟩ := Kd.R_slice HO559.out; subst eo17; obtain ⟨Ao18, co18, eo18⟩ := Kd.R_slice HO562.out; subst eo18; obtain ⟨hcz19_0, hcz19_1, hcz19_2, hfz19_0, hfz19_1, hfz19_2⟩ := bc3f w12 BK552.out) | ((with_reducible refine gate_callee (f := 76) rfl ?_); refine goesL_ (some 17) rfl rfl Try.func76 kr rfl #[.slice A0_2 l0_2.length c0_2, .int .i64 a1] rfl q1 ?_; (with_reducible refine (slices_BinarySearch_int_int.calls k _ _ l0_2 a1 t564 t565 _ ?side1 ?side2 A5.out).mono ?_); (case side1 => exact (by exact Kd.C_below HR0_2.out q0)); (case side2 => exact HC0_2.out); rintro e w' ⟨rfl, ⟨nd, rfl⟩⟩; refine ⟨_, rfl, ?_⟩))
 (try simp only [Act.put, la, lb, lc])
 go_cut [27] (fun v27 wc => ∃ (kq : Nat) (x27_5 : Bool), v27 = .bool x27_5 ∧ Aside0 (impl_learner.j0 kq a1 a2 t564 x27_5 l0_0 l0_1 l0_2 t554 t557 t560 = some (r1, r2, r3, r4)) ∧ Aside0 (kq ≤ k) ∧ Aside0 (Kd.R (Kd.int .i64) 3 wc w.heap.size (fun k_ => some k_ ≠ ((.slice Ao17 t557.length co17) : Value).ownBlock ∧ some k_ ≠ ((.slice Ao18 t560.length co18) : Value).ownBlock) (.slice Ao13 t554.length co13) t554) ∧ Aside0 (Kd.R (Kd.int .i64) 3 wc w.heap.size (fun k_ => some k_ ≠ ((.slice Ao13 t554.length co13) : Value).ownBlock ∧ some k_ ≠ ((.slice Ao18 t560.length co18) : Value).ownBlock) (.slice Ao17 t557.length co17) t557) ∧ Aside0 (Kd.R (Kd.int .i64) 3 wc w.heap.size (fun k_ => some k_ ≠ ((.slice Ao13 t554.length co13) : Value).ownBlock ∧ some k_ ≠ ((.slice Ao17 t557.length co17) : Value).ownBlock) (.slice Ao18 t560.length co18) t560) ∧ Aside0 (wc.heap[gb552]? = some (.cells #[(.slice A0_0 l0_0.length c0_0), (.slice A0_1 l0_1.length c0_1), (.slice A0_2 l0_2.length c0_2)] 26 (0, 0))) ∧ Aside0 (wc.heap[gb553]? = some (.cells #[(.slice none 0 0), (.slice none 0 0), (.slice none 0 0)] 26 (0, 0))) ∧ Aside0 (wc.heap[gb563]? = some (.cells #[(.slice Ao13 t554.length co13), (.slice Ao17 t557.length co17), (.slice Ao18 t560.length co18)] 26 (0, 0))) ∧ Aside0 (Below w.heap.size w wc))
 case first =>
   have H := HC6.out
   clear HC6
   replace H := Option.bind_eq_some_iff.mp H
   obtain ⟨t566, A200, H⟩ := H
   have A20 := am A200
   clear A200
   by_cases c21 : t566 = true
   · subst c21
     rw [if_pos rfl] at H
     have H' := am H
     clear H
     have hnb22 := NB552_553.out
     have hnc22 := NB553_552.out
     have hnb23 := NB552_563.out
     have hnc23 := NB563_552.out
     obtain ⟨hcz24_0, hcz24_1, hcz24_2, hfz24_0, hfz24_1, hfz24_2⟩ := bc3f w12 BK552.out
     go_wp2_with (first | ((with_reducible refine gate_callee (f := 48) rfl ?_); refine goesL_ (some 21) rfl rfl Try.func48 kr rfl #[.agg #[.slice A0_0 l0_0.length c0_0, .slice A0_1 l0_1.length c0_1, .slice A0_2 l0_2.length c0_2]] rfl q1 ?_; (with_reducible refine (impl_isConf.calls k _ _ l0_0 _ _ l0_1 _ _ l0_2 true _ ?side1 ?side2 ?side3 ?side4 ?side5 ?side6 A20.out).mono ?_); (case side1 => exact (by exact Kd.C_below HR0_0.out q0)); (case side2 => exact HC0_0.out); (case side3 => exact (by exact Kd.C_below HR0_1.out q0)); (case side4 => exact HC0_1.out); (case side5 => exact (by exact Kd.C_below HR0_2.out q0)); (case side6 => exact HC0_2.out); rintro e w25 ⟨rfl, hb⟩; refine ⟨_, rfl, ?_⟩; replace HO556 := am (Kd.R_below u13_19 hb); replace HO559 := am (Kd.R_below u13_20 hb); replace HO562 := am (Kd.R_below u13_21 hb); replace BK552 := am (blk_below (g := gb552) (o := .cells #[.slice A0_0 l0_0.length c0_0, .slice A0_1 l0_1.length c0_1, .slice A0_2 l0_2.length c0_2] 26 (0, 0)) u13_17 hb); replace BK553 := am (blk_below (g := gb553) (o := .cells #[.slice none 0 0, .slice none 0 0, .slice none 0 0] 26 (0, 0)) u13_18 hb); replace BK563 := am (blk_below (g := gb563) (o := .cells #[.slice Ao13 t554.length co13, .slice Ao17 t557.length co17, .slice Ao18 t560.length co18] 26 (0, 0)) u13_13 hb); replace HB := am (below_step q0 hb); (try clear hb); (try clear hb2); (try clear hk); (try clear hi)))
     go_meet
     case rel => exact ⟨_, ((t565 == a2)), (by first | rfl | (simp; done) | (simp [*]; done)), H', ⟨by first | omega | exact Nat.le_refl _⟩, ⟨u13_31⟩, ⟨u13_32⟩, ⟨u13_33⟩, ⟨u13_4⟩, ⟨u13_7⟩, ⟨u13_15⟩, ⟨q0⟩⟩
   replace c21 := Bool.eq_false_iff.mpr c21
   subst c21
   rw [nf] at H
   have H' := am H
   clear H
   have hnb26 := NB552_553.out
   have hnc26 := NB553_552.out
   have hnb27 := NB552_563.out
   have hnc27 := NB563_552.out
   obtain ⟨hcz28_0, hcz28_1, hcz28_2, hfz28_0, hfz28_1, hfz28_2⟩ := bc3f w12 BK552.out
   go_wp2_with (first | ((with_reducible refine gate_callee (f := 48) rfl ?_); refine goesL_ (some 21) rfl rfl Try.func48 kr rfl #[.agg #[.slice A0_0 l0_0.length c0_0, .slice A0_1 l0_1.length c0_1, .slice A0_2 l0_2.length c0_2]] rfl q1 ?_; (with_reducible refine (impl_isConf.calls k _ _ l0_0 _ _ l0_1 _ _ l0_2 false _ ?side1 ?side2 ?side3 ?side4 ?side5 ?side6 A20.out).mono ?_); (case side1 => exact (by exact Kd.C_below HR0_0.out q0)); (case side2 => exact HC0_0.out); (case side3 => exact (by exact Kd.C_below HR0_1.out q0)); (case side4 => exact HC0_1.out); (case side5 => exact (by exact Kd.C_below HR0_2.out q0)); (case side6 => exact HC0_2.out); rintro e w29 ⟨rfl, hb⟩; refine ⟨_, rfl, ?_⟩; replace HO556 := am (Kd.R_below u13_19 hb); replace HO559 := am (Kd.R_below u13_20 hb); replace HO562 := am (Kd.R_below u13_21 hb); replace BK552 := am (blk_below (g := gb552) (o := .cells #[.slice A0_0 l0_0.length c0_0, .slice A0_1 l0_1.length c0_1, .slice A0_2 l0_2.length c0_2] 26 (0, 0)) u13_17 hb); replace BK553 := am (blk_below (g := gb553) (o := .cells #[.slice none 0 0, .slice none 0 0, .slice none 0 0] 26 (0, 0)) u13_18 hb); replace BK563 := am (blk_below (g := gb563) (o := .cells #[.slice Ao13 t554.length co13, .slice Ao17 t557.length co17, .slice Ao18 t560.length co18] 26 (0, 0)) u13_13 hb); replace HB := am (below_step q0 hb); (try clear hb); (try clear hb2); (try clear hk); (try clear hi)))
   go_meet
   case rel => exact ⟨_, (true), (by first | rfl | (simp; done) | (simp [*]; done)), H', ⟨by first | omega | exact Nat.le_refl _⟩, ⟨u13_31⟩, ⟨u13_32⟩, ⟨u13_33⟩, ⟨u13_4⟩, ⟨u13_7⟩, ⟨u13_15⟩, ⟨q0⟩⟩
 clear HC6
 try clear hcz10_0
 try clear hcz10_1
 try clear hcz10_2
 try clear hcz16_0
 try clear hcz16_1
 try clear hcz16_2
 try clear hcz19_0
 try clear hcz19_1
 try clear hcz19_2
 try clear hfz10_0
 try clear hfz10_1
 try clear hfz10_2
 try clear hfz16_0
 try clear hfz16_1
 try clear hfz16_2
 try clear hfz19_0
 try clear hfz19_1
 try clear hfz19_2
 obtain ⟨kq, x27_5, rfl, HA, HJ5, HO_564000, HO_564001, HO_564002, BK552, BK553, BK563, HB⟩ := hcut
 cases kq with
 | zero => exact absurd HA.out (by simp [impl_learner.j0])
 | succ kj5 =>
   have H := HA.out
   clear HA
   simp only [impl_learner.j0] at H
   by_cases c30 : x27_5 = true
   · subst c30
     rw [if_pos rfl] at H
     simp only [Option.some.injEq, Prod.mk.injEq] at H
     obtain ⟨rfl, rfl, rfl, rfl⟩ := H
     have hnb31 := NB563_552.out
     have hnc31 := NB552_563.out
     have hnb32 := NB563_553.out
     have hnc32 := NB553_563.out
     obtain ⟨hcz33_0, hcz33_1, hcz33_2, hfz33_0, hfz33_1, hfz33_2⟩ := bc3f wc BK563.out
     have hnb34 := NB553_552.out
     have hnc34 := NB552_553.out
     obtain ⟨hcz35_0, hcz35_1, hcz35_2, hfz35_0, hfz35_1, hfz35_2⟩ := bc3f wc BK553.out
     go_wp2
     refine bodyPost_ret (results_ct rfl _ _ gb553 26 #[.slice Ao13 t554.length co13, .slice Ao17 t557.length co17, .slice Ao18 t560.length co18] (0, 0) _ rfl u13_14 Try.underlying26 rfl kr) rfl ?_
     exact ⟨_, _, _, er, (by (with_reducible repeat (first | apply Kd.R_alloc | apply Kd.R_drewN | apply Kd.R_drew)); exact Kd.R_mono (Kd.R_far (p := ⟨gb553, 2, none⟩) (Kd.R_far (p := ⟨gb553, 1, none⟩) (Kd.R_far (p := ⟨gb553, 0, none⟩) (Kd.R_types HO_564000.out BK553.out (by decide)) (fun _ hk => hk.2) (.slice Ao13 t554.length co13)) (fun _ hk => hk.2) (.slice Ao17 t557.length co17)) (fun _ hk => hk.2) (.slice Ao18 t560.length co18)) (fun _ hk => ⟨hk.1.1, hk.1.2⟩)), (by (with_reducible repeat (first | apply Kd.R_alloc | apply Kd.R_drewN | apply Kd.R_drew)); exact Kd.R_mono (Kd.R_far (p := ⟨gb553, 2, none⟩) (Kd.R_far (p := ⟨gb553, 1, none⟩) (Kd.R_far (p := ⟨gb553, 0, none⟩) (Kd.R_types HO_564001.out BK553.out (by decide)) (fun _ hk => hk.2) (.slice Ao13 t554.length co13)) (fun _ hk => hk.2) (.slice Ao17 t557.length co17)) (fun _ hk => hk.2) (.slice Ao18 t560.length co18)) (fun _ hk => ⟨hk.1.1, hk.1.2⟩)), (by (with_reducible repeat (first | apply Kd.R_alloc | apply Kd.R_drewN | apply Kd.R_drew)); exact Kd.R_mono (Kd.R_far (p := ⟨gb553, 2, none⟩) (Kd.R_far (p := ⟨gb553, 1, none⟩) (Kd.R_far (p := ⟨gb553, 0, none⟩) (Kd.R_types HO_564002.out BK553.out (by decide)) (fun _ hk => hk.2) (.slice Ao13 t554.length co13)) (fun _ hk => hk.2) (.slice Ao17 t557.length co17)) (fun _ hk => hk.2) (.slice Ao18 t560.length co18)) (fun _ hk => ⟨hk.1.1, hk.1.2⟩)), q0⟩
   replace c30 := Bool.eq_false_iff.mpr c30
   subst c30
   rw [nf] at H
   have HC36 := am H
   clear H
   go_upto_if 29 with (fail)
   go_cut [] (fun wc => ∃ (kq : Nat) (x564002_35 : List Int) (u564002 : Value), Aside0 (impl_learner.j1 kq l0_0 l0_1 l0_2 t554 t557 x564002_35 = some (r1, r2, r3, r4)) ∧ Aside0 (kq ≤ kj5) ∧ Aside0 (Kd.R (Kd.int .i64) 3 wc w.heap.size (fun k_ => some k_ ≠ ((.slice Ao17 t557.length co17) : Value).ownBlock ∧ some k_ ≠ (u564002 : Value).ownBlock) (.slice Ao13 t554.length co13) t554) ∧ Aside0 (Kd.R (Kd.int .i64) 3 wc w.heap.size (fun k_ => some k_ ≠ ((.slice Ao13 t554.length co13) : Value).ownBlock ∧ some k_ ≠ (u564002 : Value).ownBlock) (.slice Ao17 t557.length co17) t557) ∧ Aside0 (Kd.R (Kd.int .i64) 3 wc w.heap.size (fun k_ => some k_ ≠ ((.slice Ao13 t554.length co13) : Value).ownBlock ∧ some k_ ≠ ((.slice Ao17 t557.length co17) : Value).ownBlock) u564002 x564002_35) ∧ Aside0 (wc.heap[gb552]? = some (.cells #[(.slice A0_0 l0_0.length c0_0), (.slice A0_1 l0_1.length c0_1), (.slice A0_2 l0_2.length c0_2)] 26 (0, 0))) ∧ Aside0 (wc.heap[gb553]? = some (.cells #[(.slice none 0 0), (.slice none 0 0), (.slice none 0 0)] 26 (0, 0))) ∧ Aside0 (wc.heap[gb563]? = some (.cells #[(.slice Ao13 t554.length co13), (.slice Ao17 t557.length co17), u564002] 26 (0, 0))) ∧ Aside0 (Below w.heap.size w wc))
   case first =>
     have H := HC36.out
     clear HC36
     by_cases c37 : a2 = true
     rotate_left
     · replace c37 := Bool.eq_false_iff.mpr c37
       subst c37
       rw [nf] at H
       replace H := Option.bind_eq_some_iff.mp H
       obtain ⟨t573, A480, H⟩ := H
       replace H : (impl_learner.j1 kj5 l0_0 l0_1 l0_2 t554 t557 t573) = some (r1, r2, r3, r4) := H
       have A48 := am A480
       clear A480
       have H' := am H
       clear H
       have hnb49 := NB563_552.out
       have hnc49 := NB552_563.out
       have hnb50 := NB563_553.out
       have hnc50 := NB553_563.out
       obtain ⟨hcz51_0, hcz51_1, hcz51_2, hfz51_0, hfz51_1, hfz51_2⟩ := bc3f wc BK563.out
       go_wp2_with (first | ((with_reducible refine gate_callee (f := 78) rfl ?_); refine goesL_ (some 42) rfl rfl Try.func78 kr rfl #[.slice Ao18 t560.length co18, .int .i64 t564, .int .i64 (wrap64 (t564 + 1))] rfl q1 ?_; (with_reducible refine (slices_Delete_int_int.calls (fun k_ => some k_ = (.slice Ao18 t560.length co18 : Value).ownBlock) (.slice Ao18 t560.length co18) t560 t564 (wrap64 (t564 + 1)) t573 w _ ?side1 ?side2 A48.out).mono ?_); (case side1 => exact q0); (case side2 => exact Kd.R_tight rfl HO_564002.out); rintro e w52 ⟨v574, rfl, ho0, hb, hkp⟩; refine ⟨_, rfl, ?_⟩; replace BK552 := am (blk_kept u13_4 hkp (fun hs_ => (fun e_ => (Kd.R_ne HO_564002.out BK552.out (by decide)) e_) hs_)); replace BK553 := am (blk_kept u13_7 hkp (fun hs_ => (fun e_ => (Kd.R_ne HO_564002.out BK553.out (by decide)) e_) hs_)); replace BK563 := am (blk_kept u13_15 hkp (fun hs_ => (fun e_ => (Kd.R_ne HO_564002.out BK563.out (by decide)) e_) hs_)); have HO575 := am (Kd.R_mono (ok' := fun k_ => some k_ ≠ (.slice Ao13 t554.length co13 : Value).ownBlock ∧ some k_ ≠ (.slice Ao17 t557.length co17 : Value).ownBlock) ho0 (fun k_ hk_ => ⟨Or.elim hk_ (fun hs_ => fun e_ => (((HO_564000.out).1 k_ e_.symm).2) hs_) (fun hn_ => (Kd.fresh' (Kd.R_lt u13_10) k_ hn_)), Or.elim hk_ (fun hs_ => fun e_ => (((HO_564001.out).1 k_ e_.symm).2) hs_) (fun hn_ => (Kd.fresh' (Kd.R_lt u13_11) k_ hn_))⟩)); replace HO_564000 := am (Kd.R_mono (ok' := fun k_ => some k_ ≠ (.slice Ao17 t557.length co17 : Value).ownBlock ∧ some k_ ≠ (v574 : Value).ownBlock) (Kd.R_keptB (HO_564000.out) hkp (fun k_ hk_ hs_ => (hk_.2) hs_)) (fun k_ hk_ => ⟨hk_.1.1, fun e_ => Or.elim (ho0.1 k_ e_.symm) (fun hs_ => hk_.2.1 hs_) (fun hn_ => Nat.not_le.2 hk_.2.2 hn_)⟩)); replace HO_564001 := am (Kd.R_mono (ok' := fun k_ => some k_ ≠ (.slice Ao13 t554.length co13 : Value).ownBlock ∧ some k_ ≠ (v574 : Value).ownBlock) (Kd.R_keptB (HO_564001.out) hkp (fun k_ hk_ hs_ => (hk_.2) hs_)) (fun k_ hk_ => ⟨hk_.1.1, fun e_ => Or.elim (ho0.1 k_ e_.symm) (fun hs_ => hk_.2.1 hs_) (fun hn_ => Nat.not_le.2 hk_.2.2 hn_)⟩)); replace HB := am (hb); clear HO_564002; (try clear hb); (try clear hkp); (try clear ho0); obtain ⟨Ao53, co53, eo53⟩ := Kd.R_slice HO575.out; subst eo53; obtain ⟨hcz54_0, hcz54_1, hcz54_2, hfz54_0, hfz54_1, hfz54_2⟩ := bc3f w52 BK563.out))
       go_meet
       case rel => exact ⟨_, (t573), (.slice Ao53 t573.length co53), H', ⟨(by have := HJ5.out; first | omega | exact Nat.le_refl _)⟩, ⟨(by (with_reducible repeat (first | apply Kd.R_alloc | apply Kd.R_drewN | apply Kd.R_drew)); exact Kd.R_mono (Kd.R_far (p := ⟨gb563, 2, none⟩) (Kd.R_types HO_564000.out BK563.out (by decide)) (fun _ hk => hk.2) (.slice Ao53 t573.length co53)) (fun _ hk => ⟨hk.1.1, hk.1.2⟩))⟩, ⟨(by (with_reducible repeat (first | apply Kd.R_alloc | apply Kd.R_drewN | apply Kd.R_drew)); exact Kd.R_mono (Kd.R_far (p := ⟨gb563, 2, none⟩) (Kd.R_types HO_564001.out BK563.out (by decide)) (fun _ hk => hk.2) (.slice Ao53 t573.length co53)) (fun _ hk => ⟨hk.1.1, hk.1.2⟩))⟩, ⟨(by (with_reducible repeat (first | apply Kd.R_alloc | apply Kd.R_drewN | apply Kd.R_drew)); exact Kd.R_mono (Kd.R_far (p := ⟨gb563, 2, none⟩) (Kd.R_types HO575.out BK563.out (by decide)) (fun _ hk => hk.2) (.slice Ao53 t573.length co53)) (fun _ hk => ⟨hk.1.1, hk.1.2⟩))⟩, ⟨u13_29⟩, ⟨u13_30⟩, ⟨u13_25⟩, ⟨q0⟩⟩
     subst c37
     rw [if_pos rfl] at H
     obtain ⟨y567, hy567⟩ : ∃ y_ : List Int, y_ = (([a1] : List Int)) := ⟨_, rfl⟩
     replace H : ((slices_Insert_int_int.f t560 t564 y567).bind fun t570 => (impl_learner.j1 kj5 l0_0 l0_1 l0_2 t554 t557 t570)) = some (r1, r2, r3, r4) := by first | (rw [hy567]; with_reducible exact H) | (have H2_ := (Option.bind_some _ _).symm.trans H; rw [hy567]; with_reducible exact H2_) | (have H2_ := (Option.bind_some _ _).symm.trans H; with_reducible exact H2_) | with_reducible exact H | (rw [hy567]; exact H) | exact H
     have Ny567 := am hy567
     clear hy567
     replace H := Option.bind_eq_some_iff.mp H
     obtain ⟨t570, A380, H⟩ := H
     replace H : (impl_learner.j1 kj5 l0_0 l0_1 l0_2 t554 t557 t570) = some (r1, r2, r3, r4) := H
     have A38 := am A380
     clear A380
     have H' := am H
     clear H
     have hnb39 := NB563_552.out
     have hnc39 := NB552_563.out
     have hnb40 := NB563_553.out
     have hnc40 := NB553_563.out
     obtain ⟨hcz41_0, hcz41_1, hcz41_2, hfz41_0, hfz41_1, hfz41_2⟩ := bc3f wc BK563.out
     go_wp2_with (first | ((with_reducible refine gate_dst (N := 34) rfl ?_); refine Kd.R_lit (Kd.int .i64) _ 3 ?hg (N := 34) ?hd (xs := ([a1] : List Int)) (inner := [.int .i64 a1]) (ok := fun _ => True) (okp := fun _ => True) ?hr ?hp (fun _ hk => hk) trivial (Below.refl _ _) (Nat.le_refl _) (by simp) ?_; (case hd => rfl); (case hg => rfl); (case hr => first | (go_simp; done) | (go_simp; rfl)); (case hp => exact (Reps.one (show Kd.M (Kd.int .i64) _ _ _ a1 [.int .i64 a1] from rfl) (Reps.none _ _))); intro v568 w42 ho43 hb hg_ hnew_; clear hg_ hnew_; (first | rw [← Ny567.out] at ho43 | (simp only [Int.reduceToNat] at ho43; rw [← Ny567.out] at ho43)); have HO569 := am (Kd.R_lower (Kd.R_new' (Kd.R_new' (Kd.R_new' ho43 (Kd.R_lt u13_10)) (Kd.R_lt u13_11)) (Kd.R_lt u13_16)) (below_size q0)); replace HO_564000 := am (Kd.R_elder' u13_10 (Kd.R_base ho43) hb); replace HO_564001 := am (Kd.R_elder' u13_11 (Kd.R_base ho43) hb); replace HO_564002 := am (Kd.R_elder' u13_16 (Kd.R_base ho43) hb); replace BK552 := am (blk_below (g := gb552) (o := .cells #[.slice A0_0 l0_0.length c0_0, .slice A0_1 l0_1.length c0_1, .slice A0_2 l0_2.length c0_2] 26 (0, 0)) u13_4 hb); replace BK553 := am (blk_below (g := gb553) (o := .cells #[.slice none 0 0, .slice none 0 0, .slice none 0 0] 26 (0, 0)) u13_7 hb); replace BK563 := am (blk_below (g := gb563) (o := .cells #[.slice Ao13 t554.length co13, .slice Ao17 t557.length co17, .slice Ao18 t560.length co18] 26 (0, 0)) u13_15 hb); replace HB := am (below_step q0 hb); clear hb ho43; obtain ⟨Ao44, co44, eo44⟩ := Kd.R_slice HO569.out; subst eo44) | ((with_reducible refine gate_callee (f := 77) rfl ?_); refine goesL_ (some 35) rfl rfl Try.func77 kr rfl #[.slice Ao18 t560.length co18, .int .i64 t564, .slice Ao44 y567.length co44] rfl q1 ?_; (with_reducible refine (slices_Insert_int_int.calls (fun k_ => some k_ = (.slice Ao18 t560.length co18 : Value).ownBlock) (.slice Ao18 t560.length co18) t560 t564 (fun k_ => some k_ = (.slice Ao44 y567.length co44 : Value).ownBlock) (.slice Ao44 y567.length co44) y567 t570 w _ ?side1 ?side2 ?side3 ?side4 ?side5 A38.out).mono ?_); (case side1 => exact q0); (case side2 => exact Kd.R_tight rfl HO_564002.out); (case side3 => exact fun k_ e_ => (HO_564002.out.1 k_ e_.symm).2); (case side4 => exact Kd.R_tight rfl HO569.out); (case side5 => exact fun k_ e_ => (HO569.out.1 k_ e_.symm).2); rintro e w45 ⟨v571, rfl, ho0, hb, hkp⟩; refine ⟨_, rfl, ?_⟩; replace BK552 := am (blk_kept u13_4 hkp (fun hs_ => Or.elim hs_ (fun e_ => (fun e_ => (Kd.R_ne HO_564002.out BK552.out (by decide)) e_) e_) (fun e_ => (fun e_ => (Kd.R_ne HO569.out BK552.out (by decide)) e_) e_))); replace BK553 := am (blk_kept u13_7 hkp (fun hs_ => Or.elim hs_ (fun e_ => (fun e_ => (Kd.R_ne HO_564002.out BK553.out (by decide)) e_) e_) (fun e_ => (fun e_ => (Kd.R_ne HO569.out BK553.out (by decide)) e_) e_))); replace BK563 := am (blk_kept u13_15 hkp (fun hs_ => Or.elim hs_ (fun e_ => (fun e_ => (Kd.R_ne HO_564002.out BK563.out (by decide)) e_) e_) (fun e_ => (fun e_ => (Kd.R_ne HO569.out BK563.out (by decide)) e_) e_))); have HO572 := am (Kd.R_mono (ok' := fun k_ => some k_ ≠ (.slice Ao13 t554.length co13 : Value).ownBlock ∧ some k_ ≠ (.slice Ao17 t557.length co17 : Value).ownBlock) ho0 (fun k_ hk_ => ⟨Or.elim hk_ (fun hs_ => Or.elim hs_ (fun hs_ => fun e_ => (((HO_564000.out).1 k_ e_.symm).1.2) hs_) (fun hs_ => fun e_ => (((HO_564000.out).1 k_ e_.symm).2) hs_)) (fun hn_ => (Kd.fresh' (Kd.R_lt u13_10) k_ hn_)), Or.elim hk_ (fun hs_ => Or.elim hs_ (fun hs_ => fun e_ => (((HO_564001.out).1 k_ e_.symm).1.2) hs_) (fun hs_ => fun e_ => (((HO_564001.out).1 k_ e_.symm).2) hs_)) (fun hn_ => (Kd.fresh' (Kd.R_lt u13_11) k_ hn_))⟩)); replace HO_564000 := am (Kd.R_mono (ok' := fun k_ => some k_ ≠ (.slice Ao17 t557.length co17 : Value).ownBlock ∧ some k_ ≠ (v571 : Value).ownBlock) (Kd.R_keptB (HO_564000.out) hkp (fun k_ hk_ hs_ => Or.elim hs_ (fun e_ => (hk_.1.2) e_) (fun e_ => (hk_.2) e_))) (fun k_ hk_ => ⟨hk_.1.1.1, fun e_ => Or.elim (ho0.1 k_ e_.symm) (fun hs_ => hk_.2.1 hs_) (fun hn_ => Nat.not_le.2 hk_.2.2 hn_)⟩)); replace HO_564001 := am (Kd.R_mono (ok' := fun k_ => some k_ ≠ (.slice Ao13 t554.length co13 : Value).ownBlock ∧ some k_ ≠ (v571 : Value).ownBlock) (Kd.R_keptB (HO_564001.out) hkp (fun k_ hk_ hs_ => Or.elim hs_ (fun e_ => (hk_.1.2) e_) (fun e_ => (hk_.2) e_))) (fun k_ hk_ => ⟨hk_.1.1.1, fun e_ => Or.elim (ho0.1 k_ e_.symm) (fun hs_ => hk_.2.1 hs_) (fun hn_ => Nat.not_le.2 hk_.2.2 hn_)⟩)); replace HB := am (hb); clear HO569 HO_564002; (try clear hb); (try clear hkp); (try clear ho0); obtain ⟨Ao46, co46, eo46⟩ := Kd.R_slice HO572.out; subst eo46; obtain ⟨hcz47_0, hcz47_1, hcz47_2, hfz47_0, hfz47_1, hfz47_2⟩ := bc3f w45 BK563.out))
     go_meet
     case rel => exact ⟨_, (t570), (.slice Ao46 t570.length co46), H', ⟨(by have := HJ5.out; first | omega | exact Nat.le_refl _)⟩, ⟨(by (with_reducible repeat (first | apply Kd.R_alloc | apply Kd.R_drewN | apply Kd.R_drew)); exact Kd.R_mono (Kd.R_far (p := ⟨gb563, 2, none⟩) (Kd.R_types HO_564000.out BK563.out (by decide)) (fun _ hk => hk.2) (.slice Ao46 t570.length co46)) (fun _ hk => ⟨hk.1.1, hk.1.2⟩))⟩, ⟨(by (with_reducible repeat (first | apply Kd.R_alloc | apply Kd.R_drewN | apply Kd.R_drew)); exact Kd.R_mono (Kd.R_far (p := ⟨gb563, 2, none⟩) (Kd.R_types HO_564001.out BK563.out (by decide)) (fun _ hk => hk.2) (.slice Ao46 t570.length co46)) (fun _ hk => ⟨hk.1.1, hk.1.2⟩))⟩, ⟨(by (with_reducible repeat (first | apply Kd.R_alloc | apply Kd.R_drewN | apply Kd.R_drew)); exact Kd.R_mono (Kd.R_far (p := ⟨gb563, 2, none⟩) (Kd.R_types HO572.out BK563.out (by decide)) (fun _ hk => hk.2) (.slice Ao46 t570.length co46)) (fun _ hk => ⟨hk.1.1, hk.1.2⟩))⟩, ⟨u13_29⟩, ⟨u13_30⟩, ⟨u13_25⟩, ⟨q0⟩⟩
   clear HC36
   try clear c30
   try clear hcz10_0
   try clear hcz10_1
   try clear hcz10_2
   try clear hcz16_0
   try clear hcz16_1
   try clear hcz16_2
   try clear hcz19_0
   try clear hcz19_1
   try clear hcz19_2
   try clear hfz10_0
   try clear hfz10_1
   try clear hfz10_2
   try clear hfz16_0
   try clear hfz16_1
   try clear hfz16_2
   try clear hfz19_0
   try clear hfz19_1
   try clear hfz19_2
   obtain ⟨kq, x564002_35, u564002, HA, HJ35, HO_564000, HO_564001, HO_564002, BK552, BK553, BK563, HB⟩ := hcut
   cases kq with
   | zero => exact absurd HA.out (by simp [impl_learner.j1])
   | succ kj35 =>
     have H := HA.out
     clear HA
     simp only [impl_learner.j1] at H
     replace H := Option.bind_eq_some_iff.mp H
     obtain ⟨t576, A550, H⟩ := H
     have A55 := am A550
     clear A550
     have H9 := am H
     clear H
     have hnb56 := NB563_552.out
     have hnc56 := NB552_563.out
     have hnb57 := NB563_553.out
     have hnc57 := NB553_563.out
     obtain ⟨hcz58_0, hcz58_1, hcz58_2, hfz58_0, hfz58_1, hfz58_2⟩ := bc3f wc BK563.out
     obtain ⟨Ao59, co59, eo59⟩ := Kd.R_slice HO_564002.out
     subst eo59
     go_upto_if 46 with (first | ((with_reducible refine gate_callee (f := 48) rfl ?_); refine goesL_ (some 45) rfl rfl Try.func48 kr rfl #[.agg #[.slice Ao13 t554.length co13, .slice Ao17 t557.length co17, .slice Ao59 x564002_35.length co59]] rfl q1 ?_; (with_reducible refine (impl_isConf.calls kj35 _ _ t554 _ _ t557 _ _ x564002_35 t576 _ ?side1 ?side2 ?side3 ?side4 ?side5 ?side6 A55.out).mono ?_); (case side1 => exact (by repeat (first | exact (Kd.R_reads' HO_564000.out).2.2 | (with_reducible refine Kd.C_alloc ?_ _) | (with_reducible refine Kd.C_drewN ?_ _) | (with_reducible refine Kd.C_drew ?_)))); (case side2 => exact (Kd.R_reads' HO_564000.out).2.1); (case side3 => exact (by repeat (first | exact (Kd.R_reads' HO_564001.out).2.2 | (with_reducible refine Kd.C_alloc ?_ _) | (with_reducible refine Kd.C_drewN ?_ _) | (with_reducible refine Kd.C_drew ?_)))); (case side4 => exact (Kd.R_reads' HO_564001.out).2.1); (case side5 => exact (by repeat (first | exact (Kd.R_reads' HO_564002.out).2.2 | (with_reducible refine Kd.C_alloc ?_ _) | (with_reducible refine Kd.C_drewN ?_ _) | (with_reducible refine Kd.C_drew ?_)))); (case side6 => exact (Kd.R_reads' HO_564002.out).2.1); rintro e w60 ⟨rfl, hb⟩; refine ⟨_, rfl, ?_⟩; replace HO_564000 := am (Kd.R_below u13_10 hb); replace HO_564001 := am (Kd.R_below u13_11 hb); replace HO_564002 := am (Kd.R_below u13_16 hb); replace BK552 := am (blk_below (g := gb552) (o := .cells #[.slice A0_0 l0_0.length c0_0, .slice A0_1 l0_1.length c0_1, .slice A0_2 l0_2.length c0_2] 26 (0, 0)) u13_4 hb); replace BK553 := am (blk_below (g := gb553) (o := .cells #[.slice none 0 0, .slice none 0 0, .slice none 0 0] 26 (0, 0)) u13_7 hb); replace BK563 := am (blk_below (g := gb563) (o := .cells #[.slice Ao13 t554.length co13, .slice Ao17 t557.length co17, .slice Ao59 x564002_35.length co59] 26 (0, 0)) u13_15 hb); replace HB := am (below_step q0 hb); (try clear hb); (try clear hb2); (try clear hk); (try clear hi)))
     have H := H9.out
     clear H9
     by_cases c61 : t576 = true
     · subst c61
       rw [if_pos rfl] at H
       simp only [Option.some.injEq, Prod.mk.injEq] at H
       obtain ⟨rfl, rfl, rfl, rfl⟩ := H
       have hnb62 := NB563_552.out
       have hnc62 := NB552_563.out
       have hnb63 := NB563_553.out
       have hnc63 := NB553_563.out
       obtain ⟨hcz64_0, hcz64_1, hcz64_2, hfz64_0, hfz64_1, hfz64_2⟩ := bc3f w60 BK563.out
       have hnb65 := NB553_552.out
       have hnc65 := NB552_553.out
       obtain ⟨hcz66_0, hcz66_1, hcz66_2, hfz66_0, hfz66_1, hfz66_2⟩ := bc3f w60 BK553.out
       go_wp2
       refine bodyPost_ret (results_ct rfl _ _ gb553 26 #[.slice Ao13 t554.length co13, .slice Ao17 t557.length co17, .slice Ao59 x564002_35.length co59] (0, 0) _ rfl u13_14 Try.underlying26 rfl kr) rfl ?_
       exact ⟨_, _, _, er, (by (with_reducible repeat (first | apply Kd.R_alloc | apply Kd.R_drewN | apply Kd.R_drew)); exact Kd.R_mono (Kd.R_far (p := ⟨gb553, 2, none⟩) (Kd.R_far (p := ⟨gb553, 1, none⟩) (Kd.R_far (p := ⟨gb553, 0, none⟩) (Kd.R_types HO_564000.out BK553.out (by decide)) (fun _ hk => hk.2) (.slice Ao13 t554.length co13)) (fun _ hk => hk.2) (.slice Ao17 t557.length co17)) (fun _ hk => hk.2) (.slice Ao59 x564002_35.length co59)) (fun _ hk => ⟨hk.1.1, hk.1.2⟩)), (by (with_reducible repeat (first | apply Kd.R_alloc | apply Kd.R_drewN | apply Kd.R_drew)); exact Kd.R_mono (Kd.R_far (p := ⟨gb553, 2, none⟩) (Kd.R_far (p := ⟨gb553, 1, none⟩) (Kd.R_far (p := ⟨gb553, 0, none⟩) (Kd.R_types HO_564001.out BK553.out (by decide)) (fun _ hk => hk.2) (.slice Ao13 t554.length co13)) (fun _ hk => hk.2) (.slice Ao17 t557.length co17)) (fun _ hk => hk.2) (.slice Ao59 x564002_35.length co59)) (fun _ hk => ⟨hk.1.1, hk.1.2⟩)), (by (with_reducible repeat (first | apply Kd.R_alloc | apply Kd.R_drewN | apply Kd.R_drew)); exact Kd.R_mono (Kd.R_far (p := ⟨gb553, 2, none⟩) (Kd.R_far (p := ⟨gb553, 1, none⟩) (Kd.R_far (p := ⟨gb553, 0, none⟩) (Kd.R_types HO_564002.out BK553.out (by decide)) (fun _ hk => hk.2) (.slice Ao13 t554.length co13)) (fun _ hk => hk.2) (.slice Ao17 t557.length co17)) (fun _ hk => hk.2) (.slice Ao59 x564002_35.length co59)) (fun _ hk => ⟨hk.1.1, hk.1.2⟩)), q0⟩
     replace c61 := Bool.eq_false_iff.mpr c61
     subst c61
     rw [nf] at H
     replace H := Option.bind_eq_some_iff.mp H
     obtain ⟨⟨t577, t580, t583⟩, A670, H⟩ := H
     replace H : (some (t577, t580, t583, false)) = some (r1, r2, r3, r4) := H
     have A67 := am A670
     clear A670
     simp only [Option.some.injEq, Prod.mk.injEq] at H
     obtain ⟨rfl, rfl, rfl, rfl⟩ := H
     have hnb68 := NB552_553.out
     have hnc68 := NB553_552.out
     have hnb69 := NB552_563.out
     have hnc69 := NB563_552.out
     obtain ⟨hcz70_0, hcz70_1, hcz70_2, hfz70_0, hfz70_1, hfz70_2⟩ := bc3f w60 BK552.out
     go_wp2_with (first | ((with_reducible refine gate_callee (f := 63) rfl ?_); refine goesL_ (some 48) rfl rfl Try.func63 kr rfl #[.agg #[.slice A0_0 l0_0.length c0_0, .slice A0_1 l0_1.length c0_1, .slice A0_2 l0_2.length c0_2]] rfl q1 ?_; (with_reducible refine (impl_copyConf.calls _ _ l0_0 _ _ l0_1 _ _ l0_2 t577 t580 t583 _ ?side1 ?side2 ?side3 ?side4 ?side5 ?side6 A67.out).mono ?_); (case side1 => exact q6); (case side2 => exact HC0_0.out); (case side3 => exact q9); (case side4 => exact HC0_1.out); (case side5 => exact q8); (case side6 => exact HC0_2.out); rintro e w71 ⟨v578, v581, v584, rfl, ho0, ho1, ho2, hb⟩; refine ⟨_, rfl, ?_⟩; have HO579 := am (Kd.R_lower (Kd.R_new' (Kd.R_new' (Kd.R_new' ho0 (Kd.R_lt u13_10)) (Kd.R_lt u13_11)) (Kd.R_lt u13_16)) (below_size q0)); have HO582 := am (Kd.R_lower (Kd.R_new' (Kd.R_new' (Kd.R_new' ho1 (Kd.R_lt u13_10)) (Kd.R_lt u13_11)) (Kd.R_lt u13_16)) (below_size q0)); have HO585 := am (Kd.R_lower (Kd.R_new' (Kd.R_new' (Kd.R_new' ho2 (Kd.R_lt u13_10)) (Kd.R_lt u13_11)) (Kd.R_lt u13_16)) (below_size q0)); replace HO_564000 := am (Kd.R_mono (Kd.R_told (Kd.R_told (Kd.R_told (Kd.R_old u13_10 hb) (Kd.R_base ho0)) (Kd.R_base ho1)) (Kd.R_base ho2)) (fun _ h_ => h_.1)); replace HO_564001 := am (Kd.R_mono (Kd.R_told (Kd.R_told (Kd.R_told (Kd.R_old u13_11 hb) (Kd.R_base ho0)) (Kd.R_base ho1)) (Kd.R_base ho2)) (fun _ h_ => h_.1)); replace HO_564002 := am (Kd.R_mono (Kd.R_told (Kd.R_told (Kd.R_told (Kd.R_old u13_16 hb) (Kd.R_base ho0)) (Kd.R_base ho1)) (Kd.R_base ho2)) (fun _ h_ => h_.1)); replace BK552 := am (blk_below (g := gb552) (o := .cells #[.slice A0_0 l0_0.length c0_0, .slice A0_1 l0_1.length c0_1, .slice A0_2 l0_2.length c0_2] 26 (0, 0)) u13_4 hb); replace BK553 := am (blk_below (g := gb553) (o := .cells #[.slice none 0 0, .slice none 0 0, .slice none 0 0] 26 (0, 0)) u13_7 hb); replace BK563 := am (blk_below (g := gb563) (o := .cells #[.slice Ao13 t554.length co13, .slice Ao17 t557.length co17, .slice Ao59 x564002_35.length co59] 26 (0, 0)) u13_15 hb); replace HB := am (below_step q0 hb); (try clear hb); (try clear hb2); (try clear hk); (try clear hi); (try clear ho0); (try clear ho1); (try clear ho2); obtain ⟨Ao72, co72, eo72⟩ := Kd.R_slice HO579.out; subst eo72; have hnb73 := NB553_563.out; have hnc73 := NB563_553.out; obtain ⟨hcz74_0, hcz74_1, hcz74_2, hfz74_0, hfz74_1, hfz74_2⟩ := bc3f w71 BK553.out; obtain ⟨Ao75, co75, eo75⟩ := Kd.R_slice HO582.out; subst eo75; obtain ⟨Ao76, co76, eo76⟩ := Kd.R_slice HO585.out; subst eo76))
     refine bodyPost_ret (results_ct rfl _ _ gb553 26 #[.slice Ao72 t577.length co72, .slice Ao75 t580.length co75, .slice Ao76 t583.length co76] (0, 0) _ rfl (by (with_reducible repeat (first | refine blk_drewN ?_ _ | refine blk_drew ?_ | refine blk_alloc ?_ _)); refine blk_put (cs := #[.slice Ao72 t577.length co72, .slice Ao75 t580.length co75, .slice none 0 0]) ?_ 2 _ rfl; (with_reducible repeat (first | refine blk_drewN ?_ _ | refine blk_drew ?_ | refine blk_alloc ?_ _)); refine blk_put (cs := #[.slice Ao72 t577.length co72, .slice none 0 0, .slice none 0 0]) ?_ 1 _ rfl; (with_reducible repeat (first | refine blk_drewN ?_ _ | refine blk_drew ?_ | refine blk_alloc ?_ _)); refine blk_put (cs := #[.slice none 0 0, .slice none 0 0, .slice none 0 0]) ?_ 0 _ rfl; (with_reducible repeat (first | refine blk_drewN ?_ _ | refine blk_drew ?_ | refine blk_alloc ?_ _)); exact BK553.out) Try.underlying26 rfl kr) rfl ?_
     exact ⟨_, _, _, er, (by (with_reducible repeat (first | apply Kd.R_alloc | apply Kd.R_drewN | apply Kd.R_drew)); exact Kd.R_mono (Kd.R_far (p := ⟨gb553, 2, none⟩) (Kd.R_far (p := ⟨gb553, 1, none⟩) (Kd.R_far (p := ⟨gb553, 0, none⟩) (Kd.R_types HO579.out BK553.out (by decide)) (fun _ hk => hk.2) (.slice Ao72 t577.length co72)) (fun _ hk => hk.2) (.slice Ao75 t580.length co75)) (fun _ hk => hk.2) (.slice Ao76 t583.length co76)) (fun _ hk => ⟨hk.1.1.1.1.1, hk.1.1.1.1.2⟩)), (by (with_reducible repeat (first | apply Kd.R_alloc | apply Kd.R_drewN | apply Kd.R_drew)); exact Kd.R_mono (Kd.R_far (p := ⟨gb553, 2, none⟩) (Kd.R_far (p := ⟨gb553, 1, none⟩) (Kd.R_far (p := ⟨gb553, 0, none⟩) (Kd.R_types HO582.out BK553.out (by decide)) (fun _ hk => hk.2) (.slice Ao72 t577.length co72)) (fun _ hk => hk.2) (.slice Ao75 t580.length co75)) (fun _ hk => hk.2) (.slice Ao76 t583.length co76)) (fun _ hk => ⟨hk.1.1.1.1.1, hk.1.1.1.1.2⟩)), (by (with_reducible repeat (first | apply Kd.R_alloc | apply Kd.R_drewN | apply Kd.R_drew)); exact Kd.R_mono (Kd.R_far (p := ⟨gb553, 2, none⟩) (Kd.R_far (p := ⟨gb553, 1, none⟩) (Kd.R_far (p := ⟨gb553, 0, none⟩) (Kd.R_types HO585.out BK553.out (by decide)) (fun _ hk => hk.2) (.slice Ao72 t577.length co72)) (fun _ hk => hk.2) (.slice Ao75 t580.length co75)) (fun _ hk => hk.2) (.slice Ao76 t583.length co76)) (fun _ hk => ⟨hk.1.1.1.1.1, hk.1.1.1.1.2⟩)), q0⟩

/-! ### impl_Learner: function 17 -/
def impl_Learner.f (k : Nat) (l0_0 : List Int) (l0_1 : List Int) (l0_2 : List Int) (a1 : Int) (a2 : Bool) : Option (List Int × List Int × List Int × Bool) := (impl_learner.f k l0_0 l0_1 l0_2 a1 a2).bind fun bt588 => (some (bt588.1, bt588.2.1, bt588.2.2.1, bt588.2.2.2))
theorem impl_Learner.mono : ∀ a0 a1 a2 a3 a4 k, LeO (impl_Learner.f k a0 a1 a2 a3 a4) (impl_Learner.f (k + 1) a0 a1 a2 a3 a4) := by
 intro a0 a1 a2 a3 a4 k
 unfold impl_Learner.f
 repeat' first
     | (with_reducible exact impl_learner.mono _ _ _ _ _ _)
     | (with_reducible exact LeO.refl _)
     | (with_reducible exact LeO.none _)
     | (with_reducible refine LeO.ite ?_ ?_)
     | (with_reducible refine LeO.bind ?_ (fun _ => ?_))
     | exact impl_learner.mono _ _ _ _ _ _
     | exact LeO.none _
     | refine LeO.ite ?_ ?_
     | refine LeO.bind ?_ (fun _ => ?_)
set_option maxHeartbeats 8000000 in
set_option maxRecDepth 100000 in
theorem impl_Learner.calls (k : Nat) (A0_0 : Option Addr) (c0_0 : Nat) (l0_0 : List Int) (A0_1 : Option Addr) (c0_1 : Nat) (l0_1 : List Int) (A0_2 : Option Addr) (c0_2 : Nat) (l0_2 : List Int) (a1 : Int) (a2 : Bool) (r1 : List Int) (r2 : List Int) (r3 : List Int) (r4 : Bool) (w : World) (hr0_0 : Kd.C (Kd.int .i64) w A0_0 l0_0.length l0_0) (hc0_0 : l0_0.length ≤ c0_0) (hr0_1 : Kd.C (Kd.int .i64) w A0_1 l0_1.length l0_1) (hc0_1 : l0_1.length ≤ c0_1) (hr0_2 : Kd.C (Kd.int .i64) w A0_2 l0_2.length l0_2) (hc0_2 : l0_2.length ≤ c0_2) (h : impl_Learner.f k l0_0 l0_1 l0_2 a1 a2 = some (r1, r2, r3, r4)) :
   Calls Try.prog 17 #[.agg #[.slice A0_0 l0_0.length c0_0, .slice A0_1 l0_1.length c0_1, .slice A0_2 l0_2.length c0_2], .int .i64 a1, .bool a2] w fun e w' => ∃ v0_ v1_ v2_ : Value, e = .returned (.tuple #[.agg #[v0_, v1_, v2_], .bool r4]) ∧ Kd.R (Kd.int .i64) 3 w' w.heap.size (fun k_ => some k_ ≠ (v1_ : Value).ownBlock ∧ some k_ ≠ (v2_ : Value).ownBlock) v0_ r1 ∧ Kd.R (Kd.int .i64) 3 w' w.heap.size (fun k_ => some k_ ≠ (v0_ : Value).ownBlock ∧ some k_ ≠ (v2_ : Value).ownBlock) v1_ r2 ∧ Kd.R (Kd.int .i64) 3 w' w.heap.size (fun k_ => some k_ ≠ (v0_ : Value).ownBlock ∧ some k_ ≠ (v1_ : Value).ownBlock) v2_ r3 ∧ Below w.heap.size w w' := by
 have hu26 := Try.underlying26
 have HR0_0 := am hr0_0
 have HC0_0 := am hc0_0
 clear hr0_0 hc0_0
 have HR0_1 := am hr0_1
 have HC0_1 := am hc0_1
 clear hr0_1 hc0_1
 have HR0_2 := am hr0_2
 have HC0_2 := am hc0_2
 clear hr0_2 hc0_2
 have HB := am (Below.refl w.heap.size w)
 have H : ((impl_learner.f k l0_0 l0_1 l0_2 a1 a2).bind fun bt588 => (some (bt588.1, bt588.2.1, bt588.2.2.1, bt588.2.2.2))) = some (r1, r2, r3, r4) := h
 clear h
 replace H := Option.bind_eq_some_iff.mp H
 obtain ⟨⟨t588, t591, t594, t597⟩, A40, H⟩ := H
 replace H : (some (t588, t591, t594, t597)) = some (r1, r2, r3, r4) := H
 have A4 := am A40
 clear A40
 simp only [Option.some.injEq, Prod.mk.injEq] at H
 obtain ⟨rfl, rfl, rfl, rfl⟩ := H
 go_enter Try.func17, Try.ntmps17
 go_wp2_with (first | ((with_reducible refine gate_dst (N := 3) rfl ?_); refine box_event ?hg (N := 3) ?hd (cs := #[.slice A0_0 l0_0.length c0_0, .slice A0_1 l0_1.length c0_1, .slice A0_2 l0_2.length c0_2]) (t := 26) ?hr ?_; (case hd => rfl); (case hg => rfl); (case hr => first | (go_simp; done) | (go_simp; rfl)); intro gb586 hg w5 hbox hb; have BK586 := am (hbox); have GW586 := am ((by rw [hg]; exact (below_size q0) : w.heap.size ≤ gb586)); have GE586 := am ((by rw [hg]; exact (below_size q0) : w.heap.size ≤ gb586)); replace HB := am (below_step q0 hb); clear hb hbox hg) | ((with_reducible refine gate_dst (N := 6) rfl ?_); refine box_event ?hg (N := 6) ?hd (cs := #[.slice none 0 0, .slice none 0 0, .slice none 0 0]) (t := 26) ?hr ?_; (case hd => rfl); (case hg => rfl); (case hr => first | (go_simp; done) | (go_simp; rfl)); intro gb587 hg w6 hbox hb; have BK587 := am (hbox); have GW587 := am ((by rw [hg]; exact (below_size q0) : w.heap.size ≤ gb587)); have GE587 := am ((by rw [hg]; exact (below_size q0) : w.heap.size ≤ gb587)); replace HB := am (below_step q0 hb); have NB586_587 := am ((by rw [hg]; exact Nat.ne_of_lt (blk_lt (g := gb586) (o := .cells #[.slice A0_0 l0_0.length c0_0, .slice A0_1 l0_1.length c0_1, .slice A0_2 l0_2.length c0_2] 26 (0, 0)) u13_26) : gb586 ≠ gb587)); have NB587_586 := am ((by rw [hg]; exact Nat.ne_of_gt (blk_lt (g := gb586) (o := .cells #[.slice A0_0 l0_0.length c0_0, .slice A0_1 l0_1.length c0_1, .slice A0_2 l0_2.length c0_2] 26 (0, 0)) u13_26) : gb587 ≠ gb586)); replace BK586 := am (blk_below (g := gb586) (o := .cells #[.slice A0_0 l0_0.length c0_0, .slice A0_1 l0_1.length c0_1, .slice A0_2 l0_2.length c0_2] 26 (0, 0)) u13_26 hb); clear hb hbox hg; have hnb7 := NB586_587.out; have hnc7 := NB587_586.out; obtain ⟨hcz8_0, hcz8_1, hcz8_2, hfz8_0, hfz8_1, hfz8_2⟩ := bc3f w6 BK586.out) | ((with_reducible refine gate_callee (f := 49) rfl ?_); refine goesL_ (some 11) rfl rfl Try.func49 kr rfl #[.agg #[.slice A0_0 l0_0.length c0_0, .slice A0_1 l0_1.length c0_1, .slice A0_2 l0_2.length c0_2], .int .i64 a1, .bool a2] rfl q1 ?_; (with_reducible refine (impl_learner.calls k _ _ l0_0 _ _ l0_1 _ _ l0_2 a1 a2 t588 t591 t594 t597 _ ?side1 ?side2 ?side3 ?side4 ?side5 ?side6 A4.out).mono ?_); (case side1 => exact q6); (case side2 => exact HC0_0.out); (case side3 => exact q9); (case side4 => exact HC0_1.out); (case side5 => exact q8); (case side6 => exact HC0_2.out); rintro e w9 ⟨v589, v592, v595, rfl, ho0, ho1, ho2, hb⟩; refine ⟨_, rfl, ?_⟩; have HO590 := am (Kd.R_lower ho0 (below_size q0)); have HO593 := am (Kd.R_lower ho1 (below_size q0)); have HO596 := am (Kd.R_lower ho2 (below_size q0)); replace BK586 := am (blk_below (g := gb586) (o := .cells #[.slice A0_0 l0_0.length c0_0, .slice A0_1 l0_1.length c0_1, .slice A0_2 l0_2.length c0_2] 26 (0, 0)) u13_26 hb); replace BK587 := am (blk_below (g := gb587) (o := .cells #[.slice none 0 0, .slice none 0 0, .slice none 0 0] 26 (0, 0)) (by (with_reducible repeat (first | refine blk_drewN ?_ _ | refine blk_drew ?_ | refine blk_alloc ?_ _)); exact BK587.out) hb); replace HB := am (below_step q0 hb); (try clear hb); (try clear hb2); (try clear hk); (try clear hi); (try clear ho0); (try clear ho1); (try clear ho2); obtain ⟨Ao10, co10, eo10⟩ := Kd.R_slice HO590.out; subst eo10; obtain ⟨hcz11_0, hcz11_1, hcz11_2, hfz11_0, hfz11_1, hfz11_2⟩ := bc3f w9 BK587.out; obtain ⟨Ao12, co12, eo12⟩ := Kd.R_slice HO593.out; subst eo12; obtain ⟨Ao13, co13, eo13⟩ := Kd.R_slice HO596.out; subst eo13))
 refine bodyPost_ret (results_ct rfl _ _ gb587 26 #[.slice Ao10 t588.length co10, .slice Ao12 t591.length co12, .slice Ao13 t594.length co13] (0, 0) _ rfl (by (with_reducible repeat (first | refine blk_drewN ?_ _ | refine blk_drew ?_ | refine blk_alloc ?_ _)); refine blk_put (cs := #[.slice Ao10 t588.length co10, .slice Ao12 t591.length co12, .slice none 0 0]) ?_ 2 _ rfl; (with_reducible repeat (first | refine blk_drewN ?_ _ | refine blk_drew ?_ | refine blk_alloc ?_ _)); refine blk_put (cs := #[.slice Ao10 t588.length co10, .slice none 0 0, .slice none 0 0]) ?_ 1 _ rfl; (with_reducible repeat (first | refine blk_drewN ?_ _ | refine blk_drew ?_ | refine blk_alloc ?_ _)); refine blk_put (cs := #[.slice none 0 0, .slice none 0 0, .slice none 0 0]) ?_ 0 _ rfl; (with_reducible repeat (first | refine blk_drewN ?_ _ | refine blk_drew ?_ | refine blk_alloc ?_ _)); exact BK587.out) Try.underlying26 rfl kr) rfl ?_
 exact ⟨_, _, _, er, (by (with_reducible repeat (first | apply Kd.R_alloc | apply Kd.R_drewN | apply Kd.R_drew)); exact Kd.R_mono (Kd.R_far (p := ⟨gb587, 2, none⟩) (Kd.R_far (p := ⟨gb587, 1, none⟩) (Kd.R_far (p := ⟨gb587, 0, none⟩) (Kd.R_types HO590.out BK587.out (by decide)) (fun _ hk => hk.2) (.slice Ao10 t588.length co10)) (fun _ hk => hk.2) (.slice Ao12 t591.length co12)) (fun _ hk => hk.2) (.slice Ao13 t594.length co13)) (fun _ hk => ⟨hk.1.1, hk.1.2⟩)), (by (with_reducible repeat (first | apply Kd.R_alloc | apply Kd.R_drewN | apply Kd.R_drew)); exact Kd.R_mono (Kd.R_far (p := ⟨gb587, 2, none⟩) (Kd.R_far (p := ⟨gb587, 1, none⟩) (Kd.R_far (p := ⟨gb587, 0, none⟩) (Kd.R_types HO593.out BK587.out (by decide)) (fun _ hk => hk.2) (.slice Ao10 t588.length co10)) (fun _ hk => hk.2) (.slice Ao12 t591.length co12)) (fun _ hk => hk.2) (.slice Ao13 t594.length co13)) (fun _ hk => ⟨hk.1.1, hk.1.2⟩)), (by (with_reducible repeat (first | apply Kd.R_alloc | apply Kd.R_drewN | apply Kd.R_drew)); exact Kd.R_mono (Kd.R_far (p := ⟨gb587, 2, none⟩) (Kd.R_far (p := ⟨gb587, 1, none⟩) (Kd.R_far (p := ⟨gb587, 0, none⟩) (Kd.R_types HO596.out BK587.out (by decide)) (fun _ hk => hk.2) (.slice Ao10 t588.length co10)) (fun _ hk => hk.2) (.slice Ao12 t591.length co12)) (fun _ hk => hk.2) (.slice Ao13 t594.length co13)) (fun _ hk => ⟨hk.1.1, hk.1.2⟩)), q0⟩

/-! ### laws_sameConf: function 18 -/
def laws_sameConf.f (k : Nat) (l0_0 : List Int) (l0_1 : List Int) (l0_2 : List Int) (l1_0 : List Int) (l1_1 : List Int) (l1_2 : List Int) : Option (Bool) := (laws_sameInts.f k l0_0 l1_0).bind fun t600 => (if t600 = true then ((laws_sameInts.f k l0_1 l1_1).bind fun t601 => (if t601 = true then ((laws_sameInts.f k l0_2 l1_2).bind fun t602 => (some t602)) else (some false))) else (some false))
theorem laws_sameConf.mono : ∀ a0 a1 a2 a3 a4 a5 k, LeO (laws_sameConf.f k a0 a1 a2 a3 a4 a5) (laws_sameConf.f (k + 1) a0 a1 a2 a3 a4 a5) := by
 intro a0 a1 a2 a3 a4 a5 k
 unfold laws_sameConf.f
 repeat' first
     | (with_reducible exact laws_sameInts.mono _ _ _)
     | (with_reducible exact LeO.refl _)
     | (with_reducible exact LeO.none _)
     | (with_reducible refine LeO.ite ?_ ?_)
     | (with_reducible refine LeO.bind ?_ (fun _ => ?_))
     | exact laws_sameInts.mono _ _ _
     | exact LeO.none _
     | refine LeO.ite ?_ ?_
     | refine LeO.bind ?_ (fun _ => ?_)
set_option maxHeartbeats 8000000 in
set_option maxRecDepth 100000 in
theorem laws_sameConf.calls (k : Nat) (A0_0 : Option Addr) (c0_0 : Nat) (l0_0 : List Int) (A0_1 : Option Addr) (c0_1 : Nat) (l0_1 : List Int) (A0_2 : Option Addr) (c0_2 : Nat) (l0_2 : List Int) (A1_0 : Option Addr) (c1_0 : Nat) (l1_0 : List Int) (A1_1 : Option Addr) (c1_1 : Nat) (l1_1 : List Int) (A1_2 : Option Addr) (c1_2 : Nat) (l1_2 : List Int) (r : Bool) (w : World) (hr0_0 : Kd.C (Kd.int .i64) w A0_0 l0_0.length l0_0) (hc0_0 : l0_0.length ≤ c0_0) (hr0_1 : Kd.C (Kd.int .i64) w A0_1 l0_1.length l0_1) (hc0_1 : l0_1.length ≤ c0_1) (hr0_2 : Kd.C (Kd.int .i64) w A0_2 l0_2.length l0_2) (hc0_2 : l0_2.length ≤ c0_2) (hr1_0 : Kd.C (Kd.int .i64) w A1_0 l1_0.length l1_0) (hc1_0 : l1_0.length ≤ c1_0) (hr1_1 : Kd.C (Kd.int .i64) w A1_1 l1_1.length l1_1) (hc1_1 : l1_1.length ≤ c1_1) (hr1_2 : Kd.C (Kd.int .i64) w A1_2 l1_2.length l1_2) (hc1_2 : l1_2.length ≤ c1_2) (h : laws_sameConf.f k l0_0 l0_1 l0_2 l1_0 l1_1 l1_2 = some r) :
   Calls Try.prog 18 #[.agg #[.slice A0_0 l0_0.length c0_0, .slice A0_1 l0_1.length c0_1, .slice A0_2 l0_2.length c0_2], .agg #[.slice A1_0 l1_0.length c1_0, .slice A1_1 l1_1.length c1_1, .slice A1_2 l1_2.length c1_2]] w fun e w' => e = .returned (.bool r) ∧ Below w.heap.size w w' := by
 have hu26 := Try.underlying26
 have HR0_0 := am hr0_0
 have HC0_0 := am hc0_0
 clear hr0_0 hc0_0
 have HR0_1 := am hr0_1
 have HC0_1 := am hc0_1
 clear hr0_1 hc0_1
 have HR0_2 := am hr0_2
 have HC0_2 := am hc0_2
 clear hr0_2 hc0_2
 have HR1_0 := am hr1_0
 have HC1_0 := am hc1_0
 clear hr1_0 hc1_0
 have HR1_1 := am hr1_1
 have HC1_1 := am hc1_1
 clear hr1_1 hc1_1
 have HR1_2 := am hr1_2
 have HC1_2 := am hc1_2
 clear hr1_2 hc1_2
 have HB := am (Below.refl w.heap.size w)
 have H : ((laws_sameInts.f k l0_0 l1_0).bind fun t600 => (if t600 = true then ((laws_sameInts.f k l0_1 l1_1).bind fun t601 => (if t601 = true then ((laws_sameInts.f k l0_2 l1_2).bind fun t602 => (some t602)) else (some false))) else (some false))) = some r := h
 clear h
 replace H := Option.bind_eq_some_iff.mp H
 obtain ⟨t600, A30, H⟩ := H
 have A3 := am A30
 clear A30
 by_cases c4 : t600 = true
 rotate_left
 · replace c4 := Bool.eq_false_iff.mpr c4
   subst c4
   rw [nf] at H
   obtain rfl := sj H
   go_enter Try.func18, Try.ntmps18
   go_wp2_with (first | ((with_reducible refine gate_dst (N := 2) rfl ?_); refine box_event ?hg (N := 2) ?hd (cs := #[.slice A0_0 l0_0.length c0_0, .slice A0_1 l0_1.length c0_1, .slice A0_2 l0_2.length c0_2]) (t := 26) ?hr ?_; (case hd => rfl); (case hg => rfl); (case hr => first | (go_simp; done) | (go_simp; rfl)); intro gb598 hg w18 hbox hb; have BK598 := am (hbox); have GW598 := am ((by rw [hg]; exact (below_size q0) : w.heap.size ≤ gb598)); have GE598 := am ((by rw [hg]; exact (below_size q0) : w.heap.size ≤ gb598)); replace HB := am (below_step q0 hb); clear hb hbox hg) | ((with_reducible refine gate_dst (N := 3) rfl ?_); refine box_event ?hg (N := 3) ?hd (cs := #[.slice A1_0 l1_0.length c1_0, .slice A1_1 l1_1.length c1_1, .slice A1_2 l1_2.length c1_2]) (t := 26) ?hr ?_; (case hd => rfl); (case hg => rfl); (case hr => first | (go_simp; done) | (go_simp; rfl)); intro gb599 hg w19 hbox hb; have BK599 := am (hbox); have GW599 := am ((by rw [hg]; exact (below_size q0) : w.heap.size ≤ gb599)); have GE599 := am ((by rw [hg]; exact (below_size q0) : w.heap.size ≤ gb599)); replace HB := am (below_step q0 hb); have NB598_599 := am ((by rw [hg]; exact Nat.ne_of_lt (blk_lt (g := gb598) (o := .cells #[.slice A0_0 l0_0.length c0_0, .slice A0_1 l0_1.length c0_1, .slice A0_2 l0_2.length c0_2] 26 (0, 0)) u13_8) : gb598 ≠ gb599)); have NB599_598 := am ((by rw [hg]; exact Nat.ne_of_gt (blk_lt (g := gb598) (o := .cells #[.slice A0_0 l0_0.length c0_0, .slice A0_1 l0_1.length c0_1, .slice A0_2 l0_2.length c0_2] 26 (0, 0)) u13_8) : gb599 ≠ gb598)); replace BK598 := am (blk_below (g := gb598) (o := .cells #[.slice A0_0 l0_0.length c0_0, .slice A0_1 l0_1.length c0_1, .slice A0_2 l0_2.length c0_2] 26 (0, 0)) u13_8 hb); clear hb hbox hg; have hnb20 := NB598_599.out; have hnc20 := NB599_598.out; obtain ⟨hcz21_0, hcz21_1, hcz21_2⟩ := bc3 w19 BK598.out; obtain ⟨hcz22_0, hcz22_1, hcz22_2, hfz22_0, hfz22_1, hfz22_2⟩ := bc3f w19 BK599.out) | ((with_reducible refine gate_callee (f := 14) rfl ?_); refine goesL_ (some 9) rfl rfl Try.func14 kr rfl #[.slice A0_0 l0_0.length c0_0, .slice A1_0 l1_0.length c1_0] rfl q1 ?_; (with_reducible refine (laws_sameInts.calls k _ _ l0_0 _ _ l1_0 false _ ?side1 ?side2 ?side3 ?side4 A3.out).mono ?_); (case side1 => exact q6); (case side2 => exact HC0_0.out); (case side3 => exact u13_24); (case side4 => exact HC1_0.out); rintro e w' ⟨rfl, ⟨nd, rfl⟩⟩; refine ⟨_, rfl, ?_⟩))
   go_ret
   exact ⟨er, q0⟩
 subst c4
 rw [if_pos rfl] at H
 replace H := Option.bind_eq_some_iff.mp H
 obtain ⟨t601, A50, H⟩ := H
 have A5 := am A50
 clear A50
 by_cases c6 : t601 = true
 rotate_left
 · replace c6 := Bool.eq_false_iff.mpr c6
   subst c6
   rw [nf] at H
   obtain rfl := sj H
   go_enter Try.func18, Try.ntmps18
   go_wp2_with (first | ((with_reducible refine gate_dst (N := 2) rfl ?_); refine box_event ?hg (N := 2) ?hd (cs := #[.slice A0_0 l0_0.length c0_0, .slice A0_1 l0_1.length c0_1, .slice A0_2 l0_2.length c0_2]) (t := 26) ?hr ?_; (case hd => rfl); (case hg => rfl); (case hr => first | (go_simp; done) | (go_simp; rfl)); intro gb598 hg w13 hbox hb; have BK598 := am (hbox); have GW598 := am ((by rw [hg]; exact (below_size q0) : w.heap.size ≤ gb598)); have GE598 := am ((by rw [hg]; exact (below_size q0) : w.heap.size ≤ gb598)); replace HB := am (below_step q0 hb); clear hb hbox hg) | ((with_reducible refine gate_dst (N := 3) rfl ?_); refine box_event ?hg (N := 3) ?hd (cs := #[.slice A1_0 l1_0.length c1_0, .slice A1_1 l1_1.length c1_1, .slice A1_2 l1_2.length c1_2]) (t := 26) ?hr ?_; (case hd => rfl); (case hg => rfl); (case hr => first | (go_simp; done) | (go_simp; rfl)); intro gb599 hg w14 hbox hb; have BK599 := am (hbox); have GW599 := am ((by rw [hg]; exact (below_size q0) : w.heap.size ≤ gb599)); have GE599 := am ((by rw [hg]; exact (below_size q0) : w.heap.size ≤ gb599)); replace HB := am (below_step q0 hb); have NB598_599 := am ((by rw [hg]; exact Nat.ne_of_lt (blk_lt (g := gb598) (o := .cells #[.slice A0_0 l0_0.length c0_0, .slice A0_1 l0_1.length c0_1, .slice A0_2 l0_2.length c0_2] 26 (0, 0)) u13_8) : gb598 ≠ gb599)); have NB599_598 := am ((by rw [hg]; exact Nat.ne_of_gt (blk_lt (g := gb598) (o := .cells #[.slice A0_0 l0_0.length c0_0, .slice A0_1 l0_1.length c0_1, .slice A0_2 l0_2.length c0_2] 26 (0, 0)) u13_8) : gb599 ≠ gb598)); replace BK598 := am (blk_below (g := gb598) (o := .cells #[.slice A0_0 l0_0.length c0_0, .slice A0_1 l0_1.length c0_1, .slice A0_2 l0_2.length c0_2] 26 (0, 0)) u13_8 hb); clear hb hbox hg; have hnb15 := NB598_599.out; have hnc15 := NB599_598.out; obtain ⟨hcz16_0, hcz16_1, hcz16_2⟩ := bc3 w14 BK598.out; obtain ⟨hcz17_0, hcz17_1, hcz17_2, hfz17_0, hfz17_1, hfz17_2⟩ := bc3f w14 BK599.out) | ((with_reducible refine gate_callee (f := 14) rfl ?_); refine goesL_ (some 9) rfl rfl Try.func14 kr rfl #[.slice A0_0 l0_0.length c0_0, .slice A1_0 l1_0.length c1_0] rfl q1 ?_; (with_reducible refine (laws_sameInts.calls k _ _ l0_0 _ _ l1_0 true _ ?side1 ?side2 ?side3 ?side4 A3.out).mono ?_); (case side1 => exact q6); (case side2 => exact HC0_0.out); (case side3 => exact u13_24); (case side4 => exact HC1_0.out); rintro e w' ⟨rfl, ⟨nd, rfl⟩⟩; refine ⟨_, rfl, ?_⟩) | (go_at_call 14; (with_reducible refine (laws_sameInts.calls k _ _ l0_1 _ _ l1_1 false _ ?side1 ?side2 ?side3 ?side4 A5.out).mono ?_); (case side1 => exact u13_34); (case side2 => exact HC0_1.out); (case side3 => exact u13_35); (case side4 => exact HC1_1.out); rintro e w' ⟨rfl, ⟨nd, rfl⟩⟩))
   go_ret
   exact ⟨er, q0⟩
 subst c6
 rw [if_pos rfl] at H
 replace H := Option.bind_eq_some_iff.mp H
 obtain ⟨t602, A70, H⟩ := H
 replace H : (some t602) = some r := H
 have A7 := am A70
 clear A70
 obtain rfl := sj H
 go_enter Try.func18, Try.ntmps18
 go_wp2_with (first | ((with_reducible refine gate_dst (N := 2) rfl ?_); refine box_event ?hg (N := 2) ?hd (cs := #[.slice A0_0 l0_0.length c0_0, .slice A0_1 l0_1.length c0_1, .slice A0_2 l0_2.length c0_2]) (t := 26) ?hr ?_; (case hd => rfl); (case hg => rfl); (case hr => first | (go_simp; done) | (go_simp; rfl)); intro gb598 hg w8 hbox hb; have BK598 := am (hbox); have GW598 := am ((by rw [hg]; exact (below_size q0) : w.heap.size ≤ gb598)); have GE598 := am ((by rw [hg]; exact (below_size q0) : w.heap.size ≤ gb598)); replace HB := am (below_step q0 hb); clear hb hbox hg) | ((with_reducible refine gate_dst (N := 3) rfl ?_); refine box_event ?hg (N := 3) ?hd (cs := #[.slice A1_0 l1_0.length c1_0, .slice A1_1 l1_1.length c1_1, .slice A1_2 l1_2.length c1_2]) (t := 26) ?hr ?_; (case hd => rfl); (case hg => rfl); (case hr => first | (go_simp; done) | (go_simp; rfl)); intro gb599 hg w9 hbox hb; have BK599 := am (hbox); have GW599 := am ((by rw [hg]; exact (below_size q0) : w.heap.size ≤ gb599)); have GE599 := am ((by rw [hg]; exact (below_size q0) : w.heap.size ≤ gb599)); replace HB := am (below_step q0 hb); have NB598_599 := am ((by rw [hg]; exact Nat.ne_of_lt (blk_lt (g := gb598) (o := .cells #[.slice A0_0 l0_0.length c0_0, .slice A0_1 l0_1.length c0_1, .slice A0_2 l0_2.length c0_2] 26 (0, 0)) u13_8) : gb598 ≠ gb599)); have NB599_598 := am ((by rw [hg]; exact Nat.ne_of_gt (blk_lt (g := gb598) (o := .cells #[.slice A0_0 l0_0.length c0_0, .slice A0_1 l0_1.length c0_1, .slice A0_2 l0_2.length c0_2] 26 (0, 0)) u13_8) : gb599 ≠ gb598)); replace BK598 := am (blk_below (g := gb598) (o := .cells #[.slice A0_0 l0_0.length c0_0, .slice A0_1 l0_1.length c0_1, .slice A0_2 l0_2.length c0_2] 26 (0, 0)) u13_8 hb); clear hb hbox hg; have hnb10 := NB598_599.out; have hnc10 := NB599_598.out; obtain ⟨hcz11_0, hcz11_1, hcz11_2⟩ := bc3 w9 BK598.out; obtain ⟨hcz12_0, hcz12_1, hcz12_2, hfz12_0, hfz12_1, hfz12_2⟩ := bc3f w9 BK599.out) | ((with_reducible refine gate_callee (f := 14) rfl ?_); refine goesL_ (some 9) rfl rfl Try.func14 kr rfl #[.slice A0_0 l0_0.length c0_0, .slice A1_0 l1_0.length c1_0] rfl q1 ?_; (with_reducible refine (laws_sameInts.calls k _ _ l0_0 _ _ l1_0 true _ ?side1 ?side2 ?side3 ?side4 A3.out).mono ?_); (case side1 => exact q6); (case side2 => exact HC0_0.out); (case side3 => exact u13_24); (case side4 => exact HC1_0.out); rintro e w' ⟨rfl, ⟨nd, rfl⟩⟩; refine ⟨_, rfl, ?_⟩) | (go_at_call 14; (with_reducible refine (laws_sameInts.calls k _ _ l0_1 _ _ l1_1 true _ ?side1 ?side2 ?side3 ?side4 A5.out).mono ?_); (case side1 => exact u13_34); (case side2 => exact HC0_1.out); (case side3 => exact u13_35); (case side4 => exact HC1_1.out); rintro e w' ⟨rfl, ⟨nd, rfl⟩⟩) | (go_at_call 14; (with_reducible refine (laws_sameInts.calls k _ _ l0_2 _ _ l1_2 t602 _ ?side1 ?side2 ?side3 ?side4 A7.out).mono ?_); (case side1 => exact (by repeat (first | exact (Kd.C_below HR0_2.out q0) | (with_reducible refine Kd.C_alloc ?_ _) | (with_reducible refine Kd.C_drewN ?_ _) | (with_reducible refine Kd.C_drew ?_)))); (case side2 => exact HC0_2.out); (case side3 => exact (by repeat (first | exact (Kd.C_below HR1_2.out q0) | (with_reducible refine Kd.C_alloc ?_ _) | (with_reducible refine Kd.C_drewN ?_ _) | (with_reducible refine Kd.C_drew ?_)))); (case side4 => exact HC1_2.out); rintro e w' ⟨rfl, ⟨nd, rfl⟩⟩))
 go_ret
 exact ⟨er, q0⟩

/-! ### slices_Sort_int_int: function 50 -/
def slices_Sort_int_int.enc (x : Int) : List Value := [.int .i64 x]
theorem slices_Sort_int_int.flat : Go.Proofs.Ytoemdmjdpikfbaa.Slc.Flat (Kd.int .i64) slices_Sort_int_int.enc := ⟨fun w base ok x => rfl, fun h => h⟩
theorem slices_Sort_int_int.cells (l : List Int) : Go.Proofs.Ytoemdmjdpikfbaa.Slc.cellsOf slices_Sort_int_int.enc l = l.map (Value.int .i64) := by
 induction l with
 | nil => rfl
 | cons x l ih => simpa [Go.Proofs.Ytoemdmjdpikfbaa.Slc.cellsOf, slices_Sort_int_int.enc] using ih
theorem slices_Sort_int_int.holds {w : World} {g n : Nat} {cur : Array Value} {l : List Int} (hb : w.heap[g]? = some (.cells cur 3 (0, 0))) (ht : cur.toList.take (l.length * 1) = Go.Proofs.Ytoemdmjdpikfbaa.Slc.cellsOf slices_Sort_int_int.enc l) : Go.Sort.Holds (Value.int .i64) w g 0 l.toArray := by
 intro j hj
 have hj' : j < l.length := by simpa using hj
 rw [slices_Sort_int_int.cells] at ht
 refine ⟨?_, by rw [Nat.zero_add]; exact blk_frozen hb j⟩
 rw [Nat.zero_add, blk_cell hb]
 have h1 : cur[j]? = (l.map (Value.int .i64))[j]? := by rw [← ht, List.getElem?_take_of_lt (by omega), Array.getElem?_toList]
 rw [h1, List.getElem?_map, List.getElem?_eq_getElem hj', getElem!_pos _ j hj]
 simp
/-- The row when its first cells are written. -/
theorem slices_Sort_int_int.put {w w0 : World} {P : Nat → Prop} {g n c m q : Nat} {cur : Array Value} {ys ws : List Int} {os : Array Obj} (hB : Below w0.heap.size w0 w) (hg : w0.heap.size ≤ g) (hP : P g) (hb : w.heap[g]? = some (.cells cur 3 (0, 0))) (hs : cur.size = c * 1) (hn : n ≤ c) (hm : c ≤ maxLen) (hy : ys.length = n) (hw : ws = ys.take m) (hmn : m ≤ n) :
   Kd.R (Kd.int .i64) 3 (Go.Sort.grow ((w.drewN q).setCells g 0 (ys.map (Value.int .i64))) os) w0.heap.size (fun k_ => (P k_ ∨ w.heap.size ≤ k_)) (.slice (some ⟨g, 0, none⟩) m c) ws ∧ Below w0.heap.size w0 (Go.Sort.grow ((w.drewN q).setCells g 0 (ys.map (Value.int .i64))) os) ∧ Kept w (Go.Sort.grow ((w.drewN q).setCells g 0 (ys.map (Value.int .i64))) os) (fun k_ => P k_) := by
 obtain ⟨W, hW⟩ : ∃ W, W = (w.drewN q).setCells g 0 (ys.map (Value.int .i64)) := ⟨_, rfl⟩
 obtain ⟨cur', h1, h2, h3, h4⟩ := Go.Proofs.Ytoemdmjdpikfbaa.Slc.setCells_blk g 3 (ys.map (Value.int .i64)) 0 (w.drewN q) cur hb
 have hBW : Below w0.heap.size w0 W := by rw [hW]; exact Go.Proofs.Ytoemdmjdpikfbaa.Slc.below_setCells hg _ _ (pw_below_drewN hB q)
 have hKW : Kept w W (fun k_ => P k_) := by rw [hW]; exact Go.Proofs.Ytoemdmjdpikfbaa.Slc.kept_setCells (.inl hP) _ _ (Kept.drewN (Kept.refl w _) q)
 rw [← hW] at h1 ⊢
 have hlt : g < W.heap.size := blk_lt h1
 have up : ∀ i, i < W.heap.size → (Go.Sort.grow W os).heap[i]? = W.heap[i]? := fun i hi => Array.getElem?_append_left hi
 have hsz : W.heap.size ≤ (Go.Sort.grow W os).heap.size := by simp [Go.Sort.grow]
 refine ⟨slices_Sort_int_int.flat.row ((up g hlt).trans h1) hg (.inl hP) (by rw [hw, List.length_take]; omega) (by omega) hm (h2.trans hs) ?_, ⟨hBW.os, hBW.tape, hBW.output, Nat.le_trans hBW.size hsz, fun i hi => (up i (Nat.lt_of_lt_of_le hi hBW.size)).trans (hBW.block i hi)⟩, ⟨Nat.le_trans hKW.1 hsz, fun i hi hn => (up i (Nat.lt_of_lt_of_le hi hKW.1)).trans (hKW.2 i hi hn)⟩⟩
 rw [slices_Sort_int_int.cells, hw]
 show cur'.toList.take (m * 1) = _
 rw [Nat.mul_one]
 apply List.ext_getElem?
 intro j
 by_cases hj : j < m
 rotate_left
 · rw [List.getElem?_eq_none (by rw [List.length_take]; omega), List.getElem?_eq_none (by rw [List.length_map, List.length_take]; omega)]
 have := h4 j (by rw [List.length_map]; omega) (by omega)
 rw [Nat.zero_add] at this
 rw [List.getElem?_take_of_lt hj, Array.getElem?_toList, this, List.map_take, List.getElem?_take_of_lt hj]
def slices_Sort_int_int.f (l0 : List Int) : Option (List Int) := if l0.length < 4611686018427387904 then some (l0.mergeSort fun x y => decide (x ≤ y)) else none
theorem slices_Sort_int_int.calls (P0_ : Nat → Prop) (u9000_ : Value) (l0 : List Int) (r : List Int) (w0 w : World) (hB : Below w0.heap.size w0 w) (ho0 : Kd.R (Kd.int .i64) 3 w w0.heap.size P0_ u9000_ l0) (h : slices_Sort_int_int.f l0 = some r) :
   Calls Try.prog 50 #[u9000_] w fun e w' => e = .returned (.tuple #[]) ∧ Kd.R (Kd.int .i64) 3 w' w0.heap.size (fun k_ => (P0_ k_ ∨ w.heap.size ≤ k_)) u9000_ r ∧ Below w0.heap.size w0 w' ∧ Kept w w' (fun k_ => P0_ k_) := by
 unfold slices_Sort_int_int.f at h
 by_cases hl : l0.length < 4611686018427387904
 rotate_left
 · rw [if_neg hl] at h; cases h
 rw [if_pos hl] at h
 obtain rfl := Option.some.inj h
 by_cases h0 : 0 < l0.length
 rotate_left
 · have hn : l0 = [] := List.eq_nil_of_length_eq_zero (by omega)
   subst hn
   obtain ⟨A0, c0, rfl, _, _⟩ := Kd.R_reads ho0
   refine (Go.Proofs.Ytoemdmjdpikfbaa.Shelf.Try.slices_Sort_int_none A0 c0 w).mono ?_
   rintro e w' ⟨rfl, rfl⟩
   exact ⟨rfl, (by simpa using Kd.R_mono ho0 (fun k hk => .inl hk)), hB, Kept.refl _ _⟩
 obtain ⟨g, c, cur, rfl, hg, hP, hb, hc, hm, hs, ht⟩ := slices_Sort_int_int.flat.block ho0 h0
 have hH := slices_Sort_int_int.holds (n := 0) hb ht
 refine (Go.Proofs.Ytoemdmjdpikfbaa.Shelf.Try.slices_Sort_int g 0 c l0 w hH (blk_lt hb) hl).mono ?_
 rintro e w' ⟨rfl, q, os, rfl⟩
 rw [Lib.putRow_eq_setCells _ w g 0 _ _ q hH (by simp)]
 have hp := slices_Sort_int_int.put (q := q) (os := os) (m := l0.length) hB hg hP hb hs hc hm (ys := l0.mergeSort fun x y => decide (x ≤ y)) (n := l0.length) (by simp) (ws := l0.mergeSort fun x y => decide (x ≤ y)) (by rw [List.take_of_length_le (by simp)]) (Nat.le_refl _)
 exact ⟨rfl, hp⟩


/-! ### slices_Compact_int_int: function 51 -/
def slices_Compact_int_int.enc (x : Int) : List Value := [.int .i64 x]
theorem slices_Compact_int_int.flat : Go.Proofs.Ytoemdmjdpikfbaa.Slc.Flat (Kd.int .i64) slices_Compact_int_int.enc := ⟨fun w base ok x => rfl, fun h => h⟩
theorem slices_Compact_int_int.cells (l : List Int) : Go.Proofs.Ytoemdmjdpikfbaa.Slc.cellsOf slices_Compact_int_int.enc l = l.map (Value.int .i64) := by
 induction l with
 | nil => rfl
 | cons x l ih => simpa [Go.Proofs.Ytoemdmjdpikfbaa.Slc.cellsOf, slices_Compact_int_int.enc] using ih
theorem slices_Compact_int_int.holds {w : World} {g n : Nat} {cur : Array Value} {l : List Int} (hb : w.heap[g]? = some (.cells cur 3 (0, 0))) (ht : cur.toList.take (l.length * 1) = Go.Proofs.Ytoemdmjdpikfbaa.Slc.cellsOf slices_Compact_int_int.enc l) : Go.Sort.Holds (Value.int .i64) w g 0 l.toArray := by
 intro j hj
 have hj' : j < l.length := by simpa using hj
 rw [slices_Compact_int_int.cells] at ht
 refine ⟨?_, by rw [Nat.zero_add]; exact blk_frozen hb j⟩
 rw [Nat.zero_add, blk_cell hb]
 have h1 : cur[j]? = (l.map (Value.int .i64))[j]? := by rw [← ht, List.getElem?_take_of_lt (by omega), Array.getElem?_toList]
 rw [h1, List.getElem?_map, List.getElem?_eq_getElem hj', getElem!_pos _ j hj]
 simp
/-- The row when its first cells are written. -/
theorem slices_Compact_int_int.put {w w0 : World} {P : Nat → Prop} {g n c m q : Nat} {cur : Array Value} {ys ws : List Int} {os : Array Obj} (hB : Below w0.heap.size w0 w) (hg : w0.heap.size ≤ g) (hP : P g) (hb : w.heap[g]? = some (.cells cur 3 (0, 0))) (hs : cur.size = c * 1) (hn : n ≤ c) (hm : c ≤ maxLen) (hy : ys.length = n) (hw : ws = ys.take m) (hmn : m ≤ n) :
   Kd.R (Kd.int .i64) 3 (Go.Sort.grow ((w.drewN q).setCells g 0 (ys.map (Value.int .i64))) os) w0.heap.size (fun k_ => (P k_ ∨ w.heap.size ≤ k_)) (.slice (some ⟨g, 0, none⟩) m c) ws ∧ Below w0.heap.size w0 (Go.Sort.grow ((w.drewN q).setCells g 0 (ys.map (Value.int .i64))) os) ∧ Kept w (Go.Sort.grow ((w.drewN q).setCells g 0 (ys.map (Value.int .i64))) os) (fun k_ => P k_) := by
 obtain ⟨W, hW⟩ : ∃ W, W = (w.drewN q).setCells g 0 (ys.map (Value.int .i64)) := ⟨_, rfl⟩
 obtain ⟨cur', h1, h2, h3, h4⟩ := Go.Proofs.Ytoemdmjdpikfbaa.Slc.setCells_blk g 3 (ys.map (Value.int .i64)) 0 (w.drewN q) cur hb
 have hBW : Below w0.heap.size w0 W := by rw [hW]; exact Go.Proofs.Ytoemdmjdpikfbaa.Slc.below_setCells hg _ _ (pw_below_drewN hB q)
 have hKW : Kept w W (fun k_ => P k_) := by rw [hW]; exact Go.Proofs.Ytoemdmjdpikfbaa.Slc.kept_setCells (.inl hP) _ _ (Kept.drewN (Kept.refl w _) q)
 rw [← hW] at h1 ⊢
 have hlt : g < W.heap.size := blk_lt h1
 have up : ∀ i, i < W.heap.size → (Go.Sort.grow W os).heap[i]? = W.heap[i]? := fun i hi => Array.getElem?_append_left hi
 have hsz : W.heap.size ≤ (Go.Sort.grow W os).heap.size := by simp [Go.Sort.grow]
 refine ⟨slices_Compact_int_int.flat.row ((up g hlt).trans h1) hg (.inl hP) (by rw [hw, List.length_take]; omega) (by omega) hm (h2.trans hs) ?_, ⟨hBW.os, hBW.tape, hBW.output, Nat.le_trans hBW.size hsz, fun i hi => (up i (Nat.lt_of_lt_of_le hi hBW.size)).trans (hBW.block i hi)⟩, ⟨Nat.le_trans hKW.1 hsz, fun i hi hn => (up i (Nat.lt_of_lt_of_le hi hKW.1)).trans (hKW.2 i hi hn)⟩⟩
 rw [slices_Compact_int_int.cells, hw]
 show cur'.toList.take (m * 1) = _
 rw [Nat.mul_one]
 apply List.ext_getElem?
 intro j
 by_cases hj : j < m
 rotate_left
 · rw [List.getElem?_eq_none (by rw [List.length_take]; omega), List.getElem?_eq_none (by rw [List.length_map, List.length_take]; omega)]
 have := h4 j (by rw [List.length_map]; omega) (by omega)
 rw [Nat.zero_add] at this
 rw [List.getElem?_take_of_lt hj, Array.getElem?_toList, this, List.map_take, List.getElem?_take_of_lt hj]
def slices_Compact_int_int.f (l0 : List Int) : Option (List Int) := if l0.length < 4611686018427387904 then some (Lib.compact l0) else none
theorem slices_Compact_int_int.calls (P0_ : Nat → Prop) (u9000_ : Value) (l0 : List Int) (r : List Int) (w0 w : World) (hB : Below w0.heap.size w0 w) (ho0 : Kd.R (Kd.int .i64) 3 w w0.heap.size P0_ u9000_ l0) (h : slices_Compact_int_int.f l0 = some r) :
   Calls Try.prog 51 #[u9000_] w fun e w' => ∃ v0_ : Value, e = .returned (v0_) ∧ Kd.R (Kd.int .i64) 3 w' w0.heap.size (fun k_ => (P0_ k_ ∨ w.heap.size ≤ k_)) v0_ r ∧ Below w0.heap.size w0 w' ∧ Kept w w' (fun k_ => P0_ k_) := by
 unfold slices_Compact_int_int.f at h
 by_cases hl : l0.length < 4611686018427387904
 rotate_left
 · rw [if_neg hl] at h; cases h
 rw [if_pos hl] at h
 obtain rfl := Option.some.inj h
 by_cases h0 : 0 < l0.length
 rotate_left
 · have hn : l0 = [] := List.eq_nil_of_length_eq_zero (by omega)
   subst hn
   obtain ⟨A0, c0, rfl, _, _⟩ := Kd.R_reads ho0
   refine (Go.Proofs.Ytoemdmjdpikfbaa.Shelf.Try.slices_Compact_int_empty A0 c0 w).mono ?_
   rintro e w' ⟨rfl, rfl⟩
   refine ⟨_, rfl, ?_, hB, Kept.refl _ _⟩
   rw [show Lib.compact ([] : List Int) = [] from rfl]
   simpa using Kd.R_mono (ok' := fun k_ => (P0_ k_ ∨ w'.heap.size ≤ k_)) ho0 (fun k hk => .inl hk)
 obtain ⟨g, c, cur, rfl, hg, hP, hb, hc, hm, hs, ht⟩ := slices_Compact_int_int.flat.block ho0 h0
 have hH := slices_Compact_int_int.holds (n := 0) hb ht
 refine (Go.Proofs.Ytoemdmjdpikfbaa.Shelf.Try.slices_Compact_int g 0 c l0 w hH (by omega) hc).mono ?_
 rintro e w' ⟨rfl, q, rfl⟩
 have hcl : (Lib.compact l0).length ≤ l0.length := Lib.compact_length_le l0
 rw [Lib.putRow_eq_setCells _ w g 0 _ _ q hH (by simp; omega)]
 have hp := slices_Compact_int_int.put (q := q) (os := #[]) (m := (Lib.compact l0).length) hB hg hP hb hs hc hm (ys := Lib.compact l0 ++ List.replicate (l0.length - (Lib.compact l0).length) 0) (n := l0.length) (by simp; omega) (ws := Lib.compact l0) (by simp) hcl
 rw [Go.Sort.grow_empty] at hp
 exact ⟨_, rfl, hp⟩


end Go.Proofs.Ytoemdmjdpikfbaa.QFnConfs
