import Derived.Test.YtoemdmjdpikfbaaSqFnExactPlayConf
import Derived.Test.YtoemdmjdpikfbaaQFnExactPlayConfx0
import Derived.Test.YtoemdmjdpikfbaaQFnExactPlayConfx9
import Derived.Test.YtoemdmjdpikfbaaQFnExactPlayConfx10
import Derived.Test.YtoemdmjdpikfbaaQFnExactPlayConfx12
namespace Go.Proofs.Ytoemdmjdpikfbaa.QFnExactPlayConf
open Go.RowKit Go.Proofs.YtoemdmjdpikfbaaW.PrintWords Go.Proofs.YtoemdmjdpikfbaaW.PrintLast Go.Proofs.YtoemdmjdpikfbaaW.PrintMore Go.Proofs.Ytoemdmjdpikfbaa.SqFnExactPlayConf
attribute [local go_sem] max2_int min2_int max_two min_two max_three min_three max_four min_four Go.Proofs.Ytoemdmjdpikfbaa.Set.isSome_setCell
set_option linter.unusedVariables false
set_option linter.unusedSimpArgs false
theorem u13_1 {P : Prop} (h : P := by (with_reducible repeat (first | apply b1_ | apply b2_ | apply b3_)); exact BK477.out) : P := h
theorem u13_3 {P : Prop} (h : P := by (with_reducible repeat (first | apply b1_ | apply b2_ | apply b3_)); exact BK478.out) : P := h
theorem u13_5 {P : Prop} (h : P := by (with_reducible repeat (first | apply r1_ | apply r2_ | apply r3_)); exact HO_489000.out) : P := h
theorem u13_6 {P : Prop} (h : P := by (with_reducible repeat (first | apply r1_ | apply r2_ | apply r3_)); exact HO_489001.out) : P := h
theorem u13_7 {P : Prop} (h : P := by (with_reducible repeat (first | apply b1_ | apply b2_ | apply b3_)); refine blk_put (cs := #[.slice Ao13 t479.length co13, .slice Ao17 t482.length co17, .slice none 0 0]) ?_ 2 _ rfl; (with_reducible repeat (first | apply b1_ | apply b2_ | apply b3_)); refine blk_put (cs := #[.slice Ao13 t479.length co13, .slice none 0 0, .slice none 0 0]) ?_ 1 _ rfl; (with_reducible repeat (first | apply b1_ | apply b2_ | apply b3_)); refine blk_put (cs := #[.slice none 0 0, .slice none 0 0, .slice none 0 0]) ?_ 0 _ rfl; (with_reducible repeat (first | apply b1_ | apply b2_ | apply b3_)); exact BK488.out) : P := h
theorem u13_8 {P : Prop} (h : P := by (with_reducible repeat (first | apply b1_ | apply b2_ | apply b3_)); refine blk_put (cs := #[.slice Ao13 t479.length co13, .slice Ao17 t482.length co17, .slice none 0 0]) ?_ 2 _ rfl; (with_reducible repeat (first | apply b1_ | apply b2_ | apply b3_)); refine blk_put (cs := #[.slice Ao13 t479.length co13, .slice none 0 0, .slice none 0 0]) ?_ 1 _ rfl; (with_reducible repeat (first | apply b1_ | apply b2_ | apply b3_)); refine blk_put (cs := #[.slice none 0 0, .slice none 0 0, .slice none 0 0]) ?_ 0 _ rfl; (with_reducible repeat (first | apply b1_ | apply b2_ | apply b3_)); exact BK478.out) : P := h
theorem u13_9 {P : Prop} (h : P := by (with_reducible repeat (first | apply b1_ | apply b2_ | apply b3_)); exact BK488.out) : P := h
theorem u13_10 {P : Prop} (h : P := by (with_reducible repeat (first | apply r1_ | apply r2_ | apply r3_)); exact HO_489002.out) : P := h
theorem u13_11 {P : Prop} (h : P := by (with_reducible repeat (first | apply b1_ | apply b2_ | apply b3_)); refine blk_far ?_ NB477_488.out _; (with_reducible repeat (first | apply b1_ | apply b2_ | apply b3_)); refine blk_far ?_ NB477_488.out _; (with_reducible repeat (first | apply b1_ | apply b2_ | apply b3_)); refine blk_far ?_ NB477_488.out _; (with_reducible repeat (first | apply b1_ | apply b2_ | apply b3_)); exact BK477.out) : P := h
theorem u13_12 {P : Prop} (h : P := by (with_reducible repeat (first | apply b1_ | apply b2_ | apply b3_)); refine blk_far ?_ NB478_488.out _; (with_reducible repeat (first | apply b1_ | apply b2_ | apply b3_)); refine blk_far ?_ NB478_488.out _; (with_reducible repeat (first | apply b1_ | apply b2_ | apply b3_)); refine blk_far ?_ NB478_488.out _; (with_reducible repeat (first | apply b1_ | apply b2_ | apply b3_)); exact BK478.out) : P := h
theorem u13_13 {P : Prop} (h : P := by (with_reducible repeat (first | apply r1_ | apply r2_ | apply r3_)); exact (Kd.R_mono (Kd.R_far (p := ⟨gb488, 2, none⟩) (Kd.R_far (p := ⟨gb488, 1, none⟩) (Kd.R_far (p := ⟨gb488, 0, none⟩) (Kd.R_types HO481.out BK488.out (by decide)) (fun _ hk => hk.2) (.slice Ao13 t479.length co13)) (fun _ hk => hk.2) (.slice Ao17 t482.length co17)) (fun _ hk => hk.2) (.slice Ao18 t485.length co18)) (fun _ h_ => h_.1))) : P := h
theorem u13_14 {P : Prop} (h : P := by (with_reducible repeat (first | apply r1_ | apply r2_ | apply r3_)); exact (Kd.R_mono (Kd.R_far (p := ⟨gb488, 2, none⟩) (Kd.R_far (p := ⟨gb488, 1, none⟩) (Kd.R_far (p := ⟨gb488, 0, none⟩) (Kd.R_types HO484.out BK488.out (by decide)) (fun _ hk => hk.2) (.slice Ao13 t479.length co13)) (fun _ hk => hk.2) (.slice Ao17 t482.length co17)) (fun _ hk => hk.2) (.slice Ao18 t485.length co18)) (fun _ h_ => h_.1))) : P := h
theorem u13_15 {P : Prop} (h : P := by (with_reducible repeat (first | apply r1_ | apply r2_ | apply r3_)); exact (Kd.R_mono (Kd.R_far (p := ⟨gb488, 2, none⟩) (Kd.R_far (p := ⟨gb488, 1, none⟩) (Kd.R_far (p := ⟨gb488, 0, none⟩) (Kd.R_types HO487.out BK488.out (by decide)) (fun _ hk => hk.2) (.slice Ao13 t479.length co13)) (fun _ hk => hk.2) (.slice Ao17 t482.length co17)) (fun _ hk => hk.2) (.slice Ao18 t485.length co18)) (fun _ h_ => h_.1))) : P := h
theorem u13_16 {P : Prop} (h : P := by (with_reducible repeat (first | apply b1_ | apply b2_ | apply b3_)); refine blk_put (cs := #[.slice Ao13 t479.length co13, .slice Ao17 t482.length co17, .slice Ao18 t485.length co18]) ?_ 2 _ rfl; (with_reducible repeat (first | apply b1_ | apply b2_ | apply b3_)); exact BK488.out) : P := h
theorem u13_19 {P : Prop} (h : P := by (with_reducible repeat (first | apply b1_ | apply b2_ | apply b3_)); refine blk_far ?_ NB477_488.out _; (with_reducible repeat (first | apply b1_ | apply b2_ | apply b3_)); exact BK477.out) : P := h
theorem u13_20 {P : Prop} (h : P := by (with_reducible repeat (first | apply b1_ | apply b2_ | apply b3_)); refine blk_far ?_ NB478_488.out _; (with_reducible repeat (first | apply b1_ | apply b2_ | apply b3_)); exact BK478.out) : P := h
theorem u13_21 {P : Prop} (h : P := by (with_reducible repeat (first | apply r1_ | apply r2_ | apply r3_)); exact HO481.out) : P := h
theorem u13_22 {P : Prop} (h : P := by (with_reducible repeat (first | apply r1_ | apply r2_ | apply r3_)); exact HO484.out) : P := h
theorem u13_23 {P : Prop} (h : P := by (with_reducible repeat (first | apply r1_ | apply r2_ | apply r3_)); exact HO487.out) : P := h
mutual
def impl_learner.j0 : Nat → Int → Bool → Int → Bool → List Int → List Int → List Int → List Int → List Int → List Int → Option (List Int × List Int × List Int × Bool)
 | 0, _, _, _, _, _, _, _, _, _, _ => none
 | k + 1, x1, x2, x9, x27, x478000, x478001, x478002, x489000, x489001, x489002 => if x27 = true then (some (x489000, x489001, x489002, false)) else (if x2 = true then ((slices_Insert_int_int.f x489002 x9 (([x1] : List Int))).bind fun t495 => (impl_learner.j1 k x478000 x478001 x478002 x489000 x489001 t495)) else ((slices_Delete_int_int.f x489002 x9 (wrap64 (x9 + 1))).bind fun t498 => (impl_learner.j1 k x478000 x478001 x478002 x489000 x489001 t498)))
def impl_learner.j1 : Nat → List Int → List Int → List Int → List Int → List Int → List Int → Option (List Int × List Int × List Int × Bool)
 | 0, _, _, _, _, _, _ => none
 | k + 1, x478000, x478001, x478002, x489000, x489001, x489002 => (impl_isConf.f k x489000 x489001 x489002).bind fun t501 => (if t501 = true then (some (x489000, x489001, x489002, true)) else ((impl_copyConf.f x478000 x478001 x478002).bind fun bt502 => (some (bt502.1, bt502.2.1, bt502.2.2, false))))
end
def impl_learner.f (k : Nat) (l0_0 : List Int) (l0_1 : List Int) (l0_2 : List Int) (a1 : Int) (a2 : Bool) : Option (List Int × List Int × List Int × Bool) := (impl_copyConf.f l0_0 l0_1 l0_2).bind fun bt479 => ((slices_BinarySearch_int_int.f k l0_2 a1).bind fun bt489 => ((impl_isConf.f k l0_0 l0_1 l0_2).bind fun t491 => (if t491 = true then (impl_learner.j0 k a1 a2 bt489.1 (bt489.2 == a2) l0_0 l0_1 l0_2 bt479.1 bt479.2.1 bt479.2.2) else (impl_learner.j0 k a1 a2 bt489.1 true l0_0 l0_1 l0_2 bt479.1 bt479.2.1 bt479.2.2))))
theorem impl_learner.mono_l : ∀ k, (∀ y0 y1 y2 y3 y4 y5 y6 y7 y8 y9, LeO (impl_learner.j0 k y0 y1 y2 y3 y4 y5 y6 y7 y8 y9) (impl_learner.j0 (k + 1) y0 y1 y2 y3 y4 y5 y6 y7 y8 y9)) ∧ (∀ y0 y1 y2 y3 y4 y5, LeO (impl_learner.j1 k y0 y1 y2 y3 y4 y5) (impl_learner.j1 (k + 1) y0 y1 y2 y3 y4 y5))
 | 0 => ⟨fun _ _ _ _ _ _ _ _ _ _ r h => by simp [impl_learner.j0] at h, fun _ _ _ _ _ _ r h => by simp [impl_learner.j1] at h⟩
 | k + 1 => by
   obtain ⟨ih0, ih1⟩ := impl_learner.mono_l k
   refine ⟨?_, ?_⟩ <;> intros <;> (first | unfold impl_learner.j0 | unfold impl_learner.j1) <;> repeat' first
   | (with_reducible exact ih0 _ _ _ _ _ _ _ _ _ _)
   | (with_reducible exact ih1 _ _ _ _ _ _)
   | (with_reducible exact impl_isConf.mono _ _ _ _)
   | (with_reducible exact slices_BinarySearch_int_int.mono _ _ _)
   | (with_reducible exact LeO.refl _)
   | (with_reducible exact LeO.none _)
   | (with_reducible refine LeO.ite ?_ ?_)
   | (with_reducible refine LeO.bind ?_ (fun _ => ?_))
   | exact ih0 _ _ _ _ _ _ _ _ _ _
   | exact ih1 _ _ _ _ _ _
   | exact impl_isConf.mono _ _ _ _
   | exact slices_BinarySearch_int_int.mono _ _ _
   | exact LeO.none _
   | refine LeO.ite ?_ ?_
   | refine LeO.bind ?_ (fun _ => ?_)
theorem impl_learner.mono : ∀ a0 a1 a2 a3 a4 k, LeO (impl_learner.f k a0 a1 a2 a3 a4) (impl_learner.f (k + 1) a0 a1 a2 a3 a4) := by
 intro a0 a1 a2 a3 a4 k
 obtain ⟨ih0, ih1⟩ := impl_learner.mono_l k
 unfold impl_learner.f
 repeat' first
     | (with_reducible exact ih0 _ _ _ _ _ _ _ _ _ _)
     | (with_reducible exact ih1 _ _ _ _ _ _)
     | (with_reducible exact impl_isConf.mono _ _ _ _)
     | (with_reducible exact slices_BinarySearch_int_int.mono _ _ _)
     | (with_reducible exact LeO.refl _)
     | (with_reducible exact LeO.none _)
     | (with_reducible refine LeO.ite ?_ ?_)
     | (with_reducible refine LeO.bind ?_ (fun _ => ?_))
     | exact ih0 _ _ _ _ _ _ _ _ _ _
     | exact ih1 _ _ _ _ _ _
     | exact impl_isConf.mono _ _ _ _
     | exact slices_BinarySearch_int_int.mono _ _ _
     | exact LeO.none _
     | refine LeO.ite ?_ ?_
     | refine LeO.bind ?_ (fun _ => ?_)
set_option maxHeartbeats 8000000 in
set_option maxRecDepth 100000 in
theorem impl_learner.calls (k : Nat) (A0_0 : Option Addr) (c0_0 : Nat) (l0_0 : List Int) (A0_1 : Option Addr) (c0_1 : Nat) (l0_1 : List Int) (A0_2 : Option Addr) (c0_2 : Nat) (l0_2 : List Int) (a1 : Int) (a2 : Bool) (r1 : List Int) (r2 : List Int) (r3 : List Int) (r4 : Bool) (w : World) (hr0_0 : Kd.C (Kd.int .i64) w A0_0 l0_0.length l0_0) (hc0_0 : l0_0.length ≤ c0_0) (hr0_1 : Kd.C (Kd.int .i64) w A0_1 l0_1.length l0_1) (hc0_1 : l0_1.length ≤ c0_1) (hr0_2 : Kd.C (Kd.int .i64) w A0_2 l0_2.length l0_2) (hc0_2 : l0_2.length ≤ c0_2) (h : impl_learner.f k l0_0 l0_1 l0_2 a1 a2 = some (r1, r2, r3, r4)) :
   Calls Try.prog 49 #[.agg #[.slice A0_0 l0_0.length c0_0, .slice A0_1 l0_1.length c0_1, .slice A0_2 l0_2.length c0_2], .int .i64 a1, .bool a2] w fun e w' => ∃ v0_ v1_ v2_ : Value, e = .returned (.tuple #[.agg #[v0_, v1_, v2_], .bool r4]) ∧ Kd.R (Kd.int .i64) 3 w' w.heap.size (fun k_ => some k_ ≠ (v1_ : Value).ownBlock ∧ some k_ ≠ (v2_ : Value).ownBlock) v0_ r1 ∧ Kd.R (Kd.int .i64) 3 w' w.heap.size (fun k_ => some k_ ≠ (v0_ : Value).ownBlock ∧ some k_ ≠ (v2_ : Value).ownBlock) v1_ r2 ∧ Kd.R (Kd.int .i64) 3 w' w.heap.size (fun k_ => some k_ ≠ (v0_ : Value).ownBlock ∧ some k_ ≠ (v1_ : Value).ownBlock) v2_ r3 ∧ Below w.heap.size w w' := by
 have hu26 := Try.underlying26
 have HR0_0 := am hr0_0
 have HC0_0 := am hc0_0
 clear hr0_0 hc0_0
 have HR0_1 := am hr0_1
 have HC0_1 := am hc0_1
 clear hr0_1 hc0_1
 have HR0_2 := am hr0_2
 have HC0_2 := am hc0_2
 clear hr0_2 hc0_2
 have HB := am (Below.refl w.heap.size w)
 have H : ((impl_copyConf.f l0_0 l0_1 l0_2).bind fun bt479 => ((slices_BinarySearch_int_int.f k l0_2 a1).bind fun bt489 => ((impl_isConf.f k l0_0 l0_1 l0_2).bind fun t491 => (if t491 = true then (impl_learner.j0 k a1 a2 bt489.1 (bt489.2 == a2) l0_0 l0_1 l0_2 bt479.1 bt479.2.1 bt479.2.2) else (impl_learner.j0 k a1 a2 bt489.1 true l0_0 l0_1 l0_2 bt479.1 bt479.2.1 bt479.2.2))))) = some (r1, r2, r3, r4) := h
 clear h
 replace H := Option.bind_eq_some_iff.mp H
 obtain ⟨⟨t479, t482, t485⟩, A40, H⟩ := H
 (try dsimp only at H)
 have A4 := am A40
 clear A40
 replace H := Option.bind_eq_some_iff.mp H
 obtain ⟨⟨t489, t490⟩, A50, H⟩ := H
 (try dsimp only at H)
 have A5 := am A50
 clear A50
 have HC6 := am H
 clear H
 go_enter Try.func49, Try.ntmps49
 go_upto_region 3 with (first | ((with_reducible refine gate_dst (N := 3) rfl ?_); refine box_event ?hg (N := 3) ?hd (cs := #[.slice A0_0 l0_0.length c0_0, .slice A0_1 l0_1.length c0_1, .slice A0_2 l0_2.length c0_2]) (t := 26) ?hr ?_; (case hd => rfl); (case hg => rfl); (case hr => first | (go_simp; done) | (go_simp; rfl)); intro gb477 hg w7 hbox hb; have BK477 := am (hbox); have GW477 := am ((by rw [hg]; exact (below_size Q6) : w.heap.size ≤ gb477)); have GE477 := am ((by rw [hg]; exact (below_size Q6) : w.heap.size ≤ gb477)); replace HB := am (below_step Q6 hb); clear hb hbox hg) | ((with_reducible refine gate_dst (N := 6) rfl ?_); refine box_event ?hg (N := 6) ?hd (cs := #[.slice none 0 0, .slice none 0 0, .slice none 0 0]) (t := 26) ?hr ?_; (case hd => rfl); (case hg => rfl); (case hr => first | (go_simp; done) | (go_simp; rfl)); intro gb478 hg w8 hbox hb; have BK478 := am (hbox); have GW478 := am ((by rw [hg]; exact (below_size Q6) : w.heap.size ≤ gb478)); have GE478 := am ((by rw [hg]; exact (below_size Q6) : w.heap.size ≤ gb478)); replace HB := am (below_step Q6 hb); have NB477_478 := am ((by rw [hg]; exact Nat.ne_of_lt (blk_lt (g := gb477) (o := .cells #[.slice A0_0 l0_0.length c0_0, .slice A0_1 l0_1.length c0_1, .slice A0_2 l0_2.length c0_2] 26 (0, 0)) u13_1) : gb477 ≠ gb478)); have NB478_477 := am ((by rw [hg]; exact Nat.ne_of_gt (blk_lt (g := gb477) (o := .cells #[.slice A0_0 l0_0.length c0_0, .slice A0_1 l0_1.length c0_1, .slice A0_2 l0_2.length c0_2] 26 (0, 0)) u13_1) : gb478 ≠ gb477)); replace BK477 := am (bb_ BK477.out u13_1 hb); clear hb hbox hg; have hnb9 := NB477_478.out; have hnc9 := NB478_477.out; obtain ⟨hcz10_0, hcz10_1, hcz10_2, hfz10_0, hfz10_1, hfz10_2⟩ := bc3f w8 BK477.out) | ((with_reducible refine gate_callee (f := 63) rfl ?_); refine goesL_ (some 12) rfl rfl Try.func63 kr rfl #[.agg #[.slice A0_0 l0_0.length c0_0, .slice A0_1 l0_1.length c0_1, .slice A0_2 l0_2.length c0_2]] rfl Q10 ?_; (with_reducible refine (impl_copyConf.calls _ _ l0_0 _ _ l0_1 _ _ l0_2 t479 t482 t485 _ ?side1 ?side2 ?side3 ?side4 ?side5 ?side6 A4.out).mono ?_); (case side1 => exact Q0); (case side2 => exact HC0_0.out); (case side3 => exact Q7); (case side4 => exact HC0_1.out); (case side5 => exact Q2); (case side6 => exact HC0_2.out); rintro e w11 ⟨v480, v483, v486, rfl, ho0, ho1, ho2, hb⟩; refine ⟨_, rfl, ?_⟩; have HO481 := am (Kd.R_lower ho0 (below_size Q6)); have HO484 := am (Kd.R_lower ho1 (below_size Q6)); have HO487 := am (Kd.R_lower ho2 (below_size Q6)); replace BK477 := am (bb_ BK477.out u13_1 hb); replace BK478 := am (bb_ BK478.out u13_3 hb); replace HB := am (below_step Q6 hb); (try clear hb); (try clear hb2); (try clear hk); (try clear hi); (try clear ho0); (try clear ho1); (try clear ho2)) | ((with_reducible refine gate_dst (N := 8) rfl ?_); refine box_event ?hg (N := 8) ?hd (cs := #[.slice none 0 0, .slice none 0 0, .slice none 0 0]) (t := 26) ?hr ?_; (case hd => rfl); (case hg => rfl); (case hr => first | (go_simp; done) | (go_simp; rfl)); intro gb488 hg w12 hbox hb; replace HO481 := am (Kd.R_below u13_21 hb); replace HO484 := am (Kd.R_below u13_22 hb); replace HO487 := am (Kd.R_below u13_23 hb); have BK488 := am (hbox); have GW488 := am ((by rw [hg]; exact (below_size Q6) : w.heap.size ≤ gb488)); have GE488 := am ((by rw [hg]; exact (below_size Q6) : w.heap.size ≤ gb488)); replace HB := am (below_step Q6 hb); have NB477_488 := am ((by rw [hg]; exact Nat.ne_of_lt (blk_lt (g := gb477) (o := .cells #[.slice A0_0 l0_0.length c0_0, .slice A0_1 l0_1.length c0_1, .slice A0_2 l0_2.length c0_2] 26 (0, 0)) u13_1) : gb477 ≠ gb488)); have NB488_477 := am ((by rw [hg]; exact Nat.ne_of_gt (blk_lt (g := gb477) (o := .cells #[.slice A0_0 l0_0.length c0_0, .slice A0_1 l0_1.length c0_1, .slice A0_2 l0_2.length c0_2] 26 (0, 0)) u13_1) : gb488 ≠ gb477)); replace BK477 := am (bb_ BK477.out u13_1 hb); have NB478_488 := am ((by rw [hg]; exact Nat.ne_of_lt (blk_lt (g := gb478) (o := .cells #[.slice none 0 0, .slice none 0 0, .slice none 0 0] 26 (0, 0)) u13_3) : gb478 ≠ gb488)); have NB488_478 := am ((by rw [hg]; exact Nat.ne_of_gt (blk_lt (g := gb478) (o := .cells #[.slice none 0 0, .slice none 0 0, .slice none 0 0] 26 (0, 0)) u13_3) : gb488 ≠ gb478)); replace BK478 := am (bb_ BK478.out u13_3 hb); clear hb hbox hg; obtain ⟨Ao13, co13, eo13⟩ := Kd.R_slice HO481.out; subst eo13; have hnb14 := NB488_477.out; have hnc14 := NB477_488.out; have hnb15 := NB488_478.out; have hnc15 := NB478_488.out; obtain ⟨hcz16_0, hcz16_1, hcz16_2, hfz16_0, hfz16_1, hfz16_2⟩ := bc3f w12 BK488.out; obtain ⟨Ao17, co17, eo17⟩ := Kd.R_slice HO484.out; subst eo17; obtain ⟨Ao18, co18, eo18⟩ := Kd.R_slice HO487.out; subst eo18; obtain ⟨hcz19_0, hcz19_1, hcz19_2, hfz19_0, hfz19_1, hfz19_2⟩ := bc3f w12 BK477.out) | ((with_reducible refine gate_callee (f := 76) rfl ?_); refine goesL_ (some 17) rfl rfl Try.func76 kr rfl #[.slice A0_2 l0_2.length c0_2, .int .i64 a1] rfl Q10 ?_; (with_reducible refine (slices_BinarySearch_int_int.calls k _ _ l0_2 a1 t489 t490 _ ?side1 ?side2 A5.out).mono ?_); (case side1 => exact (by exact Kd.C_below HR0_2.out Q6)); (case side2 => exact HC0_2.out); rintro e w' ⟨rfl, ⟨nd, rfl⟩⟩; refine ⟨_, rfl, ?_⟩))
 (try simp only [Act.put, la, lb, lc])
 go_cut [27] (fun v27 wc => ∃ (kq : Nat) (x27_5 : Bool), v27 = .bool x27_5 ∧ Aside0 (impl_learner.j0 kq a1 a2 t489 x27_5 l0_0 l0_1 l0_2 t479 t482 t485 = some (r1, r2, r3, r4)) ∧ Aside0 (kq ≤ k) ∧ Aside0 (Kd.R (Kd.int .i64) 3 wc w.heap.size (fun k_ => some k_ ≠ ((.slice Ao17 t482.length co17) : Value).ownBlock ∧ some k_ ≠ ((.slice Ao18 t485.length co18) : Value).ownBlock) (.slice Ao13 t479.length co13) t479) ∧ Aside0 (Kd.R (Kd.int .i64) 3 wc w.heap.size (fun k_ => some k_ ≠ ((.slice Ao13 t479.length co13) : Value).ownBlock ∧ some k_ ≠ ((.slice Ao18 t485.length co18) : Value).ownBlock) (.slice Ao17 t482.length co17) t482) ∧ Aside0 (Kd.R (Kd.int .i64) 3 wc w.heap.size (fun k_ => some k_ ≠ ((.slice Ao13 t479.length co13) : Value).ownBlock ∧ some k_ ≠ ((.slice Ao17 t482.length co17) : Value).ownBlock) (.slice Ao18 t485.length co18) t485) ∧ Aside0 (wc.heap[gb477]? = some (.cells #[(.slice A0_0 l0_0.length c0_0), (.slice A0_1 l0_1.length c0_1), (.slice A0_2 l0_2.length c0_2)] 26 (0, 0))) ∧ Aside0 (wc.heap[gb478]? = some (.cells #[(.slice none 0 0), (.slice none 0 0), (.slice none 0 0)] 26 (0, 0))) ∧ Aside0 (wc.heap[gb488]? = some (.cells #[(.slice Ao13 t479.length co13), (.slice Ao17 t482.length co17), (.slice Ao18 t485.length co18)] 26 (0, 0))) ∧ Aside0 (Below w.heap.size w wc))
 case first =>
   have H := HC6.out
   clear HC6
   replace H := Option.bind_eq_some_iff.mp H
   obtain ⟨t491, A200, H⟩ := H
   have A20 := am A200
   clear A200
   by_cases c21 : t491 = true
   · subst c21
     rw [if_pos rfl] at H
     have H' := am H
     clear H
     have hnb22 := NB477_478.out
     have hnc22 := NB478_477.out
     have hnb23 := NB477_488.out
     have hnc23 := NB488_477.out
     obtain ⟨hcz24_0, hcz24_1, hcz24_2, hfz24_0, hfz24_1, hfz24_2⟩ := bc3f w12 BK477.out
     go_wp2_with (first | ((with_reducible refine gate_callee (f := 48) rfl ?_); refine goesL_ (some 21) rfl rfl Try.func48 kr rfl #[.agg #[.slice A0_0 l0_0.length c0_0, .slice A0_1 l0_1.length c0_1, .slice A0_2 l0_2.length c0_2]] rfl Q10 ?_; (with_reducible refine (impl_isConf.calls k _ _ l0_0 _ _ l0_1 _ _ l0_2 true _ ?side1 ?side2 ?side3 ?side4 ?side5 ?side6 A20.out).mono ?_); (case side1 => exact (by exact Kd.C_below HR0_0.out Q6)); (case side2 => exact HC0_0.out); (case side3 => exact (by exact Kd.C_below HR0_1.out Q6)); (case side4 => exact HC0_1.out); (case side5 => exact (by exact Kd.C_below HR0_2.out Q6)); (case side6 => exact HC0_2.out); rintro e w25 ⟨rfl, hb⟩; refine ⟨_, rfl, ?_⟩; replace HO481 := am (Kd.R_below u13_13 hb); replace HO484 := am (Kd.R_below u13_14 hb); replace HO487 := am (Kd.R_below u13_15 hb); replace BK477 := am (blk_below (g := gb477) (o := .cells #[.slice A0_0 l0_0.length c0_0, .slice A0_1 l0_1.length c0_1, .slice A0_2 l0_2.length c0_2] 26 (0, 0)) u13_11 hb); replace BK478 := am (blk_below (g := gb478) (o := .cells #[.slice none 0 0, .slice none 0 0, .slice none 0 0] 26 (0, 0)) u13_12 hb); replace BK488 := am (blk_below (g := gb488) (o := .cells #[.slice Ao13 t479.length co13, .slice Ao17 t482.length co17, .slice Ao18 t485.length co18] 26 (0, 0)) u13_7 hb); replace HB := am (below_step Q6 hb); (try clear hb); (try clear hb2); (try clear hk); (try clear hi)))
     go_meet
     case rel => exact ⟨_, ((t490 == a2)), (by first | rfl | (simp; done) | (simp [*]; done)), H', ⟨by first | omega | exact Nat.le_refl _⟩, ⟨u13_21⟩, ⟨u13_22⟩, ⟨u13_23⟩, ⟨u13_1⟩, ⟨u13_3⟩, ⟨u13_9⟩, ⟨Q6⟩⟩
   replace c21 := Bool.eq_false_iff.mpr c21
   subst c21
   rw [nf] at H
   have H' := am H
   clear H
   have hnb26 := NB477_478.out
   have hnc26 := NB478_477.out
   have hnb27 := NB477_488.out
   have hnc27 := NB488_477.out
   obtain ⟨hcz28_0, hcz28_1, hcz28_2, hfz28_0, hfz28_1, hfz28_2⟩ := bc3f w12 BK477.out
   go_wp2_with (first | ((with_reducible refine gate_callee (f := 48) rfl ?_); refine goesL_ (some 21) rfl rfl Try.func48 kr rfl #[.agg #[.slice A0_0 l0_0.length c0_0, .slice A0_1 l0_1.length c0_1, .slice A0_2 l0_2.length c0_2]] rfl Q10 ?_; (with_reducible refine (impl_isConf.calls k _ _ l0_0 _ _ l0_1 _ _ l0_2 false _ ?side1 ?side2 ?side3 ?side4 ?side5 ?side6 A20.out).mono ?_); (case side1 => exact (by exact Kd.C_below HR0_0.out Q6)); (case side2 => exact HC0_0.out); (case side3 => exact (by exact Kd.C_below HR0_1.out Q6)); (case side4 => exact HC0_1.out); (case side5 => exact (by exact Kd.C_below HR0_2.out Q6)); (case side6 => exact HC0_2.out); rintro e w29 ⟨rfl, hb⟩; refine ⟨_, rfl, ?_⟩; replace HO481 := am (Kd.R_below u13_13 hb); replace HO484 := am (Kd.R_below u13_14 hb); replace HO487 := am (Kd.R_below u13_15 hb); replace BK477 := am (blk_below (g := gb477) (o := .cells #[.slice A0_0 l0_0.length c0_0, .slice A0_1 l0_1.length c0_1, .slice A0_2 l0_2.length c0_2] 26 (0, 0)) u13_11 hb); replace BK478 := am (blk_below (g := gb478) (o := .cells #[.slice none 0 0, .slice none 0 0, .slice none 0 0] 26 (0, 0)) u13_12 hb); replace BK488 := am (blk_below (g := gb488) (o := .cells #[.slice Ao13 t479.length co13, .slice Ao17 t482.length co17, .slice Ao18 t485.length co18] 26 (0, 0)) u13_7 hb); replace HB := am (below_step Q6 hb); (try clear hb); (try clear hb2); (try clear hk); (try clear hi)))
   go_meet
   case rel => exact ⟨_, (true), (by first | rfl | (simp; done) | (simp [*]; done)), H', ⟨by first | omega | exact Nat.le_refl _⟩, ⟨u13_21⟩, ⟨u13_22⟩, ⟨u13_23⟩, ⟨u13_1⟩, ⟨u13_3⟩, ⟨u13_9⟩, ⟨Q6⟩⟩
 clear HC6
 try clear hcz10_0
 try clear hcz10_1
 try clear hcz10_2
 try clear hcz16_0
 try clear hcz16_1
 try clear hcz16_2
 try clear hcz19_0
 try clear hcz19_1
 try clear hcz19_2
 try clear hfz10_0
 try clear hfz10_1
 try clear hfz10_2
 try clear hfz16_0
 try clear hfz16_1
 try clear hfz16_2
 try clear hfz19_0
 try clear hfz19_1
 try clear hfz19_2
 obtain ⟨kq, x27_5, rfl, HA, HJ5, HO_489000, HO_489001, HO_489002, BK477, BK478, BK488, HB⟩ := hcut
 cases kq with
 | zero => exact absurd HA.out (by simp [impl_learner.j0])
 | succ kj5 =>
   have H := HA.out
   clear HA
   simp only [impl_learner.j0] at H
   by_cases c30 : x27_5 = true
   · subst c30
     rw [if_pos rfl] at H
     simp only [Option.some.injEq, Prod.mk.injEq] at H
     obtain ⟨rfl, rfl, rfl, rfl⟩ := H
     have hnb31 := NB488_477.out
     have hnc31 := NB477_488.out
     have hnb32 := NB488_478.out
     have hnc32 := NB478_488.out
     obtain ⟨hcz33_0, hcz33_1, hcz33_2, hfz33_0, hfz33_1, hfz33_2⟩ := bc3f wc BK488.out
     have hnb34 := NB478_477.out
     have hnc34 := NB477_478.out
     obtain ⟨hcz35_0, hcz35_1, hcz35_2, hfz35_0, hfz35_1, hfz35_2⟩ := bc3f wc BK478.out
     go_wp2
     refine bodyPost_ret (results_ct rfl _ _ gb478 26 #[.slice Ao13 t479.length co13, .slice Ao17 t482.length co17, .slice Ao18 t485.length co18] (0, 0) _ rfl u13_8 Try.underlying26 rfl kr) rfl ?_
     exact ⟨_, _, _, er, (by (with_reducible repeat (first | apply r1_ | apply r2_ | apply r3_)); exact Kd.R_mono (Kd.R_far (p := ⟨gb478, 2, none⟩) (Kd.R_far (p := ⟨gb478, 1, none⟩) (Kd.R_far (p := ⟨gb478, 0, none⟩) (Kd.R_types HO_489000.out BK478.out (by decide)) (fun _ hk => hk.2) (.slice Ao13 t479.length co13)) (fun _ hk => hk.2) (.slice Ao17 t482.length co17)) (fun _ hk => hk.2) (.slice Ao18 t485.length co18)) (fun _ hk => ⟨hk.1.1, hk.1.2⟩)), (by (with_reducible repeat (first | apply r1_ | apply r2_ | apply r3_)); exact Kd.R_mono (Kd.R_far (p := ⟨gb478, 2, none⟩) (Kd.R_far (p := ⟨gb478, 1, none⟩) (Kd.R_far (p := ⟨gb478, 0, none⟩) (Kd.R_types HO_489001.out BK478.out (by decide)) (fun _ hk => hk.2) (.slice Ao13 t479.length co13)) (fun _ hk => hk.2) (.slice Ao17 t482.length co17)) (fun _ hk => hk.2) (.slice Ao18 t485.length co18)) (fun _ hk => ⟨hk.1.1, hk.1.2⟩)), (by (with_reducible repeat (first | apply r1_ | apply r2_ | apply r3_)); exact Kd.R_mono (Kd.R_far (p := ⟨gb478, 2, none⟩) (Kd.R_far (p := ⟨gb478, 1, none⟩) (Kd.R_far (p := ⟨gb478, 0, none⟩) (Kd.R_types HO_489002.out BK478.out (by decide)) (fun _ hk => hk.2) (.slice Ao13 t479.length co13)) (fun _ hk => hk.2) (.slice Ao17 t482.length co17)) (fun _ hk => hk.2) (.slice Ao18 t485.length co18)) (fun _ hk => ⟨hk.1.1, hk.1.2⟩)), Q6⟩
   replace c30 := Bool.eq_false_iff.mpr c30
   subst c30
   rw [nf] at H
   have HC36 := am H
   clear H
   go_upto_if 29 with (fail)
   go_cut [] (fun wc => ∃ (kq : Nat) (x489002_35 : List Int) (u489002 : Value), Aside0 (impl_learner.j1 kq l0_0 l0_1 l0_2 t479 t482 x489002_35 = some (r1, r2, r3, r4)) ∧ Aside0 (kq ≤ kj5) ∧ Aside0 (Kd.R (Kd.int .i64) 3 wc w.heap.size (fun k_ => some k_ ≠ ((.slice Ao17 t482.length co17) : Value).ownBlock ∧ some k_ ≠ (u489002 : Value).ownBlock) (.slice Ao13 t479.length co13) t479) ∧ Aside0 (Kd.R (Kd.int .i64) 3 wc w.heap.size (fun k_ => some k_ ≠ ((.slice Ao13 t479.length co13) : Value).ownBlock ∧ some k_ ≠ (u489002 : Value).ownBlock) (.slice Ao17 t482.length co17) t482) ∧ Aside0 (Kd.R (Kd.int .i64) 3 wc w.heap.size (fun k_ => some k_ ≠ ((.slice Ao13 t479.length co13) : Value).ownBlock ∧ some k_ ≠ ((.slice Ao17 t482.length co17) : Value).ownBlock) u489002 x489002_35) ∧ Aside0 (wc.heap[gb477]? = some (.cells #[(.slice A0_0 l0_0.length c0_0), (.slice A0_1 l0_1.length c0_1), (.slice A0_2 l0_2.length c0_2)] 26 (0, 0))) ∧ Aside0 (wc.heap[gb478]? = some (.cells #[(.slice none 0 0), (.slice none 0 0), (.slice none 0 0)] 26 (0, 0))) ∧ Aside0 (wc.heap[gb488]? = some (.cells #[(.slice Ao13 t479.length co13), (.slice Ao17 t482.length co17), u489002] 26 (0, 0))) ∧ Aside0 (Below w.heap.size w wc))
   case first =>
     have H := HC36.out
     clear HC36
     by_cases c37 : a2 = true
     rotate_left
     · replace c37 := Bool.eq_false_iff.mpr c37
       subst c37
       rw [nf] at H
       replace H := Option.bind_eq_some_iff.mp H
       obtain ⟨t498, A480, H⟩ := H
       replace H : (impl_learner.j1 kj5 l0_0 l0_1 l0_2 t479 t482 t498) = some (r1, r2, r3, r4) := H
       have A48 := am A480
       clear A480
       have H' := am H
       clear H
       have hnb49 := NB488_477.out
       have hnc49 := NB477_488.out
       have hnb50 := NB488_478.out
       have hnc50 := NB478_488.out
       obtain ⟨hcz51_0, hcz51_1, hcz51_2, hfz51_0, hfz51_1, hfz51_2⟩ := bc3f wc BK488.out
       go_wp2_with (first | ((with_reducible refine gate_callee (f := 78) rfl ?_); refine goesL_ (some 42) rfl rfl Try.func78 kr rfl #[.slice Ao18 t485.length co18, .int .i64 t489, .int .i64 (wrap64 (t489 + 1))] rfl Q10 ?_; (with_reducible refine (slices_Delete_int_int.calls (fun k_ => some k_ = (.slice Ao18 t485.length co18 : Value).ownBlock) (.slice Ao18 t485.length co18) t485 t489 (wrap64 (t489 + 1)) t498 w _ ?side1 ?side2 A48.out).mono ?_); (case side1 => exact Q6); (case side2 => exact Kd.R_tight rfl HO_489002.out); rintro e w52 ⟨v499, rfl, ho0, hb, hkp⟩; refine ⟨_, rfl, ?_⟩; replace BK477 := am (blk_kept u13_1 hkp (fun hs_ => (fun e_ => (Kd.R_ne HO_489002.out BK477.out (by decide)) e_) hs_)); replace BK478 := am (blk_kept u13_3 hkp (fun hs_ => (fun e_ => (Kd.R_ne HO_489002.out BK478.out (by decide)) e_) hs_)); replace BK488 := am (blk_kept u13_9 hkp (fun hs_ => (fun e_ => (Kd.R_ne HO_489002.out BK488.out (by decide)) e_) hs_)); have HO500 := am (Kd.R_mono (ok' := fun k_ => some k_ ≠ (.slice Ao13 t479.length co13 : Value).ownBlock ∧ some k_ ≠ (.slice Ao17 t482.length co17 : Value).ownBlock) ho0 (fun k_ hk_ => ⟨Or.elim hk_ (fun hs_ => fun e_ => (((HO_489000.out).1 k_ e_.symm).2) hs_) (fun hn_ => (Kd.fresh' (Kd.R_lt u13_5) k_ hn_)), Or.elim hk_ (fun hs_ => fun e_ => (((HO_489001.out).1 k_ e_.symm).2) hs_) (fun hn_ => (Kd.fresh' (Kd.R_lt u13_6) k_ hn_))⟩)); replace HO_489000 := am (Kd.R_mono (ok' := fun k_ => some k_ ≠ (.slice Ao17 t482.length co17 : Value).ownBlock ∧ some k_ ≠ (v499 : Value).ownBlock) (Kd.R_keptB (HO_489000.out) hkp (fun k_ hk_ hs_ => (hk_.2) hs_)) (fun k_ hk_ => ⟨hk_.1.1, fun e_ => Or.elim (ho0.1 k_ e_.symm) (fun hs_ => hk_.2.1 hs_) (fun hn_ => Nat.not_le.2 hk_.2.2 hn_)⟩)); replace HO_489001 := am (Kd.R_mono (ok' := fun k_ => some k_ ≠ (.slice Ao13 t479.length co13 : Value).ownBlock ∧ some k_ ≠ (v499 : Value).ownBlock) (Kd.R_keptB (HO_489001.out) hkp (fun k_ hk_ hs_ => (hk_.2) hs_)) (fun k_ hk_ => ⟨hk_.1.1, fun e_ => Or.elim (ho0.1 k_ e_.symm) (fun hs_ => hk_.2.1 hs_) (fun hn_ => Nat.not_le.2 hk_.2.2 hn_)⟩)); replace HB := am (hb); clear HO_489002; (try clear hb); (try clear hkp); (try clear ho0); obtain ⟨Ao53, co53, eo53⟩ := Kd.R_slice HO500.out; subst eo53; obtain ⟨hcz54_0, hcz54_1, hcz54_2, hfz54_0, hfz54_1, hfz54_2⟩ := bc3f w52 BK488.out))
       go_meet
       case rel => exact ⟨_, (t498), (.slice Ao53 t498.length co53), H', ⟨(by have := HJ5.out; first | omega | exact Nat.le_refl _)⟩, ⟨(by (with_reducible repeat (first | apply r1_ | apply r2_ | apply r3_)); exact Kd.R_mono (Kd.R_far (p := ⟨gb488, 2, none⟩) (Kd.R_types HO_489000.out BK488.out (by decide)) (fun _ hk => hk.2) (.slice Ao53 t498.length co53)) (fun _ hk => ⟨hk.1.1, hk.1.2⟩))⟩, ⟨(by (with_reducible repeat (first | apply r1_ | apply r2_ | apply r3_)); exact Kd.R_mono (Kd.R_far (p := ⟨gb488, 2, none⟩) (Kd.R_types HO_489001.out BK488.out (by decide)) (fun _ hk => hk.2) (.slice Ao53 t498.length co53)) (fun _ hk => ⟨hk.1.1, hk.1.2⟩))⟩, ⟨(by (with_reducible repeat (first | apply r1_ | apply r2_ | apply r3_)); exact Kd.R_mono (Kd.R_far (p := ⟨gb488, 2, none⟩) (Kd.R_types HO500.out BK488.out (by decide)) (fun _ hk => hk.2) (.slice Ao53 t498.length co53)) (fun _ hk => ⟨hk.1.1, hk.1.2⟩))⟩, ⟨u13_19⟩, ⟨u13_20⟩, ⟨u13_16⟩, ⟨Q6⟩⟩
     subst c37
     rw [if_pos rfl] at H
     obtain ⟨y492, hy492⟩ : ∃ y_ : List Int, y_ = (([a1] : List Int)) := ⟨_, rfl⟩
     replace H : ((slices_Insert_int_int.f t485 t489 y492).bind fun t495 => (impl_learner.j1 kj5 l0_0 l0_1 l0_2 t479 t482 t495)) = some (r1, r2, r3, r4) := by first | (rw [hy492]; with_reducible exact H) | (have H2_ := (Option.bind_some _ _).symm.trans H; rw [hy492]; with_reducible exact H2_) | (have H2_ := (Option.bind_some _ _).symm.trans H; with_reducible exact H2_) | with_reducible exact H | (rw [hy492]; exact H) | exact H
     have Ny492 := am hy492
     clear hy492
     replace H := Option.bind_eq_some_iff.mp H
     obtain ⟨t495, A380, H⟩ := H
     replace H : (impl_learner.j1 kj5 l0_0 l0_1 l0_2 t479 t482 t495) = some (r1, r2, r3, r4) := H
     have A38 := am A380
     clear A380
     have H' := am H
     clear H
     have hnb39 := NB488_477.out
     have hnc39 := NB477_488.out
     have hnb40 := NB488_478.out
     have hnc40 := NB478_488.out
     obtain ⟨hcz41_0, hcz41_1, hcz41_2, hfz41_0, hfz41_1, hfz41_2⟩ := bc3f wc BK488.out
     go_wp2_with (first | ((with_reducible refine gate_dst (N := 34) rfl ?_); refine Kd.R_lit (Kd.int .i64) _ 3 ?hg (N := 34) ?hd (xs := ([a1] : List Int)) (inner := [.int .i64 a1]) (ok := fun _ => True) (okp := fun _ => True) ?hr ?hp (fun _ hk => hk) trivial (Below.refl _ _) (Nat.le_refl _) (by simp) ?_; (case hd => rfl); (case hg => rfl); (case hr => first | (go_simp; done) | (go_simp; rfl)); (case hp => exact (Reps.one (show Kd.M (Kd.int .i64) _ _ _ a1 [.int .i64 a1] from rfl) (Reps.none _ _))); intro v493 w42 ho43 hb hg_ hnew_; clear hg_ hnew_; (first | rw [← Ny492.out] at ho43 | (simp only [Int.reduceToNat] at ho43; rw [← Ny492.out] at ho43)); have HO494 := am (Kd.R_lower (Kd.R_new' (Kd.R_new' (Kd.R_new' ho43 (Kd.R_lt u13_5)) (Kd.R_lt u13_6)) (Kd.R_lt u13_10)) (below_size Q6)); replace HO_489000 := am (Kd.R_elder' u13_5 (Kd.R_base ho43) hb); replace HO_489001 := am (Kd.R_elder' u13_6 (Kd.R_base ho43) hb); replace HO_489002 := am (Kd.R_elder' u13_10 (Kd.R_base ho43) hb); replace BK477 := am (bb_ BK477.out u13_1 hb); replace BK478 := am (bb_ BK478.out u13_3 hb); replace BK488 := am (bb_ BK488.out u13_9 hb); replace HB := am (below_step Q6 hb); clear hb ho43; obtain ⟨Ao44, co44, eo44⟩ := Kd.R_slice HO494.out; subst eo44) | ((with_reducible refine gate_callee (f := 77) rfl ?_); refine goesL_ (some 35) rfl rfl Try.func77 kr rfl #[.slice Ao18 t485.length co18, .int .i64 t489, .slice Ao44 y492.length co44] rfl Q10 ?_; (with_reducible refine (slices_Insert_int_int.calls (fun k_ => some k_ = (.slice Ao18 t485.length co18 : Value).ownBlock) (.slice Ao18 t485.length co18) t485 t489 (fun k_ => some k_ = (.slice Ao44 y492.length co44 : Value).ownBlock) (.slice Ao44 y492.length co44) y492 t495 w _ ?side1 ?side2 ?side3 ?side4 ?side5 A38.out).mono ?_); (case side1 => exact Q6); (case side2 => exact Kd.R_tight rfl HO_489002.out); (case side3 => exact fun k_ e_ => (HO_489002.out.1 k_ e_.symm).2); (case side4 => exact Kd.R_tight rfl HO494.out); (case side5 => exact fun k_ e_ => (HO494.out.1 k_ e_.symm).2); rintro e w45 ⟨v496, rfl, ho0, hb, hkp⟩; refine ⟨_, rfl, ?_⟩; replace BK477 := am (blk_kept u13_1 hkp (fun hs_ => Or.elim hs_ (fun e_ => (fun e_ => (Kd.R_ne HO_489002.out BK477.out (by decide)) e_) e_) (fun e_ => (fun e_ => (Kd.R_ne HO494.out BK477.out (by decide)) e_) e_))); replace BK478 := am (blk_kept u13_3 hkp (fun hs_ => Or.elim hs_ (fun e_ => (fun e_ => (Kd.R_ne HO_489002.out BK478.out (by decide)) e_) e_) (fun e_ => (fun e_ => (Kd.R_ne HO494.out BK478.out (by decide)) e_) e_))); replace BK488 := am (blk_kept u13_9 hkp (fun hs_ => Or.elim hs_ (fun e_ => (fun e_ => (Kd.R_ne HO_489002.out BK488.out (by decide)) e_) e_) (fun e_ => (fun e_ => (Kd.R_ne HO494.out BK488.out (by decide)) e_) e_))); have HO497 := am (Kd.R_mono (ok' := fun k_ => some k_ ≠ (.slice Ao13 t479.length co13 : Value).ownBlock ∧ some k_ ≠ (.slice Ao17 t482.length co17 : Value).ownBlock) ho0 (fun k_ hk_ => ⟨Or.elim hk_ (fun hs_ => Or.elim hs_ (fun hs_ => fun e_ => (((HO_489000.out).1 k_ e_.symm).1.2) hs_) (fun hs_ => fun e_ => (((HO_489000.out).1 k_ e_.symm).2) hs_)) (fun hn_ => (Kd.fresh' (Kd.R_lt u13_5) k_ hn_)), Or.elim hk_ (fun hs_ => Or.elim hs_ (fun hs_ => fun e_ => (((HO_489001.out).1 k_ e_.symm).1.2) hs_) (fun hs_ => fun e_ => (((HO_489001.out).1 k_ e_.symm).2) hs_)) (fun hn_ => (Kd.fresh' (Kd.R_lt u13_6) k_ hn_))⟩)); replace HO_489000 := am (Kd.R_mono (ok' := fun k_ => some k_ ≠ (.slice Ao17 t482.length co17 : Value).ownBlock ∧ some k_ ≠ (v496 : Value).ownBlock) (Kd.R_keptB (HO_489000.out) hkp (fun k_ hk_ hs_ => Or.elim hs_ (fun e_ => (hk_.1.2) e_) (fun e_ => (hk_.2) e_))) (fun k_ hk_ => ⟨hk_.1.1.1, fun e_ => Or.elim (ho0.1 k_ e_.symm) (fun hs_ => hk_.2.1 hs_) (fun hn_ => Nat.not_le.2 hk_.2.2 hn_)⟩)); replace HO_489001 := am (Kd.R_mono (ok' := fun k_ => some k_ ≠ (.slice Ao13 t479.length co13 : Value).ownBlock ∧ some k_ ≠ (v496 : Value).ownBlock) (Kd.R_keptB (HO_489001.out) hkp (fun k_ hk_ hs_ => Or.elim hs_ (fun e_ => (hk_.1.2) e_) (fun e_ => (hk_.2) e_))) (fun k_ hk_ => ⟨hk_.1.1.1, fun e_ => Or.elim (ho0.1 k_ e_.symm) (fun hs_ => hk_.2.1 hs_) (fun hn_ => Nat.not_le.2 hk_.2.2 hn_)⟩)); replace HB := am (hb); clear HO494 HO_489002; (try clear hb); (try clear hkp); (try clear ho0); obtain ⟨Ao46, co46, eo46⟩ := Kd.R_slice HO497.out; subst eo46; obtain ⟨hcz47_0, hcz47_1, hcz47_2, hfz47_0, hfz47_1, hfz47_2⟩ := bc3f w45 BK488.out))
     go_meet
     case rel => exact ⟨_, (t495), (.slice Ao46 t495.length co46), H', ⟨(by have := HJ5.out; first | omega | exact Nat.le_refl _)⟩, ⟨(by (with_reducible repeat (first | apply r1_ | apply r2_ | apply r3_)); exact Kd.R_mono (Kd.R_far (p := ⟨gb488, 2, none⟩) (Kd.R_types HO_489000.out BK488.out (by decide)) (fun _ hk => hk.2) (.slice Ao46 t495.length co46)) (fun _ hk => ⟨hk.1.1, hk.1.2⟩))⟩, ⟨(by (with_reducible repeat (first | apply r1_ | apply r2_ | apply r3_)); exact Kd.R_mono (Kd.R_far (p := ⟨gb488, 2, none⟩) (Kd.R_types HO_489001.out BK488.out (by decide)) (fun _ hk => hk.2) (.slice Ao46 t495.length co46)) (fun _ hk => ⟨hk.1.1, hk.1.2⟩))⟩, ⟨(by (with_reducible repeat (first | apply r1_ | apply r2_ | apply r3_)); exact Kd.R_mono (Kd.R_far (p := ⟨gb488, 2, none⟩) (Kd.R_types HO497.out BK488.out (by decide)) (fun _ hk => hk.2) (.slice Ao46 t495.length co46)) (fun _ hk => ⟨hk.1.1, hk.1.2⟩))⟩, ⟨u13_19⟩, ⟨u13_20⟩, ⟨u13_16⟩, ⟨Q6⟩⟩
   clear HC36
   try clear c30
   try clear hcz10_0
   try clear hcz10_1
   try clear hcz10_2
   try clear hcz16_0
   try clear hcz16_1
   try clear hcz16_2
   try clear hcz19_0
   try clear hcz19_1
   try clear hcz19_2
   try clear hfz10_0
   try clear hfz10_1
   try clear hfz10_2
   try clear hfz16_0
   try clear hfz16_1
   try clear hfz16_2
   try clear hfz19_0
   try clear hfz19_1
   try clear hfz19_2
   obtain ⟨kq, x489002_35, u489002, HA, HJ35, HO_489000, HO_489001, HO_489002, BK477, BK478, BK488, HB⟩ := hcut
   cases kq with
   | zero => exact absurd HA.out (by simp [impl_learner.j1])
   | succ kj35 =>
     have H := HA.out
     clear HA
     simp only [impl_learner.j1] at H
     replace H := Option.bind_eq_some_iff.mp H
     obtain ⟨t501, A550, H⟩ := H
     have A55 := am A550
     clear A550
     have H9 := am H
     clear H
     have hnb56 := NB488_477.out
     have hnc56 := NB477_488.out
     have hnb57 := NB488_478.out
     have hnc57 := NB478_488.out
     obtain ⟨hcz58_0, hcz58_1, hcz58_2, hfz58_0, hfz58_1, hfz58_2⟩ := bc3f wc BK488.out
     obtain ⟨Ao59, co59, eo59⟩ := Kd.R_slice HO_489002.out
     subst eo59
     go_upto_if 46 with (first | ((with_reducible refine gate_callee (f := 48) rfl ?_); refine goesL_ (some 45) rfl rfl Try.func48 kr rfl #[.agg #[.slice Ao13 t479.length co13, .slice Ao17 t482.length co17, .slice Ao59 x489002_35.length co59]] rfl Q10 ?_; (with_reducible refine (impl_isConf.calls kj35 _ _ t479 _ _ t482 _ _ x489002_35 t501 _ ?side1 ?side2 ?side3 ?side4 ?side5 ?side6 A55.out).mono ?_); (case side1 => exact (by repeat (first | exact (Kd.R_reads' HO_489000.out).2.2 | (with_reducible refine Kd.C_alloc ?_ _) | (with_reducible refine Kd.C_drewN ?_ _) | (with_reducible refine Kd.C_drew ?_)))); (case side2 => exact (Kd.R_reads' HO_489000.out).2.1); (case side3 => exact (by repeat (first | exact (Kd.R_reads' HO_489001.out).2.2 | (with_reducible refine Kd.C_alloc ?_ _) | (with_reducible refine Kd.C_drewN ?_ _) | (with_reducible refine Kd.C_drew ?_)))); (case side4 => exact (Kd.R_reads' HO_489001.out).2.1); (case side5 => exact (by repeat (first | exact (Kd.R_reads' HO_489002.out).2.2 | (with_reducible refine Kd.C_alloc ?_ _) | (with_reducible refine Kd.C_drewN ?_ _) | (with_reducible refine Kd.C_drew ?_)))); (case side6 => exact (Kd.R_reads' HO_489002.out).2.1); rintro e w60 ⟨rfl, hb⟩; refine ⟨_, rfl, ?_⟩; replace HO_489000 := am (Kd.R_below u13_5 hb); replace HO_489001 := am (Kd.R_below u13_6 hb); replace HO_489002 := am (Kd.R_below u13_10 hb); replace BK477 := am (bb_ BK477.out u13_1 hb); replace BK478 := am (bb_ BK478.out u13_3 hb); replace BK488 := am (bb_ BK488.out u13_9 hb); replace HB := am (below_step Q6 hb); (try clear hb); (try clear hb2); (try clear hk); (try clear hi)))
     have H := H9.out
     clear H9
     by_cases c61 : t501 = true
     · subst c61
       rw [if_pos rfl] at H
       simp only [Option.some.injEq, Prod.mk.injEq] at H
       obtain ⟨rfl, rfl, rfl, rfl⟩ := H
       have hnb62 := NB488_477.out
       have hnc62 := NB477_488.out
       have hnb63 := NB488_478.out
       have hnc63 := NB478_488.out
       obtain ⟨hcz64_0, hcz64_1, hcz64_2, hfz64_0, hfz64_1, hfz64_2⟩ := bc3f w60 BK488.out
       have hnb65 := NB478_477.out
       have hnc65 := NB477_478.out
       obtain ⟨hcz66_0, hcz66_1, hcz66_2, hfz66_0, hfz66_1, hfz66_2⟩ := bc3f w60 BK478.out
       go_wp2
       refine bodyPost_ret (results_ct rfl _ _ gb478 26 #[.slice Ao13 t479.length co13, .slice Ao17 t482.length co17, .slice Ao59 x489002_35.length co59] (0, 0) _ rfl u13_8 Try.underlying26 rfl kr) rfl ?_
       exact ⟨_, _, _, er, (by (with_reducible repeat (first | apply r1_ | apply r2_ | apply r3_)); exact Kd.R_mono (Kd.R_far (p := ⟨gb478, 2, none⟩) (Kd.R_far (p := ⟨gb478, 1, none⟩) (Kd.R_far (p := ⟨gb478, 0, none⟩) (Kd.R_types HO_489000.out BK478.out (by decide)) (fun _ hk => hk.2) (.slice Ao13 t479.length co13)) (fun _ hk => hk.2) (.slice Ao17 t482.length co17)) (fun _ hk => hk.2) (.slice Ao59 x489002_35.length co59)) (fun _ hk => ⟨hk.1.1, hk.1.2⟩)), (by (with_reducible repeat (first | apply r1_ | apply r2_ | apply r3_)); exact Kd.R_mono (Kd.R_far (p := ⟨gb478, 2, none⟩) (Kd.R_far (p := ⟨gb478, 1, none⟩) (Kd.R_far (p := ⟨gb478, 0, none⟩) (Kd.R_types HO_489001.out BK478.out (by decide)) (fun _ hk => hk.2) (.slice Ao13 t479.length co13)) (fun _ hk => hk.2) (.slice Ao17 t482.length co17)) (fun _ hk => hk.2) (.slice Ao59 x489002_35.length co59)) (fun _ hk => ⟨hk.1.1, hk.1.2⟩)), (by (with_reducible repeat (first | apply r1_ | apply r2_ | apply r3_)); exact Kd.R_mono (Kd.R_far (p := ⟨gb478, 2, none⟩) (Kd.R_far (p := ⟨gb478, 1, none⟩) (Kd.R_far (p := ⟨gb478, 0, none⟩) (Kd.R_types HO_489002.out BK478.out (by decide)) (fun _ hk => hk.2) (.slice Ao13 t479.length co13)) (fun _ hk => hk.2) (.slice Ao17 t482.length co17)) (fun _ hk => hk.2) (.slice Ao59 x489002_35.length co59)) (fun _ hk => ⟨hk.1.1, hk.1.2⟩)), Q6⟩
     replace c61 := Bool.eq_false_iff.mpr c61
     subst c61
     rw [nf] at H
     replace H := Option.bind_eq_some_iff.mp H
     obtain ⟨⟨t502, t505, t508⟩, A670, H⟩ := H
     replace H : (some (t502, t505, t508, false)) = some (r1, r2, r3, r4) := H
     have A67 := am A670
     clear A670
     simp only [Option.some.injEq, Prod.mk.injEq] at H
     obtain ⟨rfl, rfl, rfl, rfl⟩ := H
     have hnb68 := NB477_478.out
     have hnc68 := NB478_477.out
     have hnb69 := NB477_488.out
     have hnc69 := NB488_477.out
     obtain ⟨hcz70_0, hcz70_1, hcz70_2, hfz70_0, hfz70_1, hfz70_2⟩ := bc3f w60 BK477.out
     go_wp2_with (first | ((with_reducible refine gate_callee (f := 63) rfl ?_); refine goesL_ (some 48) rfl rfl Try.func63 kr rfl #[.agg #[.slice A0_0 l0_0.length c0_0, .slice A0_1 l0_1.length c0_1, .slice A0_2 l0_2.length c0_2]] rfl Q10 ?_; (with_reducible refine (impl_copyConf.calls _ _ l0_0 _ _ l0_1 _ _ l0_2 t502 t505 t508 _ ?side1 ?side2 ?side3 ?side4 ?side5 ?side6 A67.out).mono ?_); (case side1 => exact Q0); (case side2 => exact HC0_0.out); (case side3 => exact Q7); (case side4 => exact HC0_1.out); (case side5 => exact Q2); (case side6 => exact HC0_2.out); rintro e w71 ⟨v503, v506, v509, rfl, ho0, ho1, ho2, hb⟩; refine ⟨_, rfl, ?_⟩; have HO504 := am (Kd.R_lower (Kd.R_new' (Kd.R_new' (Kd.R_new' ho0 (Kd.R_lt u13_5)) (Kd.R_lt u13_6)) (Kd.R_lt u13_10)) (below_size Q6)); have HO507 := am (Kd.R_lower (Kd.R_new' (Kd.R_new' (Kd.R_new' ho1 (Kd.R_lt u13_5)) (Kd.R_lt u13_6)) (Kd.R_lt u13_10)) (below_size Q6)); have HO510 := am (Kd.R_lower (Kd.R_new' (Kd.R_new' (Kd.R_new' ho2 (Kd.R_lt u13_5)) (Kd.R_lt u13_6)) (Kd.R_lt u13_10)) (below_size Q6)); replace HO_489000 := am (Kd.R_mono (Kd.R_told (Kd.R_told (Kd.R_told (Kd.R_old u13_5 hb) (Kd.R_base ho0)) (Kd.R_base ho1)) (Kd.R_base ho2)) (fun _ h_ => h_.1)); replace HO_489001 := am (Kd.R_mono (Kd.R_told (Kd.R_told (Kd.R_told (Kd.R_old u13_6 hb) (Kd.R_base ho0)) (Kd.R_base ho1)) (Kd.R_base ho2)) (fun _ h_ => h_.1)); replace HO_489002 := am (Kd.R_mono (Kd.R_told (Kd.R_told (Kd.R_told (Kd.R_old u13_10 hb) (Kd.R_base ho0)) (Kd.R_base ho1)) (Kd.R_base ho2)) (fun _ h_ => h_.1)); replace BK477 := am (bb_ BK477.out u13_1 hb); replace BK478 := am (bb_ BK478.out u13_3 hb); replace BK488 := am (bb_ BK488.out u13_9 hb); replace HB := am (below_step Q6 hb); (try clear hb); (try clear hb2); (try clear hk); (try clear hi); (try clear ho0); (try clear ho1); (try clear ho2); obtain ⟨Ao72, co72, eo72⟩ := Kd.R_slice HO504.out; subst eo72; have hnb73 := NB478_488.out; have hnc73 := NB488_478.out; obtain ⟨hcz74_0, hcz74_1, hcz74_2, hfz74_0, hfz74_1, hfz74_2⟩ := bc3f w71 BK478.out; obtain ⟨Ao75, co75, eo75⟩ := Kd.R_slice HO507.out; subst eo75; obtain ⟨Ao76, co76, eo76⟩ := Kd.R_slice HO510.out; subst eo76))
     refine bodyPost_ret (results_ct rfl _ _ gb478 26 #[.slice Ao72 t502.length co72, .slice Ao75 t505.length co75, .slice Ao76 t508.length co76] (0, 0) _ rfl (by (with_reducible repeat (first | apply b1_ | apply b2_ | apply b3_)); refine blk_put (cs := #[.slice Ao72 t502.length co72, .slice Ao75 t505.length co75, .slice none 0 0]) ?_ 2 _ rfl; (with_reducible repeat (first | apply b1_ | apply b2_ | apply b3_)); refine blk_put (cs := #[.slice Ao72 t502.length co72, .slice none 0 0, .slice none 0 0]) ?_ 1 _ rfl; (with_reducible repeat (first | apply b1_ | apply b2_ | apply b3_)); refine blk_put (cs := #[.slice none 0 0, .slice none 0 0, .slice none 0 0]) ?_ 0 _ rfl; (with_reducible repeat (first | apply b1_ | apply b2_ | apply b3_)); exact BK478.out) Try.underlying26 rfl kr) rfl ?_
     exact ⟨_, _, _, er, (by (with_reducible repeat (first | apply r1_ | apply r2_ | apply r3_)); exact Kd.R_mono (Kd.R_far (p := ⟨gb478, 2, none⟩) (Kd.R_far (p := ⟨gb478, 1, none⟩) (Kd.R_far (p := ⟨gb478, 0, none⟩) (Kd.R_types HO504.out BK478.out (by decide)) (fun _ hk => hk.2) (.slice Ao72 t502.length co72)) (fun _ hk => hk.2) (.slice Ao75 t505.length co75)) (fun _ hk => hk.2) (.slice Ao76 t508.length co76)) (fun _ hk => ⟨hk.1.1.1.1.1, hk.1.1.1.1.2⟩)), (by (with_reducible repeat (first | apply r1_ | apply r2_ | apply r3_)); exact Kd.R_mono (Kd.R_far (p := ⟨gb478, 2, none⟩) (Kd.R_far (p := ⟨gb478, 1, none⟩) (Kd.R_far (p := ⟨gb478, 0, none⟩) (Kd.R_types HO507.out BK478.out (by decide)) (fun _ hk => hk.2) (.slice Ao72 t502.length co72)) (fun _ hk => hk.2) (.slice Ao75 t505.length co75)) (fun _ hk => hk.2) (.slice Ao76 t508.length co76)) (fun _ hk => ⟨hk.1.1.1.1.1, hk.1.1.1.1.2⟩)), (by (with_reducible repeat (first | apply r1_ | apply r2_ | apply r3_)); exact Kd.R_mono (Kd.R_far (p := ⟨gb478, 2, none⟩) (Kd.R_far (p := ⟨gb478, 1, none⟩) (Kd.R_far (p := ⟨gb478, 0, none⟩) (Kd.R_types HO510.out BK478.out (by decide)) (fun _ hk => hk.2) (.slice Ao72 t502.length co72)) (fun _ hk => hk.2) (.slice Ao75 t505.length co75)) (fun _ hk => hk.2) (.slice Ao76 t508.length co76)) (fun _ hk => ⟨hk.1.1.1.1.1, hk.1.1.1.1.2⟩)), Q6⟩
end Go.Proofs.Ytoemdmjdpikfbaa.QFnExactPlayConf
