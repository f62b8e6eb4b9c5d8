import Derived.Test.YtoemdmjdpikfbaaSqFnExactPlayConf
import Derived.Test.YtoemdmjdpikfbaaQFnExactPlayConfx0
import Derived.Test.YtoemdmjdpikfbaaQFnExactPlayConfx2
import Derived.Test.YtoemdmjdpikfbaaQFnExactPlayConfx3
import Derived.Test.YtoemdmjdpikfbaaQFnExactPlayConfx4
namespace Go.Proofs.Ytoemdmjdpikfbaa.QFnExactPlayConf
open Go.RowKit Go.Proofs.YtoemdmjdpikfbaaW.PrintWords Go.Proofs.YtoemdmjdpikfbaaW.PrintLast Go.Proofs.YtoemdmjdpikfbaaW.PrintMore Go.Proofs.Ytoemdmjdpikfbaa.SqFnExactPlayConf
attribute [local go_sem] max2_int min2_int max_two min_two max_three min_three max_four min_four Go.Proofs.Ytoemdmjdpikfbaa.Set.isSome_setCell
set_option linter.unusedVariables false
set_option linter.unusedSimpArgs false
theorem u6_3 {P : Prop} (h : P := by (with_reducible repeat (first | apply b1_ | apply b2_ | apply b3_)); exact BK249.out) : P := h
theorem u6_7 {P : Prop} (h : P := by (with_reducible repeat (first | apply b1_ | apply b2_ | apply b3_)); exact BK250.out) : P := h
theorem u6_8 {P : Prop} (h : P := by (with_reducible repeat (first | apply b1_ | apply b2_ | apply b3_)); exact BK272.out) : P := h
theorem u6_9 {P : Prop} (h : P := by (with_reducible repeat (first | apply b1_ | apply b2_ | apply b3_)); exact BK273.out) : P := h
theorem u6_14 {P : Prop} (h : P := by (with_reducible repeat (first | apply r1_ | apply r2_ | apply r3_)); exact HO265.out) : P := h
theorem u6_16 {P : Prop} (h : P := by (with_reducible repeat (first | apply r1_ | apply r2_ | apply r3_)); exact HO268.out) : P := h
theorem u6_17 {P : Prop} (h : P := by (with_reducible repeat (first | apply r1_ | apply r2_ | apply r3_)); exact HO286.out) : P := h
def spec_Begin.j0 : Nat → List Int → Bool → List Int → List Int → List Int → Option (List Int × List Int × List Int × Bool)
 | 0, _, _, _, _, _ => none
 | k + 1, x1, x25, x250000, x250001, x250002 => if x25 = true then ((spec_l06Copy.f k x250000 x250001 x250002).bind fun bt254 => (some (bt254.1, bt254.2.1, bt254.2.2, false))) else ((spec_l01Copy.f k x250000).bind fun t263 => ((spec_l01Copy.f k x1).bind fun t266 => ((spec_l06Less.f k x250002 x1).bind fun t269 => (some (t263, t266, t269, true)))))
def spec_Begin.f (k : Nat) (l0_0 : List Int) (l0_1 : List Int) (l0_2 : List Int) (l1 : List Int) : Option (List Int × List Int × List Int × Bool) := (spec_ConfOk.f k l0_0 l0_1 l0_2).bind fun t251 => (if t251 = true then (if (l0_1.length : Int) > 0 then (spec_Begin.j0 k l1 true l0_0 l0_1 l0_2) else ((spec_l06Set.f k l1).bind fun t252 => (if t252 = true then ((spec_l06Same.f k l0_0 l1).bind fun t253 => (spec_Begin.j0 k l1 t253 l0_0 l0_1 l0_2)) else (spec_Begin.j0 k l1 true l0_0 l0_1 l0_2)))) else (spec_Begin.j0 k l1 true l0_0 l0_1 l0_2))
theorem spec_Begin.mono_l : ∀ k, (∀ y0 y1 y2 y3 y4, LeO (spec_Begin.j0 k y0 y1 y2 y3 y4) (spec_Begin.j0 (k + 1) y0 y1 y2 y3 y4))
 | 0 => fun _ _ _ _ _ r h => by simp [spec_Begin.j0] at h
 | k + 1 => by
   have ih0 := spec_Begin.mono_l k
   · intro y0 y1 y2 y3 y4
     unfold spec_Begin.j0
     repeat' first
     | (with_reducible exact ih0 _ _ _ _ _)
     | (with_reducible exact spec_ConfOk.mono _ _ _ _)
     | (with_reducible exact spec_l01Copy.mono _ _)
     | (with_reducible exact spec_l06Copy.mono _ _ _ _)
     | (with_reducible exact spec_l06Less.mono _ _ _)
     | (with_reducible exact spec_l06Same.mono _ _ _)
     | (with_reducible exact spec_l06Set.mono _ _)
     | (with_reducible exact LeO.refl _)
     | (with_reducible exact LeO.none _)
     | (with_reducible refine LeO.ite ?_ ?_)
     | (with_reducible refine LeO.bind ?_ (fun _ => ?_))
     | exact ih0 _ _ _ _ _
     | exact spec_ConfOk.mono _ _ _ _
     | exact spec_l01Copy.mono _ _
     | exact spec_l06Copy.mono _ _ _ _
     | exact spec_l06Less.mono _ _ _
     | exact spec_l06Same.mono _ _ _
     | exact spec_l06Set.mono _ _
     | exact LeO.none _
     | refine LeO.ite ?_ ?_
     | refine LeO.bind ?_ (fun _ => ?_)
theorem spec_Begin.mono : ∀ a0 a1 a2 a3 k, LeO (spec_Begin.f k a0 a1 a2 a3) (spec_Begin.f (k + 1) a0 a1 a2 a3) := by
 intro a0 a1 a2 a3 k
 have ih0 := spec_Begin.mono_l k
 unfold spec_Begin.f
 repeat' first
     | (with_reducible exact ih0 _ _ _ _ _)
     | (with_reducible exact spec_ConfOk.mono _ _ _ _)
     | (with_reducible exact spec_l01Copy.mono _ _)
     | (with_reducible exact spec_l06Copy.mono _ _ _ _)
     | (with_reducible exact spec_l06Less.mono _ _ _)
     | (with_reducible exact spec_l06Same.mono _ _ _)
     | (with_reducible exact spec_l06Set.mono _ _)
     | (with_reducible exact LeO.refl _)
     | (with_reducible exact LeO.none _)
     | (with_reducible refine LeO.ite ?_ ?_)
     | (with_reducible refine LeO.bind ?_ (fun _ => ?_))
     | exact ih0 _ _ _ _ _
     | exact spec_ConfOk.mono _ _ _ _
     | exact spec_l01Copy.mono _ _
     | exact spec_l06Copy.mono _ _ _ _
     | exact spec_l06Less.mono _ _ _
     | exact spec_l06Same.mono _ _ _
     | exact spec_l06Set.mono _ _
     | exact LeO.none _
     | refine LeO.ite ?_ ?_
     | refine LeO.bind ?_ (fun _ => ?_)
def spec_Begin.T3 : Bool × List (List Nat × List Nat) := (true, [([], []), ([0], [0]), ([1], [1]), ([], []), ([3, 2], [3]), ([], []), ([5], [5]), ([], []), ([6, 7, 4], [6, 7]), ([2, 4, 8], [2, 4, 8]), ([9, 8, 0, 1, 2, 3, 4, 5, 6, 7, 8, 9], [9]), ([10, 0, 1, 2, 3, 4, 5, 6, 7, 8, 9, 10], [])])
def spec_Begin.B3 : List Nat := [0, 1, 3, 0, 15, 0, 32, 0, 255, 511, 1023, 2047]
theorem spec_Begin.tab3 : rtab .any (opsOf Try.f60 3) = spec_Begin.T3 := by kernel_rfl
theorem spec_Begin.bits3 : waitsOk spec_Begin.T3.2 spec_Begin.B3 = true := by kernel_rfl
set_option maxHeartbeats 8000000 in
set_option maxRecDepth 100000 in
theorem spec_Begin.calls (k : Nat) (A0_0 : Option Addr) (c0_0 : Nat) (l0_0 : List Int) (A0_1 : Option Addr) (c0_1 : Nat) (l0_1 : List Int) (A0_2 : Option Addr) (c0_2 : Nat) (l0_2 : List Int) (A1 : Option Addr) (c1 : Nat) (l1 : List Int) (r1 : List Int) (r2 : List Int) (r3 : List Int) (r4 : Bool) (w : World) (hr0_0 : Kd.C (Kd.int .i64) w A0_0 l0_0.length l0_0) (hc0_0 : l0_0.length ≤ c0_0) (hr0_1 : Kd.C (Kd.int .i64) w A0_1 l0_1.length l0_1) (hc0_1 : l0_1.length ≤ c0_1) (hr0_2 : Kd.C (Kd.int .i64) w A0_2 l0_2.length l0_2) (hc0_2 : l0_2.length ≤ c0_2) (hr1 : Kd.C (Kd.int .i64) w A1 l1.length l1) (hc1 : l1.length ≤ c1) (h : spec_Begin.f k l0_0 l0_1 l0_2 l1 = some (r1, r2, r3, r4)) :
   Calls Try.prog 60 #[.agg #[.slice A0_0 l0_0.length c0_0, .slice A0_1 l0_1.length c0_1, .slice A0_2 l0_2.length c0_2], .slice A1 l1.length c1] w fun e w' => ∃ v0_ v1_ v2_ : Value, e = .returned (.tuple #[.agg #[v0_, v1_, v2_], .bool r4]) ∧ Kd.R (Kd.int .i64) 3 w' w.heap.size (fun k_ => some k_ ≠ (v1_ : Value).ownBlock ∧ some k_ ≠ (v2_ : Value).ownBlock) v0_ r1 ∧ Kd.R (Kd.int .i64) 3 w' w.heap.size (fun k_ => some k_ ≠ (v0_ : Value).ownBlock ∧ some k_ ≠ (v2_ : Value).ownBlock) v1_ r2 ∧ Kd.R (Kd.int .i64) 3 w' w.heap.size (fun k_ => some k_ ≠ (v0_ : Value).ownBlock ∧ some k_ ≠ (v1_ : Value).ownBlock) v2_ r3 ∧ Below w.heap.size w w' := by
 have hu26 := Try.underlying26
 have HR0_0 := am hr0_0
 have HC0_0 := am hc0_0
 clear hr0_0 hc0_0
 have HR0_1 := am hr0_1
 have HC0_1 := am hc0_1
 clear hr0_1 hc0_1
 have HR0_2 := am hr0_2
 have HC0_2 := am hc0_2
 clear hr0_2 hc0_2
 have HR1 := am hr1
 have HC1 := am hc1
 clear hr1 hc1
 have HB := am (Below.refl w.heap.size w)
 have H : ((spec_ConfOk.f k l0_0 l0_1 l0_2).bind fun t251 => (if t251 = true then (if (l0_1.length : Int) > 0 then (spec_Begin.j0 k l1 true l0_0 l0_1 l0_2) else ((spec_l06Set.f k l1).bind fun t252 => (if t252 = true then ((spec_l06Same.f k l0_0 l1).bind fun t253 => (spec_Begin.j0 k l1 t253 l0_0 l0_1 l0_2)) else (spec_Begin.j0 k l1 true l0_0 l0_1 l0_2)))) else (spec_Begin.j0 k l1 true l0_0 l0_1 l0_2))) = some (r1, r2, r3, r4) := h
 clear h
 have HC3 := am H
 clear H
 go_enter Try.func60, Try.ntmps60
 go_upto_region 1 with (first | ((with_reducible refine gate_dst (N := 2) rfl ?_); (try (refine gate_guard (by rfl) ?_; dsimp only)); refine box_event ?hg (N := 2) ?hd (cs := #[.slice A0_0 l0_0.length c0_0, .slice A0_1 l0_1.length c0_1, .slice A0_2 l0_2.length c0_2]) (t := 26) ?hr ?_; (case hd => rfl); (case hg => rfl); (case hr => first | (go_simp; done) | (go_simp; rfl)); intro gb249 hg w4 hbox hb; have BK249 := am (hbox); have GW249 := am ((by rw [hg]; exact (below_size Q6) : w.heap.size ≤ gb249)); have GE249 := am ((by rw [hg]; exact (below_size Q6) : w.heap.size ≤ gb249)); replace HB := am (below_step Q6 hb); clear hb hbox hg) | ((with_reducible refine gate_dst (N := 4) rfl ?_); (try (refine gate_guard (by rfl) ?_; dsimp only)); refine box_event ?hg (N := 4) ?hd (cs := #[.slice none 0 0, .slice none 0 0, .slice none 0 0]) (t := 26) ?hr ?_; (case hd => rfl); (case hg => rfl); (case hr => first | (go_simp; done) | (go_simp; rfl)); intro gb250 hg w5 hbox hb; have BK250 := am (hbox); have GW250 := am ((by rw [hg]; exact (below_size Q6) : w.heap.size ≤ gb250)); have GE250 := am ((by rw [hg]; exact (below_size Q6) : w.heap.size ≤ gb250)); replace HB := am (below_step Q6 hb); have NB249_250 := am ((by rw [hg]; exact Nat.ne_of_lt (blk_lt (g := gb249) (o := .cells #[.slice A0_0 l0_0.length c0_0, .slice A0_1 l0_1.length c0_1, .slice A0_2 l0_2.length c0_2] 26 (0, 0)) u6_3) : gb249 ≠ gb250)); have NB250_249 := am ((by rw [hg]; exact Nat.ne_of_gt (blk_lt (g := gb249) (o := .cells #[.slice A0_0 l0_0.length c0_0, .slice A0_1 l0_1.length c0_1, .slice A0_2 l0_2.length c0_2] 26 (0, 0)) u6_3) : gb250 ≠ gb249)); replace BK249 := am (bb_ BK249.out u6_3 hb); clear hb hbox hg))
 (try simp only [Act.put, la, lb, lc])
 go_cut [25] (fun v25 wc => ∃ (kq : Nat) (x25_2 : Bool), v25 = .bool x25_2 ∧ Aside0 (spec_Begin.j0 kq l1 x25_2 l0_0 l0_1 l0_2 = some (r1, r2, r3, r4)) ∧ Aside0 (kq ≤ k) ∧ Aside0 (wc.heap[gb249]? = some (.cells #[(.slice A0_0 l0_0.length c0_0), (.slice A0_1 l0_1.length c0_1), (.slice A0_2 l0_2.length c0_2)] 26 (0, 0))) ∧ Aside0 (wc.heap[gb250]? = some (.cells #[(.slice none 0 0), (.slice none 0 0), (.slice none 0 0)] 26 (0, 0))) ∧ Aside0 (Below w.heap.size w wc))
 case first =>
   have H := HC3.out
   clear HC3
   replace H := Option.bind_eq_some_iff.mp H
   obtain ⟨t251, A60, H⟩ := H
   have A6 := am A60
   clear A60
   by_cases c7 : t251 = true
   rotate_left
   · replace c7 := Bool.eq_false_iff.mpr c7
     subst c7
     rw [nf] at H
     have H' := am H
     clear H
     have hnb24 := NB249_250.out
     have hnc24 := NB250_249.out
     obtain ⟨hcz25_0, hcz25_1, hcz25_2, hfz25_0, hfz25_1, hfz25_2⟩ := bc3f w5 BK249.out
     go_wp2_with (first | ((with_reducible refine gate_callee (f := 53) rfl ?_); refine goesL_ (some 7) rfl rfl Try.func53 kr rfl #[.agg #[.slice A0_0 l0_0.length c0_0, .slice A0_1 l0_1.length c0_1, .slice A0_2 l0_2.length c0_2]] rfl Q10 ?_; (with_reducible refine (spec_ConfOk.calls k _ _ l0_0 _ _ l0_1 _ _ l0_2 false _ ?side1 ?side2 ?side3 ?side4 ?side5 ?side6 A6.out).mono ?_); (case side1 => exact Q0); (case side2 => exact HC0_0.out); (case side3 => exact Q7); (case side4 => exact HC0_1.out); (case side5 => exact Q2); (case side6 => exact HC0_2.out); rintro e w26 ⟨rfl, hb⟩; refine ⟨_, rfl, ?_⟩; replace BK249 := am (bb_ BK249.out u6_3 hb); replace BK250 := am (bb_ BK250.out u6_7 hb); replace HB := am (below_step Q6 hb); (try clear hb); (try clear hb2); (try clear hk); (try clear hi)))
     go_meet
     case rel => exact ⟨_, (true), Q9, H', ⟨by first | omega | exact Nat.le_refl _⟩, ⟨u6_3⟩, ⟨u6_7⟩, ⟨Q6⟩⟩
   subst c7
   rw [if_pos rfl] at H
   by_cases c8 : (l0_1.length : Int) > 0
   · rw [if_pos c8] at H
     have c8b0 : decide (0 < (l0_1.length : Int)) = true := decide_eq_true c8
     have c8b1 : decide (0 < l0_1.length) = true := decide_eq_true (by omega)
     clear c8
     (first | rw [c8b0] | (simp only [i64_w, i32_w]; rw [c8b0]) | skip)
     have H' := am H
     clear H
     have hnb9 := NB249_250.out
     have hnc9 := NB250_249.out
     obtain ⟨hcz10_0, hcz10_1, hcz10_2, hfz10_0, hfz10_1, hfz10_2⟩ := bc3f w5 BK249.out
     go_wp2_with (first | ((with_reducible refine gate_callee (f := 53) rfl ?_); refine goesL_ (some 7) rfl rfl Try.func53 kr rfl #[.agg #[.slice A0_0 l0_0.length c0_0, .slice A0_1 l0_1.length c0_1, .slice A0_2 l0_2.length c0_2]] rfl Q10 ?_; (with_reducible refine (spec_ConfOk.calls k _ _ l0_0 _ _ l0_1 _ _ l0_2 true _ ?side1 ?side2 ?side3 ?side4 ?side5 ?side6 A6.out).mono ?_); (case side1 => exact Q0); (case side2 => exact HC0_0.out); (case side3 => exact Q7); (case side4 => exact HC0_1.out); (case side5 => exact Q2); (case side6 => exact HC0_2.out); rintro e w11 ⟨rfl, hb⟩; refine ⟨_, rfl, ?_⟩; replace BK249 := am (bb_ BK249.out u6_3 hb); replace BK250 := am (bb_ BK250.out u6_7 hb); replace HB := am (below_step Q6 hb); (try clear hb); (try clear hb2); (try clear hk); (try clear hi); obtain ⟨hcz12_0, hcz12_1, hcz12_2, hfz12_0, hfz12_1, hfz12_2⟩ := bc3f w11 BK249.out))
     go_meet
     case rel => exact ⟨_, (true), Q9, H', ⟨by first | omega | exact Nat.le_refl _⟩, ⟨u6_3⟩, ⟨u6_7⟩, ⟨Q6⟩⟩
   rw [if_neg c8] at H
   have c8b0 : decide (0 < (l0_1.length : Int)) = false := decide_eq_false c8
   have c8b1 : decide (0 < l0_1.length) = false := decide_eq_false (by omega)
   clear c8
   (first | rw [c8b0] | (simp only [i64_w, i32_w]; rw [c8b0]) | skip)
   replace H := Option.bind_eq_some_iff.mp H
   obtain ⟨t252, A130, H⟩ := H
   have A13 := am A130
   clear A130
   by_cases c14 : t252 = true
   rotate_left
   · replace c14 := Bool.eq_false_iff.mpr c14
     subst c14
     rw [nf] at H
     have H' := am H
     clear H
     have hnb20 := NB249_250.out
     have hnc20 := NB250_249.out
     obtain ⟨hcz21_0, hcz21_1, hcz21_2, hfz21_0, hfz21_1, hfz21_2⟩ := bc3f w5 BK249.out
     go_wp2_with (first | ((with_reducible refine gate_callee (f := 53) rfl ?_); refine goesL_ (some 7) rfl rfl Try.func53 kr rfl #[.agg #[.slice A0_0 l0_0.length c0_0, .slice A0_1 l0_1.length c0_1, .slice A0_2 l0_2.length c0_2]] rfl Q10 ?_; (with_reducible refine (spec_ConfOk.calls k _ _ l0_0 _ _ l0_1 _ _ l0_2 true _ ?side1 ?side2 ?side3 ?side4 ?side5 ?side6 A6.out).mono ?_); (case side1 => exact Q0); (case side2 => exact HC0_0.out); (case side3 => exact Q7); (case side4 => exact HC0_1.out); (case side5 => exact Q2); (case side6 => exact HC0_2.out); rintro e w22 ⟨rfl, hb⟩; refine ⟨_, rfl, ?_⟩; replace BK249 := am (bb_ BK249.out u6_3 hb); replace BK250 := am (bb_ BK250.out u6_7 hb); replace HB := am (below_step Q6 hb); (try clear hb); (try clear hb2); (try clear hk); (try clear hi); obtain ⟨hcz23_0, hcz23_1, hcz23_2, hfz23_0, hfz23_1, hfz23_2⟩ := bc3f w22 BK249.out) | (go_at_call 81; (with_reducible refine (spec_l06Set.calls k _ _ l1 false _ ?side1 ?side2 A13.out).mono ?_); (case side1 => exact Q11); (case side2 => exact HC1.out); rintro e w' ⟨rfl, ⟨nd, rfl⟩⟩))
     go_meet
     case rel => exact ⟨_, (true), Q9, H', ⟨by first | omega | exact Nat.le_refl _⟩, ⟨u6_3⟩, ⟨u6_7⟩, ⟨Q6⟩⟩
   subst c14
   rw [if_pos rfl] at H
   replace H := Option.bind_eq_some_iff.mp H
   obtain ⟨t253, A150, H⟩ := H
   replace H : (spec_Begin.j0 k l1 t253 l0_0 l0_1 l0_2) = some (r1, r2, r3, r4) := H
   have A15 := am A150
   clear A150
   have H' := am H
   clear H
   have hnb16 := NB249_250.out
   have hnc16 := NB250_249.out
   obtain ⟨hcz17_0, hcz17_1, hcz17_2, hfz17_0, hfz17_1, hfz17_2⟩ := bc3f w5 BK249.out
   go_wp2_with (first | ((with_reducible refine gate_callee (f := 53) rfl ?_); refine goesL_ (some 7) rfl rfl Try.func53 kr rfl #[.agg #[.slice A0_0 l0_0.length c0_0, .slice A0_1 l0_1.length c0_1, .slice A0_2 l0_2.length c0_2]] rfl Q10 ?_; (with_reducible refine (spec_ConfOk.calls k _ _ l0_0 _ _ l0_1 _ _ l0_2 true _ ?side1 ?side2 ?side3 ?side4 ?side5 ?side6 A6.out).mono ?_); (case side1 => exact Q0); (case side2 => exact HC0_0.out); (case side3 => exact Q7); (case side4 => exact HC0_1.out); (case side5 => exact Q2); (case side6 => exact HC0_2.out); rintro e w18 ⟨rfl, hb⟩; refine ⟨_, rfl, ?_⟩; replace BK249 := am (bb_ BK249.out u6_3 hb); replace BK250 := am (bb_ BK250.out u6_7 hb); replace HB := am (below_step Q6 hb); (try clear hb); (try clear hb2); (try clear hk); (try clear hi); obtain ⟨hcz19_0, hcz19_1, hcz19_2, hfz19_0, hfz19_1, hfz19_2⟩ := bc3f w18 BK249.out) | (go_at_call 81; (with_reducible refine (spec_l06Set.calls k _ _ l1 true _ ?side1 ?side2 A13.out).mono ?_); (case side1 => exact Q11); (case side2 => exact HC1.out); rintro e w' ⟨rfl, ⟨nd, rfl⟩⟩) | (go_at_call 57; (with_reducible refine (spec_l06Same.calls k _ _ l0_0 _ _ l1 t253 _ ?side1 ?side2 ?side3 ?side4 A15.out).mono ?_); (case side1 => exact (by repeat (first | exact (Kd.C_below HR0_0.out Q6) | (with_reducible refine Kd.C_alloc ?_ _) | (with_reducible refine Kd.C_drewN ?_ _) | (with_reducible refine Kd.C_drew ?_)))); (case side2 => exact HC0_0.out); (case side3 => exact (by repeat (first | exact (Kd.C_below HR1.out Q6) | (with_reducible refine Kd.C_alloc ?_ _) | (with_reducible refine Kd.C_drewN ?_ _) | (with_reducible refine Kd.C_drew ?_)))); (case side4 => exact HC1.out); rintro e w' ⟨rfl, ⟨nd, rfl⟩⟩))
   go_meet
   case rel => exact ⟨_, (t253), Q9, H', ⟨by first | omega | exact Nat.le_refl _⟩, ⟨u6_3⟩, ⟨u6_7⟩, ⟨Q6⟩⟩
 clear HC3
 try clear c1
 obtain ⟨kq, x25_2, rfl, HA, HJ2, BK249, BK250, HB⟩ := hcut
 cases kq with
 | zero => exact absurd HA.out (by simp [spec_Begin.j0])
 | succ kj2 =>
   have H := HA.out
   clear HA
   simp only [spec_Begin.j0] at H
   by_cases c27 : x25_2 = true
   · subst c27
     rw [if_pos rfl] at H
     replace H := Option.bind_eq_some_iff.mp H
     obtain ⟨⟨t254, t257, t260⟩, A280, H⟩ := H
     replace H : (some (t254, t257, t260, false)) = some (r1, r2, r3, r4) := H
     have A28 := am A280
     clear A280
     simp only [Option.some.injEq, Prod.mk.injEq] at H
     obtain ⟨rfl, rfl, rfl, rfl⟩ := H
     have hnb29 := NB249_250.out
     have hnc29 := NB250_249.out
     obtain ⟨hcz30_0, hcz30_1, hcz30_2, hfz30_0, hfz30_1, hfz30_2⟩ := bc3f wc BK249.out
     go_wp2_with (first | ((with_reducible refine gate_callee (f := 55) rfl ?_); refine goesL_ (some 27) rfl rfl Try.func55 kr rfl #[.agg #[.slice A0_0 l0_0.length c0_0, .slice A0_1 l0_1.length c0_1, .slice A0_2 l0_2.length c0_2]] rfl Q10 ?_; (with_reducible refine (spec_l06Copy.calls kj2 _ _ l0_0 _ _ l0_1 _ _ l0_2 t254 t257 t260 _ ?side1 ?side2 ?side3 ?side4 ?side5 ?side6 A28.out).mono ?_); (case side1 => exact Q0); (case side2 => exact HC0_0.out); (case side3 => exact Q7); (case side4 => exact HC0_1.out); (case side5 => exact Q2); (case side6 => exact HC0_2.out); rintro e w31 ⟨v255, v258, v261, rfl, ho0, ho1, ho2, hb⟩; refine ⟨_, rfl, ?_⟩; have HO256 := am (Kd.R_lower ho0 (below_size Q6)); have HO259 := am (Kd.R_lower ho1 (below_size Q6)); have HO262 := am (Kd.R_lower ho2 (below_size Q6)); replace BK249 := am (bb_ BK249.out u6_3 hb); replace BK250 := am (bb_ BK250.out u6_7 hb); replace HB := am (below_step Q6 hb); (try clear hb); (try clear hb2); (try clear hk); (try clear hi); (try clear ho0); (try clear ho1); (try clear ho2); obtain ⟨Ao32, co32, eo32⟩ := Kd.R_slice HO256.out; subst eo32; obtain ⟨hcz33_0, hcz33_1, hcz33_2, hfz33_0, hfz33_1, hfz33_2⟩ := bc3f w31 BK250.out; obtain ⟨Ao34, co34, eo34⟩ := Kd.R_slice HO259.out; subst eo34; obtain ⟨Ao35, co35, eo35⟩ := Kd.R_slice HO262.out; subst eo35))
     refine bodyPost_ret (results_ct rfl _ _ gb250 26 #[.slice Ao32 t254.length co32, .slice Ao34 t257.length co34, .slice Ao35 t260.length co35] (0, 0) _ rfl (by (with_reducible repeat (first | apply b1_ | apply b2_ | apply b3_)); refine blk_put (cs := #[.slice Ao32 t254.length co32, .slice Ao34 t257.length co34, .slice none 0 0]) ?_ 2 _ rfl; (with_reducible repeat (first | apply b1_ | apply b2_ | apply b3_)); refine blk_put (cs := #[.slice Ao32 t254.length co32, .slice none 0 0, .slice none 0 0]) ?_ 1 _ rfl; (with_reducible repeat (first | apply b1_ | apply b2_ | apply b3_)); refine blk_put (cs := #[.slice none 0 0, .slice none 0 0, .slice none 0 0]) ?_ 0 _ rfl; (with_reducible repeat (first | apply b1_ | apply b2_ | apply b3_)); exact BK250.out) Try.underlying26 rfl kr) rfl ?_
     exact ⟨_, _, _, er, (by (with_reducible repeat (first | apply r1_ | apply r2_ | apply r3_)); exact Kd.R_mono (Kd.R_far (p := ⟨gb250, 2, none⟩) (Kd.R_far (p := ⟨gb250, 1, none⟩) (Kd.R_far (p := ⟨gb250, 0, none⟩) (Kd.R_types HO256.out BK250.out (by decide)) (fun _ hk => hk.2) (.slice Ao32 t254.length co32)) (fun _ hk => hk.2) (.slice Ao34 t257.length co34)) (fun _ hk => hk.2) (.slice Ao35 t260.length co35)) (fun _ hk => ⟨hk.1.1, hk.1.2⟩)), (by (with_reducible repeat (first | apply r1_ | apply r2_ | apply r3_)); exact Kd.R_mono (Kd.R_far (p := ⟨gb250, 2, none⟩) (Kd.R_far (p := ⟨gb250, 1, none⟩) (Kd.R_far (p := ⟨gb250, 0, none⟩) (Kd.R_types HO259.out BK250.out (by decide)) (fun _ hk => hk.2) (.slice Ao32 t254.length co32)) (fun _ hk => hk.2) (.slice Ao34 t257.length co34)) (fun _ hk => hk.2) (.slice Ao35 t260.length co35)) (fun _ hk => ⟨hk.1.1, hk.1.2⟩)), (by (with_reducible repeat (first | apply r1_ | apply r2_ | apply r3_)); exact Kd.R_mono (Kd.R_far (p := ⟨gb250, 2, none⟩) (Kd.R_far (p := ⟨gb250, 1, none⟩) (Kd.R_far (p := ⟨gb250, 0, none⟩) (Kd.R_types HO262.out BK250.out (by decide)) (fun _ hk => hk.2) (.slice Ao32 t254.length co32)) (fun _ hk => hk.2) (.slice Ao34 t257.length co34)) (fun _ hk => hk.2) (.slice Ao35 t260.length co35)) (fun _ hk => ⟨hk.1.1, hk.1.2⟩)), Q6⟩
   replace c27 := Bool.eq_false_iff.mpr c27
   subst c27
   rw [nf] at H
   replace H := Option.bind_eq_some_iff.mp H
   obtain ⟨t263, A360, H⟩ := H
   have A36 := am A360
   clear A360
   replace H := Option.bind_eq_some_iff.mp H
   obtain ⟨t266, A370, H⟩ := H
   replace H : ((spec_l06Less.f kj2 l0_2 l1).bind fun t269 => (some (t263, t266, t269, true))) = some (r1, r2, r3, r4) := H
   have A37 := am A370
   clear A370
   replace H := Option.bind_eq_some_iff.mp H
   obtain ⟨t269, A380, H⟩ := H
   replace H : (some (t263, t266, t269, true)) = some (r1, r2, r3, r4) := H
   have A38 := am A380
   clear A380
   simp only [Option.some.injEq, Prod.mk.injEq] at H
   obtain ⟨rfl, rfl, rfl, rfl⟩ := H
   try go_wp2
   replace BK249 := am (blk_drew BK249.out)
   replace BK250 := am (blk_drew BK250.out)
   replace HB := am (below_drew1 HB.out)
   refine start_ (n := 12) (S := fun w' => w'.cell? ⟨gb249, 0, none⟩ = some (.slice A0_0 l0_0.length c0_0) ∧ w'.cell? ⟨gb249, 1, none⟩ = some (.slice A0_1 l0_1.length c0_1) ∧ w'.cell? ⟨gb249, 2, none⟩ = some (.slice A0_2 l0_2.length c0_2)) (ds := []) b0_12 kr rfl rfl ⟨(blk_cell BK249.out 0).trans rfl, (blk_cell BK249.out 1).trans rfl, (blk_cell BK249.out 2).trans rfl⟩ (fun hHeld => ?_); refine with_tabW spec_Begin.tab3 spec_Begin.bits3 (fun HT_ HW_ => ?_)
   generalize wc.drew = w39 at BK249 BK250 HB hHeld ⊢
   refine pV 0 28 (bt 1 12) ?_
   refine pV 3 31 #[true, false, false, true, false, false, false, false, false, false, false, false] ?_
   refine pV 5 33 #[true, false, false, true, false, true, false, false, false, false, false, false] ?_
   refine pV 7 35 #[true, false, false, true, false, true, false, true, false, false, false, false] ?_
   refine tV 1 29 #[true, true, false, true, false, true, false, true, false, false, false, false] ?_
   refine tV 6 34 #[true, true, false, true, false, true, true, true, false, false, false, false] ?_
   refine one_ (i := 2) (N := some 30) #[true, true, true, true, false, true, true, true, false, false, false, false] rfl rfl (one_of HT_.out kr) (by decide) (fun K hK => ?_)
   refine goes_ Try.func83 kr rfl #[.slice A0_0 l0_0.length c0_0] (by rfl) rfl rfl Q10 ?_
   with_reducible refine (spec_l01Copy.calls kj2 _ _ l0_0 t263 _ ?side1 ?side2 A36.out).mono ?_
   (case side1 => exact Q0)
   (case side2 => exact HC0_0.out)
   rintro e w40 ⟨v264, rfl, ho0, hb⟩
   refine ⟨_, rfl, ?_⟩
   have HO265 := am (Kd.R_lower ho0 (below_size Q6))
   replace BK249 := am (bb_ BK249.out u6_3 hb)
   replace BK250 := am (bb_ BK250.out u6_7 hb)
   replace HB := am (below_step Q6 hb)
   (try clear hb)
   (try clear hb2)
   (try clear hk)
   (try clear hi)
   (try clear ho0)
   refine hK.out _ _ ⟨(blk_cell BK249.out 0).trans rfl, (blk_cell BK249.out 1).trans rfl, (blk_cell BK249.out 2).trans rfl⟩ (fun hHeld => ?_)
   clear hK K
   refine norm_ (a' := ?_) ?_ ?_
   rotate_left
   · show Act.put _ (some 30) _ = _
     simp only [Act.put, la, lb, lc, i64_w, i32_w]
     rfl
   refine one_ (i := 4) (N := some 32) b8_12 rfl rfl (one_of HT_.out kr) (by decide) (fun K hK => ?_)
   refine goes_ Try.func83 kr rfl #[.slice A1 l1.length c1] (by rfl) rfl rfl Q10 ?_
   with_reducible refine (spec_l01Copy.calls kj2 _ _ l1 t266 _ ?side1 ?side2 A37.out).mono ?_
   (case side1 => exact Q11)
   (case side2 => exact HC1.out)
   rintro e w41 ⟨v267, rfl, ho0, hb⟩
   refine ⟨_, rfl, ?_⟩
   have HO268 := am (Kd.R_lower (Kd.R_new' ho0 (Kd.R_lt u6_14)) (below_size Q6))
   replace HO265 := am (Kd.R_elder' u6_14 (Kd.R_base ho0) hb)
   replace BK249 := am (bb_ BK249.out u6_3 hb)
   replace BK250 := am (bb_ BK250.out u6_7 hb)
   replace HB := am (below_step Q6 hb)
   (try clear hb)
   (try clear hb2)
   (try clear hk)
   (try clear hi)
   (try clear ho0)
   refine hK.out _ _ ⟨(blk_cell BK249.out 0).trans rfl, (blk_cell BK249.out 1).trans rfl, (blk_cell BK249.out 2).trans rfl⟩ (fun hHeld => ?_)
   clear hK K
   refine norm_ (a' := ?_) ?_ ?_
   rotate_left
   · show Act.put _ (some 32) _ = _
     simp only [Act.put, la, lb, lc, i64_w, i32_w]
     rfl
   refine one_ (i := 8) (N := some 36) b9_12 rfl rfl (one_of HT_.out kr) (by decide) (fun K hK => ?_)
   refine goes_ Try.func56 kr rfl #[.slice A0_2 l0_2.length c0_2, .slice A1 l1.length c1] (by rfl) rfl rfl Q10 ?_
   with_reducible refine (spec_l06Less.calls kj2 _ _ l0_2 _ _ l1 t269 _ ?side1 ?side2 ?side3 ?side4 A38.out).mono ?_
   (case side1 => exact Q2)
   (case side2 => exact HC0_2.out)
   (case side3 => exact Q11)
   (case side4 => exact HC1.out)
   rintro e w42 ⟨v270, rfl, ho0, hb⟩
   refine ⟨_, rfl, ?_⟩
   have HO271 := am (Kd.R_lower (Kd.R_new' (Kd.R_new' ho0 (Kd.R_lt u6_14)) (Kd.R_lt u6_16)) (below_size Q6))
   replace HO265 := am (Kd.R_elder' u6_14 (Kd.R_base ho0) hb)
   replace HO268 := am (Kd.R_elder' u6_16 (Kd.R_base ho0) hb)
   replace BK249 := am (bb_ BK249.out u6_3 hb)
   replace BK250 := am (bb_ BK250.out u6_7 hb)
   replace HB := am (below_step Q6 hb)
   (try clear hb)
   (try clear hb2)
   (try clear hk)
   (try clear hi)
   (try clear ho0)
   obtain ⟨Ao43, co43, eo43⟩ := Kd.R_slice HO271.out
   (first | subst eo43 | (injection eo43 with f1_ f2_ f3_; have f4_ := f1_.symm; have f5_ := f3_.symm; clear f1_ f2_ f3_; subst f4_; subst f5_))
   obtain ⟨Ao44, co44, eo44⟩ := Kd.R_slice HO268.out
   (first | subst eo44 | (injection eo44 with f1_ f2_ f3_; have f4_ := f1_.symm; have f5_ := f3_.symm; clear f1_ f2_ f3_; subst f4_; subst f5_))
   obtain ⟨Ao45, co45, eo45⟩ := Kd.R_slice HO265.out
   (first | subst eo45 | (injection eo45 with f1_ f2_ f3_; have f4_ := f1_.symm; have f5_ := f3_.symm; clear f1_ f2_ f3_; subst f4_; subst f5_))
   refine hK.out _ _ ⟨(blk_cell BK249.out 0).trans rfl, (blk_cell BK249.out 1).trans rfl, (blk_cell BK249.out 2).trans rfl⟩ (fun hHeld => ?_)
   clear hK K
   refine norm_ (a' := ?_) ?_ ?_
   rotate_left
   · show Act.put _ (some 36) _ = _
     simp only [Act.put, la, lb, lc, i64_w, i32_w]
     rfl
   refine pV 9 37 (bt 10 12) ?_
   refine one_ (i := 10) (N := none) b11_12 rfl rfl (one_of HT_.out kr) (by decide) (fun K hK => ?_)
   have hs46 : w42.cell? ⟨gb250, 0, none⟩ = some (.slice none 0 0) := (blk_cell BK250.out 0).trans rfl
   have hfs46 := blk_frozen BK250.out 0
   have hns46_0 := NB249_250.out
   have hms46_0 := NB250_249.out
   have hs47 : w42.cell? ⟨gb250, 1, none⟩ = some (.slice none 0 0) := (blk_cell BK250.out 1).trans rfl
   have hfs47 := blk_frozen BK250.out 1
   have hns47_0 := NB249_250.out
   have hms47_0 := NB250_249.out
   have hs48 : w42.cell? ⟨gb250, 2, none⟩ = some (.slice none 0 0) := (blk_cell BK250.out 2).trans rfl
   have hfs48 := blk_frozen BK250.out 2
   have hns48_0 := NB249_250.out
   have hms48_0 := NB250_249.out
   refine skip_ (w1 := ?_) (by rfl) rfl ?_ ?_
   rotate_left
   · go_simp
     rfl
   refine hK.out _ _ ⟨((cell_far (p := ⟨gb250, _, none⟩) NB249_250.out _).trans (((cell_far (p := ⟨gb250, _, none⟩) NB249_250.out _).trans (((cell_far (p := ⟨gb250, _, none⟩) NB249_250.out _).trans (hHeld.1)))))), ((cell_far (p := ⟨gb250, _, none⟩) NB249_250.out _).trans (((cell_far (p := ⟨gb250, _, none⟩) NB249_250.out _).trans (((cell_far (p := ⟨gb250, _, none⟩) NB249_250.out _).trans (hHeld.2.1)))))), ((cell_far (p := ⟨gb250, _, none⟩) NB249_250.out _).trans (((cell_far (p := ⟨gb250, _, none⟩) NB249_250.out _).trans (((cell_far (p := ⟨gb250, _, none⟩) NB249_250.out _).trans (hHeld.2.2))))))⟩ (fun hHeld => ?_)
   clear hK K
   refine pV 11 5 (bt 12 12) ?_
   refine done_ (done_of HT_.out kr) ?_
   try go_wp2
   refine bodyPost_ret (results_ct rfl _ _ gb250 26 #[.slice Ao45 t263.length co45, .slice Ao44 t266.length co44, .slice Ao43 t269.length co43] (0, 0) _ rfl (by (with_reducible repeat (first | apply b1_ | apply b2_ | apply b3_)); refine blk_put (cs := #[.slice Ao45 t263.length co45, .slice Ao44 t266.length co44, .slice none 0 0]) ?_ 2 _ rfl; (with_reducible repeat (first | apply b1_ | apply b2_ | apply b3_)); refine blk_put (cs := #[.slice Ao45 t263.length co45, .slice none 0 0, .slice none 0 0]) ?_ 1 _ rfl; (with_reducible repeat (first | apply b1_ | apply b2_ | apply b3_)); refine blk_put (cs := #[.slice none 0 0, .slice none 0 0, .slice none 0 0]) ?_ 0 _ rfl; (with_reducible repeat (first | apply b1_ | apply b2_ | apply b3_)); exact BK250.out) Try.underlying26 rfl kr) rfl ?_
   exact ⟨_, _, _, er, (by (with_reducible repeat (first | apply r1_ | apply r2_ | apply r3_)); exact Kd.R_mono (Kd.R_far (p := ⟨gb250, 2, none⟩) (Kd.R_far (p := ⟨gb250, 1, none⟩) (Kd.R_far (p := ⟨gb250, 0, none⟩) (Kd.R_types HO265.out BK250.out (by decide)) (fun _ hk => hk.2) (.slice Ao45 t263.length co45)) (fun _ hk => hk.2) (.slice Ao44 t266.length co44)) (fun _ hk => hk.2) (.slice Ao43 t269.length co43)) (fun _ hk => ⟨hk.1.1.2, hk.1.2⟩)), (by (with_reducible repeat (first | apply r1_ | apply r2_ | apply r3_)); exact Kd.R_mono (Kd.R_far (p := ⟨gb250, 2, none⟩) (Kd.R_far (p := ⟨gb250, 1, none⟩) (Kd.R_far (p := ⟨gb250, 0, none⟩) (Kd.R_types HO268.out BK250.out (by decide)) (fun _ hk => hk.2) (.slice Ao45 t263.length co45)) (fun _ hk => hk.2) (.slice Ao44 t266.length co44)) (fun _ hk => hk.2) (.slice Ao43 t269.length co43)) (fun _ hk => ⟨hk.1.1.2, hk.1.2⟩)), (by (with_reducible repeat (first | apply r1_ | apply r2_ | apply r3_)); exact Kd.R_mono (Kd.R_far (p := ⟨gb250, 2, none⟩) (Kd.R_far (p := ⟨gb250, 1, none⟩) (Kd.R_far (p := ⟨gb250, 0, none⟩) (Kd.R_types HO271.out BK250.out (by decide)) (fun _ hk => hk.2) (.slice Ao45 t263.length co45)) (fun _ hk => hk.2) (.slice Ao44 t266.length co44)) (fun _ hk => hk.2) (.slice Ao43 t269.length co43)) (fun _ hk => ⟨hk.1.1.2, hk.1.2⟩)), Q6⟩
def spec_Finish.j0 : Nat → Bool → List Int → List Int → List Int → Option (List Int × List Int × List Int × Bool)
 | 0, _, _, _, _ => none
 | k + 1, x12, x273000, x273001, x273002 => if x12 = true then ((spec_l06Copy.f k x273000 x273001 x273002).bind fun bt275 => (some (bt275.1, bt275.2.1, bt275.2.2, false))) else ((spec_l01Copy.f k x273001).bind fun t284 => ((spec_l01Copy.f k x273002).bind fun t287 => (some (t284, ([] : List Int), t287, true))))
def spec_Finish.f (k : Nat) (l0_0 : List Int) (l0_1 : List Int) (l0_2 : List Int) : Option (List Int × List Int × List Int × Bool) := (spec_ConfOk.f k l0_0 l0_1 l0_2).bind fun t274 => (if t274 = true then (spec_Finish.j0 k ((l0_1.length : Int) == 0) l0_0 l0_1 l0_2) else (spec_Finish.j0 k true l0_0 l0_1 l0_2))
theorem spec_Finish.mono_l : ∀ k, (∀ y0 y1 y2 y3, LeO (spec_Finish.j0 k y0 y1 y2 y3) (spec_Finish.j0 (k + 1) y0 y1 y2 y3))
 | 0 => fun _ _ _ _ r h => by simp [spec_Finish.j0] at h
 | k + 1 => by
   have ih0 := spec_Finish.mono_l k
   · intro y0 y1 y2 y3
     unfold spec_Finish.j0
     repeat' first
     | (with_reducible exact ih0 _ _ _ _)
     | (with_reducible exact spec_ConfOk.mono _ _ _ _)
     | (with_reducible exact spec_l01Copy.mono _ _)
     | (with_reducible exact spec_l06Copy.mono _ _ _ _)
     | (with_reducible exact LeO.refl _)
     | (with_reducible exact LeO.none _)
     | (with_reducible refine LeO.ite ?_ ?_)
     | (with_reducible refine LeO.bind ?_ (fun _ => ?_))
     | exact ih0 _ _ _ _
     | exact spec_ConfOk.mono _ _ _ _
     | exact spec_l01Copy.mono _ _
     | exact spec_l06Copy.mono _ _ _ _
     | exact LeO.none _
     | refine LeO.ite ?_ ?_
     | refine LeO.bind ?_ (fun _ => ?_)
theorem spec_Finish.mono : ∀ a0 a1 a2 k, LeO (spec_Finish.f k a0 a1 a2) (spec_Finish.f (k + 1) a0 a1 a2) := by
 intro a0 a1 a2 k
 have ih0 := spec_Finish.mono_l k
 unfold spec_Finish.f
 repeat' first
     | (with_reducible exact ih0 _ _ _ _)
     | (with_reducible exact spec_ConfOk.mono _ _ _ _)
     | (with_reducible exact spec_l01Copy.mono _ _)
     | (with_reducible exact spec_l06Copy.mono _ _ _ _)
     | (with_reducible exact LeO.refl _)
     | (with_reducible exact LeO.none _)
     | (with_reducible refine LeO.ite ?_ ?_)
     | (with_reducible refine LeO.bind ?_ (fun _ => ?_))
     | exact ih0 _ _ _ _
     | exact spec_ConfOk.mono _ _ _ _
     | exact spec_l01Copy.mono _ _
     | exact spec_l06Copy.mono _ _ _ _
     | exact LeO.none _
     | refine LeO.ite ?_ ?_
     | refine LeO.bind ?_ (fun _ => ?_)
def spec_Finish.T3 : Bool × List (List Nat × List Nat) := (true, [([], []), ([0], [0]), ([1], [1]), ([], []), ([3], [3]), ([4, 2], [4]), ([2, 5], [2, 5]), ([6, 5, 0, 1, 2, 3, 4, 5, 6], [6]), ([7, 0, 1, 2, 3, 4, 5, 6, 7], [])])
def spec_Finish.B3 : List Nat := [0, 1, 3, 0, 8, 31, 63, 127, 255]
theorem spec_Finish.tab3 : rtab .any (opsOf Try.f61 3) = spec_Finish.T3 := by kernel_rfl
theorem spec_Finish.bits3 : waitsOk spec_Finish.T3.2 spec_Finish.B3 = true := by kernel_rfl
set_option maxHeartbeats 8000000 in
set_option maxRecDepth 100000 in
theorem spec_Finish.calls (k : Nat) (A0_0 : Option Addr) (c0_0 : Nat) (l0_0 : List Int) (A0_1 : Option Addr) (c0_1 : Nat) (l0_1 : List Int) (A0_2 : Option Addr) (c0_2 : Nat) (l0_2 : List Int) (r1 : List Int) (r2 : List Int) (r3 : List Int) (r4 : Bool) (w : World) (hr0_0 : Kd.C (Kd.int .i64) w A0_0 l0_0.length l0_0) (hc0_0 : l0_0.length ≤ c0_0) (hr0_1 : Kd.C (Kd.int .i64) w A0_1 l0_1.length l0_1) (hc0_1 : l0_1.length ≤ c0_1) (hr0_2 : Kd.C (Kd.int .i64) w A0_2 l0_2.length l0_2) (hc0_2 : l0_2.length ≤ c0_2) (h : spec_Finish.f k l0_0 l0_1 l0_2 = some (r1, r2, r3, r4)) :
   Calls Try.prog 61 #[.agg #[.slice A0_0 l0_0.length c0_0, .slice A0_1 l0_1.length c0_1, .slice A0_2 l0_2.length c0_2]] w fun e w' => ∃ v0_ v1_ v2_ : Value, e = .returned (.tuple #[.agg #[v0_, v1_, v2_], .bool r4]) ∧ Kd.R (Kd.int .i64) 3 w' w.heap.size (fun k_ => some k_ ≠ (v1_ : Value).ownBlock ∧ some k_ ≠ (v2_ : Value).ownBlock) v0_ r1 ∧ Kd.R (Kd.int .i64) 3 w' w.heap.size (fun k_ => some k_ ≠ (v0_ : Value).ownBlock ∧ some k_ ≠ (v2_ : Value).ownBlock) v1_ r2 ∧ Kd.R (Kd.int .i64) 3 w' w.heap.size (fun k_ => some k_ ≠ (v0_ : Value).ownBlock ∧ some k_ ≠ (v1_ : Value).ownBlock) v2_ r3 ∧ Below w.heap.size w w' := by
 have hu26 := Try.underlying26
 have HR0_0 := am hr0_0
 have HC0_0 := am hc0_0
 clear hr0_0 hc0_0
 have HR0_1 := am hr0_1
 have HC0_1 := am hc0_1
 clear hr0_1 hc0_1
 have HR0_2 := am hr0_2
 have HC0_2 := am hc0_2
 clear hr0_2 hc0_2
 have HB := am (Below.refl w.heap.size w)
 have H : ((spec_ConfOk.f k l0_0 l0_1 l0_2).bind fun t274 => (if t274 = true then (spec_Finish.j0 k ((l0_1.length : Int) == 0) l0_0 l0_1 l0_2) else (spec_Finish.j0 k true l0_0 l0_1 l0_2))) = some (r1, r2, r3, r4) := h
 clear h
 have HC2 := am H
 clear H
 go_enter Try.func61, Try.ntmps61
 go_upto_region 1 with (first | ((with_reducible refine gate_dst (N := 1) rfl ?_); (try (refine gate_guard (by rfl) ?_; dsimp only)); refine box_event ?hg (N := 1) ?hd (cs := #[.slice A0_0 l0_0.length c0_0, .slice A0_1 l0_1.length c0_1, .slice A0_2 l0_2.length c0_2]) (t := 26) ?hr ?_; (case hd => rfl); (case hg => rfl); (case hr => first | (go_simp; done) | (go_simp; rfl)); intro gb272 hg w3 hbox hb; have BK272 := am (hbox); have GW272 := am ((by rw [hg]; exact (below_size Q6) : w.heap.size ≤ gb272)); have GE272 := am ((by rw [hg]; exact (below_size Q6) : w.heap.size ≤ gb272)); replace HB := am (below_step Q6 hb); clear hb hbox hg) | ((with_reducible refine gate_dst (N := 2) rfl ?_); (try (refine gate_guard (by rfl) ?_; dsimp only)); refine box_event ?hg (N := 2) ?hd (cs := #[.slice none 0 0, .slice none 0 0, .slice none 0 0]) (t := 26) ?hr ?_; (case hd => rfl); (case hg => rfl); (case hr => first | (go_simp; done) | (go_simp; rfl)); intro gb273 hg w4 hbox hb; have BK273 := am (hbox); have GW273 := am ((by rw [hg]; exact (below_size Q6) : w.heap.size ≤ gb273)); have GE273 := am ((by rw [hg]; exact (below_size Q6) : w.heap.size ≤ gb273)); replace HB := am (below_step Q6 hb); have NB272_273 := am ((by rw [hg]; exact Nat.ne_of_lt (blk_lt (g := gb272) (o := .cells #[.slice A0_0 l0_0.length c0_0, .slice A0_1 l0_1.length c0_1, .slice A0_2 l0_2.length c0_2] 26 (0, 0)) u6_8) : gb272 ≠ gb273)); have NB273_272 := am ((by rw [hg]; exact Nat.ne_of_gt (blk_lt (g := gb272) (o := .cells #[.slice A0_0 l0_0.length c0_0, .slice A0_1 l0_1.length c0_1, .slice A0_2 l0_2.length c0_2] 26 (0, 0)) u6_8) : gb273 ≠ gb272)); replace BK272 := am (bb_ BK272.out u6_8 hb); clear hb hbox hg))
 (try simp only [Act.put, la, lb, lc])
 go_cut [12] (fun v12 wc => ∃ (kq : Nat) (x12_1 : Bool), v12 = .bool x12_1 ∧ Aside0 (spec_Finish.j0 kq x12_1 l0_0 l0_1 l0_2 = some (r1, r2, r3, r4)) ∧ Aside0 (kq ≤ k) ∧ Aside0 (wc.heap[gb272]? = some (.cells #[(.slice A0_0 l0_0.length c0_0), (.slice A0_1 l0_1.length c0_1), (.slice A0_2 l0_2.length c0_2)] 26 (0, 0))) ∧ Aside0 (wc.heap[gb273]? = some (.cells #[(.slice none 0 0), (.slice none 0 0), (.slice none 0 0)] 26 (0, 0))) ∧ Aside0 (Below w.heap.size w wc))
 case first =>
   have H := HC2.out
   clear HC2
   replace H := Option.bind_eq_some_iff.mp H
   obtain ⟨t274, A50, H⟩ := H
   have A5 := am A50
   clear A50
   by_cases c6 : t274 = true
   rotate_left
   · replace c6 := Bool.eq_false_iff.mpr c6
     subst c6
     rw [nf] at H
     have H' := am H
     clear H
     have hnb11 := NB272_273.out
     have hnc11 := NB273_272.out
     obtain ⟨hcz12_0, hcz12_1, hcz12_2, hfz12_0, hfz12_1, hfz12_2⟩ := bc3f w4 BK272.out
     go_wp2_with (first | ((with_reducible refine gate_callee (f := 53) rfl ?_); refine goesL_ (some 5) rfl rfl Try.func53 kr rfl #[.agg #[.slice A0_0 l0_0.length c0_0, .slice A0_1 l0_1.length c0_1, .slice A0_2 l0_2.length c0_2]] rfl Q10 ?_; (with_reducible refine (spec_ConfOk.calls k _ _ l0_0 _ _ l0_1 _ _ l0_2 false _ ?side1 ?side2 ?side3 ?side4 ?side5 ?side6 A5.out).mono ?_); (case side1 => exact Q0); (case side2 => exact HC0_0.out); (case side3 => exact Q7); (case side4 => exact HC0_1.out); (case side5 => exact Q2); (case side6 => exact HC0_2.out); rintro e w13 ⟨rfl, hb⟩; refine ⟨_, rfl, ?_⟩; replace BK272 := am (bb_ BK272.out u6_8 hb); replace BK273 := am (bb_ BK273.out u6_9 hb); replace HB := am (below_step Q6 hb); (try clear hb); (try clear hb2); (try clear hk); (try clear hi)))
     go_meet
     case rel => exact ⟨_, (true), Q9, H', ⟨by first | omega | exact Nat.le_refl _⟩, ⟨u6_8⟩, ⟨u6_9⟩, ⟨Q6⟩⟩
   subst c6
   rw [if_pos rfl] at H
   have H' := am H
   clear H
   have hnb7 := NB272_273.out
   have hnc7 := NB273_272.out
   obtain ⟨hcz8_0, hcz8_1, hcz8_2, hfz8_0, hfz8_1, hfz8_2⟩ := bc3f w4 BK272.out
   go_wp2_with (first | ((with_reducible refine gate_callee (f := 53) rfl ?_); refine goesL_ (some 5) rfl rfl Try.func53 kr rfl #[.agg #[.slice A0_0 l0_0.length c0_0, .slice A0_1 l0_1.length c0_1, .slice A0_2 l0_2.length c0_2]] rfl Q10 ?_; (with_reducible refine (spec_ConfOk.calls k _ _ l0_0 _ _ l0_1 _ _ l0_2 true _ ?side1 ?side2 ?side3 ?side4 ?side5 ?side6 A5.out).mono ?_); (case side1 => exact Q0); (case side2 => exact HC0_0.out); (case side3 => exact Q7); (case side4 => exact HC0_1.out); (case side5 => exact Q2); (case side6 => exact HC0_2.out); rintro e w9 ⟨rfl, hb⟩; refine ⟨_, rfl, ?_⟩; replace BK272 := am (bb_ BK272.out u6_8 hb); replace BK273 := am (bb_ BK273.out u6_9 hb); replace HB := am (below_step Q6 hb); (try clear hb); (try clear hb2); (try clear hk); (try clear hi); obtain ⟨hcz10_0, hcz10_1, hcz10_2, hfz10_0, hfz10_1, hfz10_2⟩ := bc3f w9 BK272.out))
   go_meet
   case rel => exact ⟨_, (((l0_1.length : Int) == 0)), Q9, H', ⟨by first | omega | exact Nat.le_refl _⟩, ⟨u6_8⟩, ⟨u6_9⟩, ⟨Q6⟩⟩
 clear HC2
 obtain ⟨kq, x12_1, rfl, HA, HJ1, BK272, BK273, HB⟩ := hcut
 cases kq with
 | zero => exact absurd HA.out (by simp [spec_Finish.j0])
 | succ kj1 =>
   have H := HA.out
   clear HA
   simp only [spec_Finish.j0] at H
   by_cases c14 : x12_1 = true
   · subst c14
     rw [if_pos rfl] at H
     replace H := Option.bind_eq_some_iff.mp H
     obtain ⟨⟨t275, t278, t281⟩, A150, H⟩ := H
     replace H : (some (t275, t278, t281, false)) = some (r1, r2, r3, r4) := H
     have A15 := am A150
     clear A150
     simp only [Option.some.injEq, Prod.mk.injEq] at H
     obtain ⟨rfl, rfl, rfl, rfl⟩ := H
     have hnb16 := NB272_273.out
     have hnc16 := NB273_272.out
     obtain ⟨hcz17_0, hcz17_1, hcz17_2, hfz17_0, hfz17_1, hfz17_2⟩ := bc3f wc BK272.out
     go_wp2_with (first | ((with_reducible refine gate_callee (f := 55) rfl ?_); refine goesL_ (some 14) rfl rfl Try.func55 kr rfl #[.agg #[.slice A0_0 l0_0.length c0_0, .slice A0_1 l0_1.length c0_1, .slice A0_2 l0_2.length c0_2]] rfl Q10 ?_; (with_reducible refine (spec_l06Copy.calls kj1 _ _ l0_0 _ _ l0_1 _ _ l0_2 t275 t278 t281 _ ?side1 ?side2 ?side3 ?side4 ?side5 ?side6 A15.out).mono ?_); (case side1 => exact Q0); (case side2 => exact HC0_0.out); (case side3 => exact Q7); (case side4 => exact HC0_1.out); (case side5 => exact Q2); (case side6 => exact HC0_2.out); rintro e w18 ⟨v276, v279, v282, rfl, ho0, ho1, ho2, hb⟩; refine ⟨_, rfl, ?_⟩; have HO277 := am (Kd.R_lower ho0 (below_size Q6)); have HO280 := am (Kd.R_lower ho1 (below_size Q6)); have HO283 := am (Kd.R_lower ho2 (below_size Q6)); replace BK272 := am (bb_ BK272.out u6_8 hb); replace BK273 := am (bb_ BK273.out u6_9 hb); replace HB := am (below_step Q6 hb); (try clear hb); (try clear hb2); (try clear hk); (try clear hi); (try clear ho0); (try clear ho1); (try clear ho2); obtain ⟨Ao19, co19, eo19⟩ := Kd.R_slice HO277.out; subst eo19; obtain ⟨hcz20_0, hcz20_1, hcz20_2, hfz20_0, hfz20_1, hfz20_2⟩ := bc3f w18 BK273.out; obtain ⟨Ao21, co21, eo21⟩ := Kd.R_slice HO280.out; subst eo21; obtain ⟨Ao22, co22, eo22⟩ := Kd.R_slice HO283.out; subst eo22))
     refine bodyPost_ret (results_ct rfl _ _ gb273 26 #[.slice Ao19 t275.length co19, .slice Ao21 t278.length co21, .slice Ao22 t281.length co22] (0, 0) _ rfl (by (with_reducible repeat (first | apply b1_ | apply b2_ | apply b3_)); refine blk_put (cs := #[.slice Ao19 t275.length co19, .slice Ao21 t278.length co21, .slice none 0 0]) ?_ 2 _ rfl; (with_reducible repeat (first | apply b1_ | apply b2_ | apply b3_)); refine blk_put (cs := #[.slice Ao19 t275.length co19, .slice none 0 0, .slice none 0 0]) ?_ 1 _ rfl; (with_reducible repeat (first | apply b1_ | apply b2_ | apply b3_)); refine blk_put (cs := #[.slice none 0 0, .slice none 0 0, .slice none 0 0]) ?_ 0 _ rfl; (with_reducible repeat (first | apply b1_ | apply b2_ | apply b3_)); exact BK273.out) Try.underlying26 rfl kr) rfl ?_
     exact ⟨_, _, _, er, (by (with_reducible repeat (first | apply r1_ | apply r2_ | apply r3_)); exact Kd.R_mono (Kd.R_far (p := ⟨gb273, 2, none⟩) (Kd.R_far (p := ⟨gb273, 1, none⟩) (Kd.R_far (p := ⟨gb273, 0, none⟩) (Kd.R_types HO277.out BK273.out (by decide)) (fun _ hk => hk.2) (.slice Ao19 t275.length co19)) (fun _ hk => hk.2) (.slice Ao21 t278.length co21)) (fun _ hk => hk.2) (.slice Ao22 t281.length co22)) (fun _ hk => ⟨hk.1.1, hk.1.2⟩)), (by (with_reducible repeat (first | apply r1_ | apply r2_ | apply r3_)); exact Kd.R_mono (Kd.R_far (p := ⟨gb273, 2, none⟩) (Kd.R_far (p := ⟨gb273, 1, none⟩) (Kd.R_far (p := ⟨gb273, 0, none⟩) (Kd.R_types HO280.out BK273.out (by decide)) (fun _ hk => hk.2) (.slice Ao19 t275.length co19)) (fun _ hk => hk.2) (.slice Ao21 t278.length co21)) (fun _ hk => hk.2) (.slice Ao22 t281.length co22)) (fun _ hk => ⟨hk.1.1, hk.1.2⟩)), (by (with_reducible repeat (first | apply r1_ | apply r2_ | apply r3_)); exact Kd.R_mono (Kd.R_far (p := ⟨gb273, 2, none⟩) (Kd.R_far (p := ⟨gb273, 1, none⟩) (Kd.R_far (p := ⟨gb273, 0, none⟩) (Kd.R_types HO283.out BK273.out (by decide)) (fun _ hk => hk.2) (.slice Ao19 t275.length co19)) (fun _ hk => hk.2) (.slice Ao21 t278.length co21)) (fun _ hk => hk.2) (.slice Ao22 t281.length co22)) (fun _ hk => ⟨hk.1.1, hk.1.2⟩)), Q6⟩
   replace c14 := Bool.eq_false_iff.mpr c14
   subst c14
   rw [nf] at H
   replace H := Option.bind_eq_some_iff.mp H
   obtain ⟨t284, A230, H⟩ := H
   have A23 := am A230
   clear A230
   replace H := Option.bind_eq_some_iff.mp H
   obtain ⟨t287, A240, H⟩ := H
   replace H : (some (t284, ([] : List Int), t287, true)) = some (r1, r2, r3, r4) := H
   have A24 := am A240
   clear A240
   simp only [Option.some.injEq, Prod.mk.injEq] at H
   obtain ⟨rfl, rfl, rfl, rfl⟩ := H
   try go_wp2
   replace BK272 := am (blk_drew BK272.out)
   replace BK273 := am (blk_drew BK273.out)
   replace HB := am (below_drew1 HB.out)
   refine start_ (n := 9) (S := fun w' => w'.cell? ⟨gb272, 0, none⟩ = some (.slice A0_0 l0_0.length c0_0) ∧ w'.cell? ⟨gb272, 1, none⟩ = some (.slice A0_1 l0_1.length c0_1) ∧ w'.cell? ⟨gb272, 2, none⟩ = some (.slice A0_2 l0_2.length c0_2)) (ds := []) #[false, false, false, false, false, false, false, false, false] kr rfl rfl ⟨(blk_cell BK272.out 0).trans rfl, (blk_cell BK272.out 1).trans rfl, (blk_cell BK272.out 2).trans rfl⟩ (fun hHeld => ?_); refine with_tabW spec_Finish.tab3 spec_Finish.bits3 (fun HT_ HW_ => ?_)
   generalize wc.drew = w25 at BK272 BK273 HB hHeld ⊢
   refine pV 0 15 (bt 1 9) ?_
   refine pV 3 18 #[true, false, false, true, false, false, false, false, false] ?_
   refine tV 1 16 #[true, true, false, true, false, false, false, false, false] ?_
   refine tV 4 19 #[true, true, false, true, true, false, false, false, false] ?_
   refine one_ (i := 2) (N := some 17) #[true, true, true, true, true, false, false, false, false] rfl rfl (one_of HT_.out kr) (by decide) (fun K hK => ?_)
   refine goes_ Try.func83 kr rfl #[.slice A0_1 l0_1.length c0_1] (by rfl) rfl rfl Q10 ?_
   with_reducible refine (spec_l01Copy.calls kj1 _ _ l0_1 t284 _ ?side1 ?side2 A23.out).mono ?_
   (case side1 => exact Q7)
   (case side2 => exact HC0_1.out)
   rintro e w26 ⟨v285, rfl, ho0, hb⟩
   refine ⟨_, rfl, ?_⟩
   have HO286 := am (Kd.R_lower ho0 (below_size Q6))
   replace BK272 := am (bb_ BK272.out u6_8 hb)
   replace BK273 := am (bb_ BK273.out u6_9 hb)
   replace HB := am (below_step Q6 hb)
   (try clear hb)
   (try clear hb2)
   (try clear hk)
   (try clear hi)
   (try clear ho0)
   refine hK.out _ _ ⟨(blk_cell BK272.out 0).trans rfl, (blk_cell BK272.out 1).trans rfl, (blk_cell BK272.out 2).trans rfl⟩ (fun hHeld => ?_)
   clear hK K
   refine norm_ (a' := ?_) ?_ ?_
   rotate_left
   · show Act.put _ (some 17) _ = _
     simp only [Act.put, la, lb, lc, i64_w, i32_w]
     rfl
   refine one_ (i := 5) (N := some 20) #[true, true, true, true, true, true, false, false, false] rfl rfl (one_of HT_.out kr) (by decide) (fun K hK => ?_)
   refine goes_ Try.func83 kr rfl #[.slice A0_2 l0_2.length c0_2] (by rfl) rfl rfl Q10 ?_
   with_reducible refine (spec_l01Copy.calls kj1 _ _ l0_2 t287 _ ?side1 ?side2 A24.out).mono ?_
   (case side1 => exact Q2)
   (case side2 => exact HC0_2.out)
   rintro e w27 ⟨v288, rfl, ho0, hb⟩
   refine ⟨_, rfl, ?_⟩
   have HO289 := am (Kd.R_lower (Kd.R_new' ho0 (Kd.R_lt u6_17)) (below_size Q6))
   replace HO286 := am (Kd.R_elder' u6_17 (Kd.R_base ho0) hb)
   replace BK272 := am (bb_ BK272.out u6_8 hb)
   replace BK273 := am (bb_ BK273.out u6_9 hb)
   replace HB := am (below_step Q6 hb)
   (try clear hb)
   (try clear hb2)
   (try clear hk)
   (try clear hi)
   (try clear ho0)
   obtain ⟨Ao28, co28, eo28⟩ := Kd.R_slice HO289.out
   (first | subst eo28 | (injection eo28 with f1_ f2_ f3_; have f4_ := f1_.symm; have f5_ := f3_.symm; clear f1_ f2_ f3_; subst f4_; subst f5_))
   obtain ⟨Ao29, co29, eo29⟩ := Kd.R_slice HO286.out
   (first | subst eo29 | (injection eo29 with f1_ f2_ f3_; have f4_ := f1_.symm; have f5_ := f3_.symm; clear f1_ f2_ f3_; subst f4_; subst f5_))
   refine hK.out _ _ ⟨(blk_cell BK272.out 0).trans rfl, (blk_cell BK272.out 1).trans rfl, (blk_cell BK272.out 2).trans rfl⟩ (fun hHeld => ?_)
   clear hK K
   refine norm_ (a' := ?_) ?_ ?_
   rotate_left
   · show Act.put _ (some 20) _ = _
     simp only [Act.put, la, lb, lc, i64_w, i32_w]
     rfl
   refine pV 6 21 (bt 7 9) ?_
   refine one_ (i := 7) (N := none) #[true, true, true, true, true, true, true, true, false] rfl rfl (one_of HT_.out kr) (by decide) (fun K hK => ?_)
   have hs30 : w27.cell? ⟨gb273, 0, none⟩ = some (.slice none 0 0) := (blk_cell BK273.out 0).trans rfl
   have hfs30 := blk_frozen BK273.out 0
   have hns30_0 := NB272_273.out
   have hms30_0 := NB273_272.out
   have hs31 : w27.cell? ⟨gb273, 1, none⟩ = some (.slice none 0 0) := (blk_cell BK273.out 1).trans rfl
   have hfs31 := blk_frozen BK273.out 1
   have hns31_0 := NB272_273.out
   have hms31_0 := NB273_272.out
   have hs32 : w27.cell? ⟨gb273, 2, none⟩ = some (.slice none 0 0) := (blk_cell BK273.out 2).trans rfl
   have hfs32 := blk_frozen BK273.out 2
   have hns32_0 := NB272_273.out
   have hms32_0 := NB273_272.out
   refine skip_ (w1 := ?_) (by rfl) rfl ?_ ?_
   rotate_left
   · go_simp
     rfl
   refine hK.out _ _ ⟨((cell_far (p := ⟨gb273, _, none⟩) NB272_273.out _).trans (((cell_far (p := ⟨gb273, _, none⟩) NB272_273.out _).trans (((cell_far (p := ⟨gb273, _, none⟩) NB272_273.out _).trans (hHeld.1)))))), ((cell_far (p := ⟨gb273, _, none⟩) NB272_273.out _).trans (((cell_far (p := ⟨gb273, _, none⟩) NB272_273.out _).trans (((cell_far (p := ⟨gb273, _, none⟩) NB272_273.out _).trans (hHeld.2.1)))))), ((cell_far (p := ⟨gb273, _, none⟩) NB272_273.out _).trans (((cell_far (p := ⟨gb273, _, none⟩) NB272_273.out _).trans (((cell_far (p := ⟨gb273, _, none⟩) NB272_273.out _).trans (hHeld.2.2))))))⟩ (fun hHeld => ?_)
   clear hK K
   refine pV 8 3 (bt 9 9) ?_
   refine done_ (done_of HT_.out kr) ?_
   try go_wp2
   refine bodyPost_ret (results_ct rfl _ _ gb273 26 #[.slice Ao29 t284.length co29, .slice none 0 0, .slice Ao28 t287.length co28] (0, 0) _ rfl (by (with_reducible repeat (first | apply b1_ | apply b2_ | apply b3_)); refine blk_put (cs := #[.slice Ao29 t284.length co29, .slice none 0 0, .slice none 0 0]) ?_ 2 _ rfl; (with_reducible repeat (first | apply b1_ | apply b2_ | apply b3_)); refine blk_put (cs := #[.slice Ao29 t284.length co29, .slice none 0 0, .slice none 0 0]) ?_ 1 _ rfl; (with_reducible repeat (first | apply b1_ | apply b2_ | apply b3_)); refine blk_put (cs := #[.slice none 0 0, .slice none 0 0, .slice none 0 0]) ?_ 0 _ rfl; (with_reducible repeat (first | apply b1_ | apply b2_ | apply b3_)); exact BK273.out) Try.underlying26 rfl kr) rfl ?_
   exact ⟨_, _, _, er, (by (with_reducible repeat (first | apply r1_ | apply r2_ | apply r3_)); exact Kd.R_mono (Kd.R_far (p := ⟨gb273, 2, none⟩) (Kd.R_far (p := ⟨gb273, 1, none⟩) (Kd.R_far (p := ⟨gb273, 0, none⟩) (Kd.R_types HO286.out BK273.out (by decide)) (fun _ hk => hk.2) (.slice Ao29 t284.length co29)) (fun _ hk => hk.2) (.slice none 0 0)) (fun _ hk => hk.2) (.slice Ao28 t287.length co28)) (fun _ hk => ⟨(by simp [Value.ownBlock]), hk.1.2⟩)), (by first | exact Kd.R_nil _ _ _ _ _ | exact Kd.N_nil _ _ _ _ _ | exact Kd.V_nil _ _ _ _ _ | exact Kd.Q_nil _ _ _ _ _ | exact Kd.S_nil _ _ _ _ _), (by (with_reducible repeat (first | apply r1_ | apply r2_ | apply r3_)); exact Kd.R_mono (Kd.R_far (p := ⟨gb273, 2, none⟩) (Kd.R_far (p := ⟨gb273, 1, none⟩) (Kd.R_far (p := ⟨gb273, 0, none⟩) (Kd.R_types HO289.out BK273.out (by decide)) (fun _ hk => hk.2) (.slice Ao29 t284.length co29)) (fun _ hk => hk.2) (.slice none 0 0)) (fun _ hk => hk.2) (.slice Ao28 t287.length co28)) (fun _ hk => ⟨hk.1.2, (by simp [Value.ownBlock])⟩)), Q6⟩
end Go.Proofs.Ytoemdmjdpikfbaa.QFnExactPlayConf
