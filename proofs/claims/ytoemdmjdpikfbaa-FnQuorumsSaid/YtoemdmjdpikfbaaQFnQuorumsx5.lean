-- Printed by the session's own program wip/prx.py.
import Derived.Test.YtoemdmjdpikfbaaSqFnQuorums
import Derived.Test.YtoemdmjdpikfbaaQFnQuorumsx0
import Derived.Test.YtoemdmjdpikfbaaQFnQuorumsx1
import Derived.Test.YtoemdmjdpikfbaaQFnQuorumsx2
import Derived.Test.YtoemdmjdpikfbaaQFnQuorumsx3
namespace Go.Proofs.Ytoemdmjdpikfbaa.QFnQuorums
open Go.RowKit Go.Proofs.YtoemdmjdpikfbaaW.PrintWords Go.Proofs.YtoemdmjdpikfbaaW.PrintLast Go.Proofs.YtoemdmjdpikfbaaW.PrintMore Go.Proofs.Ytoemdmjdpikfbaa.SqFnQuorums
attribute [local go_sem] max2_int min2_int max_two min_two max_three min_three max_four min_four Go.Proofs.Ytoemdmjdpikfbaa.Set.isSome_setCell
set_option linter.unusedVariables false
set_option linter.unusedSimpArgs false

-- squeezed
theorem u5_3 {P : Prop} (h : P := by (with_reducible repeat (first | refine blk_drewN ?_ _ | refine blk_drew ?_ | refine blk_alloc ?_ _)); exact BK207.out) : P := h
theorem u5_7 {P : Prop} (h : P := by (with_reducible repeat (first | refine blk_drewN ?_ _ | refine blk_drew ?_ | refine blk_alloc ?_ _)); exact BK208.out) : P := h
theorem u5_8 {P : Prop} (h : P := by (with_reducible repeat (first | refine blk_drewN ?_ _ | refine blk_drew ?_ | refine blk_alloc ?_ _)); exact BK230.out) : P := h
theorem u5_9 {P : Prop} (h : P := by (with_reducible repeat (first | refine blk_drewN ?_ _ | refine blk_drew ?_ | refine blk_alloc ?_ _)); exact BK231.out) : P := h
theorem u5_14 {P : Prop} (h : P := by (with_reducible repeat (first | apply Kd.R_alloc | apply Kd.R_drewN | apply Kd.R_drew)); exact HO223.out) : P := h
theorem u5_16 {P : Prop} (h : P := by (with_reducible repeat (first | apply Kd.R_alloc | apply Kd.R_drewN | apply Kd.R_drew)); exact HO226.out) : P := h
theorem u5_17 {P : Prop} (h : P := by (with_reducible repeat (first | apply Kd.R_alloc | apply Kd.R_drewN | apply Kd.R_drew)); exact HO244.out) : P := h
/-! ### spec_Begin: function 60 -/
def spec_Begin.j0 : Nat → List Int → Bool → List Int → List Int → List Int → Option (List Int × List Int × List Int × Bool)
 | 0, _, _, _, _, _ => none
 | k + 1, x1, x25, x208000, x208001, x208002 => if x25 = true then ((spec_l06Copy.f k x208000 x208001 x208002).bind fun bt212 => (some (bt212.1, bt212.2.1, bt212.2.2, false))) else ((spec_l01Copy.f k x208000).bind fun t221 => ((spec_l01Copy.f k x1).bind fun t224 => ((spec_l06Less.f k x208002 x1).bind fun t227 => (some (t221, t224, t227, true)))))
def spec_Begin.f (k : Nat) (l0_0 : List Int) (l0_1 : List Int) (l0_2 : List Int) (l1 : List Int) : Option (List Int × List Int × List Int × Bool) := (spec_ConfOk.f k l0_0 l0_1 l0_2).bind fun t209 => (if t209 = true then (if (l0_1.length : Int) > 0 then (spec_Begin.j0 k l1 true l0_0 l0_1 l0_2) else ((spec_l06Set.f k l1).bind fun t210 => (if t210 = true then ((spec_l06Same.f k l0_0 l1).bind fun t211 => (spec_Begin.j0 k l1 t211 l0_0 l0_1 l0_2)) else (spec_Begin.j0 k l1 true l0_0 l0_1 l0_2)))) else (spec_Begin.j0 k l1 true l0_0 l0_1 l0_2))
theorem spec_Begin.mono_l : ∀ k, (∀ y0 y1 y2 y3 y4, LeO (spec_Begin.j0 k y0 y1 y2 y3 y4) (spec_Begin.j0 (k + 1) y0 y1 y2 y3 y4))
 | 0 => fun _ _ _ _ _ r h => by simp [spec_Begin.j0] at h
 | k + 1 => by
   have ih0 := spec_Begin.mono_l k
   · intro y0 y1 y2 y3 y4
     unfold spec_Begin.j0
     repeat' first
     | (with_reducible exact ih0 _ _ _ _ _)
     | (with_reducible exact spec_ConfOk.mono _ _ _ _)
     | (with_reducible exact spec_l01Copy.mono _ _)
     | (with_reducible exact spec_l06Copy.mono _ _ _ _)
     | (with_reducible exact spec_l06Less.mono _ _ _)
     | (with_reducible exact spec_l06Same.mono _ _ _)
     | (with_reducible exact spec_l06Set.mono _ _)
     | (with_reducible exact LeO.refl _)
     | (with_reducible exact LeO.none _)
     | (with_reducible refine LeO.ite ?_ ?_)
     | (with_reducible refine LeO.bind ?_ (fun _ => ?_))
     | exact ih0 _ _ _ _ _
     | exact spec_ConfOk.mono _ _ _ _
     | exact spec_l01Copy.mono _ _
     | exact spec_l06Copy.mono _ _ _ _
     | exact spec_l06Less.mono _ _ _
     | exact spec_l06Same.mono _ _ _
     | exact spec_l06Set.mono _ _
     | exact LeO.none _
     | refine LeO.ite ?_ ?_
     | refine LeO.bind ?_ (fun _ => ?_)
theorem spec_Begin.mono : ∀ a0 a1 a2 a3 k, LeO (spec_Begin.f k a0 a1 a2 a3) (spec_Begin.f (k + 1) a0 a1 a2 a3) := by
 intro a0 a1 a2 a3 k
 have ih0 := spec_Begin.mono_l k
 unfold spec_Begin.f
 repeat' first
     | (with_reducible exact ih0 _ _ _ _ _)
     | (with_reducible exact spec_ConfOk.mono _ _ _ _)
     | (with_reducible exact spec_l01Copy.mono _ _)
     | (with_reducible exact spec_l06Copy.mono _ _ _ _)
     | (with_reducible exact spec_l06Less.mono _ _ _)
     | (with_reducible exact spec_l06Same.mono _ _ _)
     | (with_reducible exact spec_l06Set.mono _ _)
     | (with_reducible exact LeO.refl _)
     | (with_reducible exact LeO.none _)
     | (with_reducible refine LeO.ite ?_ ?_)
     | (with_reducible refine LeO.bind ?_ (fun _ => ?_))
     | exact ih0 _ _ _ _ _
     | exact spec_ConfOk.mono _ _ _ _
     | exact spec_l01Copy.mono _ _
     | exact spec_l06Copy.mono _ _ _ _
     | exact spec_l06Less.mono _ _ _
     | exact spec_l06Same.mono _ _ _
     | exact spec_l06Set.mono _ _
     | exact LeO.none _
     | refine LeO.ite ?_ ?_
     | refine LeO.bind ?_ (fun _ => ?_)
def spec_Begin.T3 : Bool × List (List Nat × List Nat) := (true, [([], []), ([0], [0]), ([1], [1]), ([], []), ([3, 2], [3]), ([], []), ([5], [5]), ([], []), ([6, 7, 4], [6, 7]), ([2, 4, 8], [2, 4, 8]), ([9, 8, 0, 1, 2, 3, 4, 5, 6, 7, 8, 9], [9]), ([10, 0, 1, 2, 3, 4, 5, 6, 7, 8, 9, 10], [])])
def spec_Begin.B3 : List Nat := [0, 1, 3, 0, 15, 0, 32, 0, 255, 511, 1023, 2047]
theorem spec_Begin.tab3 : rtab .any (opsOf Try.f60 3) = spec_Begin.T3 := by kernel_rfl
theorem spec_Begin.bits3 : waitsOk spec_Begin.T3.2 spec_Begin.B3 = true := by kernel_rfl
set_option maxHeartbeats 8000000 in
set_option maxRecDepth 100000 in
theorem spec_Begin.calls (k : Nat) (A0_0 : Option Addr) (c0_0 : Nat) (l0_0 : List Int) (A0_1 : Option Addr) (c0_1 : Nat) (l0_1 : List Int) (A0_2 : Option Addr) (c0_2 : Nat) (l0_2 : List Int) (A1 : Option Addr) (c1 : Nat) (l1 : List Int) (r1 : List Int) (r2 : List Int) (r3 : List Int) (r4 : Bool) (w : World) (hr0_0 : Kd.C (Kd.int .i64) w A0_0 l0_0.length l0_0) (hc0_0 : l0_0.length ≤ c0_0) (hr0_1 : Kd.C (Kd.int .i64) w A0_1 l0_1.length l0_1) (hc0_1 : l0_1.length ≤ c0_1) (hr0_2 : Kd.C (Kd.int .i64) w A0_2 l0_2.length l0_2) (hc0_2 : l0_2.length ≤ c0_2) (hr1 : Kd.C (Kd.int .i64) w A1 l1.length l1) (hc1 : l1.length ≤ c1) (h : spec_Begin.f k l0_0 l0_1 l0_2 l1 = some (r1, r2, r3, r4)) :
   Calls Try.prog 60 #[.agg #[.slice A0_0 l0_0.length c0_0, .slice A0_1 l0_1.length c0_1, .slice A0_2 l0_2.length c0_2], .slice A1 l1.length c1] w fun e w' => ∃ v0_ v1_ v2_ : Value, e = .returned (.tuple #[.agg #[v0_, v1_, v2_], .bool r4]) ∧ Kd.R (Kd.int .i64) 3 w' w.heap.size (fun k_ => some k_ ≠ (v1_ : Value).ownBlock ∧ some k_ ≠ (v2_ : Value).ownBlock) v0_ r1 ∧ Kd.R (Kd.int .i64) 3 w' w.heap.size (fun k_ => some k_ ≠ (v0_ : Value).ownBlock ∧ some k_ ≠ (v2_ : Value).ownBlock) v1_ r2 ∧ Kd.R (Kd.int .i64) 3 w' w.heap.size (fun k_ => some k_ ≠ (v0_ : Value).ownBlock ∧ some k_ ≠ (v1_ : Value).ownBlock) v2_ r3 ∧ Below w.heap.size w w' := by
 have hu26 := Try.underlying26
 have HR0_0 := am hr0_0
 have HC0_0 := am hc0_0
 clear hr0_0 hc0_0
 have HR0_1 := am hr0_1
 have HC0_1 := am hc0_1
 clear hr0_1 hc0_1
 have HR0_2 := am hr0_2
 have HC0_2 := am hc0_2
 clear hr0_2 hc0_2
 have HR1 := am hr1
 have HC1 := am hc1
 clear hr1 hc1
 have HB := am (Below.refl w.heap.size w)
 have H : ((spec_ConfOk.f k l0_0 l0_1 l0_2).bind fun t209 => (if t209 = true then (if (l0_1.length : Int) > 0 then (spec_Begin.j0 k l1 true l0_0 l0_1 l0_2) else ((spec_l06Set.f k l1).bind fun t210 => (if t210 = true then ((spec_l06Same.f k l0_0 l1).bind fun t211 => (spec_Begin.j0 k l1 t211 l0_0 l0_1 l0_2)) else (spec_Begin.j0 k l1 true l0_0 l0_1 l0_2)))) else (spec_Begin.j0 k l1 true l0_0 l0_1 l0_2))) = some (r1, r2, r3, r4) := h
 clear h
 have HC3 := am H
 clear H
 go_enter Try.func60, Try.ntmps60
 go_upto_region 1 with (first | ((with_reducible refine gate_dst (N := 2) rfl ?_); (try (refine gate_guard (by rfl) ?_; dsimp only)); refine box_event ?hg (N := 2) ?hd (cs := #[.slice A0_0 l0_0.length c0_0, .slice A0_1 l0_1.length c0_1, .slice A0_2 l0_2.length c0_2]) (t := 26) ?hr ?_; (case hd => rfl); (case hg => rfl); (case hr => first | (go_simp; done) | (go_simp; rfl)); intro gb207 hg w4 hbox hb; have BK207 := am (hbox); have GW207 := am ((by rw [hg]; exact (below_size Q0) : w.heap.size ≤ gb207)); have GE207 := am ((by rw [hg]; exact (below_size Q0) : w.heap.size ≤ gb207)); replace HB := am (below_step Q0 hb); clear hb hbox hg) | ((with_reducible refine gate_dst (N := 4) rfl ?_); (try (refine gate_guard (by rfl) ?_; dsimp only)); refine box_event ?hg (N := 4) ?hd (cs := #[.slice none 0 0, .slice none 0 0, .slice none 0 0]) (t := 26) ?hr ?_; (case hd => rfl); (case hg => rfl); (case hr => first | (go_simp; done) | (go_simp; rfl)); intro gb208 hg w5 hbox hb; have BK208 := am (hbox); have GW208 := am ((by rw [hg]; exact (below_size Q0) : w.heap.size ≤ gb208)); have GE208 := am ((by rw [hg]; exact (below_size Q0) : w.heap.size ≤ gb208)); replace HB := am (below_step Q0 hb); have NB207_208 := am ((by rw [hg]; exact Nat.ne_of_lt (blk_lt (g := gb207) (o := .cells #[.slice A0_0 l0_0.length c0_0, .slice A0_1 l0_1.length c0_1, .slice A0_2 l0_2.length c0_2] 26 (0, 0)) u5_3) : gb207 ≠ gb208)); have NB208_207 := am ((by rw [hg]; exact Nat.ne_of_gt (blk_lt (g := gb207) (o := .cells #[.slice A0_0 l0_0.length c0_0, .slice A0_1 l0_1.length c0_1, .slice A0_2 l0_2.length c0_2] 26 (0, 0)) u5_3) : gb208 ≠ gb207)); replace BK207 := am (blk_below (g := gb207) (o := .cells #[.slice A0_0 l0_0.length c0_0, .slice A0_1 l0_1.length c0_1, .slice A0_2 l0_2.length c0_2] 26 (0, 0)) u5_3 hb); clear hb hbox hg))
 (try simp only [Act.put, la, lb, lc])
 go_cut [25] (fun v25 wc => ∃ (kq : Nat) (x25_2 : Bool), v25 = .bool x25_2 ∧ Aside0 (spec_Begin.j0 kq l1 x25_2 l0_0 l0_1 l0_2 = some (r1, r2, r3, r4)) ∧ Aside0 (kq ≤ k) ∧ Aside0 (wc.heap[gb207]? = some (.cells #[(.slice A0_0 l0_0.length c0_0), (.slice A0_1 l0_1.length c0_1), (.slice A0_2 l0_2.length c0_2)] 26 (0, 0))) ∧ Aside0 (wc.heap[gb208]? = some (.cells #[(.slice none 0 0), (.slice none 0 0), (.slice none 0 0)] 26 (0, 0))) ∧ Aside0 (Below w.heap.size w wc))
 case first =>
   have H := HC3.out
   clear HC3
   replace H := Option.bind_eq_some_iff.mp H
   obtain ⟨t209, A60, H⟩ := H
   have A6 := am A60
   clear A60
   by_cases c7 : t209 = true
   rotate_left
   · replace c7 := Bool.eq_false_iff.mpr c7
     subst c7
     rw [nf] at H
     have H' := am H
     clear H
     have hnb24 := NB207_208.out
     have hnc24 := NB208_207.out
     obtain ⟨hcz25_0, hcz25_1, hcz25_2, hfz25_0, hfz25_1, hfz25_2⟩ := bc3f w5 BK207.out
     go_wp2_with (first | ((with_reducible refine gate_callee (f := 53) rfl ?_); refine goesL_ (some 7) rfl rfl Try.func53 kr rfl #[.agg #[.slice A0_0 l0_0.length c0_0, .slice A0_1 l0_1.length c0_1, .slice A0_2 l0_2.length c0_2]] rfl Q3 ?_; (with_reducible refine (spec_ConfOk.calls k _ _ l0_0 _ _ l0_1 _ _ l0_2 false _ ?side1 ?side2 ?side3 ?side4 ?side5 ?side6 A6.out).mono ?_); (case side1 => exact Q6); (case side2 => exact HC0_0.out); (case side3 => exact Q8); (case side4 => exact HC0_1.out); (case side5 => exact Q7); (case side6 => exact HC0_2.out); rintro e w26 ⟨rfl, hb⟩; refine ⟨_, rfl, ?_⟩; replace BK207 := am (blk_below (g := gb207) (o := .cells #[.slice A0_0 l0_0.length c0_0, .slice A0_1 l0_1.length c0_1, .slice A0_2 l0_2.length c0_2] 26 (0, 0)) u5_3 hb); replace BK208 := am (blk_below (g := gb208) (o := .cells #[.slice none 0 0, .slice none 0 0, .slice none 0 0] 26 (0, 0)) u5_7 hb); replace HB := am (below_step Q0 hb); (try clear hb); (try clear hb2); (try clear hk); (try clear hi)))
     go_meet
     case rel => exact ⟨_, (true), Q1, H', ⟨by first | omega | exact Nat.le_refl _⟩, ⟨u5_3⟩, ⟨u5_7⟩, ⟨Q0⟩⟩
   subst c7
   rw [if_pos rfl] at H
   by_cases c8 : (l0_1.length : Int) > 0
   · rw [if_pos c8] at H
     have c8b0 : decide (0 < (l0_1.length : Int)) = true := decide_eq_true c8
     have c8b1 : decide (0 < l0_1.length) = true := decide_eq_true (by omega)
     clear c8
     (first | rw [c8b0] | (simp only [i64_w, i32_w]; rw [c8b0]) | skip)
     have H' := am H
     clear H
     have hnb9 := NB207_208.out
     have hnc9 := NB208_207.out
     obtain ⟨hcz10_0, hcz10_1, hcz10_2, hfz10_0, hfz10_1, hfz10_2⟩ := bc3f w5 BK207.out
     go_wp2_with (first | ((with_reducible refine gate_callee (f := 53) rfl ?_); refine goesL_ (some 7) rfl rfl Try.func53 kr rfl #[.agg #[.slice A0_0 l0_0.length c0_0, .slice A0_1 l0_1.length c0_1, .slice A0_2 l0_2.length c0_2]] rfl Q3 ?_; (with_reducible refine (spec_ConfOk.calls k _ _ l0_0 _ _ l0_1 _ _ l0_2 true _ ?side1 ?side2 ?side3 ?side4 ?side5 ?side6 A6.out).mono ?_); (case side1 => exact Q6); (case side2 => exact HC0_0.out); (case side3 => exact Q8); (case side4 => exact HC0_1.out); (case side5 => exact Q7); (case side6 => exact HC0_2.out); rintro e w11 ⟨rfl, hb⟩; refine ⟨_, rfl, ?_⟩; replace BK207 := am (blk_below (g := gb207) (o := .cells #[.slice A0_0 l0_0.length c0_0, .slice A0_1 l0_1.length c0_1, .slice A0_2 l0_2.length c0_2] 26 (0, 0)) u5_3 hb); replace BK208 := am (blk_below (g := gb208) (o := .cells #[.slice none 0 0, .slice none 0 0, .slice none 0 0] 26 (0, 0)) u5_7 hb); replace HB := am (below_step Q0 hb); (try clear hb); (try clear hb2); (try clear hk); (try clear hi); obtain ⟨hcz12_0, hcz12_1, hcz12_2, hfz12_0, hfz12_1, hfz12_2⟩ := bc3f w11 BK207.out))
     go_meet
     case rel => exact ⟨_, (true), Q1, H', ⟨by first | omega | exact Nat.le_refl _⟩, ⟨u5_3⟩, ⟨u5_7⟩, ⟨Q0⟩⟩
   rw [if_neg c8] at H
   have c8b0 : decide (0 < (l0_1.length : Int)) = false := decide_eq_false c8
   have c8b1 : decide (0 < l0_1.length) = false := decide_eq_false (by omega)
   clear c8
   (first | rw [c8b0] | (simp only [i64_w, i32_w]; rw [c8b0]) | skip)
   replace H := Option.bind_eq_some_iff.mp H
   obtain ⟨t210, A130, H⟩ := H
   have A13 := am A130
   clear A130
   by_cases c14 : t210 = true
   rotate_left
   · replace c14 := Bool.eq_false_iff.mpr c14
     subst c14
     rw [nf] at H
     have H' := am H
     clear H
     have hnb20 := NB207_208.out
     have hnc20 := NB208_207.out
     obtain ⟨hcz21_0, hcz21_1, hcz21_2, hfz21_0, hfz21_1, hfz21_2⟩ := bc3f w5 BK207.out
     go_wp2_with (first | ((with_reducible refine gate_callee (f := 53) rfl ?_); refine goesL_ (some 7) rfl rfl Try.func53 kr rfl #[.agg #[.slice A0_0 l0_0.length c0_0, .slice A0_1 l0_1.length c0_1, .slice A0_2 l0_2.length c0_2]] rfl Q3 ?_; (with_reducible refine (spec_ConfOk.calls k _ _ l0_0 _ _ l0_1 _ _ l0_2 true _ ?side1 ?side2 ?side3 ?side4 ?side5 ?side6 A6.out).mono ?_); (case side1 => exact Q6); (case side2 => exact HC0_0.out); (case side3 => exact Q8); (case side4 => exact HC0_1.out); (case side5 => exact Q7); (case side6 => exact HC0_2.out); rintro e w22 ⟨rfl, hb⟩; refine ⟨_, rfl, ?_⟩; replace BK207 := am (blk_below (g := gb207) (o := .cells #[.slice A0_0 l0_0.length c0_0, .slice A0_1 l0_1.length c0_1, .slice A0_2 l0_2.length c0_2] 26 (0, 0)) u5_3 hb); replace BK208 := am (blk_below (g := gb208) (o := .cells #[.slice none 0 0, .slice none 0 0, .slice none 0 0] 26 (0, 0)) u5_7 hb); replace HB := am (below_step Q0 hb); (try clear hb); (try clear hb2); (try clear hk); (try clear hi); obtain ⟨hcz23_0, hcz23_1, hcz23_2, hfz23_0, hfz23_1, hfz23_2⟩ := bc3f w22 BK207.out) | (go_at_call 81; (with_reducible refine (spec_l06Set.calls k _ _ l1 false _ ?side1 ?side2 A13.out).mono ?_); (case side1 => exact Q9); (case side2 => exact HC1.out); rintro e w' ⟨rfl, ⟨nd, rfl⟩⟩))
     go_meet
     case rel => exact ⟨_, (true), Q1, H', ⟨by first | omega | exact Nat.le_refl _⟩, ⟨u5_3⟩, ⟨u5_7⟩, ⟨Q0⟩⟩
   subst c14
   rw [if_pos rfl] at H
   replace H := Option.bind_eq_some_iff.mp H
   obtain ⟨t211, A150, H⟩ := H
   replace H : (spec_Begin.j0 k l1 t211 l0_0 l0_1 l0_2) = some (r1, r2, r3, r4) := H
   have A15 := am A150
   clear A150
   have H' := am H
   clear H
   have hnb16 := NB207_208.out
   have hnc16 := NB208_207.out
   obtain ⟨hcz17_0, hcz17_1, hcz17_2, hfz17_0, hfz17_1, hfz17_2⟩ := bc3f w5 BK207.out
   go_wp2_with (first | ((with_reducible refine gate_callee (f := 53) rfl ?_); refine goesL_ (some 7) rfl rfl Try.func53 kr rfl #[.agg #[.slice A0_0 l0_0.length c0_0, .slice A0_1 l0_1.length c0_1, .slice A0_2 l0_2.length c0_2]] rfl Q3 ?_; (with_reducible refine (spec_ConfOk.calls k _ _ l0_0 _ _ l0_1 _ _ l0_2 true _ ?side1 ?side2 ?side3 ?side4 ?side5 ?side6 A6.out).mono ?_); (case side1 => exact Q6); (case side2 => exact HC0_0.out); (case side3 => exact Q8); (case side4 => exact HC0_1.out); (case side5 => exact Q7); (case side6 => exact HC0_2.out); rintro e w18 ⟨rfl, hb⟩; refine ⟨_, rfl, ?_⟩; replace BK207 := am (blk_below (g := gb207) (o := .cells #[.slice A0_0 l0_0.length c0_0, .slice A0_1 l0_1.length c0_1, .slice A0_2 l0_2.length c0_2] 26 (0, 0)) u5_3 hb); replace BK208 := am (blk_below (g := gb208) (o := .cells #[.slice none 0 0, .slice none 0 0, .slice none 0 0] 26 (0, 0)) u5_7 hb); replace HB := am (below_step Q0 hb); (try clear hb); (try clear hb2); (try clear hk); (try clear hi); obtain ⟨hcz19_0, hcz19_1, hcz19_2, hfz19_0, hfz19_1, hfz19_2⟩ := bc3f w18 BK207.out) | (go_at_call 81; (with_reducible refine (spec_l06Set.calls k _ _ l1 true _ ?side1 ?side2 A13.out).mono ?_); (case side1 => exact Q9); (case side2 => exact HC1.out); rintro e w' ⟨rfl, ⟨nd, rfl⟩⟩) | (go_at_call 57; (with_reducible refine (spec_l06Same.calls k _ _ l0_0 _ _ l1 t211 _ ?side1 ?side2 ?side3 ?side4 A15.out).mono ?_); (case side1 => exact (by repeat (first | exact (Kd.C_below HR0_0.out Q0) | (with_reducible refine Kd.C_alloc ?_ _) | (with_reducible refine Kd.C_drewN ?_ _) | (with_reducible refine Kd.C_drew ?_)))); (case side2 => exact HC0_0.out); (case side3 => exact (by repeat (first | exact (Kd.C_below HR1.out Q0) | (with_reducible refine Kd.C_alloc ?_ _) | (with_reducible refine Kd.C_drewN ?_ _) | (with_reducible refine Kd.C_drew ?_)))); (case side4 => exact HC1.out); rintro e w' ⟨rfl, ⟨nd, rfl⟩⟩))
   go_meet
   case rel => exact ⟨_, (t211), Q1, H', ⟨by first | omega | exact Nat.le_refl _⟩, ⟨u5_3⟩, ⟨u5_7⟩, ⟨Q0⟩⟩
 clear HC3
 try clear c1
 obtain ⟨kq, x25_2, rfl, HA, HJ2, BK207, BK208, HB⟩ := hcut
 cases kq with
 | zero => exact absurd HA.out (by simp [spec_Begin.j0])
 | succ kj2 =>
   have H := HA.out
   clear HA
   simp only [spec_Begin.j0] at H
   by_cases c27 : x25_2 = true
   · subst c27
     rw [if_pos rfl] at H
     replace H := Option.bind_eq_some_iff.mp H
     obtain ⟨⟨t212, t215, t218⟩, A280, H⟩ := H
     replace H : (some (t212, t215, t218, false)) = some (r1, r2, r3, r4) := H
     have A28 := am A280
     clear A280
     simp only [Option.some.injEq, Prod.mk.injEq] at H
     obtain ⟨rfl, rfl, rfl, rfl⟩ := H
     have hnb29 := NB207_208.out
     have hnc29 := NB208_207.out
     obtain ⟨hcz30_0, hcz30_1, hcz30_2, hfz30_0, hfz30_1, hfz30_2⟩ := bc3f wc BK207.out
     go_wp2_with (first | ((with_reducible refine gate_callee (f := 55) rfl ?_); refine goesL_ (some 27) rfl rfl Try.func55 kr rfl #[.agg #[.slice A0_0 l0_0.length c0_0, .slice A0_1 l0_1.length c0_1, .slice A0_2 l0_2.length c0_2]] rfl Q3 ?_; (with_reducible refine (spec_l06Copy.calls kj2 _ _ l0_0 _ _ l0_1 _ _ l0_2 t212 t215 t218 _ ?side1 ?side2 ?side3 ?side4 ?side5 ?side6 A28.out).mono ?_); (case side1 => exact Q6); (case side2 => exact HC0_0.out); (case side3 => exact Q8); (case side4 => exact HC0_1.out); (case side5 => exact Q7); (case side6 => exact HC0_2.out); rintro e w31 ⟨v213, v216, v219, rfl, ho0, ho1, ho2, hb⟩; refine ⟨_, rfl, ?_⟩; have HO214 := am (Kd.R_lower ho0 (below_size Q0)); have HO217 := am (Kd.R_lower ho1 (below_size Q0)); have HO220 := am (Kd.R_lower ho2 (below_size Q0)); replace BK207 := am (blk_below (g := gb207) (o := .cells #[.slice A0_0 l0_0.length c0_0, .slice A0_1 l0_1.length c0_1, .slice A0_2 l0_2.length c0_2] 26 (0, 0)) u5_3 hb); replace BK208 := am (blk_below (g := gb208) (o := .cells #[.slice none 0 0, .slice none 0 0, .slice none 0 0] 26 (0, 0)) u5_7 hb); replace HB := am (below_step Q0 hb); (try clear hb); (try clear hb2); (try clear hk); (try clear hi); (try clear ho0); (try clear ho1); (try clear ho2); obtain ⟨Ao32, co32, eo32⟩ := Kd.R_slice HO214.out; subst eo32; obtain ⟨hcz33_0, hcz33_1, hcz33_2, hfz33_0, hfz33_1, hfz33_2⟩ := bc3f w31 BK208.out; obtain ⟨Ao34, co34, eo34⟩ := Kd.R_slice HO217.out; subst eo34; obtain ⟨Ao35, co35, eo35⟩ := Kd.R_slice HO220.out; subst eo35))
     refine bodyPost_ret (results_ct rfl _ _ gb208 26 #[.slice Ao32 t212.length co32, .slice Ao34 t215.length co34, .slice Ao35 t218.length co35] (0, 0) _ rfl (by (with_reducible repeat (first | refine blk_drewN ?_ _ | refine blk_drew ?_ | refine blk_alloc ?_ _)); refine blk_put (cs := #[.slice Ao32 t212.length co32, .slice Ao34 t215.length co34, .slice none 0 0]) ?_ 2 _ rfl; (with_reducible repeat (first | refine blk_drewN ?_ _ | refine blk_drew ?_ | refine blk_alloc ?_ _)); refine blk_put (cs := #[.slice Ao32 t212.length co32, .slice none 0 0, .slice none 0 0]) ?_ 1 _ rfl; (with_reducible repeat (first | refine blk_drewN ?_ _ | refine blk_drew ?_ | refine blk_alloc ?_ _)); refine blk_put (cs := #[.slice none 0 0, .slice none 0 0, .slice none 0 0]) ?_ 0 _ rfl; (with_reducible repeat (first | refine blk_drewN ?_ _ | refine blk_drew ?_ | refine blk_alloc ?_ _)); exact BK208.out) Try.underlying26 rfl kr) rfl ?_
     exact ⟨_, _, _, er, (by (with_reducible repeat (first | apply Kd.R_alloc | apply Kd.R_drewN | apply Kd.R_drew)); exact Kd.R_mono (Kd.R_far (p := ⟨gb208, 2, none⟩) (Kd.R_far (p := ⟨gb208, 1, none⟩) (Kd.R_far (p := ⟨gb208, 0, none⟩) (Kd.R_types HO214.out BK208.out (by decide)) (fun _ hk => hk.2) (.slice Ao32 t212.length co32)) (fun _ hk => hk.2) (.slice Ao34 t215.length co34)) (fun _ hk => hk.2) (.slice Ao35 t218.length co35)) (fun _ hk => ⟨hk.1.1, hk.1.2⟩)), (by (with_reducible repeat (first | apply Kd.R_alloc | apply Kd.R_drewN | apply Kd.R_drew)); exact Kd.R_mono (Kd.R_far (p := ⟨gb208, 2, none⟩) (Kd.R_far (p := ⟨gb208, 1, none⟩) (Kd.R_far (p := ⟨gb208, 0, none⟩) (Kd.R_types HO217.out BK208.out (by decide)) (fun _ hk => hk.2) (.slice Ao32 t212.length co32)) (fun _ hk => hk.2) (.slice Ao34 t215.length co34)) (fun _ hk => hk.2) (.slice Ao35 t218.length co35)) (fun _ hk => ⟨hk.1.1, hk.1.2⟩)), (by (with_reducible repeat (first | apply Kd.R_alloc | apply Kd.R_drewN | apply Kd.R_drew)); exact Kd.R_mono (Kd.R_far (p := ⟨gb208, 2, none⟩) (Kd.R_far (p := ⟨gb208, 1, none⟩) (Kd.R_far (p := ⟨gb208, 0, none⟩) (Kd.R_types HO220.out BK208.out (by decide)) (fun _ hk => hk.2) (.slice Ao32 t212.length co32)) (fun _ hk => hk.2) (.slice Ao34 t215.length co34)) (fun _ hk => hk.2) (.slice Ao35 t218.length co35)) (fun _ hk => ⟨hk.1.1, hk.1.2⟩)), Q0⟩
   replace c27 := Bool.eq_false_iff.mpr c27
   subst c27
   rw [nf] at H
   replace H := Option.bind_eq_some_iff.mp H
   obtain ⟨t221, A360, H⟩ := H
   have A36 := am A360
   clear A360
   replace H := Option.bind_eq_some_iff.mp H
   obtain ⟨t224, A370, H⟩ := H
   replace H : ((spec_l06Less.f kj2 l0_2 l1).bind fun t227 => (some (t221, t224, t227, true))) = some (r1, r2, r3, r4) := H
   have A37 := am A370
   clear A370
   replace H := Option.bind_eq_some_iff.mp H
   obtain ⟨t227, A380, H⟩ := H
   replace H : (some (t221, t224, t227, true)) = some (r1, r2, r3, r4) := H
   have A38 := am A380
   clear A380
   simp only [Option.some.injEq, Prod.mk.injEq] at H
   obtain ⟨rfl, rfl, rfl, rfl⟩ := H
   try go_wp2
   replace BK207 := am (blk_drew BK207.out)
   replace BK208 := am (blk_drew BK208.out)
   replace HB := am (below_drew1 HB.out)
   refine start_ (n := 12) (S := fun w' => w'.cell? ⟨gb207, 0, none⟩ = some (.slice A0_0 l0_0.length c0_0) ∧ w'.cell? ⟨gb207, 1, none⟩ = some (.slice A0_1 l0_1.length c0_1) ∧ w'.cell? ⟨gb207, 2, none⟩ = some (.slice A0_2 l0_2.length c0_2)) (ds := []) b0_12 kr rfl rfl ⟨(blk_cell BK207.out 0).trans rfl, (blk_cell BK207.out 1).trans rfl, (blk_cell BK207.out 2).trans rfl⟩ (fun hHeld => ?_); refine with_tabW spec_Begin.tab3 spec_Begin.bits3 (fun HT_ HW_ => ?_)
   generalize wc.drew = w39 at BK207 BK208 HB hHeld ⊢
   refine pV 0 28 (bt 1 12) ?_
   refine pV 3 31 #[true, false, false, true, false, false, false, false, false, false, false, false] ?_
   refine pV 5 33 #[true, false, false, true, false, true, false, false, false, false, false, false] ?_
   refine pV 7 35 #[true, false, false, true, false, true, false, true, false, false, false, false] ?_
   refine tV 1 29 #[true, true, false, true, false, true, false, true, false, false, false, false] ?_
   refine tV 6 34 #[true, true, false, true, false, true, true, true, false, false, false, false] ?_
   refine one_ (i := 2) (N := some 30) #[true, true, true, true, false, true, true, true, false, false, false, false] rfl rfl (one_of HT_.out kr) (by decide) (fun K hK => ?_)
   refine goes_ Try.func83 kr rfl #[.slice A0_0 l0_0.length c0_0] (by rfl) rfl rfl Q3 ?_
   with_reducible refine (spec_l01Copy.calls kj2 _ _ l0_0 t221 _ ?side1 ?side2 A36.out).mono ?_
   (case side1 => exact Q6)
   (case side2 => exact HC0_0.out)
   rintro e w40 ⟨v222, rfl, ho0, hb⟩
   refine ⟨_, rfl, ?_⟩
   have HO223 := am (Kd.R_lower ho0 (below_size Q0))
   replace BK207 := am (blk_below (g := gb207) (o := .cells #[.slice A0_0 l0_0.length c0_0, .slice A0_1 l0_1.length c0_1, .slice A0_2 l0_2.length c0_2] 26 (0, 0)) u5_3 hb)
   replace BK208 := am (blk_below (g := gb208) (o := .cells #[.slice none 0 0, .slice none 0 0, .slice none 0 0] 26 (0, 0)) u5_7 hb)
   replace HB := am (below_step Q0 hb)
   (try clear hb)
   (try clear hb2)
   (try clear hk)
   (try clear hi)
   (try clear ho0)
   refine hK.out _ _ ⟨(blk_cell BK207.out 0).trans rfl, (blk_cell BK207.out 1).trans rfl, (blk_cell BK207.out 2).trans rfl⟩ (fun hHeld => ?_)
   clear hK K
   refine norm_ (a' := ?_) ?_ ?_
   rotate_left
   · show Act.put _ (some 30) _ = _
     simp only [Act.put, la, lb, lc, i64_w, i32_w]
     rfl
   refine one_ (i := 4) (N := some 32) b8_12 rfl rfl (one_of HT_.out kr) (by decide) (fun K hK => ?_)
   refine goes_ Try.func83 kr rfl #[.slice A1 l1.length c1] (by rfl) rfl rfl Q3 ?_
   with_reducible refine (spec_l01Copy.calls kj2 _ _ l1 t224 _ ?side1 ?side2 A37.out).mono ?_
   (case side1 => exact Q9)
   (case side2 => exact HC1.out)
   rintro e w41 ⟨v225, rfl, ho0, hb⟩
   refine ⟨_, rfl, ?_⟩
   have HO226 := am (Kd.R_lower (Kd.R_new' ho0 (Kd.R_lt u5_14)) (below_size Q0))
   replace HO223 := am (Kd.R_elder' u5_14 (Kd.R_base ho0) hb)
   replace BK207 := am (blk_below (g := gb207) (o := .cells #[.slice A0_0 l0_0.length c0_0, .slice A0_1 l0_1.length c0_1, .slice A0_2 l0_2.length c0_2] 26 (0, 0)) u5_3 hb)
   replace BK208 := am (blk_below (g := gb208) (o := .cells #[.slice none 0 0, .slice none 0 0, .slice none 0 0] 26 (0, 0)) u5_7 hb)
   replace HB := am (below_step Q0 hb)
   (try clear hb)
   (try clear hb2)
   (try clear hk)
   (try clear hi)
   (try clear ho0)
   refine hK.out _ _ ⟨(blk_cell BK207.out 0).trans rfl, (blk_cell BK207.out 1).trans rfl, (blk_cell BK207.out 2).trans rfl⟩ (fun hHeld => ?_)
   clear hK K
   refine norm_ (a' := ?_) ?_ ?_
   rotate_left
   · show Act.put _ (some 32) _ = _
     simp only [Act.put, la, lb, lc, i64_w, i32_w]
     rfl
   refine one_ (i := 8) (N := some 36) b9_12 rfl rfl (one_of HT_.out kr) (by decide) (fun K hK => ?_)
   refine goes_ Try.func56 kr rfl #[.slice A0_2 l0_2.length c0_2, .slice A1 l1.length c1] (by rfl) rfl rfl Q3 ?_
   with_reducible refine (spec_l06Less.calls kj2 _ _ l0_2 _ _ l1 t227 _ ?side1 ?side2 ?side3 ?side4 A38.out).mono ?_
   (case side1 => exact Q7)
   (case side2 => exact HC0_2.out)
   (case side3 => exact Q9)
   (case side4 => exact HC1.out)
   rintro e w42 ⟨v228, rfl, ho0, hb⟩
   refine ⟨_, rfl, ?_⟩
   have HO229 := am (Kd.R_lower (Kd.R_new' (Kd.R_new' ho0 (Kd.R_lt u5_14)) (Kd.R_lt u5_16)) (below_size Q0))
   replace HO223 := am (Kd.R_elder' u5_14 (Kd.R_base ho0) hb)
   replace HO226 := am (Kd.R_elder' u5_16 (Kd.R_base ho0) hb)
   replace BK207 := am (blk_below (g := gb207) (o := .cells #[.slice A0_0 l0_0.length c0_0, .slice A0_1 l0_1.length c0_1, .slice A0_2 l0_2.length c0_2] 26 (0, 0)) u5_3 hb)
   replace BK208 := am (blk_below (g := gb208) (o := .cells #[.slice none 0 0, .slice none 0 0, .slice none 0 0] 26 (0, 0)) u5_7 hb)
   replace HB := am (below_step Q0 hb)
   (try clear hb)
   (try clear hb2)
   (try clear hk)
   (try clear hi)
   (try clear ho0)
   obtain ⟨Ao43, co43, eo43⟩ := Kd.R_slice HO229.out
   (first | subst eo43 | (injection eo43 with f1_ f2_ f3_; have f4_ := f1_.symm; have f5_ := f3_.symm; clear f1_ f2_ f3_; subst f4_; subst f5_))
   obtain ⟨Ao44, co44, eo44⟩ := Kd.R_slice HO226.out
   (first | subst eo44 | (injection eo44 with f1_ f2_ f3_; have f4_ := f1_.symm; have f5_ := f3_.symm; clear f1_ f2_ f3_; subst f4_; subst f5_))
   obtain ⟨Ao45, co45, eo45⟩ := Kd.R_slice HO223.out
   (first | subst eo45 | (injection eo45 with f1_ f2_ f3_; have f4_ := f1_.symm; have f5_ := f3_.symm; clear f1_ f2_ f3_; subst f4_; subst f5_))
   refine hK.out _ _ ⟨(blk_cell BK207.out 0).trans rfl, (blk_cell BK207.out 1).trans rfl, (blk_cell BK207.out 2).trans rfl⟩ (fun hHeld => ?_)
   clear hK K
   refine norm_ (a' := ?_) ?_ ?_
   rotate_left
   · show Act.put _ (some 36) _ = _
     simp only [Act.put, la, lb, lc, i64_w, i32_w]
     rfl
   refine pV 9 37 (bt 10 12) ?_
   refine one_ (i := 10) (N := none) b11_12 rfl rfl (one_of HT_.out kr) (by decide) (fun K hK => ?_)
   have hs46 : w42.cell? ⟨gb208, 0, none⟩ = some (.slice none 0 0) := (blk_cell BK208.out 0).trans rfl
   have hfs46 := blk_frozen BK208.out 0
   have hns46_0 := NB207_208.out
   have hms46_0 := NB208_207.out
   have hs47 : w42.cell? ⟨gb208, 1, none⟩ = some (.slice none 0 0) := (blk_cell BK208.out 1).trans rfl
   have hfs47 := blk_frozen BK208.out 1
   have hns47_0 := NB207_208.out
   have hms47_0 := NB208_207.out
   have hs48 : w42.cell? ⟨gb208, 2, none⟩ = some (.slice none 0 0) := (blk_cell BK208.out 2).trans rfl
   have hfs48 := blk_frozen BK208.out 2
   have hns48_0 := NB207_208.out
   have hms48_0 := NB208_207.out
   refine skip_ (w1 := ?_) (by rfl) rfl ?_ ?_
   rotate_left
   · go_simp
     rfl
   refine hK.out _ _ ⟨((cell_far (p := ⟨gb208, _, none⟩) NB207_208.out _).trans (((cell_far (p := ⟨gb208, _, none⟩) NB207_208.out _).trans (((cell_far (p := ⟨gb208, _, none⟩) NB207_208.out _).trans (hHeld.1)))))), ((cell_far (p := ⟨gb208, _, none⟩) NB207_208.out _).trans (((cell_far (p := ⟨gb208, _, none⟩) NB207_208.out _).trans (((cell_far (p := ⟨gb208, _, none⟩) NB207_208.out _).trans (hHeld.2.1)))))), ((cell_far (p := ⟨gb208, _, none⟩) NB207_208.out _).trans (((cell_far (p := ⟨gb208, _, none⟩) NB207_208.out _).trans (((cell_far (p := ⟨gb208, _, none⟩) NB207_208.out _).trans (hHeld.2.2))))))⟩ (fun hHeld => ?_)
   clear hK K
   refine pV 11 5 (bt 12 12) ?_
   refine done_ (done_of HT_.out kr) ?_
   try go_wp2
   refine bodyPost_ret (results_ct rfl _ _ gb208 26 #[.slice Ao45 t221.length co45, .slice Ao44 t224.length co44, .slice Ao43 t227.length co43] (0, 0) _ rfl (by (with_reducible repeat (first | refine blk_drewN ?_ _ | refine blk_drew ?_ | refine blk_alloc ?_ _)); refine blk_put (cs := #[.slice Ao45 t221.length co45, .slice Ao44 t224.length co44, .slice none 0 0]) ?_ 2 _ rfl; (with_reducible repeat (first | refine blk_drewN ?_ _ | refine blk_drew ?_ | refine blk_alloc ?_ _)); refine blk_put (cs := #[.slice Ao45 t221.length co45, .slice none 0 0, .slice none 0 0]) ?_ 1 _ rfl; (with_reducible repeat (first | refine blk_drewN ?_ _ | refine blk_drew ?_ | refine blk_alloc ?_ _)); refine blk_put (cs := #[.slice none 0 0, .slice none 0 0, .slice none 0 0]) ?_ 0 _ rfl; (with_reducible repeat (first | refine blk_drewN ?_ _ | refine blk_drew ?_ | refine blk_alloc ?_ _)); exact BK208.out) Try.underlying26 rfl kr) rfl ?_
   exact ⟨_, _, _, er, (by (with_reducible repeat (first | apply Kd.R_alloc | apply Kd.R_drewN | apply Kd.R_drew)); exact Kd.R_mono (Kd.R_far (p := ⟨gb208, 2, none⟩) (Kd.R_far (p := ⟨gb208, 1, none⟩) (Kd.R_far (p := ⟨gb208, 0, none⟩) (Kd.R_types HO223.out BK208.out (by decide)) (fun _ hk => hk.2) (.slice Ao45 t221.length co45)) (fun _ hk => hk.2) (.slice Ao44 t224.length co44)) (fun _ hk => hk.2) (.slice Ao43 t227.length co43)) (fun _ hk => ⟨hk.1.1.2, hk.1.2⟩)), (by (with_reducible repeat (first | apply Kd.R_alloc | apply Kd.R_drewN | apply Kd.R_drew)); exact Kd.R_mono (Kd.R_far (p := ⟨gb208, 2, none⟩) (Kd.R_far (p := ⟨gb208, 1, none⟩) (Kd.R_far (p := ⟨gb208, 0, none⟩) (Kd.R_types HO226.out BK208.out (by decide)) (fun _ hk => hk.2) (.slice Ao45 t221.length co45)) (fun _ hk => hk.2) (.slice Ao44 t224.length co44)) (fun _ hk => hk.2) (.slice Ao43 t227.length co43)) (fun _ hk => ⟨hk.1.1.2, hk.1.2⟩)), (by (with_reducible repeat (first | apply Kd.R_alloc | apply Kd.R_drewN | apply Kd.R_drew)); exact Kd.R_mono (Kd.R_far (p := ⟨gb208, 2, none⟩) (Kd.R_far (p := ⟨gb208, 1, none⟩) (Kd.R_far (p := ⟨gb208, 0, none⟩) (Kd.R_types HO229.out BK208.out (by decide)) (fun _ hk => hk.2) (.slice Ao45 t221.length co45)) (fun _ hk => hk.2) (.slice Ao44 t224.length co44)) (fun _ hk => hk.2) (.slice Ao43 t227.length co43)) (fun _ hk => ⟨hk.1.1.2, hk.1.2⟩)), Q0⟩

/-! ### spec_Finish: function 61 -/
def spec_Finish.j0 : Nat → Bool → List Int → List Int → List Int → Option (List Int × List Int × List Int × Bool)
 | 0, _, _, _, _ => none
 | k + 1, x12, x231000, x231001, x231002 => if x12 = true then ((spec_l06Copy.f k x231000 x231001 x231002).bind fun bt233 => (some (bt233.1, bt233.2.1, bt233.2.2, false))) else ((spec_l01Copy.f k x231001).bind fun t242 => ((spec_l01Copy.f k x231002).bind fun t245 => (some (t242, ([] : List Int), t245, true))))
def spec_Finish.f (k : Nat) (l0_0 : List Int) (l0_1 : List Int) (l0_2 : List Int) : Option (List Int × List Int × List Int × Bool) := (spec_ConfOk.f k l0_0 l0_1 l0_2).bind fun t232 => (if t232 = true then (spec_Finish.j0 k ((l0_1.length : Int) == 0) l0_0 l0_1 l0_2) else (spec_Finish.j0 k true l0_0 l0_1 l0_2))
theorem spec_Finish.mono_l : ∀ k, (∀ y0 y1 y2 y3, LeO (spec_Finish.j0 k y0 y1 y2 y3) (spec_Finish.j0 (k + 1) y0 y1 y2 y3))
 | 0 => fun _ _ _ _ r h => by simp [spec_Finish.j0] at h
 | k + 1 => by
   have ih0 := spec_Finish.mono_l k
   · intro y0 y1 y2 y3
     unfold spec_Finish.j0
     repeat' first
     | (with_reducible exact ih0 _ _ _ _)
     | (with_reducible exact spec_ConfOk.mono _ _ _ _)
     | (with_reducible exact spec_l01Copy.mono _ _)
     | (with_reducible exact spec_l06Copy.mono _ _ _ _)
     | (with_reducible exact LeO.refl _)
     | (with_reducible exact LeO.none _)
     | (with_reducible refine LeO.ite ?_ ?_)
     | (with_reducible refine LeO.bind ?_ (fun _ => ?_))
     | exact ih0 _ _ _ _
     | exact spec_ConfOk.mono _ _ _ _
     | exact spec_l01Copy.mono _ _
     | exact spec_l06Copy.mono _ _ _ _
     | exact LeO.none _
     | refine LeO.ite ?_ ?_
     | refine LeO.bind ?_ (fun _ => ?_)
theorem spec_Finish.mono : ∀ a0 a1 a2 k, LeO (spec_Finish.f k a0 a1 a2) (spec_Finish.f (k + 1) a0 a1 a2) := by
 intro a0 a1 a2 k
 have ih0 := spec_Finish.mono_l k
 unfold spec_Finish.f
 repeat' first
     | (with_reducible exact ih0 _ _ _ _)
     | (with_reducible exact spec_ConfOk.mono _ _ _ _)
     | (with_reducible exact spec_l01Copy.mono _ _)
     | (with_reducible exact spec_l06Copy.mono _ _ _ _)
     | (with_reducible exact LeO.refl _)
     | (with_reducible exact LeO.none _)
     | (with_reducible refine LeO.ite ?_ ?_)
     | (with_reducible refine LeO.bind ?_ (fun _ => ?_))
     | exact ih0 _ _ _ _
     | exact spec_ConfOk.mono _ _ _ _
     | exact spec_l01Copy.mono _ _
     | exact spec_l06Copy.mono _ _ _ _
     | exact LeO.none _
     | refine LeO.ite ?_ ?_
     | refine LeO.bind ?_ (fun _ => ?_)
def spec_Finish.T3 : Bool × List (List Nat × List Nat) := (true, [([], []), ([0], [0]), ([1], [1]), ([], []), ([3], [3]), ([4, 2], [4]), ([2, 5], [2, 5]), ([6, 5, 0, 1, 2, 3, 4, 5, 6], [6]), ([7, 0, 1, 2, 3, 4, 5, 6, 7], [])])
def spec_Finish.B3 : List Nat := [0, 1, 3, 0, 8, 31, 63, 127, 255]
theorem spec_Finish.tab3 : rtab .any (opsOf Try.f61 3) = spec_Finish.T3 := by kernel_rfl
theorem spec_Finish.bits3 : waitsOk spec_Finish.T3.2 spec_Finish.B3 = true := by kernel_rfl
set_option maxHeartbeats 8000000 in
set_option maxRecDepth 100000 in
theorem spec_Finish.calls (k : Nat) (A0_0 : Option Addr) (c0_0 : Nat) (l0_0 : List Int) (A0_1 : Option Addr) (c0_1 : Nat) (l0_1 : List Int) (A0_2 : Option Addr) (c0_2 : Nat) (l0_2 : List Int) (r1 : List Int) (r2 : List Int) (r3 : List Int) (r4 : Bool) (w : World) (hr0_0 : Kd.C (Kd.int .i64) w A0_0 l0_0.length l0_0) (hc0_0 : l0_0.length ≤ c0_0) (hr0_1 : Kd.C (Kd.int .i64) w A0_1 l0_1.length l0_1) (hc0_1 : l0_1.length ≤ c0_1) (hr0_2 : Kd.C (Kd.int .i64) w A0_2 l0_2.length l0_2) (hc0_2 : l0_2.length ≤ c0_2) (h : spec_Finish.f k l0_0 l0_1 l0_2 = some (r1, r2, r3, r4)) :
   Calls Try.prog 61 #[.agg #[.slice A0_0 l0_0.length c0_0, .slice A0_1 l0_1.length c0_1, .slice A0_2 l0_2.length c0_2]] w fun e w' => ∃ v0_ v1_ v2_ : Value, e = .returned (.tuple #[.agg #[v0_, v1_, v2_], .bool r4]) ∧ Kd.R (Kd.int .i64) 3 w' w.heap.size (fun k_ => some k_ ≠ (v1_ : Value).ownBlock ∧ some k_ ≠ (v2_ : Value).ownBlock) v0_ r1 ∧ Kd.R (Kd.int .i64) 3 w' w.heap.size (fun k_ => some k_ ≠ (v0_ : Value).ownBlock ∧ some k_ ≠ (v2_ : Value).ownBlock) v1_ r2 ∧ Kd.R (Kd.int .i64) 3 w' w.heap.size (fun k_ => some k_ ≠ (v0_ : Value).ownBlock ∧ some k_ ≠ (v1_ : Value).ownBlock) v2_ r3 ∧ Below w.heap.size w w' := by
 have hu26 := Try.underlying26
 have HR0_0 := am hr0_0
 have HC0_0 := am hc0_0
 clear hr0_0 hc0_0
 have HR0_1 := am hr0_1
 have HC0_1 := am hc0_1
 clear hr0_1 hc0_1
 have HR0_2 := am hr0_2
 have HC0_2 := am hc0_2
 clear hr0_2 hc0_2
 have HB := am (Below.refl w.heap.size w)
 have H : ((spec_ConfOk.f k l0_0 l0_1 l0_2).bind fun t232 => (if t232 = true then (spec_Finish.j0 k ((l0_1.length : Int) == 0) l0_0 l0_1 l0_2) else (spec_Finish.j0 k true l0_0 l0_1 l0_2))) = some (r1, r2, r3, r4) := h
 clear h
 have HC2 := am H
 clear H
 go_enter Try.func61, Try.ntmps61
 go_upto_region 1 with (first | ((with_reducible refine gate_dst (N := 1) rfl ?_); (try (refine gate_guard (by rfl) ?_; dsimp only)); refine box_event ?hg (N := 1) ?hd (cs := #[.slice A0_0 l0_0.length c0_0, .slice A0_1 l0_1.length c0_1, .slice A0_2 l0_2.length c0_2]) (t := 26) ?hr ?_; (case hd => rfl); (case hg => rfl); (case hr => first | (go_simp; done) | (go_simp; rfl)); intro gb230 hg w3 hbox hb; have BK230 := am (hbox); have GW230 := am ((by rw [hg]; exact (below_size Q0) : w.heap.size ≤ gb230)); have GE230 := am ((by rw [hg]; exact (below_size Q0) : w.heap.size ≤ gb230)); replace HB := am (below_step Q0 hb); clear hb hbox hg) | ((with_reducible refine gate_dst (N := 2) rfl ?_); (try (refine gate_guard (by rfl) ?_; dsimp only)); refine box_event ?hg (N := 2) ?hd (cs := #[.slice none 0 0, .slice none 0 0, .slice none 0 0]) (t := 26) ?hr ?_; (case hd => rfl); (case hg => rfl); (case hr => first | (go_simp; done) | (go_simp; rfl)); intro gb231 hg w4 hbox hb; have BK231 := am (hbox); have GW231 := am ((by rw [hg]; exact (below_size Q0) : w.heap.size ≤ gb231)); have GE231 := am ((by rw [hg]; exact (below_size Q0) : w.heap.size ≤ gb231)); replace HB := am (below_step Q0 hb); have NB230_231 := am ((by rw [hg]; exact Nat.ne_of_lt (blk_lt (g := gb230) (o := .cells #[.slice A0_0 l0_0.length c0_0, .slice A0_1 l0_1.length c0_1, .slice A0_2 l0_2.length c0_2] 26 (0, 0)) u5_8) : gb230 ≠ gb231)); have NB231_230 := am ((by rw [hg]; exact Nat.ne_of_gt (blk_lt (g := gb230) (o := .cells #[.slice A0_0 l0_0.length c0_0, .slice A0_1 l0_1.length c0_1, .slice A0_2 l0_2.length c0_2] 26 (0, 0)) u5_8) : gb231 ≠ gb230)); replace BK230 := am (blk_below (g := gb230) (o := .cells #[.slice A0_0 l0_0.length c0_0, .slice A0_1 l0_1.length c0_1, .slice A0_2 l0_2.length c0_2] 26 (0, 0)) u5_8 hb); clear hb hbox hg))
 (try simp only [Act.put, la, lb, lc])
 go_cut [12] (fun v12 wc => ∃ (kq : Nat) (x12_1 : Bool), v12 = .bool x12_1 ∧ Aside0 (spec_Finish.j0 kq x12_1 l0_0 l0_1 l0_2 = some (r1, r2, r3, r4)) ∧ Aside0 (kq ≤ k) ∧ Aside0 (wc.heap[gb230]? = some (.cells #[(.slice A0_0 l0_0.length c0_0), (.slice A0_1 l0_1.length c0_1), (.slice A0_2 l0_2.length c0_2)] 26 (0, 0))) ∧ Aside0 (wc.heap[gb231]? = some (.cells #[(.slice none 0 0), (.slice none 0 0), (.slice none 0 0)] 26 (0, 0))) ∧ Aside0 (Below w.heap.size w wc))
 case first =>
   have H := HC2.out
   clear HC2
   replace H := Option.bind_eq_some_iff.mp H
   obtain ⟨t232, A50, H⟩ := H
   have A5 := am A50
   clear A50
   by_cases c6 : t232 = true
   rotate_left
   · replace c6 := Bool.eq_false_iff.mpr c6
     subst c6
     rw [nf] at H
     have H' := am H
     clear H
     have hnb11 := NB230_231.out
     have hnc11 := NB231_230.out
     obtain ⟨hcz12_0, hcz12_1, hcz12_2, hfz12_0, hfz12_1, hfz12_2⟩ := bc3f w4 BK230.out
     go_wp2_with (first | ((with_reducible refine gate_callee (f := 53) rfl ?_); refine goesL_ (some 5) rfl rfl Try.func53 kr rfl #[.agg #[.slice A0_0 l0_0.length c0_0, .slice A0_1 l0_1.length c0_1, .slice A0_2 l0_2.length c0_2]] rfl Q3 ?_; (with_reducible refine (spec_ConfOk.calls k _ _ l0_0 _ _ l0_1 _ _ l0_2 false _ ?side1 ?side2 ?side3 ?side4 ?side5 ?side6 A5.out).mono ?_); (case side1 => exact Q6); (case side2 => exact HC0_0.out); (case side3 => exact Q8); (case side4 => exact HC0_1.out); (case side5 => exact Q7); (case side6 => exact HC0_2.out); rintro e w13 ⟨rfl, hb⟩; refine ⟨_, rfl, ?_⟩; replace BK230 := am (blk_below (g := gb230) (o := .cells #[.slice A0_0 l0_0.length c0_0, .slice A0_1 l0_1.length c0_1, .slice A0_2 l0_2.length c0_2] 26 (0, 0)) u5_8 hb); replace BK231 := am (blk_below (g := gb231) (o := .cells #[.slice none 0 0, .slice none 0 0, .slice none 0 0] 26 (0, 0)) u5_9 hb); replace HB := am (below_step Q0 hb); (try clear hb); (try clear hb2); (try clear hk); (try clear hi)))
     go_meet
     case rel => exact ⟨_, (true), Q1, H', ⟨by first | omega | exact Nat.le_refl _⟩, ⟨u5_8⟩, ⟨u5_9⟩, ⟨Q0⟩⟩
   subst c6
   rw [if_pos rfl] at H
   have H' := am H
   clear H
   have hnb7 := NB230_231.out
   have hnc7 := NB231_230.out
   obtain ⟨hcz8_0, hcz8_1, hcz8_2, hfz8_0, hfz8_1, hfz8_2⟩ := bc3f w4 BK230.out
   go_wp2_with (first | ((with_reducible refine gate_callee (f := 53) rfl ?_); refine goesL_ (some 5) rfl rfl Try.func53 kr rfl #[.agg #[.slice A0_0 l0_0.length c0_0, .slice A0_1 l0_1.length c0_1, .slice A0_2 l0_2.length c0_2]] rfl Q3 ?_; (with_reducible refine (spec_ConfOk.calls k _ _ l0_0 _ _ l0_1 _ _ l0_2 true _ ?side1 ?side2 ?side3 ?side4 ?side5 ?side6 A5.out).mono ?_); (case side1 => exact Q6); (case side2 => exact HC0_0.out); (case side3 => exact Q8); (case side4 => exact HC0_1.out); (case side5 => exact Q7); (case side6 => exact HC0_2.out); rintro e w9 ⟨rfl, hb⟩; refine ⟨_, rfl, ?_⟩; replace BK230 := am (blk_below (g := gb230) (o := .cells #[.slice A0_0 l0_0.length c0_0, .slice A0_1 l0_1.length c0_1, .slice A0_2 l0_2.length c0_2] 26 (0, 0)) u5_8 hb); replace BK231 := am (blk_below (g := gb231) (o := .cells #[.slice none 0 0, .slice none 0 0, .slice none 0 0] 26 (0, 0)) u5_9 hb); replace HB := am (below_step Q0 hb); (try clear hb); (try clear hb2); (try clear hk); (try clear hi); obtain ⟨hcz10_0, hcz10_1, hcz10_2, hfz10_0, hfz10_1, hfz10_2⟩ := bc3f w9 BK230.out))
   go_meet
   case rel => exact ⟨_, (((l0_1.length : Int) == 0)), Q1, H', ⟨by first | omega | exact Nat.le_refl _⟩, ⟨u5_8⟩, ⟨u5_9⟩, ⟨Q0⟩⟩
 clear HC2
 obtain ⟨kq, x12_1, rfl, HA, HJ1, BK230, BK231, HB⟩ := hcut
 cases kq with
 | zero => exact absurd HA.out (by simp [spec_Finish.j0])
 | succ kj1 =>
   have H := HA.out
   clear HA
   simp only [spec_Finish.j0] at H
   by_cases c14 : x12_1 = true
   · subst c14
     rw [if_pos rfl] at H
     replace H := Option.bind_eq_some_iff.mp H
     obtain ⟨⟨t233, t236, t239⟩, A150, H⟩ := H
     replace H : (some (t233, t236, t239, false)) = some (r1, r2, r3, r4) := H
     have A15 := am A150
     clear A150
     simp only [Option.some.injEq, Prod.mk.injEq] at H
     obtain ⟨rfl, rfl, rfl, rfl⟩ := H
     have hnb16 := NB230_231.out
     have hnc16 := NB231_230.out
     obtain ⟨hcz17_0, hcz17_1, hcz17_2, hfz17_0, hfz17_1, hfz17_2⟩ := bc3f wc BK230.out
     go_wp2_with (first | ((with_reducible refine gate_callee (f := 55) rfl ?_); refine goesL_ (some 14) rfl rfl Try.func55 kr rfl #[.agg #[.slice A0_0 l0_0.length c0_0, .slice A0_1 l0_1.length c0_1, .slice A0_2 l0_2.length c0_2]] rfl Q3 ?_; (with_reducible refine (spec_l06Copy.calls kj1 _ _ l0_0 _ _ l0_1 _ _ l0_2 t233 t236 t239 _ ?side1 ?side2 ?side3 ?side4 ?side5 ?side6 A15.out).mono ?_); (case side1 => exact Q6); (case side2 => exact HC0_0.out); (case side3 => exact Q8); (case side4 => exact HC0_1.out); (case side5 => exact Q7); (case side6 => exact HC0_2.out); rintro e w18 ⟨v234, v237, v240, rfl, ho0, ho1, ho2, hb⟩; refine ⟨_, rfl, ?_⟩; have HO235 := am (Kd.R_lower ho0 (below_size Q0)); have HO238 := am (Kd.R_lower ho1 (below_size Q0)); have HO241 := am (Kd.R_lower ho2 (below_size Q0)); replace BK230 := am (blk_below (g := gb230) (o := .cells #[.slice A0_0 l0_0.length c0_0, .slice A0_1 l0_1.length c0_1, .slice A0_2 l0_2.length c0_2] 26 (0, 0)) u5_8 hb); replace BK231 := am (blk_below (g := gb231) (o := .cells #[.slice none 0 0, .slice none 0 0, .slice none 0 0] 26 (0, 0)) u5_9 hb); replace HB := am (below_step Q0 hb); (try clear hb); (try clear hb2); (try clear hk); (try clear hi); (try clear ho0); (try clear ho1); (try clear ho2); obtain ⟨Ao19, co19, eo19⟩ := Kd.R_slice HO235.out; subst eo19; obtain ⟨hcz20_0, hcz20_1, hcz20_2, hfz20_0, hfz20_1, hfz20_2⟩ := bc3f w18 BK231.out; obtain ⟨Ao21, co21, eo21⟩ := Kd.R_slice HO238.out; subst eo21; obtain ⟨Ao22, co22, eo22⟩ := Kd.R_slice HO241.out; subst eo22))
     refine bodyPost_ret (results_ct rfl _ _ gb231 26 #[.slice Ao19 t233.length co19, .slice Ao21 t236.length co21, .slice Ao22 t239.length co22] (0, 0) _ rfl (by (with_reducible repeat (first | refine blk_drewN ?_ _ | refine blk_drew ?_ | refine blk_alloc ?_ _)); refine blk_put (cs := #[.slice Ao19 t233.length co19, .slice Ao21 t236.length co21, .slice none 0 0]) ?_ 2 _ rfl; (with_reducible repeat (first | refine blk_drewN ?_ _ | refine blk_drew ?_ | refine blk_alloc ?_ _)); refine blk_put (cs := #[.slice Ao19 t233.length co19, .slice none 0 0, .slice none 0 0]) ?_ 1 _ rfl; (with_reducible repeat (first | refine blk_drewN ?_ _ | refine blk_drew ?_ | refine blk_alloc ?_ _)); refine blk_put (cs := #[.slice none 0 0, .slice none 0 0, .slice none 0 0]) ?_ 0 _ rfl; (with_reducible repeat (first | refine blk_drewN ?_ _ | refine blk_drew ?_ | refine blk_alloc ?_ _)); exact BK231.out) Try.underlying26 rfl kr) rfl ?_
     exact ⟨_, _, _, er, (by (with_reducible repeat (first | apply Kd.R_alloc | apply Kd.R_drewN | apply Kd.R_drew)); exact Kd.R_mono (Kd.R_far (p := ⟨gb231, 2, none⟩) (Kd.R_far (p := ⟨gb231, 1, none⟩) (Kd.R_far (p := ⟨gb231, 0, none⟩) (Kd.R_types HO235.out BK231.out (by decide)) (fun _ hk => hk.2) (.slice Ao19 t233.length co19)) (fun _ hk => hk.2) (.slice Ao21 t236.length co21)) (fun _ hk => hk.2) (.slice Ao22 t239.length co22)) (fun _ hk => ⟨hk.1.1, hk.1.2⟩)), (by (with_reducible repeat (first | apply Kd.R_alloc | apply Kd.R_drewN | apply Kd.R_drew)); exact Kd.R_mono (Kd.R_far (p := ⟨gb231, 2, none⟩) (Kd.R_far (p := ⟨gb231, 1, none⟩) (Kd.R_far (p := ⟨gb231, 0, none⟩) (Kd.R_types HO238.out BK231.out (by decide)) (fun _ hk => hk.2) (.slice Ao19 t233.length co19)) (fun _ hk => hk.2) (.slice Ao21 t236.length co21)) (fun _ hk => hk.2) (.slice Ao22 t239.length co22)) (fun _ hk => ⟨hk.1.1, hk.1.2⟩)), (by (with_reducible repeat (first | apply Kd.R_alloc | apply Kd.R_drewN | apply Kd.R_drew)); exact Kd.R_mono (Kd.R_far (p := ⟨gb231, 2, none⟩) (Kd.R_far (p := ⟨gb231, 1, none⟩) (Kd.R_far (p := ⟨gb231, 0, none⟩) (Kd.R_types HO241.out BK231.out (by decide)) (fun _ hk => hk.2) (.slice Ao19 t233.length co19)) (fun _ hk => hk.2) (.slice Ao21 t236.length co21)) (fun _ hk => hk.2) (.slice Ao22 t239.length co22)) (fun _ hk => ⟨hk.1.1, hk.1.2⟩)), Q0⟩
   replace c14 := Bool.eq_false_iff.mpr c14
   subst c14
   rw [nf] at H
   replace H := Option.bind_eq_some_iff.mp H
   obtain ⟨t242, A230, H⟩ := H
   have A23 := am A230
   clear A230
   replace H := Option.bind_eq_some_iff.mp H
   obtain ⟨t245, A240, H⟩ := H
   replace H : (some (t242, ([] : List Int), t245, true)) = some (r1, r2, r3, r4) := H
   have A24 := am A240
   clear A240
   simp only [Option.some.injEq, Prod.mk.injEq] at H
   obtain ⟨rfl, rfl, rfl, rfl⟩ := H
   try go_wp2
   replace BK230 := am (blk_drew BK230.out)
   replace BK231 := am (blk_drew BK231.out)
   replace HB := am (below_drew1 HB.out)
   refine start_ (n := 9) (S := fun w' => w'.cell? ⟨gb230, 0, none⟩ = some (.slice A0_0 l0_0.length c0_0) ∧ w'.cell? ⟨gb230, 1, none⟩ = some (.slice A0_1 l0_1.length c0_1) ∧ w'.cell? ⟨gb230, 2, none⟩ = some (.slice A0_2 l0_2.length c0_2)) (ds := []) #[false, false, false, false, false, false, false, false, false] kr rfl rfl ⟨(blk_cell BK230.out 0).trans rfl, (blk_cell BK230.out 1).trans rfl, (blk_cell BK230.out 2).trans rfl⟩ (fun hHeld => ?_); refine with_tabW spec_Finish.tab3 spec_Finish.bits3 (fun HT_ HW_ => ?_)
   generalize wc.drew = w25 at BK230 BK231 HB hHeld ⊢
   refine pV 0 15 (bt 1 9) ?_
   refine pV 3 18 #[true, false, false, true, false, false, false, false, false] ?_
   refine tV 1 16 #[true, true, false, true, false, false, false, false, false] ?_
   refine tV 4 19 #[true, true, false, true, true, false, false, false, false] ?_
   refine one_ (i := 2) (N := some 17) #[true, true, true, true, true, false, false, false, false] rfl rfl (one_of HT_.out kr) (by decide) (fun K hK => ?_)
   refine goes_ Try.func83 kr rfl #[.slice A0_1 l0_1.length c0_1] (by rfl) rfl rfl Q3 ?_
   with_reducible refine (spec_l01Copy.calls kj1 _ _ l0_1 t242 _ ?side1 ?side2 A23.out).mono ?_
   (case side1 => exact Q8)
   (case side2 => exact HC0_1.out)
   rintro e w26 ⟨v243, rfl, ho0, hb⟩
   refine ⟨_, rfl, ?_⟩
   have HO244 := am (Kd.R_lower ho0 (below_size Q0))
   replace BK230 := am (blk_below (g := gb230) (o := .cells #[.slice A0_0 l0_0.length c0_0, .slice A0_1 l0_1.length c0_1, .slice A0_2 l0_2.length c0_2] 26 (0, 0)) u5_8 hb)
   replace BK231 := am (blk_below (g := gb231) (o := .cells #[.slice none 0 0, .slice none 0 0, .slice none 0 0] 26 (0, 0)) u5_9 hb)
   replace HB := am (below_step Q0 hb)
   (try clear hb)
   (try clear hb2)
   (try clear hk)
   (try clear hi)
   (try clear ho0)
   refine hK.out _ _ ⟨(blk_cell BK230.out 0).trans rfl, (blk_cell BK230.out 1).trans rfl, (blk_cell BK230.out 2).trans rfl⟩ (fun hHeld => ?_)
   clear hK K
   refine norm_ (a' := ?_) ?_ ?_
   rotate_left
   · show Act.put _ (some 17) _ = _
     simp only [Act.put, la, lb, lc, i64_w, i32_w]
     rfl
   refine one_ (i := 5) (N := some 20) #[true, true, true, true, true, true, false, false, false] rfl rfl (one_of HT_.out kr) (by decide) (fun K hK => ?_)
   refine goes_ Try.func83 kr rfl #[.slice A0_2 l0_2.length c0_2] (by rfl) rfl rfl Q3 ?_
   with_reducible refine (spec_l01Copy.calls kj1 _ _ l0_2 t245 _ ?side1 ?side2 A24.out).mono ?_
   (case side1 => exact Q7)
   (case side2 => exact HC0_2.out)
   rintro e w27 ⟨v246, rfl, ho0, hb⟩
   refine ⟨_, rfl, ?_⟩
   have HO247 := am (Kd.R_lower (Kd.R_new' ho0 (Kd.R_lt u5_17)) (below_size Q0))
   replace HO244 := am (Kd.R_elder' u5_17 (Kd.R_base ho0) hb)
   replace BK230 := am (blk_below (g := gb230) (o := .cells #[.slice A0_0 l0_0.length c0_0, .slice A0_1 l0_1.length c0_1, .slice A0_2 l0_2.length c0_2] 26 (0, 0)) u5_8 hb)
   replace BK231 := am (blk_below (g := gb231) (o := .cells #[.slice none 0 0, .slice none 0 0, .slice none 0 0] 26 (0, 0)) u5_9 hb)
   replace HB := am (below_step Q0 hb)
   (try clear hb)
   (try clear hb2)
   (try clear hk)
   (try clear hi)
   (try clear ho0)
   obtain ⟨Ao28, co28, eo28⟩ := Kd.R_slice HO247.out
   (first | subst eo28 | (injection eo28 with f1_ f2_ f3_; have f4_ := f1_.symm; have f5_ := f3_.symm; clear f1_ f2_ f3_; subst f4_; subst f5_))
   obtain ⟨Ao29, co29, eo29⟩ := Kd.R_slice HO244.out
   (first | subst eo29 | (injection eo29 with f1_ f2_ f3_; have f4_ := f1_.symm; have f5_ := f3_.symm; clear f1_ f2_ f3_; subst f4_; subst f5_))
   refine hK.out _ _ ⟨(blk_cell BK230.out 0).trans rfl, (blk_cell BK230.out 1).trans rfl, (blk_cell BK230.out 2).trans rfl⟩ (fun hHeld => ?_)
   clear hK K
   refine norm_ (a' := ?_) ?_ ?_
   rotate_left
   · show Act.put _ (some 20) _ = _
     simp only [Act.put, la, lb, lc, i64_w, i32_w]
     rfl
   refine pV 6 21 (bt 7 9) ?_
   refine one_ (i := 7) (N := none) #[true, true, true, true, true, true, true, true, false] rfl rfl (one_of HT_.out kr) (by decide) (fun K hK => ?_)
   have hs30 : w27.cell? ⟨gb231, 0, none⟩ = some (.slice none 0 0) := (blk_cell BK231.out 0).trans rfl
   have hfs30 := blk_frozen BK231.out 0
   have hns30_0 := NB230_231.out
   have hms30_0 := NB231_230.out
   have hs31 : w27.cell? ⟨gb231, 1, none⟩ = some (.slice none 0 0) := (blk_cell BK231.out 1).trans rfl
   have hfs31 := blk_frozen BK231.out 1
   have hns31_0 := NB230_231.out
   have hms31_0 := NB231_230.out
   have hs32 : w27.cell? ⟨gb231, 2, none⟩ = some (.slice none 0 0) := (blk_cell BK231.out 2).trans rfl
   have hfs32 := blk_frozen BK231.out 2
   have hns32_0 := NB230_231.out
   have hms32_0 := NB231_230.out
   refine skip_ (w1 := ?_) (by rfl) rfl ?_ ?_
   rotate_left
   · go_simp
     rfl
   refine hK.out _ _ ⟨((cell_far (p := ⟨gb231, _, none⟩) NB230_231.out _).trans (((cell_far (p := ⟨gb231, _, none⟩) NB230_231.out _).trans (((cell_far (p := ⟨gb231, _, none⟩) NB230_231.out _).trans (hHeld.1)))))), ((cell_far (p := ⟨gb231, _, none⟩) NB230_231.out _).trans (((cell_far (p := ⟨gb231, _, none⟩) NB230_231.out _).trans (((cell_far (p := ⟨gb231, _, none⟩) NB230_231.out _).trans (hHeld.2.1)))))), ((cell_far (p := ⟨gb231, _, none⟩) NB230_231.out _).trans (((cell_far (p := ⟨gb231, _, none⟩) NB230_231.out _).trans (((cell_far (p := ⟨gb231, _, none⟩) NB230_231.out _).trans (hHeld.2.2))))))⟩ (fun hHeld => ?_)
   clear hK K
   refine pV 8 3 (bt 9 9) ?_
   refine done_ (done_of HT_.out kr) ?_
   try go_wp2
   refine bodyPost_ret (results_ct rfl _ _ gb231 26 #[.slice Ao29 t242.length co29, .slice none 0 0, .slice Ao28 t245.length co28] (0, 0) _ rfl (by (with_reducible repeat (first | refine blk_drewN ?_ _ | refine blk_drew ?_ | refine blk_alloc ?_ _)); refine blk_put (cs := #[.slice Ao29 t242.length co29, .slice none 0 0, .slice none 0 0]) ?_ 2 _ rfl; (with_reducible repeat (first | refine blk_drewN ?_ _ | refine blk_drew ?_ | refine blk_alloc ?_ _)); refine blk_put (cs := #[.slice Ao29 t242.length co29, .slice none 0 0, .slice none 0 0]) ?_ 1 _ rfl; (with_reducible repeat (first | refine blk_drewN ?_ _ | refine blk_drew ?_ | refine blk_alloc ?_ _)); refine blk_put (cs := #[.slice none 0 0, .slice none 0 0, .slice none 0 0]) ?_ 0 _ rfl; (with_reducible repeat (first | refine blk_drewN ?_ _ | refine blk_drew ?_ | refine blk_alloc ?_ _)); exact BK231.out) Try.underlying26 rfl kr) rfl ?_
   exact ⟨_, _, _, er, (by (with_reducible repeat (first | apply Kd.R_alloc | apply Kd.R_drewN | apply Kd.R_drew)); exact Kd.R_mono (Kd.R_far (p := ⟨gb231, 2, none⟩) (Kd.R_far (p := ⟨gb231, 1, none⟩) (Kd.R_far (p := ⟨gb231, 0, none⟩) (Kd.R_types HO244.out BK231.out (by decide)) (fun _ hk => hk.2) (.slice Ao29 t242.length co29)) (fun _ hk => hk.2) (.slice none 0 0)) (fun _ hk => hk.2) (.slice Ao28 t245.length co28)) (fun _ hk => ⟨(by simp [Value.ownBlock]), hk.1.2⟩)), (by first | exact Kd.R_nil _ _ _ _ _ | exact Kd.N_nil _ _ _ _ _ | exact Kd.V_nil _ _ _ _ _ | exact Kd.Q_nil _ _ _ _ _ | exact Kd.S_nil _ _ _ _ _), (by (with_reducible repeat (first | apply Kd.R_alloc | apply Kd.R_drewN | apply Kd.R_drew)); exact Kd.R_mono (Kd.R_far (p := ⟨gb231, 2, none⟩) (Kd.R_far (p := ⟨gb231, 1, none⟩) (Kd.R_far (p := ⟨gb231, 0, none⟩) (Kd.R_types HO247.out BK231.out (by decide)) (fun _ hk => hk.2) (.slice Ao29 t242.length co29)) (fun _ hk => hk.2) (.slice none 0 0)) (fun _ hk => hk.2) (.slice Ao28 t245.length co28)) (fun _ hk => ⟨hk.1.2, (by simp [Value.ownBlock])⟩)), Q0⟩

end Go.Proofs.Ytoemdmjdpikfbaa.QFnQuorums
