-- Printed by the session's own program wip/prx.py.
import Derived.Test.YtkcadcoohmofcaaSqFnExactBeat
import Derived.Test.YtkcadcoohmofcaaQFnExactBeatx0
import Derived.Test.YtkcadcoohmofcaaQFnExactBeatx3
import Derived.Test.YtkcadcoohmofcaaQFnExactBeatx4
namespace Go.Proofs.Ytkcadcoohmofcaa.QFnExactBeat
open Go.RowKit Go.Proofs.YtkcadcoohmofcaaW.PrintWords Go.Proofs.YtkcadcoohmofcaaW.PrintLast Go.Proofs.YtkcadcoohmofcaaW.PrintMore Go.Proofs.Ytkcadcoohmofcaa.SqFnExactBeat
attribute [local go_sem] max2_int min2_int max_two min_two max_three min_three max_four min_four Go.Proofs.Ytkcadcoohmofcaa.Set.isSome_setCell
set_option linter.unusedVariables false
set_option linter.unusedSimpArgs false

-- squeezed
theorem u7_1 {P : Prop} (h : P := by (with_reducible repeat (first | refine blk_drewN ?_ _ | refine blk_drew ?_ | refine blk_alloc ?_ _)); exact BK214.out) : P := h
theorem u7_5 {P : Prop} (h : P := by (with_reducible repeat (first | apply Kd.R_alloc | apply Kd.R_drewN | apply Kd.R_drew)); exact HO_7.out) : P := h
/-! ### spec_TailOf: function 91 -/
mutual
def spec_TailOf.j0 : Nat → Int → Int → Bool → Int → Int → List (S85) → Option ((List (S85)))
 | 0, _, _, _, _, _, _ => none
 | k + 1, x1, x2, x25, x215000, x215001, x215002 => if x25 = true then (some ([] : List (S85))) else (spec_TailOf.l0 k x2 (([] : List (S85))) (wrap64 ((wrap64 (x1 - x215000)) - 1)) x215000 x215001 x215002)
def spec_TailOf.l0 : Nat → Int → List (S85) → Int → Int → Int → List (S85) → Option ((List (S85)))
 | 0, _, _, _, _, _, _ => none
 | k + 1, x2, x7, x8, x215000, x215001, x215002 => if x8 < (x215002.length : Int) then (if (x7.length : Int) < x2 then (if 0 ≤ x8 then (if x7.length < 5864062014805 then (spec_TailOf.l0 k x2 (x7 ++ [(⟨(rd_T85 x215002 x8).f0, (rd_T85 x215002 x8).f1⟩ : S85)]) (wrap64 (x8 + 1)) x215000 x215001 x215002) else (none)) else (none)) else (some x7)) else (some x7)
end
def spec_TailOf.f (k : Nat) (a0_0 : Int) (a0_1 : Int) (l0_2 : List (S85)) (a1 : Int) (a2 : Int) : Option ((List (S85))) := (spec_RLogOk.f k a0_0 a0_1 l0_2).bind fun t215 => (if t215 = true then ((spec_LastIndex.f k a0_0 a0_1 l0_2).bind fun t216 => ((spec_l01In.f a1 (wrap64 (a0_0 + 1)) t216).bind fun t217 => (if t217 = true then (spec_TailOf.j0 k a1 a2 (decide (a2 < 1)) a0_0 a0_1 l0_2) else (spec_TailOf.j0 k a1 a2 true a0_0 a0_1 l0_2)))) else (spec_TailOf.j0 k a1 a2 true a0_0 a0_1 l0_2))
theorem spec_TailOf.mono_l : ∀ k, (∀ y0 y1 y2 y3 y4 y5, LeO (spec_TailOf.j0 k y0 y1 y2 y3 y4 y5) (spec_TailOf.j0 (k + 1) y0 y1 y2 y3 y4 y5)) ∧ (∀ y0 y1 y2 y3 y4 y5, LeO (spec_TailOf.l0 k y0 y1 y2 y3 y4 y5) (spec_TailOf.l0 (k + 1) y0 y1 y2 y3 y4 y5))
 | 0 => ⟨fun _ _ _ _ _ _ r h => by simp [spec_TailOf.j0] at h, fun _ _ _ _ _ _ r h => by simp [spec_TailOf.l0] at h⟩
 | k + 1 => by
   obtain ⟨ih0, ih1⟩ := spec_TailOf.mono_l k
   refine ⟨?_, ?_⟩ <;> intros <;> (first | unfold spec_TailOf.j0 | unfold spec_TailOf.l0) <;> repeat' first
   | (with_reducible exact ih0 _ _ _ _ _ _)
   | (with_reducible exact ih1 _ _ _ _ _ _)
   | (with_reducible exact spec_LastIndex.mono _ _ _ _)
   | (with_reducible exact spec_RLogOk.mono _ _ _ _)
   | (with_reducible exact LeO.refl _)
   | (with_reducible exact LeO.none _)
   | (with_reducible refine LeO.ite ?_ ?_)
   | (with_reducible refine LeO.bind ?_ (fun _ => ?_))
   | exact ih0 _ _ _ _ _ _
   | exact ih1 _ _ _ _ _ _
   | exact spec_LastIndex.mono _ _ _ _
   | exact spec_RLogOk.mono _ _ _ _
   | exact LeO.none _
   | refine LeO.ite ?_ ?_
   | refine LeO.bind ?_ (fun _ => ?_)
theorem spec_TailOf.mono : ∀ a0 a1 a2 a3 a4 k, LeO (spec_TailOf.f k a0 a1 a2 a3 a4) (spec_TailOf.f (k + 1) a0 a1 a2 a3 a4) := by
 intro a0 a1 a2 a3 a4 k
 obtain ⟨ih0, ih1⟩ := spec_TailOf.mono_l k
 unfold spec_TailOf.f
 repeat' first
     | (with_reducible exact ih0 _ _ _ _ _ _)
     | (with_reducible exact ih1 _ _ _ _ _ _)
     | (with_reducible exact spec_LastIndex.mono _ _ _ _)
     | (with_reducible exact spec_RLogOk.mono _ _ _ _)
     | (with_reducible exact LeO.refl _)
     | (with_reducible exact LeO.none _)
     | (with_reducible refine LeO.ite ?_ ?_)
     | (with_reducible refine LeO.bind ?_ (fun _ => ?_))
     | exact ih0 _ _ _ _ _ _
     | exact ih1 _ _ _ _ _ _
     | exact spec_LastIndex.mono _ _ _ _
     | exact spec_RLogOk.mono _ _ _ _
     | exact LeO.none _
     | refine LeO.ite ?_ ?_
     | refine LeO.bind ?_ (fun _ => ?_)
def spec_TailOf.T1 : Bool × List (List Nat × List Nat) := (true, [([], []), ([0], [0]), ([1], [1]), ([2, 1], [2]), ([3], [3]), ([3], [3]), ([5, 3], [3, 5]), ([6, 3], [3, 6]), ([3], [3]), ([8, 3, 3], [3, 8]), ([4, 7, 9, 9, 3], [3, 4, 7, 9]), ([10, 3], [3, 10]), ([3, 11], [3, 11]), ([12, 10], [12]), ([13], [13]), ([14, 13], [13, 14]), ([13, 15], [13, 15])])
def spec_TailOf.B1 : List Nat := [0, 1, 3, 7, 15, 15, 47, 111, 15, 271, 1023, 2047, 4095, 8191, 16383, 32767, 65535]
theorem spec_TailOf.tab1 : rtab .any (opsOf Try.f91 1) = spec_TailOf.T1 := by kernel_rfl
theorem spec_TailOf.bits1 : waitsOk spec_TailOf.T1.2 spec_TailOf.B1 = true := by kernel_rfl
set_option maxHeartbeats 8000000 in
set_option maxRecDepth 100000 in
theorem spec_TailOf.calls (k : Nat) (a0_0 : Int) (a0_1 : Int) (A0_2 : Option Addr) (c0_2 : Nat) (l0_2 : List (S85)) (a1 : Int) (a2 : Int) (r : List (S85)) (w : World) (hr0_2 : Kd.C k85 w A0_2 l0_2.length l0_2) (hc0_2 : l0_2.length ≤ c0_2) (h : spec_TailOf.f k a0_0 a0_1 l0_2 a1 a2 = some r) :
   Calls Try.prog 91 #[.agg #[.int .i64 a0_0, .int .i64 a0_1, .slice A0_2 l0_2.length c0_2], .int .i64 a1, .int .i64 a2] w fun e w' => ∃ v0_ : Value, e = .returned (v0_) ∧ Kd.R k85 85 w' w.heap.size (fun _ => True) v0_ r ∧ Below w.heap.size w w' := by
 have hu34 := Try.underlying34
 have hu85 := Try.underlying85
 have HR0_2 := am hr0_2
 have HC0_2 := am hc0_2
 clear hr0_2 hc0_2
 have HB := am (Below.refl w.heap.size w)
 have H : ((spec_RLogOk.f k a0_0 a0_1 l0_2).bind fun t215 => (if t215 = true then ((spec_LastIndex.f k a0_0 a0_1 l0_2).bind fun t216 => ((spec_l01In.f a1 (wrap64 (a0_0 + 1)) t216).bind fun t217 => (if t217 = true then (spec_TailOf.j0 k a1 a2 (decide (a2 < 1)) a0_0 a0_1 l0_2) else (spec_TailOf.j0 k a1 a2 true a0_0 a0_1 l0_2)))) else (spec_TailOf.j0 k a1 a2 true a0_0 a0_1 l0_2))) = some r := h
 clear h
 have HC4 := am H
 clear H
 go_enter Try.func91, Try.ntmps91
 go_upto_region 1 with (first | ((with_reducible refine gate_dst (N := 3) rfl ?_); (try (refine gate_guard (by rfl) ?_; dsimp only)); refine box_event ?hg (N := 3) ?hd (cs := #[.int .i64 a0_0, .int .i64 a0_1, .slice A0_2 l0_2.length c0_2]) (t := 34) ?hr ?_; (case hd => rfl); (case hg => rfl); (case hr => first | (go_simp; done) | (go_simp; rfl)); intro gb214 hg w5 hbox hb; have BK214 := am (hbox); have GW214 := am ((by rw [hg]; exact (below_size Q1) : w.heap.size ≤ gb214)); have GE214 := am ((by rw [hg]; exact (below_size Q1) : w.heap.size ≤ gb214)); replace HB := am (below_step Q1 hb); clear hb hbox hg))
 (try simp only [Act.put, la, lb, lc])
 go_cut [25] (fun v25 wc => ∃ (kq : Nat) (x25_3 : Bool), v25 = .bool x25_3 ∧ Aside0 (spec_TailOf.j0 kq a1 a2 x25_3 a0_0 a0_1 l0_2 = some r) ∧ Aside0 (kq ≤ k) ∧ Aside0 (wc.heap[gb214]? = some (.cells #[.int .i64 a0_0, .int .i64 a0_1, (.slice A0_2 l0_2.length c0_2)] 34 (0, 0))) ∧ Aside0 (Below w.heap.size w wc))
 case first =>
   have H := HC4.out
   clear HC4
   replace H := Option.bind_eq_some_iff.mp H
   obtain ⟨t215, A60, H⟩ := H
   have A6 := am A60
   clear A60
   by_cases c7 : t215 = true
   rotate_left
   · replace c7 := Bool.eq_false_iff.mpr c7
     subst c7
     rw [nf] at H
     have H' := am H
     clear H
     try go_wp2
     replace BK214 := am (blk_drew BK214.out)
     replace HB := am (below_drew1 HB.out)
     refine start_ (n := 17) (S := fun w' => w'.cell? ⟨gb214, 0, none⟩ = some (.int .i64 a0_0) ∧ w'.cell? ⟨gb214, 1, none⟩ = some (.int .i64 a0_1) ∧ w'.cell? ⟨gb214, 2, none⟩ = some (.slice A0_2 l0_2.length c0_2)) (ds := []) b0_17 kr rfl rfl ⟨(blk_cell BK214.out 0).trans rfl, (blk_cell BK214.out 1).trans rfl, (blk_cell BK214.out 2).trans rfl⟩ (fun hHeld => ?_); refine with_tabW spec_TailOf.tab1 spec_TailOf.bits1 (fun HT_ HW_ => ?_)
     generalize w5.drew = w17 at BK214 HB hHeld ⊢
     refine tV 0 9 (bt 1 17) ?_
     refine one_ (i := 1) (N := some 10) b2_17 rfl rfl (one_of HT_.out kr) (by decide) (fun K hK => ?_)
     refine goes_ Try.func86 kr rfl #[.agg #[.int .i64 a0_0, .int .i64 a0_1, .slice A0_2 l0_2.length c0_2]] (by rfl) rfl rfl Q0 ?_
     with_reducible refine (spec_RLogOk.calls k a0_0 a0_1 _ _ l0_2 false _ ?side1 ?side2 A6.out).mono ?_
     (case side1 => exact Q6)
     (case side2 => exact HC0_2.out)
     rintro e w18 ⟨rfl, hb⟩
     refine ⟨_, rfl, ?_⟩
     replace BK214 := am (blk_below (g := gb214) (o := .cells #[.int .i64 a0_0, .int .i64 a0_1, .slice A0_2 l0_2.length c0_2] 34 (0, 0)) u7_1 hb)
     replace HB := am (below_step Q1 hb)
     (try clear hb)
     (try clear hb2)
     (try clear hk)
     (try clear hi)
     refine hK.out _ _ ⟨(blk_cell BK214.out 0).trans rfl, (blk_cell BK214.out 1).trans rfl, (blk_cell BK214.out 2).trans rfl⟩ (fun hHeld => ?_)
     clear hK K
     refine norm_ (a' := ?_) ?_ ?_
     rotate_left
     · show Act.put _ (some 10) _ = _
       simp only [Act.put, la, lb, lc, i64_w, i32_w]
       rfl
     refine pV 2 11 (bt 3 17) ?_
     refine pV 3 12 (bt 4 17) ?_
     refine pU 4 13 (bt 5 17) ?_
     refine pU 5 14 (bt 6 17) ?_
     refine pU 6 15 (bt 7 17) ?_
     refine pU 7 16 (bt 8 17) ?_
     refine pU 8 17 (bt 9 17) ?_
     refine pU 9 18 (bt 10 17) ?_
     refine pU 10 19 (bt 11 17) ?_
     refine pU 11 20 (bt 12 17) ?_
     refine pV 12 21 (bt 13 17) ?_
     refine pV 13 22 (bt 14 17) ?_
     refine pU 14 23 (bt 15 17) ?_
     refine pU 15 24 (bt 16 17) ?_
     refine pV 16 25 (bt 17 17) ?_
     refine done_ (done_of HT_.out kr) ?_
     try go_wp2
     go_meet
     case rel => exact ⟨_, (true), Q4, H', ⟨by first | omega | exact Nat.le_refl _⟩, ⟨u7_1⟩, ⟨Q1⟩⟩
   subst c7
   rw [if_pos rfl] at H
   replace H := Option.bind_eq_some_iff.mp H
   obtain ⟨t216, A80, H⟩ := H
   have A8 := am A80
   clear A80
   replace H := Option.bind_eq_some_iff.mp H
   obtain ⟨t217, A90, H⟩ := H
   have A9 := am A90
   clear A90
   by_cases c10 : t217 = true
   rotate_left
   · replace c10 := Bool.eq_false_iff.mpr c10
     subst c10
     rw [nf] at H
     have H' := am H
     clear H
     try go_wp2
     replace BK214 := am (blk_drew BK214.out)
     replace HB := am (below_drew1 HB.out)
     refine start_ (n := 17) (S := fun w' => w'.cell? ⟨gb214, 0, none⟩ = some (.int .i64 a0_0) ∧ w'.cell? ⟨gb214, 1, none⟩ = some (.int .i64 a0_1) ∧ w'.cell? ⟨gb214, 2, none⟩ = some (.slice A0_2 l0_2.length c0_2)) (ds := []) b0_17 kr rfl rfl ⟨(blk_cell BK214.out 0).trans rfl, (blk_cell BK214.out 1).trans rfl, (blk_cell BK214.out 2).trans rfl⟩ (fun hHeld => ?_); refine with_tabW spec_TailOf.tab1 spec_TailOf.bits1 (fun HT_ HW_ => ?_)
     generalize w5.drew = w14 at BK214 HB hHeld ⊢
     refine tV 0 9 (bt 1 17) ?_
     refine one_ (i := 1) (N := some 10) b2_17 rfl rfl (one_of HT_.out kr) (by decide) (fun K hK => ?_)
     refine goes_ Try.func86 kr rfl #[.agg #[.int .i64 a0_0, .int .i64 a0_1, .slice A0_2 l0_2.length c0_2]] (by rfl) rfl rfl Q0 ?_
     with_reducible refine (spec_RLogOk.calls k a0_0 a0_1 _ _ l0_2 true _ ?side1 ?side2 A6.out).mono ?_
     (case side1 => exact Q6)
     (case side2 => exact HC0_2.out)
     rintro e w15 ⟨rfl, hb⟩
     refine ⟨_, rfl, ?_⟩
     replace BK214 := am (blk_below (g := gb214) (o := .cells #[.int .i64 a0_0, .int .i64 a0_1, .slice A0_2 l0_2.length c0_2] 34 (0, 0)) u7_1 hb)
     replace HB := am (below_step Q1 hb)
     (try clear hb)
     (try clear hb2)
     (try clear hk)
     (try clear hi)
     refine hK.out _ _ ⟨(blk_cell BK214.out 0).trans rfl, (blk_cell BK214.out 1).trans rfl, (blk_cell BK214.out 2).trans rfl⟩ (fun hHeld => ?_)
     clear hK K
     refine norm_ (a' := ?_) ?_ ?_
     rotate_left
     · show Act.put _ (some 10) _ = _
       simp only [Act.put, la, lb, lc, i64_w, i32_w]
       rfl
     refine pV 2 11 (bt 3 17) ?_
     refine pV 3 12 (bt 4 17) ?_
     refine pV 4 13 (bt 5 17) ?_
     refine pV 5 14 (bt 6 17) ?_
     refine tV 6 15 (bt 7 17) ?_
     refine pV 7 16 (bt 8 17) ?_
     refine tV 8 17 (bt 9 17) ?_
     refine one_ (i := 9) (N := some 18) b10_17 rfl rfl (one_of HT_.out kr) (by decide) (fun K hK => ?_)
     refine goes_ Try.func72 kr rfl #[.agg #[.int .i64 a0_0, .int .i64 a0_1, .slice A0_2 l0_2.length c0_2]] (by rfl) rfl rfl Q0 ?_
     with_reducible refine (spec_LastIndex.calls k a0_0 a0_1 _ _ l0_2 t216 _ ?side1 ?side2 A8.out).mono ?_
     (case side1 => exact Q6)
     (case side2 => exact HC0_2.out)
     rintro e w16 ⟨rfl, hb⟩
     refine ⟨_, rfl, ?_⟩
     replace BK214 := am (blk_below (g := gb214) (o := .cells #[.int .i64 a0_0, .int .i64 a0_1, .slice A0_2 l0_2.length c0_2] 34 (0, 0)) u7_1 hb)
     replace HB := am (below_step Q1 hb)
     (try clear hb)
     (try clear hb2)
     (try clear hk)
     (try clear hi)
     refine hK.out _ _ ⟨(blk_cell BK214.out 0).trans rfl, (blk_cell BK214.out 1).trans rfl, (blk_cell BK214.out 2).trans rfl⟩ (fun hHeld => ?_)
     clear hK K
     refine norm_ (a' := ?_) ?_ ?_
     rotate_left
     · show Act.put _ (some 18) _ = _
       simp only [Act.put, la, lb, lc, i64_w, i32_w]
       rfl
     refine one_ (i := 10) (N := some 19) b11_17 rfl rfl (one_of HT_.out kr) (by decide) (fun K hK => ?_)
     refine goes_ Try.func63 kr rfl #[.int .i64 a1, .int .i64 (wrap64 (a0_0 + 1)), .int .i64 t216] (by rfl) rfl rfl Q0 ?_
     with_reducible refine (spec_l01In.calls a1 (wrap64 (a0_0 + 1)) t216 false _ A9.out).mono ?_
     rintro e w' ⟨rfl, ⟨nd, rfl⟩⟩
     refine ⟨_, rfl, ?_⟩
     refine hK.out _ _ ⟨(blk_cell BK214.out 0).trans rfl, (blk_cell BK214.out 1).trans rfl, (blk_cell BK214.out 2).trans rfl⟩ (fun hHeld => ?_)
     clear hK K
     refine norm_ (a' := ?_) ?_ ?_
     rotate_left
     · show Act.put _ (some 19) _ = _
       simp only [Act.put, la, lb, lc, i64_w, i32_w]
       rfl
     refine pV 11 20 (bt 12 17) ?_
     refine pV 12 21 (bt 13 17) ?_
     refine pV 13 22 (bt 14 17) ?_
     refine pU 14 23 (bt 15 17) ?_
     refine pU 15 24 (bt 16 17) ?_
     refine pV 16 25 (bt 17 17) ?_
     refine done_ (done_of HT_.out kr) ?_
     try go_wp2
     go_meet
     case rel => exact ⟨_, (true), Q4, H', ⟨by first | omega | exact Nat.le_refl _⟩, ⟨u7_1⟩, ⟨Q1⟩⟩
   subst c10
   rw [if_pos rfl] at H
   have H' := am H
   clear H
   try go_wp2
   replace BK214 := am (blk_drew BK214.out)
   replace HB := am (below_drew1 HB.out)
   refine start_ (n := 17) (S := fun w' => w'.cell? ⟨gb214, 0, none⟩ = some (.int .i64 a0_0) ∧ w'.cell? ⟨gb214, 1, none⟩ = some (.int .i64 a0_1) ∧ w'.cell? ⟨gb214, 2, none⟩ = some (.slice A0_2 l0_2.length c0_2)) (ds := []) b0_17 kr rfl rfl ⟨(blk_cell BK214.out 0).trans rfl, (blk_cell BK214.out 1).trans rfl, (blk_cell BK214.out 2).trans rfl⟩ (fun hHeld => ?_); refine with_tabW spec_TailOf.tab1 spec_TailOf.bits1 (fun HT_ HW_ => ?_)
   generalize w5.drew = w11 at BK214 HB hHeld ⊢
   refine tV 0 9 (bt 1 17) ?_
   refine one_ (i := 1) (N := some 10) b2_17 rfl rfl (one_of HT_.out kr) (by decide) (fun K hK => ?_)
   refine goes_ Try.func86 kr rfl #[.agg #[.int .i64 a0_0, .int .i64 a0_1, .slice A0_2 l0_2.length c0_2]] (by rfl) rfl rfl Q0 ?_
   with_reducible refine (spec_RLogOk.calls k a0_0 a0_1 _ _ l0_2 true _ ?side1 ?side2 A6.out).mono ?_
   (case side1 => exact Q6)
   (case side2 => exact HC0_2.out)
   rintro e w12 ⟨rfl, hb⟩
   refine ⟨_, rfl, ?_⟩
   replace BK214 := am (blk_below (g := gb214) (o := .cells #[.int .i64 a0_0, .int .i64 a0_1, .slice A0_2 l0_2.length c0_2] 34 (0, 0)) u7_1 hb)
   replace HB := am (below_step Q1 hb)
   (try clear hb)
   (try clear hb2)
   (try clear hk)
   (try clear hi)
   refine hK.out _ _ ⟨(blk_cell BK214.out 0).trans rfl, (blk_cell BK214.out 1).trans rfl, (blk_cell BK214.out 2).trans rfl⟩ (fun hHeld => ?_)
   clear hK K
   refine norm_ (a' := ?_) ?_ ?_
   rotate_left
   · show Act.put _ (some 10) _ = _
     simp only [Act.put, la, lb, lc, i64_w, i32_w]
     rfl
   refine pV 2 11 (bt 3 17) ?_
   refine pV 3 12 (bt 4 17) ?_
   refine pV 4 13 (bt 5 17) ?_
   refine pV 5 14 (bt 6 17) ?_
   refine tV 6 15 (bt 7 17) ?_
   refine pV 7 16 (bt 8 17) ?_
   refine tV 8 17 (bt 9 17) ?_
   refine one_ (i := 9) (N := some 18) b10_17 rfl rfl (one_of HT_.out kr) (by decide) (fun K hK => ?_)
   refine goes_ Try.func72 kr rfl #[.agg #[.int .i64 a0_0, .int .i64 a0_1, .slice A0_2 l0_2.length c0_2]] (by rfl) rfl rfl Q0 ?_
   with_reducible refine (spec_LastIndex.calls k a0_0 a0_1 _ _ l0_2 t216 _ ?side1 ?side2 A8.out).mono ?_
   (case side1 => exact Q6)
   (case side2 => exact HC0_2.out)
   rintro e w13 ⟨rfl, hb⟩
   refine ⟨_, rfl, ?_⟩
   replace BK214 := am (blk_below (g := gb214) (o := .cells #[.int .i64 a0_0, .int .i64 a0_1, .slice A0_2 l0_2.length c0_2] 34 (0, 0)) u7_1 hb)
   replace HB := am (below_step Q1 hb)
   (try clear hb)
   (try clear hb2)
   (try clear hk)
   (try clear hi)
   refine hK.out _ _ ⟨(blk_cell BK214.out 0).trans rfl, (blk_cell BK214.out 1).trans rfl, (blk_cell BK214.out 2).trans rfl⟩ (fun hHeld => ?_)
   clear hK K
   refine norm_ (a' := ?_) ?_ ?_
   rotate_left
   · show Act.put _ (some 18) _ = _
     simp only [Act.put, la, lb, lc, i64_w, i32_w]
     rfl
   refine one_ (i := 10) (N := some 19) b11_17 rfl rfl (one_of HT_.out kr) (by decide) (fun K hK => ?_)
   refine goes_ Try.func63 kr rfl #[.int .i64 a1, .int .i64 (wrap64 (a0_0 + 1)), .int .i64 t216] (by rfl) rfl rfl Q0 ?_
   with_reducible refine (spec_l01In.calls a1 (wrap64 (a0_0 + 1)) t216 true _ A9.out).mono ?_
   rintro e w' ⟨rfl, ⟨nd, rfl⟩⟩
   refine ⟨_, rfl, ?_⟩
   refine hK.out _ _ ⟨(blk_cell BK214.out 0).trans rfl, (blk_cell BK214.out 1).trans rfl, (blk_cell BK214.out 2).trans rfl⟩ (fun hHeld => ?_)
   clear hK K
   refine norm_ (a' := ?_) ?_ ?_
   rotate_left
   · show Act.put _ (some 19) _ = _
     simp only [Act.put, la, lb, lc, i64_w, i32_w]
     rfl
   refine pV 11 20 (bt 12 17) ?_
   refine pV 12 21 (bt 13 17) ?_
   refine pV 13 22 (bt 14 17) ?_
   refine pV 14 23 (bt 15 17) ?_
   refine pV 15 24 (bt 16 17) ?_
   refine pV 16 25 (bt 17 17) ?_
   refine done_ (done_of HT_.out kr) ?_
   try go_wp2
   go_meet
   case rel => exact ⟨_, (decide (a2 < 1)), Q4, H', ⟨by first | omega | exact Nat.le_refl _⟩, ⟨u7_1⟩, ⟨Q1⟩⟩
 clear HC4
 obtain ⟨kq, x25_3, rfl, HA, HJ3, BK214, HB⟩ := hcut
 cases kq with
 | zero => exact absurd HA.out (by simp [spec_TailOf.j0])
 | succ kj3 =>
   have H := HA.out
   clear HA
   simp only [spec_TailOf.j0] at H
   by_cases c19 : x25_3 = true
   · subst c19
     rw [if_pos rfl] at H
     obtain rfl := sj H
     go_wp2
     go_ret
     exact ⟨_, er, (by first | exact Kd.R_nil _ _ _ _ _ | exact Kd.N_nil _ _ _ _ _ | exact Kd.V_nil _ _ _ _ _ | exact Kd.Q_nil _ _ _ _ _ | exact Kd.S_nil _ _ _ _ _), Q1⟩
   replace c19 := Bool.eq_false_iff.mpr c19
   subst c19
   rw [nf] at H
   obtain ⟨y218, hy218⟩ : ∃ y_ : List (S85), y_ = (([] : List (S85))) := ⟨_, rfl⟩
   replace H : (spec_TailOf.l0 kj3 a2 y218 (wrap64 ((wrap64 (a1 - a0_0)) - 1)) a0_0 a0_1 l0_2) = some r := by first | (rw [hy218]; with_reducible exact H) | (have H2_ := (Option.bind_some _ _).symm.trans H; rw [hy218]; with_reducible exact H2_) | (have H2_ := (Option.bind_some _ _).symm.trans H; with_reducible exact H2_) | with_reducible exact H | (rw [hy218]; exact H) | exact H
   have Ny218 := am hy218
   clear hy218
   have H' := am H
   clear H
   go_wp2_with (first | ((with_reducible refine gate_dst (N := 26) rfl ?_); (try (refine gate_guard (by rfl) ?_; dsimp only)); refine Kd.R_lit k85 _ 85 ?hg (N := 26) ?hd (xs := ([] : List (S85))) (inner := []) (ok := fun _ => True) (okp := fun _ => True) ?hr ?hp (fun _ hk => hk) trivial (Below.refl _ _) (Nat.le_refl _) (by simp) ?_; (case hd => rfl); (case hg => rfl); (case hr => first | (go_simp; done) | (go_simp; rfl)); (case hp => exact (Reps.none _ _)); intro v219 w20 ho21 hb hg_ hnew_; clear hg_ hnew_; (first | rw [← Ny218.out] at ho21 | (simp only [Int.reduceToNat] at ho21; rw [← Ny218.out] at ho21)); have HO220 := am (Kd.R_lower ho21 (below_size Q1)); replace BK214 := am (blk_below (g := gb214) (o := .cells #[.int .i64 a0_0, .int .i64 a0_1, .slice A0_2 l0_2.length c0_2] 34 (0, 0)) u7_1 hb); replace HB := am (below_step Q1 hb); clear hb ho21; obtain ⟨hcz22_0, hcz22_1, hcz22_2⟩ := bc3 w20 BK214.out))
   go_loopg [7, 8] kj3 (fun kq v7 v8 w' => ∃ (x7_2 : List (S85)) (x8_2 : Int), v8 = .int .i64 x8_2 ∧ Aside0 (spec_TailOf.l0 kq a2 x7_2 x8_2 a0_0 a0_1 l0_2 = some r) ∧ Aside0 (kq ≤ kj3) ∧ Aside0 (Kd.R k85 85 w' w.heap.size (fun _ => True) v7 x7_2) ∧ Aside0 (w'.heap[gb214]? = some (.cells #[.int .i64 a0_0, .int .i64 a0_1, (.slice A0_2 l0_2.length c0_2)] 34 (0, 0))) ∧ Aside0 (Below w.heap.size w w'))
   case atStart => exact ⟨(y218), (wrap64 ((wrap64 (a1 - a0_0)) - 1)), Q4, H', ⟨Nat.le_refl _⟩, ⟨(by (with_reducible repeat (first | apply Kd.R_alloc | apply Kd.R_drewN | apply Kd.R_drew)); exact HO220.out)⟩, ⟨u7_1⟩, ⟨Q1⟩⟩
   clear H'
   try clear c19
   try clear hcz22_0
   try clear hcz22_1
   try clear hcz22_2
   obtain ⟨x7_2, x8_2, rfl, HA, HK2, HO_7, BK214, HB⟩ := hrel
   cases gk with
   | zero => exact absurd HA.out (by simp [spec_TailOf.l0])
   | succ k2 =>
     have H := HA.out
     clear HA
     simp only [spec_TailOf.l0] at H
     by_cases c23 : x8_2 < (l0_2.length : Int)
     rotate_left
     · rw [if_neg c23] at H
       have c23b0 : decide (x8_2 < (l0_2.length : Int)) = false := decide_eq_false c23
       clear c23
       obtain rfl := sj H
       obtain ⟨hcz32_0, hcz32_1, hcz32_2⟩ := bc3 wr BK214.out
       go_wp2
       go_ret
       exact ⟨_, er, u7_5, Q1⟩
     rw [if_pos c23] at H
     have c23b0 : decide (x8_2 < (l0_2.length : Int)) = true := decide_eq_true c23
     clear c23
     by_cases c24 : (x7_2.length : Int) < a2
     rotate_left
     · rw [if_neg c24] at H
       have c24b0 : decide ((x7_2.length : Int) < a2) = false := decide_eq_false c24
       clear c24
       obtain rfl := sj H
       obtain ⟨hcz30_0, hcz30_1, hcz30_2⟩ := bc3 wr BK214.out
       obtain ⟨Ao31, co31, eo31⟩ := Kd.R_slice HO_7.out
       subst eo31
       go_wp2
       go_ret
       exact ⟨_, er, u7_5, Q1⟩
     rw [if_pos c24] at H
     have c24b0 : decide ((x7_2.length : Int) < a2) = true := decide_eq_true c24
     clear c24
     by_cases c25 : 0 ≤ x8_2
     rotate_left
     · rw [if_neg c25] at H
       exact absurd H (by simp)
     rw [if_pos c25] at H
     have c25b0 : decide (0 ≤ x8_2) = true := decide_eq_true c25
     clear c25
     by_cases c26 : x7_2.length < 5864062014805
     rotate_left
     · rw [if_neg c26] at H
       exact absurd H (by simp)
     rw [if_pos c26] at H
     have LMc26 := am c26
     clear c26
     obtain ⟨y222, hy222⟩ : ∃ y_ : List (S85), y_ = (x7_2 ++ [(⟨(rd_T85 l0_2 x8_2).f0, (rd_T85 l0_2 x8_2).f1⟩ : S85)]) := ⟨_, rfl⟩
     replace H : (spec_TailOf.l0 k2 a2 y222 (wrap64 (x8_2 + 1)) a0_0 a0_1 l0_2) = some r := by first | (rw [hy222]; with_reducible exact H) | (have H2_ := (Option.bind_some _ _).symm.trans H; rw [hy222]; with_reducible exact H2_) | (have H2_ := (Option.bind_some _ _).symm.trans H; with_reducible exact H2_) | with_reducible exact H | (rw [hy222]; exact H) | exact H
     have Ny222 := am hy222
     clear hy222
     have H' := am H
     clear H
     obtain ⟨hcz27_0, hcz27_1, hcz27_2⟩ := bc3 wr BK214.out
     obtain ⟨Ao28, co28, eo28⟩ := Kd.R_slice HO_7.out
     subst eo28
     have p221 : 0 ≤ (x8_2 : Int) := of_decide_eq_true (by first | (with_reducible assumption) | assumption)
     have q221 : x8_2 < (l0_2.length : Int) := of_decide_eq_true (by first | (with_reducible assumption) | assumption)
     obtain ⟨ad221, e221, hx221_0, hx221_1⟩ := at_T85 HR0_2.out x8_2 p221 q221
     cases e221
     replace hx221_0 := cm HB.out hx221_0
     replace hx221_1 := cm HB.out hx221_1
     replace p221 := eq_true p221
     replace q221 := eq_true q221
     go_wp2_with (first | ((with_reducible refine gate_builtin (b := .append) (xs := #[.tmp 45, .tmp 51]) rfl ?_); (try (refine gate_guard (by rfl) ?_; dsimp only)); at_builtin; refine Kd.R_append k85 (w0 := w) w.heap.size rfl (.tmp 45) (.tmp 51) 27 85 (.agg #[(.int .i64 0), (.string ⟨#[]⟩)]) 24 rfl Try.underlying27 info85 rfl (by decide) (by omega) (.slice Ao28 x7_2.length co28) x7_2 (⟨(rd_T85 l0_2 x8_2).f0, (rd_T85 l0_2 x8_2).f1⟩ : S85) [.int .i64 ((rd_T85 l0_2 x8_2).f0), .string ((rd_T85 l0_2 x8_2).f1)] (fun _ => True) (fun _ => False) rfl rfl ?aP (fun _ hk => hk.elim) ?aF ?aO ?aB ?aS ?aL ?_; (case aP => exact k85_mkM _ _ _ (⟨(rd_T85 l0_2 x8_2).f0, (rd_T85 l0_2 x8_2).f1⟩ : S85)); (case aB => exact Q1); (case aF => exact (fun _ _ => trivial)); (case aO => exact u7_5); (case aS => exact (below_size Q1)); (case aL => have := LMc26.out; omega); intro v223 w29 ho hb hg hat; rw [← Ny222.out] at ho; replace BK214 := am (blk_grown (g := gb214) (o := .cells #[.int .i64 a0_0, .int .i64 a0_1, .slice (some ad221) l0_2.length c0_2] 34 (0, 0)) u7_1 hg (Kd.R_ne HO_7.out BK214.out (by decide))); replace HB := am (hb); have HO224 := am (ho); clear HO_7; clear ho hb hg hat))
     go_roundg k2
     case measure => have := HJ3.out; have := HK2.out; omega
     case rel => exact ⟨(y222), (wrap64 (x8_2 + 1)), Q4, H', ⟨(by have := HJ3.out; have := HK2.out; omega)⟩, ⟨(by (with_reducible repeat (first | apply Kd.R_alloc | apply Kd.R_drewN | apply Kd.R_drew)); exact HO224.out)⟩, ⟨u7_1⟩, ⟨Q1⟩⟩

end Go.Proofs.Ytkcadcoohmofcaa.QFnExactBeat
