-- Printed by the session's own program wip/prx.py.
import Derived.Test.YtkcadcoohmofcaaSqFnExactSafeGroup
import Derived.Test.YtkcadcoohmofcaaQFnExactSafeGroupx0
import Derived.Test.YtkcadcoohmofcaaQFnExactSafeGroupx1
import Derived.Test.YtkcadcoohmofcaaQFnExactSafeGroupx15
namespace Go.Proofs.Ytkcadcoohmofcaa.QFnExactSafeGroup
open Go.RowKit Go.Proofs.YtkcadcoohmofcaaW.PrintWords Go.Proofs.YtkcadcoohmofcaaW.PrintLast Go.Proofs.YtkcadcoohmofcaaW.PrintMore Go.Proofs.Ytkcadcoohmofcaa.SqFnExactSafeGroup
attribute [local go_sem] max2_int min2_int max_two min_two max_three min_three max_four min_four Go.Proofs.Ytkcadcoohmofcaa.Set.isSome_setCell
set_option linter.unusedVariables false
set_option linter.unusedSimpArgs false

attribute [local go_sem high] eqA85
-- squeezed
theorem u21_1 {P : Prop} (h : P := by (with_reducible repeat (first | refine blk_drewN ?_ _ | refine blk_drew ?_ | refine blk_alloc ?_ _)); exact BK338.out) : P := h
theorem u21_2 {P : Prop} (h : P := by (with_reducible repeat (first | refine blk_drewN ?_ _ | refine blk_drew ?_ | refine blk_alloc ?_ _)); exact BK339.out) : P := h
/-! ### impl_Agree: function 102 -/
mutual
def impl_Agree.j0 : Nat → Bool → Int → Int → List (S85) → Int → Int → List (S85) → Option (Int)
 | 0, _, _, _, _, _, _, _ => none
 | k + 1, x13, x339000, x339001, x339002, x340000, x340001, x340002 => if x13 = true then (some (-1)) else ((impl_RLog_last.f x339000 x339001 x339002).bind fun t342 => ((impl_RLog_last.f x340000 x340001 x340002).bind fun t343 => (impl_Agree.l0 k (mn t342 t343) x339000 x339001 x339002 x340000 x340001 x340002)))
def impl_Agree.l0 : Nat → Int → Int → Int → List (S85) → Int → Int → List (S85) → Option (Int)
 | 0, _, _, _, _, _, _, _ => none
 | k + 1, x5, x339000, x339001, x339002, x340000, x340001, x340002 => if x5 ≥ (mx x339000 x340000) then ((impl_RLog_term.f x339000 x339001 x339002 x5).bind fun t344 => ((impl_RLog_term.f x340000 x340001 x340002 x5).bind fun t345 => (if t344 = t345 then (some x5) else (impl_Agree.l0 k (wrap64 (x5 - 1)) x339000 x339001 x339002 x340000 x340001 x340002)))) else (some (-1))
end
def impl_Agree.f (k : Nat) (a0_0 : Int) (a0_1 : Int) (l0_2 : List (S85)) (a1_0 : Int) (a1_1 : Int) (l1_2 : List (S85)) : Option (Int) := (impl_isRLog.f k a0_0 a0_1 l0_2).bind fun t340 => (if t340 = true then ((impl_isRLog.f k a1_0 a1_1 l1_2).bind fun t341 => (impl_Agree.j0 k (!t341) a0_0 a0_1 l0_2 a1_0 a1_1 l1_2)) else (impl_Agree.j0 k true a0_0 a0_1 l0_2 a1_0 a1_1 l1_2))
theorem impl_Agree.mono_l : ∀ k, (∀ y0 y1 y2 y3 y4 y5 y6, LeO (impl_Agree.j0 k y0 y1 y2 y3 y4 y5 y6) (impl_Agree.j0 (k + 1) y0 y1 y2 y3 y4 y5 y6)) ∧ (∀ y0 y1 y2 y3 y4 y5 y6, LeO (impl_Agree.l0 k y0 y1 y2 y3 y4 y5 y6) (impl_Agree.l0 (k + 1) y0 y1 y2 y3 y4 y5 y6))
 | 0 => ⟨fun _ _ _ _ _ _ _ r h => by simp [impl_Agree.j0] at h, fun _ _ _ _ _ _ _ r h => by simp [impl_Agree.l0] at h⟩
 | k + 1 => by
   obtain ⟨ih0, ih1⟩ := impl_Agree.mono_l k
   refine ⟨?_, ?_⟩ <;> intros <;> (first | unfold impl_Agree.j0 | unfold impl_Agree.l0) <;> repeat' first
   | (with_reducible exact ih0 _ _ _ _ _ _ _)
   | (with_reducible exact ih1 _ _ _ _ _ _ _)
   | (with_reducible exact impl_isRLog.mono _ _ _ _)
   | (with_reducible exact LeO.refl _)
   | (with_reducible exact LeO.none _)
   | (with_reducible refine LeO.ite ?_ ?_)
   | (with_reducible refine LeO.bind ?_ (fun _ => ?_))
   | exact ih0 _ _ _ _ _ _ _
   | exact ih1 _ _ _ _ _ _ _
   | exact impl_isRLog.mono _ _ _ _
   | exact LeO.none _
   | refine LeO.ite ?_ ?_
   | refine LeO.bind ?_ (fun _ => ?_)
theorem impl_Agree.mono : ∀ a0 a1 a2 a3 a4 a5 k, LeO (impl_Agree.f k a0 a1 a2 a3 a4 a5) (impl_Agree.f (k + 1) a0 a1 a2 a3 a4 a5) := by
 intro a0 a1 a2 a3 a4 a5 k
 obtain ⟨ih0, ih1⟩ := impl_Agree.mono_l k
 unfold impl_Agree.f
 repeat' first
     | (with_reducible exact ih0 _ _ _ _ _ _ _)
     | (with_reducible exact ih1 _ _ _ _ _ _ _)
     | (with_reducible exact impl_isRLog.mono _ _ _ _)
     | (with_reducible exact LeO.refl _)
     | (with_reducible exact LeO.none _)
     | (with_reducible refine LeO.ite ?_ ?_)
     | (with_reducible refine LeO.bind ?_ (fun _ => ?_))
     | exact ih0 _ _ _ _ _ _ _
     | exact ih1 _ _ _ _ _ _ _
     | exact impl_isRLog.mono _ _ _ _
     | exact LeO.none _
     | refine LeO.ite ?_ ?_
     | refine LeO.bind ?_ (fun _ => ?_)
set_option maxHeartbeats 8000000 in
set_option maxRecDepth 100000 in
theorem impl_Agree.calls (k : Nat) (a0_0 : Int) (a0_1 : Int) (A0_2 : Option Addr) (c0_2 : Nat) (l0_2 : List (S85)) (a1_0 : Int) (a1_1 : Int) (A1_2 : Option Addr) (c1_2 : Nat) (l1_2 : List (S85)) (r : Int) (w : World) (hr0_2 : Kd.C k85 w A0_2 l0_2.length l0_2) (hc0_2 : l0_2.length ≤ c0_2) (hr1_2 : Kd.C k85 w A1_2 l1_2.length l1_2) (hc1_2 : l1_2.length ≤ c1_2) (h : impl_Agree.f k a0_0 a0_1 l0_2 a1_0 a1_1 l1_2 = some r) :
   Calls Try.prog 102 #[.agg #[.int .i64 a0_0, .int .i64 a0_1, .slice A0_2 l0_2.length c0_2], .agg #[.int .i64 a1_0, .int .i64 a1_1, .slice A1_2 l1_2.length c1_2]] w fun e w' => e = .returned (.int .i64 r) ∧ Below w.heap.size w w' := by
 have hu34 := Try.underlying34
 have HR0_2 := am hr0_2
 have HC0_2 := am hc0_2
 clear hr0_2 hc0_2
 have HR1_2 := am hr1_2
 have HC1_2 := am hc1_2
 clear hr1_2 hc1_2
 have HB := am (Below.refl w.heap.size w)
 have H : ((impl_isRLog.f k a0_0 a0_1 l0_2).bind fun t340 => (if t340 = true then ((impl_isRLog.f k a1_0 a1_1 l1_2).bind fun t341 => (impl_Agree.j0 k (!t341) a0_0 a0_1 l0_2 a1_0 a1_1 l1_2)) else (impl_Agree.j0 k true a0_0 a0_1 l0_2 a1_0 a1_1 l1_2))) = some r := h
 clear h
 have HC3 := am H
 clear H
 go_enter Try.func102, Try.ntmps102
 go_upto_region 1 with (first | ((with_reducible refine gate_dst (N := 2) rfl ?_); refine box_event ?hg (N := 2) ?hd (cs := #[.int .i64 a0_0, .int .i64 a0_1, .slice A0_2 l0_2.length c0_2]) (t := 34) ?hr ?_; (case hd => rfl); (case hg => rfl); (case hr => first | (go_simp; done) | (go_simp; rfl)); intro gb338 hg w4 hbox hb; have BK338 := am (hbox); have GW338 := am ((by rw [hg]; exact (below_size q2) : w.heap.size ≤ gb338)); have GE338 := am ((by rw [hg]; exact (below_size q2) : w.heap.size ≤ gb338)); replace HB := am (below_step q2 hb); clear hb hbox hg) | ((with_reducible refine gate_dst (N := 3) rfl ?_); refine box_event ?hg (N := 3) ?hd (cs := #[.int .i64 a1_0, .int .i64 a1_1, .slice A1_2 l1_2.length c1_2]) (t := 34) ?hr ?_; (case hd => rfl); (case hg => rfl); (case hr => first | (go_simp; done) | (go_simp; rfl)); intro gb339 hg w5 hbox hb; have BK339 := am (hbox); have GW339 := am ((by rw [hg]; exact (below_size q2) : w.heap.size ≤ gb339)); have GE339 := am ((by rw [hg]; exact (below_size q2) : w.heap.size ≤ gb339)); replace HB := am (below_step q2 hb); have NB338_339 := am ((by rw [hg]; exact Nat.ne_of_lt (blk_lt (g := gb338) (o := .cells #[.int .i64 a0_0, .int .i64 a0_1, .slice A0_2 l0_2.length c0_2] 34 (0, 0)) u21_1) : gb338 ≠ gb339)); have NB339_338 := am ((by rw [hg]; exact Nat.ne_of_gt (blk_lt (g := gb338) (o := .cells #[.int .i64 a0_0, .int .i64 a0_1, .slice A0_2 l0_2.length c0_2] 34 (0, 0)) u21_1) : gb339 ≠ gb338)); replace BK338 := am (blk_below (g := gb338) (o := .cells #[.int .i64 a0_0, .int .i64 a0_1, .slice A0_2 l0_2.length c0_2] 34 (0, 0)) u21_1 hb); clear hb hbox hg))
 (try simp only [Act.put, la, lb, lc])
 go_cut [13] (fun v13 wc => ∃ (kq : Nat) (x13_2 : Bool), v13 = .bool x13_2 ∧ Aside0 (impl_Agree.j0 kq x13_2 a0_0 a0_1 l0_2 a1_0 a1_1 l1_2 = some r) ∧ Aside0 (kq ≤ k) ∧ Aside0 (wc.heap[gb338]? = some (.cells #[.int .i64 a0_0, .int .i64 a0_1, (.slice A0_2 l0_2.length c0_2)] 34 (0, 0))) ∧ Aside0 (wc.heap[gb339]? = some (.cells #[.int .i64 a1_0, .int .i64 a1_1, (.slice A1_2 l1_2.length c1_2)] 34 (0, 0))) ∧ Aside0 (Below w.heap.size w wc))
 case first =>
   have H := HC3.out
   clear HC3
   replace H := Option.bind_eq_some_iff.mp H
   obtain ⟨t340, A60, H⟩ := H
   have A6 := am A60
   clear A60
   by_cases c7 : t340 = true
   rotate_left
   · replace c7 := Bool.eq_false_iff.mpr c7
     subst c7
     rw [nf] at H
     have H' := am H
     clear H
     have hnb14 := NB338_339.out
     have hnc14 := NB339_338.out
     obtain ⟨hcz15_0, hcz15_1, hcz15_2⟩ := bc3 w5 BK338.out
     go_wp2_with (first | ((with_reducible refine gate_callee (f := 88) rfl ?_); refine goesL_ (some 7) rfl rfl Try.func88 kr rfl #[.agg #[.int .i64 a0_0, .int .i64 a0_1, .slice A0_2 l0_2.length c0_2]] rfl q0 ?_; (with_reducible refine (impl_isRLog.calls k a0_0 a0_1 _ _ l0_2 false _ ?side1 ?side2 A6.out).mono ?_); (case side1 => exact q5); (case side2 => exact HC0_2.out); rintro e w16 ⟨rfl, hb⟩; refine ⟨_, rfl, ?_⟩; replace BK338 := am (blk_below (g := gb338) (o := .cells #[.int .i64 a0_0, .int .i64 a0_1, .slice A0_2 l0_2.length c0_2] 34 (0, 0)) u21_1 hb); replace BK339 := am (blk_below (g := gb339) (o := .cells #[.int .i64 a1_0, .int .i64 a1_1, .slice A1_2 l1_2.length c1_2] 34 (0, 0)) u21_2 hb); replace HB := am (below_step q2 hb); (try clear hb); (try clear hb2); (try clear hk); (try clear hi)))
     go_meet
     case rel => exact ⟨_, (true), q3, H', ⟨by first | omega | exact Nat.le_refl _⟩, ⟨u21_1⟩, ⟨u21_2⟩, ⟨q2⟩⟩
   subst c7
   rw [if_pos rfl] at H
   replace H := Option.bind_eq_some_iff.mp H
   obtain ⟨t341, A80, H⟩ := H
   replace H : (impl_Agree.j0 k (!t341) a0_0 a0_1 l0_2 a1_0 a1_1 l1_2) = some r := H
   have A8 := am A80
   clear A80
   have H' := am H
   clear H
   have hnb9 := NB338_339.out
   have hnc9 := NB339_338.out
   obtain ⟨hcz10_0, hcz10_1, hcz10_2⟩ := bc3 w5 BK338.out
   go_wp2_with (first | ((with_reducible refine gate_callee (f := 88) rfl ?_); refine goesL_ (some 7) rfl rfl Try.func88 kr rfl #[.agg #[.int .i64 a0_0, .int .i64 a0_1, .slice A0_2 l0_2.length c0_2]] rfl q0 ?_; (with_reducible refine (impl_isRLog.calls k a0_0 a0_1 _ _ l0_2 true _ ?side1 ?side2 A6.out).mono ?_); (case side1 => exact q5); (case side2 => exact HC0_2.out); rintro e w11 ⟨rfl, hb⟩; refine ⟨_, rfl, ?_⟩; replace BK338 := am (blk_below (g := gb338) (o := .cells #[.int .i64 a0_0, .int .i64 a0_1, .slice A0_2 l0_2.length c0_2] 34 (0, 0)) u21_1 hb); replace BK339 := am (blk_below (g := gb339) (o := .cells #[.int .i64 a1_0, .int .i64 a1_1, .slice A1_2 l1_2.length c1_2] 34 (0, 0)) u21_2 hb); replace HB := am (below_step q2 hb); (try clear hb); (try clear hb2); (try clear hk); (try clear hi); obtain ⟨hcz12_0, hcz12_1, hcz12_2, hfz12_0, hfz12_1, hfz12_2⟩ := bc3f w11 BK339.out) | (go_at_call 88; (with_reducible refine (impl_isRLog.calls k a1_0 a1_1 _ _ l1_2 t341 _ ?side1 ?side2 A8.out).mono ?_); (case side1 => exact q9); (case side2 => exact HC1_2.out); rintro e w13 ⟨rfl, hb⟩; replace BK338 := am (blk_below (g := gb338) (o := .cells #[.int .i64 a0_0, .int .i64 a0_1, .slice A0_2 l0_2.length c0_2] 34 (0, 0)) u21_1 hb); replace BK339 := am (blk_below (g := gb339) (o := .cells #[.int .i64 a1_0, .int .i64 a1_1, .slice A1_2 l1_2.length c1_2] 34 (0, 0)) u21_2 hb); replace HB := am (below_step q2 hb); (try clear hb); (try clear hb2); (try clear hk); (try clear hi)))
   go_meet
   case rel => exact ⟨_, (!t341), q3, H', ⟨by first | omega | exact Nat.le_refl _⟩, ⟨u21_1⟩, ⟨u21_2⟩, ⟨q2⟩⟩
 clear HC3
 obtain ⟨kq, x13_2, rfl, HA, HJ2, BK338, BK339, HB⟩ := hcut
 cases kq with
 | zero => exact absurd HA.out (by simp [impl_Agree.j0])
 | succ kj2 =>
   have H := HA.out
   clear HA
   simp only [impl_Agree.j0] at H
   by_cases c17 : x13_2 = true
   · subst c17
     rw [if_pos rfl] at H
     obtain rfl := sj H
     go_wp2
     go_ret
     exact ⟨er, q2⟩
   replace c17 := Bool.eq_false_iff.mpr c17
   subst c17
   rw [nf] at H
   replace H := Option.bind_eq_some_iff.mp H
   obtain ⟨t342, A180, H⟩ := H
   have A18 := am A180
   clear A180
   replace H := Option.bind_eq_some_iff.mp H
   obtain ⟨t343, A190, H⟩ := H
   replace H : (impl_Agree.l0 kj2 (mn t342 t343) a0_0 a0_1 l0_2 a1_0 a1_1 l1_2) = some r := H
   have A19 := am A190
   clear A190
   obtain ⟨ji20, hji20⟩ : ∃ j_ : Int, (mn t342 t343) = j_ := ⟨_, rfl⟩
   replace H : (impl_Agree.l0 kj2 ji20 a0_0 a0_1 l0_2 a1_0 a1_1 l1_2) = some r := by first | (rw [hji20] at H; exact H) | (simp only [hji20] at H ⊢; exact H)
   (try rw [hji20] at A18)
   (try rw [hji20] at A19)
   have hji20_ : (if t343 < t342 then t343 else t342) = ji20 := hji20
   have H' := am H
   clear H
   try go_wp2
   replace BK338 := am (blk_drew BK338.out)
   replace BK339 := am (blk_drew BK339.out)
   replace HB := am (below_drew1 HB.out)
   refine start_ (n := 6) (S := fun w' => w'.cell? ⟨gb338, 0, none⟩ = some (.int .i64 a0_0) ∧ w'.cell? ⟨gb338, 1, none⟩ = some (.int .i64 a0_1) ∧ w'.cell? ⟨gb338, 2, none⟩ = some (.slice A0_2 l0_2.length c0_2) ∧ w'.cell? ⟨gb339, 0, none⟩ = some (.int .i64 a1_0) ∧ w'.cell? ⟨gb339, 1, none⟩ = some (.int .i64 a1_1) ∧ w'.cell? ⟨gb339, 2, none⟩ = some (.slice A1_2 l1_2.length c1_2)) (ds := []) #[false, false, false, false, false, false] kr rfl rfl ⟨(blk_cell BK338.out 0).trans rfl, (blk_cell BK338.out 1).trans rfl, (blk_cell BK338.out 2).trans rfl, (blk_cell BK339.out 0).trans rfl, (blk_cell BK339.out 1).trans rfl, (blk_cell BK339.out 2).trans rfl⟩ (fun hHeld => ?_)
   generalize wc.drew = w21 at BK338 BK339 HB hHeld ⊢
   refine take_ (i := 0) (N := some 14) (v := ?_) (a' := ?_) #[true, false, false, false, false, false] rfl rfl kr (fun _ _ _ h => h) (Or.inl ⟨by rfl, ?_⟩) hHeld ?_ ?_
   rotate_left
   · rintro w' ⟨s0, s1, s2, s3, s4, s5⟩
     go_simp
     with_reducible rfl
   rotate_left
   · simp only [Act.put, la, lb, lc, i64_w, i32_w]
     rfl
   refine take_ (i := 2) (N := some 16) (v := ?_) (a' := ?_) #[true, false, true, false, false, false] rfl rfl kr (fun _ _ _ h => h) (Or.inl ⟨by rfl, ?_⟩) hHeld ?_ ?_
   rotate_left
   · rintro w' ⟨s0, s1, s2, s3, s4, s5⟩
     go_simp
     with_reducible rfl
   rotate_left
   · simp only [Act.put, la, lb, lc, i64_w, i32_w]
     rfl
   refine one_ (i := 1) (N := some 15) #[true, true, true, false, false, false] rfl rfl kr (by decide) (fun K hK => ?_)
   refine goes_ Try.func89 kr rfl #[.agg #[.int .i64 a0_0, .int .i64 a0_1, .slice A0_2 l0_2.length c0_2]] (by rfl) rfl rfl q0 ?_
   with_reducible refine (impl_RLog_last.calls a0_0 a0_1 _ _ l0_2 t342 _ ?side1 ?side2 A18.out).mono ?_
   (case side1 => exact q5)
   (case side2 => exact HC0_2.out)
   rintro e w22 ⟨rfl, hb⟩
   refine ⟨_, rfl, ?_⟩
   replace BK338 := am (blk_below (g := gb338) (o := .cells #[.int .i64 a0_0, .int .i64 a0_1, .slice A0_2 l0_2.length c0_2] 34 (0, 0)) u21_1 hb)
   replace BK339 := am (blk_below (g := gb339) (o := .cells #[.int .i64 a1_0, .int .i64 a1_1, .slice A1_2 l1_2.length c1_2] 34 (0, 0)) u21_2 hb)
   replace HB := am (below_step q2 hb)
   (try clear hb)
   (try clear hb2)
   (try clear hk)
   (try clear hi)
   refine hK.out _ _ ⟨(blk_cell BK338.out 0).trans rfl, (blk_cell BK338.out 1).trans rfl, (blk_cell BK338.out 2).trans rfl, (blk_cell BK339.out 0).trans rfl, (blk_cell BK339.out 1).trans rfl, (blk_cell BK339.out 2).trans rfl⟩ (fun hHeld => ?_)
   clear hK K
   refine norm_ (a' := ?_) ?_ ?_
   rotate_left
   · show Act.put _ (some 15) _ = _
     simp only [Act.put, la, lb, lc, i64_w, i32_w]
     rfl
   refine one_ (i := 3) (N := some 17) #[true, true, true, true, false, false] rfl rfl kr (by decide) (fun K hK => ?_)
   refine goes_ Try.func89 kr rfl #[.agg #[.int .i64 a1_0, .int .i64 a1_1, .slice A1_2 l1_2.length c1_2]] (by rfl) rfl rfl q0 ?_
   with_reducible refine (impl_RLog_last.calls a1_0 a1_1 _ _ l1_2 t343 _ ?side1 ?side2 A19.out).mono ?_
   (case side1 => exact q9)
   (case side2 => exact HC1_2.out)
   rintro e w23 ⟨rfl, hb⟩
   refine ⟨_, rfl, ?_⟩
   replace BK338 := am (blk_below (g := gb338) (o := .cells #[.int .i64 a0_0, .int .i64 a0_1, .slice A0_2 l0_2.length c0_2] 34 (0, 0)) u21_1 hb)
   replace BK339 := am (blk_below (g := gb339) (o := .cells #[.int .i64 a1_0, .int .i64 a1_1, .slice A1_2 l1_2.length c1_2] 34 (0, 0)) u21_2 hb)
   replace HB := am (below_step q2 hb)
   (try clear hb)
   (try clear hb2)
   (try clear hk)
   (try clear hi)
   refine hK.out _ _ ⟨(blk_cell BK338.out 0).trans rfl, (blk_cell BK338.out 1).trans rfl, (blk_cell BK338.out 2).trans rfl, (blk_cell BK339.out 0).trans rfl, (blk_cell BK339.out 1).trans rfl, (blk_cell BK339.out 2).trans rfl⟩ (fun hHeld => ?_)
   clear hK K
   refine norm_ (a' := ?_) ?_ ?_
   rotate_left
   · show Act.put _ (some 17) _ = _
     simp only [Act.put, la, lb, lc, i64_w, i32_w]
     rfl
   refine pure_ (i := 4) (N := some 18) (v := ?_) (a' := ?_) #[true, true, true, true, true, false] rfl rfl kr (fun _ _ _ h => h) (Or.inl ⟨by rfl, ?_⟩) ?_ ?_
   rotate_left; (intro w'; go_simp; with_reducible rfl); rotate_left; (simp only [Act.put, la, lb, lc, i64_w, i32_w]; rfl)
   refine pure_ (i := 5) (N := some 5) (v := ?_) (a' := ?_) #[true, true, true, true, true, true] rfl rfl kr (fun _ _ _ h => h) (Or.inl ⟨by rfl, ?_⟩) ?_ ?_
   rotate_left; (intro w'; go_simp; with_reducible rfl); rotate_left; (simp only [Act.put, la, lb, lc, i64_w, i32_w]; rfl)
   refine done_ kr ?_
   try go_wp2
   go_loopg [5] kj2 (fun kq v5 w' => ∃ (x5_2 : Int), v5 = .int .i64 x5_2 ∧ Aside0 (impl_Agree.l0 kq x5_2 a0_0 a0_1 l0_2 a1_0 a1_1 l1_2 = some r) ∧ Aside0 (kq ≤ kj2) ∧ Aside0 (w'.heap[gb338]? = some (.cells #[.int .i64 a0_0, .int .i64 a0_1, (.slice A0_2 l0_2.length c0_2)] 34 (0, 0))) ∧ Aside0 (w'.heap[gb339]? = some (.cells #[.int .i64 a1_0, .int .i64 a1_1, (.slice A1_2 l1_2.length c1_2)] 34 (0, 0))) ∧ Aside0 (Below w.heap.size w w'))
   case atStart => exact ⟨(ji20), (by first | rfl | (simp; done) | (simp only [← hji20] <;> (first | rfl | simp)) | (simp [*]; done)), H', ⟨Nat.le_refl _⟩, ⟨u21_1⟩, ⟨u21_2⟩, ⟨q2⟩⟩
   clear H'
   try clear c17
   obtain ⟨x5_2, rfl, HA, HK2, BK338, BK339, HB⟩ := hrel
   cases gk with
   | zero => exact absurd HA.out (by simp [impl_Agree.l0])
   | succ k2 =>
     have H := HA.out
     clear HA
     simp only [impl_Agree.l0] at H
     obtain ⟨ji24, hji24⟩ : ∃ j_ : Int, (mx a0_0 a1_0) = j_ := ⟨_, rfl⟩
     replace H : (if x5_2 ≥ (ji24) then ((impl_RLog_term.f a0_0 a0_1 l0_2 x5_2).bind fun t344 => ((impl_RLog_term.f a1_0 a1_1 l1_2 x5_2).bind fun t345 => (if t344 = t345 then (some x5_2) else (impl_Agree.l0 k2 (wrap64 (x5_2 - 1)) a0_0 a0_1 l0_2 a1_0 a1_1 l1_2)))) else (some (-1))) = some r := by first | (rw [hji24] at H; exact H) | (simp only [hji24] at H ⊢; exact H)
     have hji24_ : (if a0_0 < a1_0 then a1_0 else a0_0) = ji24 := hji24
     by_cases c25 : x5_2 ≥ (ji24)
     rotate_left
     · rw [if_neg c25] at H
       have c25b0 : decide ((ji24) ≤ x5_2) = false := decide_eq_false c25
       clear c25
       obtain rfl := sj H
       have hnb35 := NB338_339.out
       have hnc35 := NB339_338.out
       obtain ⟨hcz36_0, hcz36_1, hcz36_2⟩ := bc3 wr BK338.out
       obtain ⟨hcz37_0, hcz37_1, hcz37_2, hfz37_0, hfz37_1, hfz37_2⟩ := bc3f wr BK339.out
       go_wp2
       go_ret
       exact ⟨by first | rfl | (simp [errW_none, errW_some] <;> rfl) | (simp only [← hji20, ← hji24]; first | rfl | (simp [errW_none, errW_some] <;> rfl)) | (simp [*, errW_none, errW_some] <;> rfl), q2⟩
     rw [if_pos c25] at H
     have c25b0 : decide ((ji24) ≤ x5_2) = true := decide_eq_true c25
     clear c25
     replace H := Option.bind_eq_some_iff.mp H
     obtain ⟨t344, A260, H⟩ := H
     have A26 := am A260
     clear A260
     replace H := Option.bind_eq_some_iff.mp H
     obtain ⟨t345, A270, H⟩ := H
     have A27 := am A270
     clear A270
     have H9 := am H
     clear H
     have hnb28 := NB338_339.out
     have hnc28 := NB339_338.out
     obtain ⟨hcz29_0, hcz29_1, hcz29_2⟩ := bc3 wr BK338.out
     obtain ⟨hcz30_0, hcz30_1, hcz30_2, hfz30_0, hfz30_1, hfz30_2⟩ := bc3f wr BK339.out
     try go_wp2
     replace BK338 := am (blk_drew BK338.out)
     replace BK339 := am (blk_drew BK339.out)
     replace HB := am (below_drew1 HB.out)
     refine start_ (n := 7) (S := fun w' => w'.cell? ⟨gb338, 0, none⟩ = some (.int .i64 a0_0) ∧ w'.cell? ⟨gb338, 1, none⟩ = some (.int .i64 a0_1) ∧ w'.cell? ⟨gb338, 2, none⟩ = some (.slice A0_2 l0_2.length c0_2) ∧ w'.cell? ⟨gb339, 0, none⟩ = some (.int .i64 a1_0) ∧ w'.cell? ⟨gb339, 1, none⟩ = some (.int .i64 a1_1) ∧ w'.cell? ⟨gb339, 2, none⟩ = some (.slice A1_2 l1_2.length c1_2)) (ds := []) #[false, false, false, false, false, false, false] kr rfl rfl ⟨(blk_cell BK338.out 0).trans rfl, (blk_cell BK338.out 1).trans rfl, (blk_cell BK338.out 2).trans rfl, (blk_cell BK339.out 0).trans rfl, (blk_cell BK339.out 1).trans rfl, (blk_cell BK339.out 2).trans rfl⟩ (fun hHeld => ?_)
     generalize wr.drew = w31 at BK338 BK339 HB hHeld ⊢
     refine pure_ (i := 1) (N := some 29) (v := ?_) (a' := ?_) #[false, true, false, false, false, false, false] rfl rfl kr (fun _ _ _ h => h) (Or.inl ⟨by rfl, ?_⟩) ?_ ?_
     rotate_left; (intro w'; go_simp; with_reducible rfl); rotate_left; (simp only [Act.put, la, lb, lc, i64_w, i32_w]; rfl)
     refine pure_ (i := 4) (N := some 32) (v := ?_) (a' := ?_) #[false, true, false, false, true, false, false] rfl rfl kr (fun _ _ _ h => h) (Or.inl ⟨by rfl, ?_⟩) ?_ ?_
     rotate_left; (intro w'; go_simp; with_reducible rfl); rotate_left; (simp only [Act.put, la, lb, lc, i64_w, i32_w]; rfl)
     refine take_ (i := 0) (N := some 28) (v := ?_) (a' := ?_) #[true, true, false, false, true, false, false] rfl rfl kr (fun _ _ _ h => h) (Or.inl ⟨by rfl, ?_⟩) hHeld ?_ ?_
     rotate_left
     · rintro w' ⟨s0, s1, s2, s3, s4, s5⟩
       go_simp
       with_reducible rfl
     rotate_left
     · simp only [Act.put, la, lb, lc, i64_w, i32_w]
       rfl
     refine take_ (i := 3) (N := some 31) (v := ?_) (a' := ?_) #[true, true, false, true, true, false, false] rfl rfl kr (fun _ _ _ h => h) (Or.inl ⟨by rfl, ?_⟩) hHeld ?_ ?_
     rotate_left
     · rintro w' ⟨s0, s1, s2, s3, s4, s5⟩
       go_simp
       with_reducible rfl
     rotate_left
     · simp only [Act.put, la, lb, lc, i64_w, i32_w]
       rfl
     refine one_ (i := 2) (N := some 30) #[true, true, true, true, true, false, false] rfl rfl kr (by decide) (fun K hK => ?_)
     refine goes_ Try.func92 kr rfl #[.agg #[.int .i64 a0_0, .int .i64 a0_1, .slice A0_2 l0_2.length c0_2], .int .i64 x5_2] (by rfl) rfl rfl q0 ?_
     with_reducible refine (impl_RLog_term.calls a0_0 a0_1 _ _ l0_2 x5_2 t344 _ ?side1 ?side2 A26.out).mono ?_
     (case side1 => exact q5)
     (case side2 => exact HC0_2.out)
     rintro e w32 ⟨rfl, hb⟩
     refine ⟨_, rfl, ?_⟩
     replace BK338 := am (blk_below (g := gb338) (o := .cells #[.int .i64 a0_0, .int .i64 a0_1, .slice A0_2 l0_2.length c0_2] 34 (0, 0)) u21_1 hb)
     replace BK339 := am (blk_below (g := gb339) (o := .cells #[.int .i64 a1_0, .int .i64 a1_1, .slice A1_2 l1_2.length c1_2] 34 (0, 0)) u21_2 hb)
     replace HB := am (below_step q2 hb)
     (try clear hb)
     (try clear hb2)
     (try clear hk)
     (try clear hi)
     refine hK.out _ _ ⟨(blk_cell BK338.out 0).trans rfl, (blk_cell BK338.out 1).trans rfl, (blk_cell BK338.out 2).trans rfl, (blk_cell BK339.out 0).trans rfl, (blk_cell BK339.out 1).trans rfl, (blk_cell BK339.out 2).trans rfl⟩ (fun hHeld => ?_)
     clear hK K
     refine norm_ (a' := ?_) ?_ ?_
     rotate_left
     · show Act.put _ (some 30) _ = _
       simp only [Act.put, la, lb, lc, i64_w, i32_w]
       rfl
     refine one_ (i := 5) (N := some 33) #[true, true, true, true, true, true, false] rfl rfl kr (by decide) (fun K hK => ?_)
     refine goes_ Try.func92 kr rfl #[.agg #[.int .i64 a1_0, .int .i64 a1_1, .slice A1_2 l1_2.length c1_2], .int .i64 x5_2] (by rfl) rfl rfl q0 ?_
     with_reducible refine (impl_RLog_term.calls a1_0 a1_1 _ _ l1_2 x5_2 t345 _ ?side1 ?side2 A27.out).mono ?_
     (case side1 => exact q9)
     (case side2 => exact HC1_2.out)
     rintro e w33 ⟨rfl, hb⟩
     refine ⟨_, rfl, ?_⟩
     replace BK338 := am (blk_below (g := gb338) (o := .cells #[.int .i64 a0_0, .int .i64 a0_1, .slice A0_2 l0_2.length c0_2] 34 (0, 0)) u21_1 hb)
     replace BK339 := am (blk_below (g := gb339) (o := .cells #[.int .i64 a1_0, .int .i64 a1_1, .slice A1_2 l1_2.length c1_2] 34 (0, 0)) u21_2 hb)
     replace HB := am (below_step q2 hb)
     (try clear hb)
     (try clear hb2)
     (try clear hk)
     (try clear hi)
     refine hK.out _ _ ⟨(blk_cell BK338.out 0).trans rfl, (blk_cell BK338.out 1).trans rfl, (blk_cell BK338.out 2).trans rfl, (blk_cell BK339.out 0).trans rfl, (blk_cell BK339.out 1).trans rfl, (blk_cell BK339.out 2).trans rfl⟩ (fun hHeld => ?_)
     clear hK K
     refine norm_ (a' := ?_) ?_ ?_
     rotate_left
     · show Act.put _ (some 33) _ = _
       simp only [Act.put, la, lb, lc, i64_w, i32_w]
       rfl
     refine pure_ (i := 6) (N := some 34) (v := ?_) (a' := ?_) #[true, true, true, true, true, true, true] rfl rfl kr (fun _ _ _ h => h) (Or.inl ⟨by rfl, ?_⟩) ?_ ?_
     rotate_left; (intro w'; go_simp; with_reducible rfl); rotate_left; (simp only [Act.put, la, lb, lc, i64_w, i32_w]; rfl)
     refine done_ kr ?_
     go_upto_if 34 with (fail)
     have H := H9.out
     clear H9
     by_cases c34 : t344 = t345
     · rw [if_pos c34] at H
       have c34b0 : (t344 == t345) = true := beq_iff_eq.mpr c34
       have c34b1 : (t344 != t345) = false := bne_eq_false_iff_eq.mpr c34
       clear c34
       (first | rw [c34b0] | (simp only [i64_w, i32_w]; rw [c34b0]) | skip)
       obtain rfl := sj H
       go_wp2
       go_ret
       exact ⟨by first | rfl | (simp [errW_none, errW_some] <;> rfl) | (simp only [← hji20, ← hji24]; first | rfl | (simp [errW_none, errW_some] <;> rfl)) | (simp [*, errW_none, errW_some] <;> rfl), q2⟩
     rw [if_neg c34] at H
     have c34b0 : (t344 == t345) = false := beq_eq_false_iff_ne.mpr c34
     have c34b1 : (t344 != t345) = true := bne_iff_ne.mpr c34
     (first | rw [c34b0] | (simp only [i64_w, i32_w]; rw [c34b0]) | skip)
     have H' := am H
     clear H
     go_wp2
     go_roundg k2
     case measure => have := HJ2.out; have := HK2.out; omega
     case rel => exact ⟨(wrap64 (x5_2 - 1)), q3, H', ⟨(by have := HJ2.out; have := HK2.out; omega)⟩, ⟨u21_1⟩, ⟨u21_2⟩, ⟨q2⟩⟩

/-! ### impl_Entry_103: function 103 -/
def impl_Entry_103.l0 : Nat → List (S85) → List (S85) → Int → Int → Option (Bool)
 | 0, _, _, _, _ => none
 | k + 1, x0, x1, x12, x13 => if x13 < x12 then (if 0 ≤ x13 then (if x13 < (x0.length : Int) then (if x13 < (x1.length : Int) then (if (!(((rd_T85 x0 x13).f0) == ((rd_T85 x1 x13).f0)) || (!((((rd_T85 x0 x13).f1).toList) == (((rd_T85 x1 x13).f1).toList)))) = true then (some false) else (impl_Entry_103.l0 k x0 x1 x12 (wrap64 (x13 + 1)))) else (none)) else (none)) else (none)) else (some true)
def impl_Entry_103.f (k : Nat) (l0 : List (S85)) (l1 : List (S85)) : Option (Bool) := if (l0.length : Int) = (l1.length : Int) then (impl_Entry_103.l0 k l0 l1 (l0.length : Int) 0) else (some false)
theorem impl_Entry_103.mono_l : ∀ k, (∀ y0 y1 y2 y3, LeO (impl_Entry_103.l0 k y0 y1 y2 y3) (impl_Entry_103.l0 (k + 1) y0 y1 y2 y3))
 | 0 => fun _ _ _ _ r h => by simp [impl_Entry_103.l0] at h
 | k + 1 => by
   have ih0 := impl_Entry_103.mono_l k
   · intro y0 y1 y2 y3
     unfold impl_Entry_103.l0
     repeat' first
     | (with_reducible exact ih0 _ _ _ _)
     | (with_reducible exact LeO.refl _)
     | (with_reducible exact LeO.none _)
     | (with_reducible refine LeO.ite ?_ ?_)
     | (with_reducible refine LeO.bind ?_ (fun _ => ?_))
     | exact ih0 _ _ _ _
     | exact LeO.none _
     | refine LeO.ite ?_ ?_
     | refine LeO.bind ?_ (fun _ => ?_)
theorem impl_Entry_103.mono : ∀ a0 a1 k, LeO (impl_Entry_103.f k a0 a1) (impl_Entry_103.f (k + 1) a0 a1) := by
 intro a0 a1 k
 have ih0 := impl_Entry_103.mono_l k
 unfold impl_Entry_103.f
 repeat' first
     | (with_reducible exact ih0 _ _ _ _)
     | (with_reducible exact LeO.refl _)
     | (with_reducible exact LeO.none _)
     | (with_reducible refine LeO.ite ?_ ?_)
     | (with_reducible refine LeO.bind ?_ (fun _ => ?_))
     | exact ih0 _ _ _ _
     | exact LeO.none _
     | refine LeO.ite ?_ ?_
     | refine LeO.bind ?_ (fun _ => ?_)
set_option maxHeartbeats 8000000 in
set_option maxRecDepth 100000 in
theorem impl_Entry_103.calls (k : Nat) (A0 : Option Addr) (c0 : Nat) (l0 : List (S85)) (A1 : Option Addr) (c1 : Nat) (l1 : List (S85)) (r : Bool) (w : World) (hr0 : Kd.C k85 w A0 l0.length l0) (hc0 : l0.length ≤ c0) (hr1 : Kd.C k85 w A1 l1.length l1) (hc1 : l1.length ≤ c1) (h : impl_Entry_103.f k l0 l1 = some r) :
   Calls Try.prog 103 #[.slice A0 l0.length c0, .slice A1 l1.length c1] w fun e w' => e = .returned (.bool r) ∧ Drawn0 w w' := by
 have hu85 := Try.underlying85
 have HR0 := am hr0
 have HC0 := am hc0
 clear hr0 hc0
 have HR1 := am hr1
 have HC1 := am hc1
 clear hr1 hc1
 have H : (if (l0.length : Int) = (l1.length : Int) then (impl_Entry_103.l0 k l0 l1 (l0.length : Int) 0) else (some false)) = some r := h
 clear h
 by_cases c3 : (l0.length : Int) = (l1.length : Int)
 rotate_left
 · rw [if_neg c3] at H
   have c3b0 : ((l0.length : Int) == (l1.length : Int)) = false := beq_eq_false_iff_ne.mpr c3
   have c3b1 : ((l0.length : Int) != (l1.length : Int)) = true := bne_iff_ne.mpr c3
   have c3b2 : (l0.length == l1.length) = false := by first | simpa using c3 | (simp at c3 ⊢; omega)
   obtain rfl := sj H
   go_enter Try.func103, Try.ntmps103
   go_wp2
   repeat (go_quiet (fail); try go_wp2)
   go_ret
   exact ⟨by first | rfl | (simp; done) | (simp [*]; done), q4⟩
 rw [if_pos c3] at H
 have c3b0 : ((l0.length : Int) == (l1.length : Int)) = true := beq_iff_eq.mpr c3
 have c3b1 : ((l0.length : Int) != (l1.length : Int)) = false := bne_eq_false_iff_eq.mpr c3
 have c3b2 : (l0.length == l1.length) = true := by first | simpa using c3 | (simp at c3 ⊢; omega)
 clear c3
 have H' := am H
 clear H
 go_enter Try.func103, Try.ntmps103
 go_wp2
 repeat (go_quiet (fail); try go_wp2)
 go_loopg [13] k (fun kq v13 w' => ∃ (x13_1 : Int), v13 = .int .i64 x13_1 ∧ Aside0 (impl_Entry_103.l0 kq l0 l1 (l0.length : Int) x13_1 = some r) ∧ Aside0 (kq ≤ k) ∧ Drawn0 w w')
 case atStart => exact ⟨(0), q3, H', ⟨Nat.le_refl _⟩, q4⟩
 clear H'
 try clear c1
 try clear c3
 try clear c3b0
 try clear c3b1
 try clear c3b2
 obtain ⟨x13_1, rfl, HA, HK1, ⟨m1, rfl⟩⟩ := hrel
 cases gk with
 | zero => exact absurd HA.out (by simp [impl_Entry_103.l0])
 | succ k1 =>
   have H := HA.out
   clear HA
   simp only [impl_Entry_103.l0] at H
   by_cases c4 : x13_1 < (l0.length : Int)
   rotate_left
   · rw [if_neg c4] at H
     have c4b0 : decide (x13_1 < (l0.length : Int)) = false := decide_eq_false c4
     clear c4
     obtain rfl := sj H
     go_wp2
     repeat (go_quiet (fail); try go_wp2)
     go_ret
     exact ⟨by first | rfl | (simp; done) | (simp [*]; done), q4⟩
   rw [if_pos c4] at H
   have c4b0 : decide (x13_1 < (l0.length : Int)) = true := decide_eq_true c4
   clear c4
   by_cases c5 : 0 ≤ x13_1
   rotate_left
   · rw [if_neg c5] at H
     exact absurd H (by simp)
   rw [if_pos c5] at H
   have c5b0 : decide (0 ≤ x13_1) = true := decide_eq_true c5
   clear c5
   by_cases c6 : x13_1 < (l0.length : Int)
   rotate_left
   · rw [if_neg c6] at H
     exact absurd H (by simp)
   rw [if_pos c6] at H
   have c6b0 : decide (x13_1 < (l0.length : Int)) = true := decide_eq_true c6
   clear c6
   by_cases c7 : x13_1 < (l1.length : Int)
   rotate_left
   · rw [if_neg c7] at H
     exact absurd H (by simp)
   rw [if_pos c7] at H
   have c7b0 : decide (x13_1 < (l1.length : Int)) = true := decide_eq_true c7
   clear c7
   have H9 := am H
   clear H
   have p346 : 0 ≤ (x13_1 : Int) := of_decide_eq_true q1
   have q346 : x13_1 < (l0.length : Int) := of_decide_eq_true q1
   obtain ⟨ad346, e346, hx346_0, hx346_1⟩ := at_T85 HR0.out x13_1 p346 q346
   cases e346
   replace p346 := eq_true p346
   replace q346 := eq_true q346
   have p347 : 0 ≤ (x13_1 : Int) := of_decide_eq_true q1
   have q347 : x13_1 < (l1.length : Int) := of_decide_eq_true q1
   obtain ⟨ad347, e347, hx347_0, hx347_1⟩ := at_T85 HR1.out x13_1 p347 q347
   cases e347
   replace p347 := eq_true p347
   replace q347 := eq_true q347
   go_upto_if 24 with (fail)
   repeat (go_quiet (fail); go_upto_if 24 with (fail))
   have H := H9.out
   clear H9
   by_cases c8 : (!(((rd_T85 l0 x13_1).f0) == ((rd_T85 l1 x13_1).f0)) || (!((((rd_T85 l0 x13_1).f1).toList) == (((rd_T85 l1 x13_1).f1).toList)))) = true
   · rw [if_pos c8] at H
     have c8b0 : (!(((rd_T85 l0 x13_1).f0) == ((rd_T85 l1 x13_1).f0)) || (!((((rd_T85 l0 x13_1).f1).toList) == (((rd_T85 l1 x13_1).f1).toList)))) = true := c8
     clear c8
     (first | rw [c8b0] | (simp only [i64_w, i32_w]; rw [c8b0]) | skip)
     obtain rfl := sj H
     go_wp2
     repeat (go_quiet (fail); try go_wp2)
     go_ret
     exact ⟨by first | rfl | (simp; done) | (simp [*]; done), q4⟩
   rw [if_neg c8] at H
   have c8b0 : (!(((rd_T85 l0 x13_1).f0) == ((rd_T85 l1 x13_1).f0)) || (!((((rd_T85 l0 x13_1).f1).toList) == (((rd_T85 l1 x13_1).f1).toList)))) = false := by simpa using c8
   clear c8
   (first | rw [c8b0] | (simp only [i64_w, i32_w]; rw [c8b0]) | skip)
   have H' := am H
   clear H
   go_wp2
   repeat (go_quiet (fail); try go_wp2)
   go_roundg k1
   case measure => have := HK1.out; omega
   case rel => exact ⟨(wrap64 (x13_1 + 1)), q3, H', ⟨by have := HK1.out; omega⟩, q4⟩

end Go.Proofs.Ytkcadcoohmofcaa.QFnExactSafeGroup
