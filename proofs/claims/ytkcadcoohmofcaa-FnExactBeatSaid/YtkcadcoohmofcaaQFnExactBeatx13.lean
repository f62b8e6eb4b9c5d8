-- Printed by the session's own program wip/prx.py.
import Derived.Test.YtkcadcoohmofcaaSqFnExactBeat
import Derived.Test.YtkcadcoohmofcaaQFnExactBeatx0
import Derived.Test.YtkcadcoohmofcaaQFnExactBeatx9
import Derived.Test.YtkcadcoohmofcaaQFnExactBeatx11
import Derived.Test.YtkcadcoohmofcaaQFnExactBeatx12
namespace Go.Proofs.Ytkcadcoohmofcaa.QFnExactBeat
open Go.RowKit Go.Proofs.YtkcadcoohmofcaaW.PrintWords Go.Proofs.YtkcadcoohmofcaaW.PrintLast Go.Proofs.YtkcadcoohmofcaaW.PrintMore Go.Proofs.Ytkcadcoohmofcaa.SqFnExactBeat
attribute [local go_sem] max2_int min2_int max_two min_two max_three min_three max_four min_four Go.Proofs.Ytkcadcoohmofcaa.Set.isSome_setCell
set_option linter.unusedVariables false
set_option linter.unusedSimpArgs false

-- squeezed
theorem u13_1 {P : Prop} (h : P := by (with_reducible repeat (first | refine blk_drewN ?_ _ | refine blk_drew ?_ | refine blk_alloc ?_ _)); exact BK286.out) : P := h
/-! ### impl_Beat: function 39 -/
mutual
def impl_Beat.j0 : Nat → Int → Bool → Int → Int → Int → Int → Int → Int → Int → List (S85) → List Int → List Int → Option ((List (S29)))
 | 0, _, _, _, _, _, _, _, _, _, _, _, _ => none
 | k + 1, x1, x16, x287000, x287001, x287002, x287003, x287004, x287005, x287006, x287007, x287008, x287009 => if x16 = true then (some ([] : List (S29))) else (impl_Beat.l0 k (([] : List (S29))) x1 0 x287000 x287001 x287002 x287003 x287004 x287005 x287006 x287007 x287008 x287009)
def impl_Beat.l0 : Nat → List (S29) → Int → Int → Int → Int → Int → Int → Int → Int → Int → List (S85) → List Int → List Int → Option ((List (S29)))
 | 0, _, _, _, _, _, _, _, _, _, _, _, _, _ => none
 | k + 1, x5, x18, x19, x287000, x287001, x287002, x287003, x287004, x287005, x287006, x287007, x287008, x287009 => if x19 < x18 then (if x19 = x287000 then (impl_Beat.l0 k x5 x18 (wrap64 (x19 + 1)) x287000 x287001 x287002 x287003 x287004 x287005 x287006 x287007 x287008 x287009) else (if 0 ≤ x19 then (if x19 < (x287009.length : Int) then ((impl_RLog_term.f x287005 x287006 x287007 (rd x287009 x19)).bind fun t292 => ((impl_TailOf.f k x287005 x287006 x287007 (wrap64 ((rd x287009 x19) + 1)) 10).bind fun t293 => (if x5.length < 1599289640401 then (impl_Beat.l0 k (x5 ++ [(⟨2, x287000, x19, x287001, rd x287009 x19, t292, x287004, false, t293⟩ : S29)]) x18 (wrap64 (x19 + 1)) x287000 x287001 x287002 x287003 x287004 x287005 x287006 x287007 x287008 x287009) else (none)))) else (none)) else (none))) else (some x5)
end
def impl_Beat.f (k : Nat) (a0_0 : Int) (a0_1 : Int) (a0_2 : Int) (a0_3 : Int) (a0_4 : Int) (a0_5 : Int) (a0_6 : Int) (l0_7 : List (S85)) (l0_8 : List Int) (l0_9 : List Int) (a1 : Int) : Option ((List (S29))) := (impl_isNode.f k a0_0 a0_1 a0_2 a0_3 a0_4 a0_5 a0_6 l0_7 l0_8 l0_9 a1).bind fun t287 => (if t287 = true then (impl_Beat.j0 k a1 (a0_3 != 2) a0_0 a0_1 a0_2 a0_3 a0_4 a0_5 a0_6 l0_7 l0_8 l0_9) else (impl_Beat.j0 k a1 true a0_0 a0_1 a0_2 a0_3 a0_4 a0_5 a0_6 l0_7 l0_8 l0_9))
theorem impl_Beat.mono_l : ∀ k, (∀ y0 y1 y2 y3 y4 y5 y6 y7 y8 y9 y10 y11, LeO (impl_Beat.j0 k y0 y1 y2 y3 y4 y5 y6 y7 y8 y9 y10 y11) (impl_Beat.j0 (k + 1) y0 y1 y2 y3 y4 y5 y6 y7 y8 y9 y10 y11)) ∧ (∀ y0 y1 y2 y3 y4 y5 y6 y7 y8 y9 y10 y11 y12, LeO (impl_Beat.l0 k y0 y1 y2 y3 y4 y5 y6 y7 y8 y9 y10 y11 y12) (impl_Beat.l0 (k + 1) y0 y1 y2 y3 y4 y5 y6 y7 y8 y9 y10 y11 y12))
 | 0 => ⟨fun _ _ _ _ _ _ _ _ _ _ _ _ r h => by simp [impl_Beat.j0] at h, fun _ _ _ _ _ _ _ _ _ _ _ _ _ r h => by simp [impl_Beat.l0] at h⟩
 | k + 1 => by
   obtain ⟨ih0, ih1⟩ := impl_Beat.mono_l k
   refine ⟨?_, ?_⟩ <;> intros <;> (first | unfold impl_Beat.j0 | unfold impl_Beat.l0) <;> repeat' first
   | (with_reducible exact ih0 _ _ _ _ _ _ _ _ _ _ _ _)
   | (with_reducible exact ih1 _ _ _ _ _ _ _ _ _ _ _ _ _)
   | (with_reducible exact impl_TailOf.mono _ _ _ _ _ _)
   | (with_reducible exact impl_isNode.mono _ _ _ _ _ _ _ _ _ _ _ _)
   | (with_reducible exact LeO.refl _)
   | (with_reducible exact LeO.none _)
   | (with_reducible refine LeO.ite ?_ ?_)
   | (with_reducible refine LeO.bind ?_ (fun _ => ?_))
   | exact ih0 _ _ _ _ _ _ _ _ _ _ _ _
   | exact ih1 _ _ _ _ _ _ _ _ _ _ _ _ _
   | exact impl_TailOf.mono _ _ _ _ _ _
   | exact impl_isNode.mono _ _ _ _ _ _ _ _ _ _ _ _
   | exact LeO.none _
   | refine LeO.ite ?_ ?_
   | refine LeO.bind ?_ (fun _ => ?_)
theorem impl_Beat.mono : ∀ a0 a1 a2 a3 a4 a5 a6 a7 a8 a9 a10 k, LeO (impl_Beat.f k a0 a1 a2 a3 a4 a5 a6 a7 a8 a9 a10) (impl_Beat.f (k + 1) a0 a1 a2 a3 a4 a5 a6 a7 a8 a9 a10) := by
 intro a0 a1 a2 a3 a4 a5 a6 a7 a8 a9 a10 k
 obtain ⟨ih0, ih1⟩ := impl_Beat.mono_l k
 unfold impl_Beat.f
 repeat' first
     | (with_reducible exact ih0 _ _ _ _ _ _ _ _ _ _ _ _)
     | (with_reducible exact ih1 _ _ _ _ _ _ _ _ _ _ _ _ _)
     | (with_reducible exact impl_TailOf.mono _ _ _ _ _ _)
     | (with_reducible exact impl_isNode.mono _ _ _ _ _ _ _ _ _ _ _ _)
     | (with_reducible exact LeO.refl _)
     | (with_reducible exact LeO.none _)
     | (with_reducible refine LeO.ite ?_ ?_)
     | (with_reducible refine LeO.bind ?_ (fun _ => ?_))
     | exact ih0 _ _ _ _ _ _ _ _ _ _ _ _
     | exact ih1 _ _ _ _ _ _ _ _ _ _ _ _ _
     | exact impl_TailOf.mono _ _ _ _ _ _
     | exact impl_isNode.mono _ _ _ _ _ _ _ _ _ _ _ _
     | exact LeO.none _
     | refine LeO.ite ?_ ?_
     | refine LeO.bind ?_ (fun _ => ?_)
def impl_Beat.T9 : Bool × List (List Nat × List Nat) := (true, [([], []), ([], []), ([1], [1]), ([], []), ([], []), ([4], [4]), ([], []), ([], []), ([7], [7]), ([], []), ([8, 9], [8, 9]), ([], []), ([11], [11]), ([], []), ([13], [13]), ([], []), ([15], [15]), ([14, 16, 10], [14, 16]), ([2, 3, 5, 6, 10, 12, 17], [2, 3, 5, 6, 10, 12, 17]), ([18], [18]), ([0, 19, 17], [0, 19]), ([20, 20, 0, 1, 2, 3, 4, 5, 6, 7, 8, 9, 10, 11, 12, 13, 14, 15, 16, 17, 18, 19, 20], [0, 20])])
def impl_Beat.B9 : List Nat := [0, 0, 2, 0, 0, 16, 0, 0, 128, 0, 896, 0, 2048, 0, 8192, 0, 32768, 124800, 262142, 524286, 1048575, 2097151]
theorem impl_Beat.tab9 : rtab .any (opsOf Try.f39 9) = impl_Beat.T9 := by kernel_rfl
theorem impl_Beat.bits9 : waitsOk impl_Beat.T9.2 impl_Beat.B9 = true := by kernel_rfl
set_option maxHeartbeats 8000000 in
set_option maxRecDepth 100000 in
theorem impl_Beat.calls (k : Nat) (a0_0 : Int) (a0_1 : Int) (a0_2 : Int) (a0_3 : Int) (a0_4 : Int) (a0_5 : Int) (a0_6 : Int) (A0_7 : Option Addr) (c0_7 : Nat) (l0_7 : List (S85)) (A0_8 : Option Addr) (c0_8 : Nat) (l0_8 : List Int) (A0_9 : Option Addr) (c0_9 : Nat) (l0_9 : List Int) (a1 : Int) (r : List (S29)) (w : World) (hr0_7 : Kd.C k85 w A0_7 l0_7.length l0_7) (hc0_7 : l0_7.length ≤ c0_7) (hr0_8 : Kd.C (Kd.int .i64) w A0_8 l0_8.length l0_8) (hc0_8 : l0_8.length ≤ c0_8) (hr0_9 : Kd.C (Kd.int .i64) w A0_9 l0_9.length l0_9) (hc0_9 : l0_9.length ≤ c0_9) (h : impl_Beat.f k a0_0 a0_1 a0_2 a0_3 a0_4 a0_5 a0_6 l0_7 l0_8 l0_9 a1 = some r) :
   Calls Try.prog 39 #[.agg #[.int .i64 a0_0, .int .i64 a0_1, .int .i64 a0_2, .int .i64 a0_3, .int .i64 a0_4, .int .i64 a0_5, .int .i64 a0_6, .slice A0_7 l0_7.length c0_7, .slice A0_8 l0_8.length c0_8, .slice A0_9 l0_9.length c0_9], .int .i64 a1] w fun e w' => ∃ v0_ : Value, e = .returned (v0_) ∧ Kd.S k29 29 w' w.heap.size (fun _ => True) v0_ r ∧ Below w.heap.size w w' := by
 have hu37 := Try.underlying37
 have hu34 := Try.underlying34
 have hu29 := Try.underlying29
 have HR0_7 := am hr0_7
 have HC0_7 := am hc0_7
 clear hr0_7 hc0_7
 have HR0_8 := am hr0_8
 have HC0_8 := am hc0_8
 clear hr0_8 hc0_8
 have HR0_9 := am hr0_9
 have HC0_9 := am hc0_9
 clear hr0_9 hc0_9
 have HB := am (Below.refl w.heap.size w)
 have H : ((impl_isNode.f k a0_0 a0_1 a0_2 a0_3 a0_4 a0_5 a0_6 l0_7 l0_8 l0_9 a1).bind fun t287 => (if t287 = true then (impl_Beat.j0 k a1 (a0_3 != 2) a0_0 a0_1 a0_2 a0_3 a0_4 a0_5 a0_6 l0_7 l0_8 l0_9) else (impl_Beat.j0 k a1 true a0_0 a0_1 a0_2 a0_3 a0_4 a0_5 a0_6 l0_7 l0_8 l0_9))) = some r := h
 clear h
 have HC3 := am H
 clear H
 go_enter Try.func39, Try.ntmps39
 go_upto_region 1 with (first | ((with_reducible refine gate_dst (N := 2) rfl ?_); refine box_event ?hg (N := 2) ?hd (cs := #[.int .i64 a0_0, .int .i64 a0_1, .int .i64 a0_2, .int .i64 a0_3, .int .i64 a0_4, .int .i64 a0_5, .int .i64 a0_6, .slice A0_7 l0_7.length c0_7, .slice A0_8 l0_8.length c0_8, .slice A0_9 l0_9.length c0_9]) (t := 37) ?hr ?_; (case hd => rfl); (case hg => rfl); (case hr => first | (go_simp; done) | (go_simp; rfl)); intro gb286 hg w4 hbox hb; have BK286 := am (hbox); have GW286 := am ((by rw [hg]; exact (below_size Q1) : w.heap.size ≤ gb286)); have GE286 := am ((by rw [hg]; exact (below_size Q1) : w.heap.size ≤ gb286)); replace HB := am (below_step Q1 hb); clear hb hbox hg))
 (try simp only [Act.put, la, lb, lc])
 go_cut [16] (fun v16 wc => ∃ (kq : Nat) (x16_2 : Bool), v16 = .bool x16_2 ∧ Aside0 (impl_Beat.j0 kq a1 x16_2 a0_0 a0_1 a0_2 a0_3 a0_4 a0_5 a0_6 l0_7 l0_8 l0_9 = some r) ∧ Aside0 (kq ≤ k) ∧ Aside0 (wc.heap[gb286]? = some (.cells #[.int .i64 a0_0, .int .i64 a0_1, .int .i64 a0_2, .int .i64 a0_3, .int .i64 a0_4, .int .i64 a0_5, .int .i64 a0_6, (.slice A0_7 l0_7.length c0_7), (.slice A0_8 l0_8.length c0_8), (.slice A0_9 l0_9.length c0_9)] 37 (0, 0))) ∧ Aside0 (Below w.heap.size w wc))
 case first =>
   have H := HC3.out
   clear HC3
   replace H := Option.bind_eq_some_iff.mp H
   obtain ⟨t287, A50, H⟩ := H
   have A5 := am A50
   clear A50
   by_cases c6 : t287 = true
   rotate_left
   · replace c6 := Bool.eq_false_iff.mpr c6
     subst c6
     rw [nf] at H
     have H' := am H
     clear H
     obtain ⟨hcz10_0, hcz10_1, hcz10_2, hcz10_3, hcz10_4, hcz10_5, hcz10_6, hcz10_7, hcz10_8, hcz10_9⟩ := bc10 w4 BK286.out
     go_wp2_with (first | ((with_reducible refine gate_callee (f := 78) rfl ?_); refine goesL_ (some 10) rfl rfl Try.func78 kr rfl #[.agg #[.int .i64 a0_0, .int .i64 a0_1, .int .i64 a0_2, .int .i64 a0_3, .int .i64 a0_4, .int .i64 a0_5, .int .i64 a0_6, .slice A0_7 l0_7.length c0_7, .slice A0_8 l0_8.length c0_8, .slice A0_9 l0_9.length c0_9], .int .i64 a1] rfl Q0 ?_; (with_reducible refine (impl_isNode.calls k a0_0 a0_1 a0_2 a0_3 a0_4 a0_5 a0_6 _ _ l0_7 _ _ l0_8 _ _ l0_9 a1 false _ ?side1 ?side2 ?side3 ?side4 ?side5 ?side6 A5.out).mono ?_); (case side1 => exact Q8); (case side2 => exact HC0_7.out); (case side3 => exact Q9); (case side4 => exact HC0_8.out); (case side5 => exact Q11); (case side6 => exact HC0_9.out); rintro e w11 ⟨rfl, hb⟩; refine ⟨_, rfl, ?_⟩; replace BK286 := am (blk_below (g := gb286) (o := .cells #[.int .i64 a0_0, .int .i64 a0_1, .int .i64 a0_2, .int .i64 a0_3, .int .i64 a0_4, .int .i64 a0_5, .int .i64 a0_6, .slice A0_7 l0_7.length c0_7, .slice A0_8 l0_8.length c0_8, .slice A0_9 l0_9.length c0_9] 37 (0, 0)) u13_1 hb); replace HB := am (below_step Q1 hb); (try clear hb); (try clear hb2); (try clear hk); (try clear hi)))
     go_meet
     case rel => exact ⟨_, (true), Q4, H', ⟨by first | omega | exact Nat.le_refl _⟩, ⟨u13_1⟩, ⟨Q1⟩⟩
   subst c6
   rw [if_pos rfl] at H
   have H' := am H
   clear H
   obtain ⟨hcz7_0, hcz7_1, hcz7_2, hcz7_3, hcz7_4, hcz7_5, hcz7_6, hcz7_7, hcz7_8, hcz7_9⟩ := bc10 w4 BK286.out
   go_wp2_with (first | ((with_reducible refine gate_callee (f := 78) rfl ?_); refine goesL_ (some 10) rfl rfl Try.func78 kr rfl #[.agg #[.int .i64 a0_0, .int .i64 a0_1, .int .i64 a0_2, .int .i64 a0_3, .int .i64 a0_4, .int .i64 a0_5, .int .i64 a0_6, .slice A0_7 l0_7.length c0_7, .slice A0_8 l0_8.length c0_8, .slice A0_9 l0_9.length c0_9], .int .i64 a1] rfl Q0 ?_; (with_reducible refine (impl_isNode.calls k a0_0 a0_1 a0_2 a0_3 a0_4 a0_5 a0_6 _ _ l0_7 _ _ l0_8 _ _ l0_9 a1 true _ ?side1 ?side2 ?side3 ?side4 ?side5 ?side6 A5.out).mono ?_); (case side1 => exact Q8); (case side2 => exact HC0_7.out); (case side3 => exact Q9); (case side4 => exact HC0_8.out); (case side5 => exact Q11); (case side6 => exact HC0_9.out); rintro e w8 ⟨rfl, hb⟩; refine ⟨_, rfl, ?_⟩; replace BK286 := am (blk_below (g := gb286) (o := .cells #[.int .i64 a0_0, .int .i64 a0_1, .int .i64 a0_2, .int .i64 a0_3, .int .i64 a0_4, .int .i64 a0_5, .int .i64 a0_6, .slice A0_7 l0_7.length c0_7, .slice A0_8 l0_8.length c0_8, .slice A0_9 l0_9.length c0_9] 37 (0, 0)) u13_1 hb); replace HB := am (below_step Q1 hb); (try clear hb); (try clear hb2); (try clear hk); (try clear hi); obtain ⟨hcz9_0, hcz9_1, hcz9_2, hcz9_3, hcz9_4, hcz9_5, hcz9_6, hcz9_7, hcz9_8, hcz9_9⟩ := bc10 w8 BK286.out))
   go_meet
   case rel => exact ⟨_, ((a0_3 != 2)), Q4, H', ⟨by first | omega | exact Nat.le_refl _⟩, ⟨u13_1⟩, ⟨Q1⟩⟩
 clear HC3
 obtain ⟨kq, x16_2, rfl, HA, HJ2, BK286, HB⟩ := hcut
 cases kq with
 | zero => exact absurd HA.out (by simp [impl_Beat.j0])
 | succ kj2 =>
   have H := HA.out
   clear HA
   simp only [impl_Beat.j0] at H
   by_cases c12 : x16_2 = true
   · subst c12
     rw [if_pos rfl] at H
     obtain rfl := sj H
     go_wp2
     go_ret
     exact ⟨_, er, (by first | exact Kd.S_nil _ _ _ _ _ | exact Kd.N_nil _ _ _ _ _ | exact Kd.V_nil _ _ _ _ _ | exact Kd.Q_nil _ _ _ _ _ | exact Kd.R_nil _ _ _ _ _), Q1⟩
   replace c12 := Bool.eq_false_iff.mpr c12
   subst c12
   rw [nf] at H
   obtain ⟨y288, hy288⟩ : ∃ y_ : List (S29), y_ = (([] : List (S29))) := ⟨_, rfl⟩
   replace H : (impl_Beat.l0 kj2 y288 a1 0 a0_0 a0_1 a0_2 a0_3 a0_4 a0_5 a0_6 l0_7 l0_8 l0_9) = some r := by first | (rw [hy288]; with_reducible exact H) | (have H2_ := (Option.bind_some _ _).symm.trans H; rw [hy288]; with_reducible exact H2_) | (have H2_ := (Option.bind_some _ _).symm.trans H; with_reducible exact H2_) | with_reducible exact H | (rw [hy288]; exact H) | exact H
   have Ny288 := am hy288
   clear hy288
   have H' := am H
   clear H
   go_wp2_with (first | ((with_reducible refine gate_dst (N := 17) rfl ?_); refine Kd.S_lit k29 _ 29 ?hg (N := 17) ?hd (xs := ([] : List (S29))) (inner := []) (ok := fun _ => True) (okp := fun _ => True) ?hr ?hp (fun _ hk => hk) trivial (Below.refl _ _) (Nat.le_refl _) (by simp) ?_; (case hd => rfl); (case hg => rfl); (case hr => first | (go_simp; done) | (go_simp; rfl)); (case hp => exact (Reps.none _ _)); intro v289 w13 ho14 hb hg_ hnew_; clear hg_ hnew_; (first | rw [← Ny288.out] at ho14 | (simp only [Int.reduceToNat] at ho14; rw [← Ny288.out] at ho14)); have HO290 := am (Kd.S_lower ho14 (below_size Q1)); replace BK286 := am (blk_below (g := gb286) (o := .cells #[.int .i64 a0_0, .int .i64 a0_1, .int .i64 a0_2, .int .i64 a0_3, .int .i64 a0_4, .int .i64 a0_5, .int .i64 a0_6, .slice A0_7 l0_7.length c0_7, .slice A0_8 l0_8.length c0_8, .slice A0_9 l0_9.length c0_9] 37 (0, 0)) u13_1 hb); replace HB := am (below_step Q1 hb); clear hb ho14))
   go_loopg [5, 19] kj2 (fun kq v5 v19 w' => ∃ (x5_2 : List (S29)) (x19_2 : Int), v19 = .int .i64 x19_2 ∧ Aside0 (impl_Beat.l0 kq x5_2 a1 x19_2 a0_0 a0_1 a0_2 a0_3 a0_4 a0_5 a0_6 l0_7 l0_8 l0_9 = some r) ∧ Aside0 (kq ≤ kj2) ∧ Aside0 (Kd.S k29 29 w' w.heap.size (fun _ => True) v5 x5_2) ∧ Aside0 (w'.heap[gb286]? = some (.cells #[.int .i64 a0_0, .int .i64 a0_1, .int .i64 a0_2, .int .i64 a0_3, .int .i64 a0_4, .int .i64 a0_5, .int .i64 a0_6, (.slice A0_7 l0_7.length c0_7), (.slice A0_8 l0_8.length c0_8), (.slice A0_9 l0_9.length c0_9)] 37 (0, 0))) ∧ Aside0 (Below w.heap.size w w'))
   case atStart => exact ⟨(y288), (0), Q4, H', ⟨Nat.le_refl _⟩, ⟨(by (with_reducible repeat (first | apply Kd.S_alloc | apply Kd.S_drewN | apply Kd.S_drew)); exact HO290.out)⟩, ⟨u13_1⟩, ⟨Q1⟩⟩
   clear H'
   try clear c12
   obtain ⟨x5_2, x19_2, rfl, HA, HK2, HO_5, BK286, HB⟩ := hrel
   cases gk with
   | zero => exact absurd HA.out (by simp [impl_Beat.l0])
   | succ k2 =>
     have H := HA.out
     clear HA
     simp only [impl_Beat.l0] at H
     by_cases c15 : x19_2 < a1
     rotate_left
     · rw [if_neg c15] at H
       have c15b0 : decide (x19_2 < a1) = false := decide_eq_false c15
       clear c15
       obtain rfl := sj H
       go_wp2
       go_ret
       exact ⟨_, er, Q10, Q1⟩
     rw [if_pos c15] at H
     have c15b0 : decide (x19_2 < a1) = true := decide_eq_true c15
     clear c15
     by_cases c16 : x19_2 = a0_0
     · rw [if_pos c16] at H
       have c16b0 : (x19_2 == a0_0) = true := beq_iff_eq.mpr c16
       have c16b1 : (x19_2 != a0_0) = false := bne_eq_false_iff_eq.mpr c16
       clear c16
       have H' := am H
       clear H
       obtain ⟨hcz17_0, hcz17_1, hcz17_2, hcz17_3, hcz17_4, hcz17_5, hcz17_6, hcz17_7, hcz17_8, hcz17_9⟩ := bc10 wr BK286.out
       go_wp2
       go_roundg k2
       case measure => have := HJ2.out; have := HK2.out; omega
       case rel => exact ⟨(x5_2), (wrap64 (x19_2 + 1)), Q4, H', ⟨(by have := HJ2.out; have := HK2.out; omega)⟩, ⟨Q10⟩, ⟨u13_1⟩, ⟨Q1⟩⟩
     rw [if_neg c16] at H
     have c16b0 : (x19_2 == a0_0) = false := beq_eq_false_iff_ne.mpr c16
     have c16b1 : (x19_2 != a0_0) = true := bne_iff_ne.mpr c16
     by_cases c18 : 0 ≤ x19_2
     rotate_left
     · rw [if_neg c18] at H
       exact absurd H (by simp)
     rw [if_pos c18] at H
     have c18b0 : decide (0 ≤ x19_2) = true := decide_eq_true c18
     clear c18
     by_cases c19 : x19_2 < (l0_9.length : Int)
     rotate_left
     · rw [if_neg c19] at H
       exact absurd H (by simp)
     rw [if_pos c19] at H
     have c19b0 : decide (x19_2 < (l0_9.length : Int)) = true := decide_eq_true c19
     clear c19
     replace H := Option.bind_eq_some_iff.mp H
     obtain ⟨t292, A200, H⟩ := H
     have A20 := am A200
     clear A200
     replace H := Option.bind_eq_some_iff.mp H
     obtain ⟨t293, A210, H⟩ := H
     have A21 := am A210
     clear A210
     by_cases c22 : x5_2.length < 1599289640401
     rotate_left
     · rw [if_neg c22] at H
       exact absurd H (by simp)
     rw [if_pos c22] at H
     have LMc22 := am c22
     clear c22
     obtain ⟨y296, hy296⟩ : ∃ y_ : List (S29), y_ = (x5_2 ++ [(⟨2, a0_0, x19_2, a0_1, rd l0_9 x19_2, t292, a0_4, false, t293⟩ : S29)]) := ⟨_, rfl⟩
     replace H : (impl_Beat.l0 k2 y296 a1 (wrap64 (x19_2 + 1)) a0_0 a0_1 a0_2 a0_3 a0_4 a0_5 a0_6 l0_7 l0_8 l0_9) = some r := by first | (rw [hy296]; with_reducible exact H) | (have H2_ := (Option.bind_some _ _).symm.trans H; rw [hy296]; with_reducible exact H2_) | (have H2_ := (Option.bind_some _ _).symm.trans H; with_reducible exact H2_) | with_reducible exact H | (rw [hy296]; exact H) | exact H
     have Ny296 := am hy296
     clear hy296
     have H' := am H
     clear H
     obtain ⟨hcz23_0, hcz23_1, hcz23_2, hcz23_3, hcz23_4, hcz23_5, hcz23_6, hcz23_7, hcz23_8, hcz23_9⟩ := bc10 wr BK286.out
     have p291 : 0 ≤ (x19_2 : Int) := of_decide_eq_true (by first | (with_reducible assumption) | assumption)
     have q291 : x19_2 < (l0_9.length : Int) := of_decide_eq_true (by first | (with_reducible assumption) | assumption)
     obtain ⟨ad291, e291, hx291_0⟩ := Kd.at_int HR0_9.out x19_2 p291 q291
     cases e291
     replace hx291_0 := cm HB.out hx291_0
     replace p291 := eq_true p291
     replace q291 := eq_true q291
     try go_wp2
     replace HO_5 := am (Kd.S_drew HO_5.out)
     replace BK286 := am (blk_drew BK286.out)
     replace HB := am (below_drew1 HB.out)
     refine start_ (n := 22) (S := fun w' => w'.cell? ⟨gb286, 0, none⟩ = some (.int .i64 a0_0) ∧ w'.cell? ⟨gb286, 1, none⟩ = some (.int .i64 a0_1) ∧ w'.cell? ⟨gb286, 2, none⟩ = some (.int .i64 a0_2) ∧ w'.cell? ⟨gb286, 3, none⟩ = some (.int .i64 a0_3) ∧ w'.cell? ⟨gb286, 4, none⟩ = some (.int .i64 a0_4) ∧ w'.cell? ⟨gb286, 5, none⟩ = some (.int .i64 a0_5) ∧ w'.cell? ⟨gb286, 6, none⟩ = some (.int .i64 a0_6) ∧ w'.cell? ⟨gb286, 7, none⟩ = some (.slice A0_7 l0_7.length c0_7) ∧ w'.cell? ⟨gb286, 8, none⟩ = some (.slice A0_8 l0_8.length c0_8) ∧ w'.cell? ⟨gb286, 9, none⟩ = some (.slice (some ad291) l0_9.length c0_9)) (ds := []) #[false, false, false, false, false, false, false, false, false, false, false, false, false, false, false, false, false, false, false, false, false, false] kr rfl rfl ⟨(blk_cell BK286.out 0).trans rfl, (blk_cell BK286.out 1).trans rfl, (blk_cell BK286.out 2).trans rfl, (blk_cell BK286.out 3).trans rfl, (blk_cell BK286.out 4).trans rfl, (blk_cell BK286.out 5).trans rfl, (blk_cell BK286.out 6).trans rfl, (blk_cell BK286.out 7).trans rfl, (blk_cell BK286.out 8).trans rfl, (blk_cell BK286.out 9).trans rfl⟩ (fun hHeld => ?_); refine with_tabW impl_Beat.tab9 impl_Beat.bits9 (fun HT_ HW_ => ?_)
     generalize wr.drew = w24 at HO_5 BK286 HB hHeld ⊢
     refine pV 0 31 (bt 1 22) ?_
     refine pV 1 32 (bt 2 22) ?_
     refine pV 3 34 #[true, true, false, true, false, false, false, false, false, false, false, false, false, false, false, false, false, false, false, false, false, false] ?_
     refine pV 4 35 #[true, true, false, true, true, false, false, false, false, false, false, false, false, false, false, false, false, false, false, false, false, false] ?_
     refine pV 6 37 #[true, true, false, true, true, false, true, false, false, false, false, false, false, false, false, false, false, false, false, false, false, false] ?_
     refine pV 7 38 #[true, true, false, true, true, false, true, true, false, false, false, false, false, false, false, false, false, false, false, false, false, false] ?_
     refine pV 9 40 #[true, true, false, true, true, false, true, true, false, true, false, false, false, false, false, false, false, false, false, false, false, false] ?_
     refine pV 11 42 #[true, true, false, true, true, false, true, true, false, true, false, true, false, false, false, false, false, false, false, false, false, false] ?_
     refine pV 13 44 #[true, true, false, true, true, false, true, true, false, true, false, true, false, true, false, false, false, false, false, false, false, false] ?_
     refine pV 15 46 #[true, true, false, true, true, false, true, true, false, true, false, true, false, true, false, true, false, false, false, false, false, false] ?_
     refine pV 16 47 #[true, true, false, true, true, false, true, true, false, true, false, true, false, true, false, true, true, false, false, false, false, false] ?_
     refine tV 2 33 #[true, true, true, true, true, false, true, true, false, true, false, true, false, true, false, true, true, false, false, false, false, false] ?_
     refine tV 5 36 #[true, true, true, true, true, true, true, true, false, true, false, true, false, true, false, true, true, false, false, false, false, false] ?_
     refine tV 8 39 #[true, true, true, true, true, true, true, true, true, true, false, true, false, true, false, true, true, false, false, false, false, false] ?_
     refine tV 12 43 #[true, true, true, true, true, true, true, true, true, true, false, true, true, true, false, true, true, false, false, false, false, false] ?_
     refine tV 14 45 #[true, true, true, true, true, true, true, true, true, true, false, true, true, true, true, true, true, false, false, false, false, false] ?_
     refine one_ (i := 10) (N := some 41) #[true, true, true, true, true, true, true, true, true, true, true, true, true, true, true, true, true, false, false, false, false, false] rfl rfl (one_of HT_.out kr) (by decide) (fun K hK => ?_)
     refine goes_ Try.func92 kr rfl #[.agg #[.int .i64 a0_5, .int .i64 a0_6, .slice A0_7 l0_7.length c0_7], .int .i64 (rd l0_9 x19_2)] (by rfl) rfl rfl Q0 ?_
     with_reducible refine (impl_RLog_term.calls a0_5 a0_6 _ _ l0_7 (rd l0_9 x19_2) t292 _ ?side1 ?side2 A20.out).mono ?_
     (case side1 => exact Q8)
     (case side2 => exact HC0_7.out)
     rintro e w25 ⟨rfl, hb⟩
     refine ⟨_, rfl, ?_⟩
     replace HO_5 := am (Kd.S_below Q10 hb)
     replace BK286 := am (blk_below (g := gb286) (o := .cells #[.int .i64 a0_0, .int .i64 a0_1, .int .i64 a0_2, .int .i64 a0_3, .int .i64 a0_4, .int .i64 a0_5, .int .i64 a0_6, .slice A0_7 l0_7.length c0_7, .slice A0_8 l0_8.length c0_8, .slice (some ad291) l0_9.length c0_9] 37 (0, 0)) u13_1 hb)
     replace HB := am (below_step Q1 hb)
     (try clear hb)
     (try clear hb2)
     (try clear hk)
     (try clear hi)
     refine hK.out _ _ ⟨(blk_cell BK286.out 0).trans rfl, (blk_cell BK286.out 1).trans rfl, (blk_cell BK286.out 2).trans rfl, (blk_cell BK286.out 3).trans rfl, (blk_cell BK286.out 4).trans rfl, (blk_cell BK286.out 5).trans rfl, (blk_cell BK286.out 6).trans rfl, (blk_cell BK286.out 7).trans rfl, (blk_cell BK286.out 8).trans rfl, (blk_cell BK286.out 9).trans rfl⟩ (fun hHeld => ?_)
     clear hK K
     refine norm_ (a' := ?_) ?_ ?_
     rotate_left
     · show Act.put _ (some 41) _ = _
       simp only [Act.put, la, lb, lc, i64_w, i32_w]
       rfl
     refine one_ (i := 17) (N := some 48) #[true, true, true, true, true, true, true, true, true, true, true, true, true, true, true, true, true, true, false, false, false, false] rfl rfl (one_of HT_.out kr) (by decide) (fun K hK => ?_)
     refine goes_ Try.func93 kr rfl #[.agg #[.int .i64 a0_5, .int .i64 a0_6, .slice A0_7 l0_7.length c0_7], .int .i64 (wrap64 ((rd l0_9 x19_2) + 1)), .int .i64 10] (by rfl) rfl rfl Q0 ?_
     with_reducible refine (impl_TailOf.calls k2 a0_5 a0_6 _ _ l0_7 (wrap64 ((rd l0_9 x19_2) + 1)) 10 t293 _ ?side1 ?side2 A21.out).mono ?_
     (case side1 => exact Q8)
     (case side2 => exact HC0_7.out)
     rintro e w26 ⟨v294, rfl, ho0, hb⟩
     refine ⟨_, rfl, ?_⟩
     replace HO_5 := am (Kd.S_elder' Q10 (Kd.R_base ho0) hb)
     have HO295 := am (Kd.R_lower ho0 (below_size Q1))
     replace BK286 := am (blk_below (g := gb286) (o := .cells #[.int .i64 a0_0, .int .i64 a0_1, .int .i64 a0_2, .int .i64 a0_3, .int .i64 a0_4, .int .i64 a0_5, .int .i64 a0_6, .slice A0_7 l0_7.length c0_7, .slice A0_8 l0_8.length c0_8, .slice (some ad291) l0_9.length c0_9] 37 (0, 0)) u13_1 hb)
     replace HB := am (below_step Q1 hb)
     (try clear hb)
     (try clear hb2)
     (try clear hk)
     (try clear hi)
     (try clear ho0)
     obtain ⟨Ao27, co27, eo27⟩ := Kd.R_slice HO295.out
     (first | subst eo27 | (injection eo27 with f1_ f2_ f3_; have f4_ := f1_.symm; have f5_ := f3_.symm; clear f1_ f2_ f3_; subst f4_; subst f5_))
     refine hK.out _ _ ⟨(blk_cell BK286.out 0).trans rfl, (blk_cell BK286.out 1).trans rfl, (blk_cell BK286.out 2).trans rfl, (blk_cell BK286.out 3).trans rfl, (blk_cell BK286.out 4).trans rfl, (blk_cell BK286.out 5).trans rfl, (blk_cell BK286.out 6).trans rfl, (blk_cell BK286.out 7).trans rfl, (blk_cell BK286.out 8).trans rfl, (blk_cell BK286.out 9).trans rfl⟩ (fun hHeld => ?_)
     clear hK K
     refine norm_ (a' := ?_) ?_ ?_
     rotate_left
     · show Act.put _ (some 48) _ = _
       simp only [Act.put, la, lb, lc, i64_w, i32_w]
       rfl
     refine pV 18 49 (bt 19 22) ?_
     refine one_ (i := 19) (N := some 50) #[true, true, true, true, true, true, true, true, true, true, true, true, true, true, true, true, true, true, true, true, false, false] rfl rfl (one_of HT_.out kr) (by decide) (fun K hK => ?_)
     refine value_ (w1 := ?_) (v := ?_) (by rfl) rfl ?_ ?_
     rotate_left 2
     · go_simp
       constructor
       · rfl
       rfl
     refine hK.out _ _ ⟨(blk_cell (blk_alloc BK286.out _) 0).trans rfl, (blk_cell (blk_alloc BK286.out _) 1).trans rfl, (blk_cell (blk_alloc BK286.out _) 2).trans rfl, (blk_cell (blk_alloc BK286.out _) 3).trans rfl, (blk_cell (blk_alloc BK286.out _) 4).trans rfl, (blk_cell (blk_alloc BK286.out _) 5).trans rfl, (blk_cell (blk_alloc BK286.out _) 6).trans rfl, (blk_cell (blk_alloc BK286.out _) 7).trans rfl, (blk_cell (blk_alloc BK286.out _) 8).trans rfl, (blk_cell (blk_alloc BK286.out _) 9).trans rfl⟩ (fun hHeld => ?_)
     clear hK K
     refine norm_ (a' := ?_) ?_ ?_
     rotate_left
     · show Act.put _ (some 50) _ = _
       simp only [Act.put, la, lb, lc, i64_w, i32_w]
       rfl
     refine one_ (i := 20) (N := some 51) #[true, true, true, true, true, true, true, true, true, true, true, true, true, true, true, true, true, true, true, true, true, false] rfl rfl (one_of HT_.out kr) (by decide) (fun K hK => ?_)
     refine Kd.S_append_step k29 (w0 := w) w.heap.size (by rfl) (.tmp 31) (.tmp 50) 51 29 (.agg #[(.int .i64 0), (.int .i64 0), (.int .i64 0), (.int .i64 0), (.int .i64 0), (.int .i64 0), (.int .i64 0), (.bool false), (.slice none 0 0)]) 88 rfl Try.underlying51 info29 rfl (by decide) (by omega) u5 x5_2 (⟨2, a0_0, x19_2, a0_1, rd l0_9 x19_2, t292, a0_4, false, t293⟩ : S29) [.int .i64 2, .int .i64 a0_0, .int .i64 x19_2, .int .i64 a0_1, .int .i64 (rd l0_9 x19_2), .int .i64 t292, .int .i64 a0_4, .bool false, .slice Ao27 t293.length co27] (fun _ => True) (fun k_ => some k_ = (.slice Ao27 t293.length co27 : Value).ownBlock) rfl rfl ?aP (fun k_ hk_ => ((Kd.R_mono (ok' := fun k_ => ((fun _ => True)) k_ ∧ some k_ ≠ (u5 : Value).ownBlock) (Kd.R_apart' (HO295.out) (Kd.S_typed HO_5.out) (by decide)) (fun k_ hk => ⟨trivial, hk.2⟩))).1 k_ hk_.symm) ?aF ?aO ?aB ?aS ?aL ?_
     (case aP => exact k29_mkM _ _ _ (⟨2, a0_0, x19_2, a0_1, rd l0_9 x19_2, t292, a0_4, false, t293⟩ : S29) (Kd.R_mono (Kd.R_tight rfl (Kd.R_mono (ok' := fun k_ => ((fun _ => True)) k_ ∧ some k_ ≠ (u5 : Value).ownBlock) (Kd.R_apart' (HO295.out) (Kd.S_typed HO_5.out) (by decide)) (fun k_ hk => ⟨trivial, hk.2⟩))) (fun _ h_ => h_)))
     (case aB => exact Q1)
     (case aF => exact (fun _ _ => trivial))
     (case aO => exact (by (with_reducible repeat (first | apply Kd.S_alloc | apply Kd.S_drewN | apply Kd.S_drew)); exact Kd.S_mono HO_5.out (fun k_ hk => ⟨trivial, fun e_ => hk.2 e_⟩)))
     (case aS => exact (below_size Q1))
     (case aL => have := LMc22.out; omega)
     intro v297 w28 ho hb hg hat
     rw [← Ny296.out] at ho
     replace BK286 := am (blk_grown (g := gb286) (o := .cells #[.int .i64 a0_0, .int .i64 a0_1, .int .i64 a0_2, .int .i64 a0_3, .int .i64 a0_4, .int .i64 a0_5, .int .i64 a0_6, .slice A0_7 l0_7.length c0_7, .slice A0_8 l0_8.length c0_8, .slice (some ad291) l0_9.length c0_9] 37 (0, 0)) u13_1 hg (Kd.S_ne HO_5.out BK286.out (by decide)))
     replace HB := am (hb)
     have HO298 := am (ho)
     clear HO_5 HO295
     clear ho hb hg hat
     refine hK.out _ _ ⟨(blk_cell BK286.out 0).trans rfl, (blk_cell BK286.out 1).trans rfl, (blk_cell BK286.out 2).trans rfl, (blk_cell BK286.out 3).trans rfl, (blk_cell BK286.out 4).trans rfl, (blk_cell BK286.out 5).trans rfl, (blk_cell BK286.out 6).trans rfl, (blk_cell BK286.out 7).trans rfl, (blk_cell BK286.out 8).trans rfl, (blk_cell BK286.out 9).trans rfl⟩ (fun hHeld => ?_)
     clear hK K
     refine norm_ (a' := ?_) ?_ ?_
     rotate_left
     · show Act.put _ (some 51) _ = _
       simp only [Act.put, la, lb, lc, i64_w, i32_w]
       rfl
     refine pV 21 5 (bt 22 22) ?_
     refine done_ (done_of HT_.out kr) ?_
     try go_wp2
     go_roundg k2
     case measure => have := HJ2.out; have := HK2.out; omega
     case rel => exact ⟨(y296), (wrap64 (x19_2 + 1)), Q4, H', ⟨(by have := HJ2.out; have := HK2.out; omega)⟩, ⟨(by (with_reducible repeat (first | apply Kd.S_alloc | apply Kd.S_drewN | apply Kd.S_drew)); exact HO298.out)⟩, ⟨u13_1⟩, ⟨Q1⟩⟩

end Go.Proofs.Ytkcadcoohmofcaa.QFnExactBeat
