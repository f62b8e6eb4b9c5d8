-- Printed by the session's own program wip/prx.py.
import Derived.Test.YtkcadcoohmofcaaSqFnExactBeat
import Derived.Test.YtkcadcoohmofcaaQFnExactBeatx0
import Derived.Test.YtkcadcoohmofcaaQFnExactBeatx4
import Derived.Test.YtkcadcoohmofcaaQFnExactBeatx6
import Derived.Test.YtkcadcoohmofcaaQFnExactBeatx7
namespace Go.Proofs.Ytkcadcoohmofcaa.QFnExactBeat
open Go.RowKit Go.Proofs.YtkcadcoohmofcaaW.PrintWords Go.Proofs.YtkcadcoohmofcaaW.PrintLast Go.Proofs.YtkcadcoohmofcaaW.PrintMore Go.Proofs.Ytkcadcoohmofcaa.SqFnExactBeat
attribute [local go_sem] max2_int min2_int max_two min_two max_three min_three max_four min_four Go.Proofs.Ytkcadcoohmofcaa.Set.isSome_setCell
set_option linter.unusedVariables false
set_option linter.unusedSimpArgs false

-- squeezed
theorem u8_2 {P : Prop} (h : P := by (with_reducible repeat (first | refine blk_drewN ?_ _ | refine blk_drew ?_ | refine blk_alloc ?_ _)); exact BK225.out) : P := h
/-! ### spec_Beat: function 38 -/
mutual
def spec_Beat.j0 : Nat → Int → Bool → Int → Int → Int → Int → Int → Int → Int → List (S85) → List Int → List Int → Option ((List (S29)))
 | 0, _, _, _, _, _, _, _, _, _, _, _, _ => none
 | k + 1, x1, x15, x226000, x226001, x226002, x226003, x226004, x226005, x226006, x226007, x226008, x226009 => if x15 = true then (some ([] : List (S29))) else (spec_Beat.l0 k x1 (([] : List (S29))) 0 x226000 x226001 x226002 x226003 x226004 x226005 x226006 x226007 x226008 x226009)
def spec_Beat.l0 : Nat → Int → List (S29) → Int → Int → Int → Int → Int → Int → Int → Int → List (S85) → List Int → List Int → Option ((List (S29)))
 | 0, _, _, _, _, _, _, _, _, _, _, _, _, _ => none
 | k + 1, x1, x5, x6, x226000, x226001, x226002, x226003, x226004, x226005, x226006, x226007, x226008, x226009 => if x6 < x1 then (if x6 = x226000 then (spec_Beat.l0 k x1 x5 (wrap64 (x6 + 1)) x226000 x226001 x226002 x226003 x226004 x226005 x226006 x226007 x226008 x226009) else (if 0 ≤ x6 then (if x6 < (x226009.length : Int) then ((spec_TermAt.f k x226005 x226006 x226007 (rd x226009 x6)).bind fun t232 => ((spec_TailOf.f k x226005 x226006 x226007 (wrap64 ((rd x226009 x6) + 1)) 10).bind fun t234 => (if x5.length < 1599289640401 then (spec_Beat.l0 k x1 (x5 ++ [(⟨2, x226000, x6, x226001, rd x226009 x6, t232, x226004, false, t234⟩ : S29)]) (wrap64 (x6 + 1)) x226000 x226001 x226002 x226003 x226004 x226005 x226006 x226007 x226008 x226009) else (none)))) else (none)) else (none))) else (some x5)
end
def spec_Beat.f (k : Nat) (a0_0 : Int) (a0_1 : Int) (a0_2 : Int) (a0_3 : Int) (a0_4 : Int) (a0_5 : Int) (a0_6 : Int) (l0_7 : List (S85)) (l0_8 : List Int) (l0_9 : List Int) (a1 : Int) : Option ((List (S29))) := (spec_NodeOk.f k a0_0 a0_1 a0_2 a0_3 a0_4 a0_5 a0_6 l0_7 l0_8 l0_9 a1).bind fun t226 => (if t226 = true then (spec_Beat.j0 k a1 (a0_3 != 2) a0_0 a0_1 a0_2 a0_3 a0_4 a0_5 a0_6 l0_7 l0_8 l0_9) else (spec_Beat.j0 k a1 true a0_0 a0_1 a0_2 a0_3 a0_4 a0_5 a0_6 l0_7 l0_8 l0_9))
theorem spec_Beat.mono_l : ∀ k, (∀ y0 y1 y2 y3 y4 y5 y6 y7 y8 y9 y10 y11, LeO (spec_Beat.j0 k y0 y1 y2 y3 y4 y5 y6 y7 y8 y9 y10 y11) (spec_Beat.j0 (k + 1) y0 y1 y2 y3 y4 y5 y6 y7 y8 y9 y10 y11)) ∧ (∀ y0 y1 y2 y3 y4 y5 y6 y7 y8 y9 y10 y11 y12, LeO (spec_Beat.l0 k y0 y1 y2 y3 y4 y5 y6 y7 y8 y9 y10 y11 y12) (spec_Beat.l0 (k + 1) y0 y1 y2 y3 y4 y5 y6 y7 y8 y9 y10 y11 y12))
 | 0 => ⟨fun _ _ _ _ _ _ _ _ _ _ _ _ r h => by simp [spec_Beat.j0] at h, fun _ _ _ _ _ _ _ _ _ _ _ _ _ r h => by simp [spec_Beat.l0] at h⟩
 | k + 1 => by
   obtain ⟨ih0, ih1⟩ := spec_Beat.mono_l k
   refine ⟨?_, ?_⟩ <;> intros <;> (first | unfold spec_Beat.j0 | unfold spec_Beat.l0) <;> repeat' first
   | (with_reducible exact ih0 _ _ _ _ _ _ _ _ _ _ _ _)
   | (with_reducible exact ih1 _ _ _ _ _ _ _ _ _ _ _ _ _)
   | (with_reducible exact spec_NodeOk.mono _ _ _ _ _ _ _ _ _ _ _ _)
   | (with_reducible exact spec_TailOf.mono _ _ _ _ _ _)
   | (with_reducible exact spec_TermAt.mono _ _ _ _ _)
   | (with_reducible exact LeO.refl _)
   | (with_reducible exact LeO.none _)
   | (with_reducible refine LeO.ite ?_ ?_)
   | (with_reducible refine LeO.bind ?_ (fun _ => ?_))
   | exact ih0 _ _ _ _ _ _ _ _ _ _ _ _
   | exact ih1 _ _ _ _ _ _ _ _ _ _ _ _ _
   | exact spec_NodeOk.mono _ _ _ _ _ _ _ _ _ _ _ _
   | exact spec_TailOf.mono _ _ _ _ _ _
   | exact spec_TermAt.mono _ _ _ _ _
   | exact LeO.none _
   | refine LeO.ite ?_ ?_
   | refine LeO.bind ?_ (fun _ => ?_)
theorem spec_Beat.mono : ∀ a0 a1 a2 a3 a4 a5 a6 a7 a8 a9 a10 k, LeO (spec_Beat.f k a0 a1 a2 a3 a4 a5 a6 a7 a8 a9 a10) (spec_Beat.f (k + 1) a0 a1 a2 a3 a4 a5 a6 a7 a8 a9 a10) := by
 intro a0 a1 a2 a3 a4 a5 a6 a7 a8 a9 a10 k
 obtain ⟨ih0, ih1⟩ := spec_Beat.mono_l k
 unfold spec_Beat.f
 repeat' first
     | (with_reducible exact ih0 _ _ _ _ _ _ _ _ _ _ _ _)
     | (with_reducible exact ih1 _ _ _ _ _ _ _ _ _ _ _ _ _)
     | (with_reducible exact spec_NodeOk.mono _ _ _ _ _ _ _ _ _ _ _ _)
     | (with_reducible exact spec_TailOf.mono _ _ _ _ _ _)
     | (with_reducible exact spec_TermAt.mono _ _ _ _ _)
     | (with_reducible exact LeO.refl _)
     | (with_reducible exact LeO.none _)
     | (with_reducible refine LeO.ite ?_ ?_)
     | (with_reducible refine LeO.bind ?_ (fun _ => ?_))
     | exact ih0 _ _ _ _ _ _ _ _ _ _ _ _
     | exact ih1 _ _ _ _ _ _ _ _ _ _ _ _ _
     | exact spec_NodeOk.mono _ _ _ _ _ _ _ _ _ _ _ _
     | exact spec_TailOf.mono _ _ _ _ _ _
     | exact spec_TermAt.mono _ _ _ _ _
     | exact LeO.none _
     | refine LeO.ite ?_ ?_
     | refine LeO.bind ?_ (fun _ => ?_)
def spec_Beat.T8 : Bool × List (List Nat × List Nat) := (true, [([], []), ([], []), ([1], [1]), ([], []), ([], []), ([4], [4]), ([], []), ([6], [6]), ([], []), ([7, 8], [7, 8]), ([9], [9]), ([], []), ([11], [11]), ([], []), ([13], [13]), ([], []), ([14, 15], [14, 15]), ([16], [16]), ([12, 17], [12, 17]), ([], []), ([19], [19]), ([], []), ([21], [21]), ([], []), ([23], [23]), ([], []), ([24, 25], [24, 25]), ([26], [26]), ([27], [27]), ([22, 28, 18], [22, 28]), ([2, 3, 5, 10, 18, 20, 29], [2, 3, 5, 10, 18, 20, 29]), ([30], [30]), ([0, 31, 29], [0, 31]), ([32, 32, 0, 1, 2, 3, 4, 5, 6, 7, 8, 9, 10, 11, 12, 13, 14, 15, 16, 17, 18, 19, 20, 21, 22, 23, 24, 25, 26, 27, 28, 29, 30, 31, 32], [0, 32])])
def spec_Beat.B8 : List Nat := [0, 0, 2, 0, 0, 16, 0, 64, 0, 448, 960, 0, 2048, 0, 8192, 0, 57344, 122880, 260096, 0, 524288, 0, 2097152, 0, 8388608, 0, 58720256, 125829120, 260046848, 535296000, 1073741822, 2147483646, 4294967295, 8589934591]
theorem spec_Beat.tab8 : rtab .any (opsOf Try.f38 8) = spec_Beat.T8 := by kernel_rfl
theorem spec_Beat.bits8 : waitsOk spec_Beat.T8.2 spec_Beat.B8 = true := by kernel_rfl
set_option maxHeartbeats 8000000 in
set_option maxRecDepth 100000 in
theorem spec_Beat.calls (k : Nat) (a0_0 : Int) (a0_1 : Int) (a0_2 : Int) (a0_3 : Int) (a0_4 : Int) (a0_5 : Int) (a0_6 : Int) (A0_7 : Option Addr) (c0_7 : Nat) (l0_7 : List (S85)) (A0_8 : Option Addr) (c0_8 : Nat) (l0_8 : List Int) (A0_9 : Option Addr) (c0_9 : Nat) (l0_9 : List Int) (a1 : Int) (r : List (S29)) (w : World) (hr0_7 : Kd.C k85 w A0_7 l0_7.length l0_7) (hc0_7 : l0_7.length ≤ c0_7) (hr0_8 : Kd.C (Kd.int .i64) w A0_8 l0_8.length l0_8) (hc0_8 : l0_8.length ≤ c0_8) (hr0_9 : Kd.C (Kd.int .i64) w A0_9 l0_9.length l0_9) (hc0_9 : l0_9.length ≤ c0_9) (h : spec_Beat.f k a0_0 a0_1 a0_2 a0_3 a0_4 a0_5 a0_6 l0_7 l0_8 l0_9 a1 = some r) :
   Calls Try.prog 38 #[.agg #[.int .i64 a0_0, .int .i64 a0_1, .int .i64 a0_2, .int .i64 a0_3, .int .i64 a0_4, .int .i64 a0_5, .int .i64 a0_6, .slice A0_7 l0_7.length c0_7, .slice A0_8 l0_8.length c0_8, .slice A0_9 l0_9.length c0_9], .int .i64 a1] w fun e w' => ∃ v0_ : Value, e = .returned (v0_) ∧ Kd.S k29 29 w' w.heap.size (fun _ => True) v0_ r ∧ Below w.heap.size w w' := by
 have hu37 := Try.underlying37
 have hu34 := Try.underlying34
 have hu29 := Try.underlying29
 have HR0_7 := am hr0_7
 have HC0_7 := am hc0_7
 clear hr0_7 hc0_7
 have HR0_8 := am hr0_8
 have HC0_8 := am hc0_8
 clear hr0_8 hc0_8
 have HR0_9 := am hr0_9
 have HC0_9 := am hc0_9
 clear hr0_9 hc0_9
 have HB := am (Below.refl w.heap.size w)
 have H : ((spec_NodeOk.f k a0_0 a0_1 a0_2 a0_3 a0_4 a0_5 a0_6 l0_7 l0_8 l0_9 a1).bind fun t226 => (if t226 = true then (spec_Beat.j0 k a1 (a0_3 != 2) a0_0 a0_1 a0_2 a0_3 a0_4 a0_5 a0_6 l0_7 l0_8 l0_9) else (spec_Beat.j0 k a1 true a0_0 a0_1 a0_2 a0_3 a0_4 a0_5 a0_6 l0_7 l0_8 l0_9))) = some r := h
 clear h
 have HC3 := am H
 clear H
 go_enter Try.func38, Try.ntmps38
 go_upto_region 1 with (first | ((with_reducible refine gate_dst (N := 2) rfl ?_); refine box_event ?hg (N := 2) ?hd (cs := #[.int .i64 a0_0, .int .i64 a0_1, .int .i64 a0_2, .int .i64 a0_3, .int .i64 a0_4, .int .i64 a0_5, .int .i64 a0_6, .slice A0_7 l0_7.length c0_7, .slice A0_8 l0_8.length c0_8, .slice A0_9 l0_9.length c0_9]) (t := 37) ?hr ?_; (case hd => rfl); (case hg => rfl); (case hr => first | (go_simp; done) | (go_simp; rfl)); intro gb225 hg w4 hbox hb; have BK225 := am (hbox); have GW225 := am ((by rw [hg]; exact (below_size Q1) : w.heap.size ≤ gb225)); have GE225 := am ((by rw [hg]; exact (below_size Q1) : w.heap.size ≤ gb225)); replace HB := am (below_step Q1 hb); clear hb hbox hg))
 (try simp only [Act.put, la, lb, lc])
 go_cut [15] (fun v15 wc => ∃ (kq : Nat) (x15_2 : Bool), v15 = .bool x15_2 ∧ Aside0 (spec_Beat.j0 kq a1 x15_2 a0_0 a0_1 a0_2 a0_3 a0_4 a0_5 a0_6 l0_7 l0_8 l0_9 = some r) ∧ Aside0 (kq ≤ k) ∧ Aside0 (wc.heap[gb225]? = some (.cells #[.int .i64 a0_0, .int .i64 a0_1, .int .i64 a0_2, .int .i64 a0_3, .int .i64 a0_4, .int .i64 a0_5, .int .i64 a0_6, (.slice A0_7 l0_7.length c0_7), (.slice A0_8 l0_8.length c0_8), (.slice A0_9 l0_9.length c0_9)] 37 (0, 0))) ∧ Aside0 (Below w.heap.size w wc))
 case first =>
   have H := HC3.out
   clear HC3
   replace H := Option.bind_eq_some_iff.mp H
   obtain ⟨t226, A50, H⟩ := H
   have A5 := am A50
   clear A50
   by_cases c6 : t226 = true
   rotate_left
   · replace c6 := Bool.eq_false_iff.mpr c6
     subst c6
     rw [nf] at H
     have H' := am H
     clear H
     obtain ⟨hcz10_0, hcz10_1, hcz10_2, hcz10_3, hcz10_4, hcz10_5, hcz10_6, hcz10_7, hcz10_8, hcz10_9⟩ := bc10 w4 BK225.out
     go_wp2_with (first | ((with_reducible refine gate_callee (f := 26) rfl ?_); refine goesL_ (some 9) rfl rfl Try.func26 kr rfl #[.agg #[.int .i64 a0_0, .int .i64 a0_1, .int .i64 a0_2, .int .i64 a0_3, .int .i64 a0_4, .int .i64 a0_5, .int .i64 a0_6, .slice A0_7 l0_7.length c0_7, .slice A0_8 l0_8.length c0_8, .slice A0_9 l0_9.length c0_9], .int .i64 a1] rfl Q0 ?_; (with_reducible refine (spec_NodeOk.calls k a0_0 a0_1 a0_2 a0_3 a0_4 a0_5 a0_6 _ _ l0_7 _ _ l0_8 _ _ l0_9 a1 false _ ?side1 ?side2 ?side3 ?side4 ?side5 ?side6 A5.out).mono ?_); (case side1 => exact Q8); (case side2 => exact HC0_7.out); (case side3 => exact Q9); (case side4 => exact HC0_8.out); (case side5 => exact Q11); (case side6 => exact HC0_9.out); rintro e w11 ⟨rfl, hb⟩; refine ⟨_, rfl, ?_⟩; replace BK225 := am (blk_below (g := gb225) (o := .cells #[.int .i64 a0_0, .int .i64 a0_1, .int .i64 a0_2, .int .i64 a0_3, .int .i64 a0_4, .int .i64 a0_5, .int .i64 a0_6, .slice A0_7 l0_7.length c0_7, .slice A0_8 l0_8.length c0_8, .slice A0_9 l0_9.length c0_9] 37 (0, 0)) u8_2 hb); replace HB := am (below_step Q1 hb); (try clear hb); (try clear hb2); (try clear hk); (try clear hi)))
     go_meet
     case rel => exact ⟨_, (true), Q4, H', ⟨by first | omega | exact Nat.le_refl _⟩, ⟨u8_2⟩, ⟨Q1⟩⟩
   subst c6
   rw [if_pos rfl] at H
   have H' := am H
   clear H
   obtain ⟨hcz7_0, hcz7_1, hcz7_2, hcz7_3, hcz7_4, hcz7_5, hcz7_6, hcz7_7, hcz7_8, hcz7_9⟩ := bc10 w4 BK225.out
   go_wp2_with (first | ((with_reducible refine gate_callee (f := 26) rfl ?_); refine goesL_ (some 9) rfl rfl Try.func26 kr rfl #[.agg #[.int .i64 a0_0, .int .i64 a0_1, .int .i64 a0_2, .int .i64 a0_3, .int .i64 a0_4, .int .i64 a0_5, .int .i64 a0_6, .slice A0_7 l0_7.length c0_7, .slice A0_8 l0_8.length c0_8, .slice A0_9 l0_9.length c0_9], .int .i64 a1] rfl Q0 ?_; (with_reducible refine (spec_NodeOk.calls k a0_0 a0_1 a0_2 a0_3 a0_4 a0_5 a0_6 _ _ l0_7 _ _ l0_8 _ _ l0_9 a1 true _ ?side1 ?side2 ?side3 ?side4 ?side5 ?side6 A5.out).mono ?_); (case side1 => exact Q8); (case side2 => exact HC0_7.out); (case side3 => exact Q9); (case side4 => exact HC0_8.out); (case side5 => exact Q11); (case side6 => exact HC0_9.out); rintro e w8 ⟨rfl, hb⟩; refine ⟨_, rfl, ?_⟩; replace BK225 := am (blk_below (g := gb225) (o := .cells #[.int .i64 a0_0, .int .i64 a0_1, .int .i64 a0_2, .int .i64 a0_3, .int .i64 a0_4, .int .i64 a0_5, .int .i64 a0_6, .slice A0_7 l0_7.length c0_7, .slice A0_8 l0_8.length c0_8, .slice A0_9 l0_9.length c0_9] 37 (0, 0)) u8_2 hb); replace HB := am (below_step Q1 hb); (try clear hb); (try clear hb2); (try clear hk); (try clear hi); obtain ⟨hcz9_0, hcz9_1, hcz9_2, hcz9_3, hcz9_4, hcz9_5, hcz9_6, hcz9_7, hcz9_8, hcz9_9⟩ := bc10 w8 BK225.out))
   go_meet
   case rel => exact ⟨_, ((a0_3 != 2)), Q4, H', ⟨by first | omega | exact Nat.le_refl _⟩, ⟨u8_2⟩, ⟨Q1⟩⟩
 clear HC3
 obtain ⟨kq, x15_2, rfl, HA, HJ2, BK225, HB⟩ := hcut
 cases kq with
 | zero => exact absurd HA.out (by simp [spec_Beat.j0])
 | succ kj2 =>
   have H := HA.out
   clear HA
   simp only [spec_Beat.j0] at H
   by_cases c12 : x15_2 = true
   · subst c12
     rw [if_pos rfl] at H
     obtain rfl := sj H
     go_wp2
     go_ret
     exact ⟨_, er, (by first | exact Kd.S_nil _ _ _ _ _ | exact Kd.N_nil _ _ _ _ _ | exact Kd.V_nil _ _ _ _ _ | exact Kd.Q_nil _ _ _ _ _ | exact Kd.R_nil _ _ _ _ _), Q1⟩
   replace c12 := Bool.eq_false_iff.mpr c12
   subst c12
   rw [nf] at H
   obtain ⟨y227, hy227⟩ : ∃ y_ : List (S29), y_ = (([] : List (S29))) := ⟨_, rfl⟩
   replace H : (spec_Beat.l0 kj2 a1 y227 0 a0_0 a0_1 a0_2 a0_3 a0_4 a0_5 a0_6 l0_7 l0_8 l0_9) = some r := by first | (rw [hy227]; with_reducible exact H) | (have H2_ := (Option.bind_some _ _).symm.trans H; rw [hy227]; with_reducible exact H2_) | (have H2_ := (Option.bind_some _ _).symm.trans H; with_reducible exact H2_) | with_reducible exact H | (rw [hy227]; exact H) | exact H
   have Ny227 := am hy227
   clear hy227
   have H' := am H
   clear H
   go_wp2_with (first | ((with_reducible refine gate_dst (N := 16) rfl ?_); refine Kd.S_lit k29 _ 29 ?hg (N := 16) ?hd (xs := ([] : List (S29))) (inner := []) (ok := fun _ => True) (okp := fun _ => True) ?hr ?hp (fun _ hk => hk) trivial (Below.refl _ _) (Nat.le_refl _) (by simp) ?_; (case hd => rfl); (case hg => rfl); (case hr => first | (go_simp; done) | (go_simp; rfl)); (case hp => exact (Reps.none _ _)); intro v228 w13 ho14 hb hg_ hnew_; clear hg_ hnew_; (first | rw [← Ny227.out] at ho14 | (simp only [Int.reduceToNat] at ho14; rw [← Ny227.out] at ho14)); have HO229 := am (Kd.S_lower ho14 (below_size Q1)); replace BK225 := am (blk_below (g := gb225) (o := .cells #[.int .i64 a0_0, .int .i64 a0_1, .int .i64 a0_2, .int .i64 a0_3, .int .i64 a0_4, .int .i64 a0_5, .int .i64 a0_6, .slice A0_7 l0_7.length c0_7, .slice A0_8 l0_8.length c0_8, .slice A0_9 l0_9.length c0_9] 37 (0, 0)) u8_2 hb); replace HB := am (below_step Q1 hb); clear hb ho14))
   go_loopg [5, 6] kj2 (fun kq v5 v6 w' => ∃ (x5_2 : List (S29)) (x6_2 : Int), v6 = .int .i64 x6_2 ∧ Aside0 (spec_Beat.l0 kq a1 x5_2 x6_2 a0_0 a0_1 a0_2 a0_3 a0_4 a0_5 a0_6 l0_7 l0_8 l0_9 = some r) ∧ Aside0 (kq ≤ kj2) ∧ Aside0 (Kd.S k29 29 w' w.heap.size (fun _ => True) v5 x5_2) ∧ Aside0 (w'.heap[gb225]? = some (.cells #[.int .i64 a0_0, .int .i64 a0_1, .int .i64 a0_2, .int .i64 a0_3, .int .i64 a0_4, .int .i64 a0_5, .int .i64 a0_6, (.slice A0_7 l0_7.length c0_7), (.slice A0_8 l0_8.length c0_8), (.slice A0_9 l0_9.length c0_9)] 37 (0, 0))) ∧ Aside0 (Below w.heap.size w w'))
   case atStart => exact ⟨(y227), (0), Q4, H', ⟨Nat.le_refl _⟩, ⟨(by (with_reducible repeat (first | apply Kd.S_alloc | apply Kd.S_drewN | apply Kd.S_drew)); exact HO229.out)⟩, ⟨u8_2⟩, ⟨Q1⟩⟩
   clear H'
   try clear c12
   obtain ⟨x5_2, x6_2, rfl, HA, HK2, HO_5, BK225, HB⟩ := hrel
   cases gk with
   | zero => exact absurd HA.out (by simp [spec_Beat.l0])
   | succ k2 =>
     have H := HA.out
     clear HA
     simp only [spec_Beat.l0] at H
     by_cases c15 : x6_2 < a1
     rotate_left
     · rw [if_neg c15] at H
       have c15b0 : decide (x6_2 < a1) = false := decide_eq_false c15
       clear c15
       obtain rfl := sj H
       go_wp2
       go_ret
       exact ⟨_, er, Q10, Q1⟩
     rw [if_pos c15] at H
     have c15b0 : decide (x6_2 < a1) = true := decide_eq_true c15
     clear c15
     by_cases c16 : x6_2 = a0_0
     · rw [if_pos c16] at H
       have c16b0 : (x6_2 == a0_0) = true := beq_iff_eq.mpr c16
       have c16b1 : (x6_2 != a0_0) = false := bne_eq_false_iff_eq.mpr c16
       clear c16
       have H' := am H
       clear H
       obtain ⟨hcz17_0, hcz17_1, hcz17_2, hcz17_3, hcz17_4, hcz17_5, hcz17_6, hcz17_7, hcz17_8, hcz17_9⟩ := bc10 wr BK225.out
       go_wp2
       go_roundg k2
       case measure => have := HJ2.out; have := HK2.out; omega
       case rel => exact ⟨(x5_2), (wrap64 (x6_2 + 1)), Q4, H', ⟨(by have := HJ2.out; have := HK2.out; omega)⟩, ⟨Q10⟩, ⟨u8_2⟩, ⟨Q1⟩⟩
     rw [if_neg c16] at H
     have c16b0 : (x6_2 == a0_0) = false := beq_eq_false_iff_ne.mpr c16
     have c16b1 : (x6_2 != a0_0) = true := bne_iff_ne.mpr c16
     by_cases c18 : 0 ≤ x6_2
     rotate_left
     · rw [if_neg c18] at H
       exact absurd H (by simp)
     rw [if_pos c18] at H
     have c18b0 : decide (0 ≤ x6_2) = true := decide_eq_true c18
     clear c18
     by_cases c19 : x6_2 < (l0_9.length : Int)
     rotate_left
     · rw [if_neg c19] at H
       exact absurd H (by simp)
     rw [if_pos c19] at H
     have c19b0 : decide (x6_2 < (l0_9.length : Int)) = true := decide_eq_true c19
     clear c19
     replace H := Option.bind_eq_some_iff.mp H
     obtain ⟨t232, A200, H⟩ := H
     have A20 := am A200
     clear A200
     replace H := Option.bind_eq_some_iff.mp H
     obtain ⟨t234, A210, H⟩ := H
     have A21 := am A210
     clear A210
     by_cases c22 : x5_2.length < 1599289640401
     rotate_left
     · rw [if_neg c22] at H
       exact absurd H (by simp)
     rw [if_pos c22] at H
     have LMc22 := am c22
     clear c22
     obtain ⟨y237, hy237⟩ : ∃ y_ : List (S29), y_ = (x5_2 ++ [(⟨2, a0_0, x6_2, a0_1, rd l0_9 x6_2, t232, a0_4, false, t234⟩ : S29)]) := ⟨_, rfl⟩
     replace H : (spec_Beat.l0 k2 a1 y237 (wrap64 (x6_2 + 1)) a0_0 a0_1 a0_2 a0_3 a0_4 a0_5 a0_6 l0_7 l0_8 l0_9) = some r := by first | (rw [hy237]; with_reducible exact H) | (have H2_ := (Option.bind_some _ _).symm.trans H; rw [hy237]; with_reducible exact H2_) | (have H2_ := (Option.bind_some _ _).symm.trans H; with_reducible exact H2_) | with_reducible exact H | (rw [hy237]; exact H) | exact H
     have Ny237 := am hy237
     clear hy237
     have H' := am H
     clear H
     obtain ⟨hcz23_0, hcz23_1, hcz23_2, hcz23_3, hcz23_4, hcz23_5, hcz23_6, hcz23_7, hcz23_8, hcz23_9⟩ := bc10 wr BK225.out
     try go_wp2
     replace HO_5 := am (Kd.S_drew HO_5.out)
     replace BK225 := am (blk_drew BK225.out)
     replace HB := am (below_drew1 HB.out)
     have p230 : 0 ≤ (x6_2 : Int) := of_decide_eq_true Q3
     have q230 : x6_2 < (l0_9.length : Int) := of_decide_eq_true Q3
     obtain ⟨ad230, e230, hx230_0⟩ := Kd.at_int HR0_9.out x6_2 p230 q230
     have hw230_0 := hx230_0
     cases e230
     replace hx230_0 := cm HB.out hx230_0
     replace p230 := eq_true p230
     replace q230 := eq_true q230
     have p231 : 0 ≤ (x6_2 : Int) := of_decide_eq_true Q3
     have q231 : x6_2 < (l0_9.length : Int) := of_decide_eq_true Q3
     obtain ⟨ad231, e231, hx231_0⟩ := Kd.at_int HR0_9.out x6_2 p231 q231
     have hw231_0 := hx231_0
     obtain rfl : ad230 = ad231 := (by injection e231)
     replace hx231_0 := cm HB.out hx231_0
     replace p231 := eq_true p231
     replace q231 := eq_true q231
     have p233 : 0 ≤ (x6_2 : Int) := of_decide_eq_true Q3
     have q233 : x6_2 < (l0_9.length : Int) := of_decide_eq_true Q3
     obtain ⟨ad233, e233, hx233_0⟩ := Kd.at_int HR0_9.out x6_2 p233 q233
     have hw233_0 := hx233_0
     obtain rfl : ad230 = ad233 := (by injection e233)
     replace hx233_0 := cm HB.out hx233_0
     replace p233 := eq_true p233
     replace q233 := eq_true q233
     refine start_ (n := 34) (S := fun w' => w'.cell? ⟨gb225, 0, none⟩ = some (.int .i64 a0_0) ∧ w'.cell? ⟨gb225, 1, none⟩ = some (.int .i64 a0_1) ∧ w'.cell? ⟨gb225, 2, none⟩ = some (.int .i64 a0_2) ∧ w'.cell? ⟨gb225, 3, none⟩ = some (.int .i64 a0_3) ∧ w'.cell? ⟨gb225, 4, none⟩ = some (.int .i64 a0_4) ∧ w'.cell? ⟨gb225, 5, none⟩ = some (.int .i64 a0_5) ∧ w'.cell? ⟨gb225, 6, none⟩ = some (.int .i64 a0_6) ∧ w'.cell? ⟨gb225, 7, none⟩ = some (.slice A0_7 l0_7.length c0_7) ∧ w'.cell? ⟨gb225, 8, none⟩ = some (.slice A0_8 l0_8.length c0_8) ∧ w'.cell? ⟨gb225, 9, none⟩ = some (.slice (some ad230) l0_9.length c0_9) ∧ w'.cell? (ad230.add (x6_2).toNat) = some (.int .i64 (rd l0_9 x6_2)) ∧ w'.cell? (ad230.add (x6_2).toNat) = some (.int .i64 (rd l0_9 x6_2)) ∧ w'.cell? (ad230.add (x6_2).toNat) = some (.int .i64 (rd l0_9 x6_2))) (ds := []) b0_34 kr rfl rfl ⟨(blk_cell BK225.out 0).trans rfl, (blk_cell BK225.out 1).trans rfl, (blk_cell BK225.out 2).trans rfl, (blk_cell BK225.out 3).trans rfl, (blk_cell BK225.out 4).trans rfl, (blk_cell BK225.out 5).trans rfl, (blk_cell BK225.out 6).trans rfl, (blk_cell BK225.out 7).trans rfl, (blk_cell BK225.out 8).trans rfl, (blk_cell BK225.out 9).trans rfl, (cm HB.out hw230_0), (cm HB.out hw231_0), (cm HB.out hw233_0)⟩ (fun hHeld => ?_); refine with_tabW spec_Beat.tab8 spec_Beat.bits8 (fun HT_ HW_ => ?_)
     generalize wr.drew = w24 at HO_5 BK225 HB hx230_0 hx231_0 hx233_0 hHeld ⊢
     refine pV 0 26 (bt 1 34) ?_
     refine pV 1 27 (bt 2 34) ?_
     refine pV 3 29 #[true, true, false, true, false, false, false, false, false, false, false, false, false, false, false, false, false, false, false, false, false, false, false, false, false, false, false, false, false, false, false, false, false, false] ?_
     refine pV 4 30 #[true, true, false, true, true, false, false, false, false, false, false, false, false, false, false, false, false, false, false, false, false, false, false, false, false, false, false, false, false, false, false, false, false, false] ?_
     refine pV 6 32 #[true, true, false, true, true, false, true, false, false, false, false, false, false, false, false, false, false, false, false, false, false, false, false, false, false, false, false, false, false, false, false, false, false, false] ?_
     refine pV 8 34 #[true, true, false, true, true, false, true, false, true, false, false, false, false, false, false, false, false, false, false, false, false, false, false, false, false, false, false, false, false, false, false, false, false, false] ?_
     refine pV 11 37 #[true, true, false, true, true, false, true, false, true, false, false, true, false, false, false, false, false, false, false, false, false, false, false, false, false, false, false, false, false, false, false, false, false, false] ?_
     refine pV 13 39 #[true, true, false, true, true, false, true, false, true, false, false, true, false, true, false, false, false, false, false, false, false, false, false, false, false, false, false, false, false, false, false, false, false, false] ?_
     refine pV 15 41 #[true, true, false, true, true, false, true, false, true, false, false, true, false, true, false, true, false, false, false, false, false, false, false, false, false, false, false, false, false, false, false, false, false, false] ?_
     refine pV 19 45 #[true, true, false, true, true, false, true, false, true, false, false, true, false, true, false, true, false, false, false, true, false, false, false, false, false, false, false, false, false, false, false, false, false, false] ?_
     refine pV 21 47 #[true, true, false, true, true, false, true, false, true, false, false, true, false, true, false, true, false, false, false, true, false, true, false, false, false, false, false, false, false, false, false, false, false, false] ?_
     refine pV 23 49 #[true, true, false, true, true, false, true, false, true, false, false, true, false, true, false, true, false, false, false, true, false, true, false, true, false, false, false, false, false, false, false, false, false, false] ?_
     refine pV 25 51 #[true, true, false, true, true, false, true, false, true, false, false, true, false, true, false, true, false, false, false, true, false, true, false, true, false, true, false, false, false, false, false, false, false, false] ?_
     refine tV 2 28 #[true, true, true, true, true, false, true, false, true, false, false, true, false, true, false, true, false, false, false, true, false, true, false, true, false, true, false, false, false, false, false, false, false, false] ?_
     refine tV 5 31 #[true, true, true, true, true, true, true, false, true, false, false, true, false, true, false, true, false, false, false, true, false, true, false, true, false, true, false, false, false, false, false, false, false, false] ?_
     refine tV 7 33 #[true, true, true, true, true, true, true, true, true, false, false, true, false, true, false, true, false, false, false, true, false, true, false, true, false, true, false, false, false, false, false, false, false, false] ?_
     refine pV 9 35 #[true, true, true, true, true, true, true, true, true, true, false, true, false, true, false, true, false, false, false, true, false, true, false, true, false, true, false, false, false, false, false, false, false, false] ?_
     refine tV 10 36 #[true, true, true, true, true, true, true, true, true, true, true, true, false, true, false, true, false, false, false, true, false, true, false, true, false, true, false, false, false, false, false, false, false, false] ?_
     refine tV 12 38 #[true, true, true, true, true, true, true, true, true, true, true, true, true, true, false, true, false, false, false, true, false, true, false, true, false, true, false, false, false, false, false, false, false, false] ?_
     refine tV 14 40 #[true, true, true, true, true, true, true, true, true, true, true, true, true, true, true, true, false, false, false, true, false, true, false, true, false, true, false, false, false, false, false, false, false, false] ?_
     refine pV 16 42 #[true, true, true, true, true, true, true, true, true, true, true, true, true, true, true, true, true, false, false, true, false, true, false, true, false, true, false, false, false, false, false, false, false, false] ?_
     refine tV 17 43 #[true, true, true, true, true, true, true, true, true, true, true, true, true, true, true, true, true, true, false, true, false, true, false, true, false, true, false, false, false, false, false, false, false, false] ?_
     refine tV 20 46 #[true, true, true, true, true, true, true, true, true, true, true, true, true, true, true, true, true, true, false, true, true, true, false, true, false, true, false, false, false, false, false, false, false, false] ?_
     refine tV 22 48 #[true, true, true, true, true, true, true, true, true, true, true, true, true, true, true, true, true, true, false, true, true, true, true, true, false, true, false, false, false, false, false, false, false, false] ?_
     refine tV 24 50 #[true, true, true, true, true, true, true, true, true, true, true, true, true, true, true, true, true, true, false, true, true, true, true, true, true, true, false, false, false, false, false, false, false, false] ?_
     refine pV 26 52 #[true, true, true, true, true, true, true, true, true, true, true, true, true, true, true, true, true, true, false, true, true, true, true, true, true, true, true, false, false, false, false, false, false, false] ?_
     refine tV 27 53 #[true, true, true, true, true, true, true, true, true, true, true, true, true, true, true, true, true, true, false, true, true, true, true, true, true, true, true, true, false, false, false, false, false, false] ?_
     refine pV 28 54 #[true, true, true, true, true, true, true, true, true, true, true, true, true, true, true, true, true, true, false, true, true, true, true, true, true, true, true, true, true, false, false, false, false, false] ?_
     refine one_ (i := 18) (N := some 44) b29_34 rfl rfl (one_of HT_.out kr) (by decide) (fun K hK => ?_)
     refine goes_ Try.func73 kr rfl #[.agg #[.int .i64 a0_5, .int .i64 a0_6, .slice A0_7 l0_7.length c0_7], .int .i64 (rd l0_9 x6_2)] (by rfl) rfl rfl Q0 ?_
     with_reducible refine (spec_TermAt.calls k2 a0_5 a0_6 _ _ l0_7 (rd l0_9 x6_2) t232 _ ?side1 ?side2 A20.out).mono ?_
     (case side1 => exact Q8)
     (case side2 => exact HC0_7.out)
     rintro e w25 ⟨rfl, hb⟩
     refine ⟨_, rfl, ?_⟩
     replace HO_5 := am (Kd.S_below Q10 hb)
     replace BK225 := am (blk_below (g := gb225) (o := .cells #[.int .i64 a0_0, .int .i64 a0_1, .int .i64 a0_2, .int .i64 a0_3, .int .i64 a0_4, .int .i64 a0_5, .int .i64 a0_6, .slice A0_7 l0_7.length c0_7, .slice A0_8 l0_8.length c0_8, .slice (some ad230) l0_9.length c0_9] 37 (0, 0)) u8_2 hb)
     replace HB := am (below_step Q1 hb)
     (try clear hb)
     (try clear hb2)
     (try clear hk)
     (try clear hi)
     refine hK.out _ _ ⟨(blk_cell BK225.out 0).trans rfl, (blk_cell BK225.out 1).trans rfl, (blk_cell BK225.out 2).trans rfl, (blk_cell BK225.out 3).trans rfl, (blk_cell BK225.out 4).trans rfl, (blk_cell BK225.out 5).trans rfl, (blk_cell BK225.out 6).trans rfl, (blk_cell BK225.out 7).trans rfl, (blk_cell BK225.out 8).trans rfl, (blk_cell BK225.out 9).trans rfl, (cm HB.out hw230_0), (cm HB.out hw231_0), (cm HB.out hw233_0)⟩ (fun hHeld => ?_)
     clear hK K
     refine norm_ (a' := ?_) ?_ ?_
     rotate_left
     · show Act.put _ (some 44) _ = _
       simp only [Act.put, la, lb, lc, i64_w, i32_w]
       rfl
     refine one_ (i := 29) (N := some 55) b30_34 rfl rfl (one_of HT_.out kr) (by decide) (fun K hK => ?_)
     refine goes_ Try.func91 kr rfl #[.agg #[.int .i64 a0_5, .int .i64 a0_6, .slice A0_7 l0_7.length c0_7], .int .i64 (wrap64 ((rd l0_9 x6_2) + 1)), .int .i64 10] (by rfl) rfl rfl Q0 ?_
     with_reducible refine (spec_TailOf.calls k2 a0_5 a0_6 _ _ l0_7 (wrap64 ((rd l0_9 x6_2) + 1)) 10 t234 _ ?side1 ?side2 A21.out).mono ?_
     (case side1 => exact Q8)
     (case side2 => exact HC0_7.out)
     rintro e w26 ⟨v235, rfl, ho0, hb⟩
     refine ⟨_, rfl, ?_⟩
     replace HO_5 := am (Kd.S_elder' Q10 (Kd.R_base ho0) hb)
     have HO236 := am (Kd.R_lower ho0 (below_size Q1))
     replace BK225 := am (blk_below (g := gb225) (o := .cells #[.int .i64 a0_0, .int .i64 a0_1, .int .i64 a0_2, .int .i64 a0_3, .int .i64 a0_4, .int .i64 a0_5, .int .i64 a0_6, .slice A0_7 l0_7.length c0_7, .slice A0_8 l0_8.length c0_8, .slice (some ad230) l0_9.length c0_9] 37 (0, 0)) u8_2 hb)
     replace HB := am (below_step Q1 hb)
     (try clear hb)
     (try clear hb2)
     (try clear hk)
     (try clear hi)
     (try clear ho0)
     obtain ⟨Ao27, co27, eo27⟩ := Kd.R_slice HO236.out
     (first | subst eo27 | (injection eo27 with f1_ f2_ f3_; have f4_ := f1_.symm; have f5_ := f3_.symm; clear f1_ f2_ f3_; subst f4_; subst f5_))
     refine hK.out _ _ ⟨(blk_cell BK225.out 0).trans rfl, (blk_cell BK225.out 1).trans rfl, (blk_cell BK225.out 2).trans rfl, (blk_cell BK225.out 3).trans rfl, (blk_cell BK225.out 4).trans rfl, (blk_cell BK225.out 5).trans rfl, (blk_cell BK225.out 6).trans rfl, (blk_cell BK225.out 7).trans rfl, (blk_cell BK225.out 8).trans rfl, (blk_cell BK225.out 9).trans rfl, (cm HB.out hw230_0), (cm HB.out hw231_0), (cm HB.out hw233_0)⟩ (fun hHeld => ?_)
     clear hK K
     refine norm_ (a' := ?_) ?_ ?_
     rotate_left
     · show Act.put _ (some 55) _ = _
       simp only [Act.put, la, lb, lc, i64_w, i32_w]
       rfl
     refine pV 30 56 (bt 31 34) ?_
     refine one_ (i := 31) (N := some 57) b32_34 rfl rfl (one_of HT_.out kr) (by decide) (fun K hK => ?_)
     refine value_ (w1 := ?_) (v := ?_) (by rfl) rfl ?_ ?_
     rotate_left 2
     · go_simp
       constructor
       · rfl
       rfl
     refine hK.out _ _ ⟨(blk_cell (blk_alloc BK225.out _) 0).trans rfl, (blk_cell (blk_alloc BK225.out _) 1).trans rfl, (blk_cell (blk_alloc BK225.out _) 2).trans rfl, (blk_cell (blk_alloc BK225.out _) 3).trans rfl, (blk_cell (blk_alloc BK225.out _) 4).trans rfl, (blk_cell (blk_alloc BK225.out _) 5).trans rfl, (blk_cell (blk_alloc BK225.out _) 6).trans rfl, (blk_cell (blk_alloc BK225.out _) 7).trans rfl, (blk_cell (blk_alloc BK225.out _) 8).trans rfl, (blk_cell (blk_alloc BK225.out _) 9).trans rfl, (World.cell?_alloc_lt _ _ _ (World.block_lt_of_cell? _ _ ((cm HB.out hw230_0)))).trans ((cm HB.out hw230_0)), (World.cell?_alloc_lt _ _ _ (World.block_lt_of_cell? _ _ ((cm HB.out hw231_0)))).trans ((cm HB.out hw231_0)), (World.cell?_alloc_lt _ _ _ (World.block_lt_of_cell? _ _ ((cm HB.out hw233_0)))).trans ((cm HB.out hw233_0))⟩ (fun hHeld => ?_)
     clear hK K
     refine norm_ (a' := ?_) ?_ ?_
     rotate_left
     · show Act.put _ (some 57) _ = _
       simp only [Act.put, la, lb, lc, i64_w, i32_w]
       rfl
     refine one_ (i := 32) (N := some 58) b33_34 rfl rfl (one_of HT_.out kr) (by decide) (fun K hK => ?_)
     refine Kd.S_append_step k29 (w0 := w) w.heap.size (by rfl) (.tmp 26) (.tmp 57) 51 29 (.agg #[(.int .i64 0), (.int .i64 0), (.int .i64 0), (.int .i64 0), (.int .i64 0), (.int .i64 0), (.int .i64 0), (.bool false), (.slice none 0 0)]) 88 rfl Try.underlying51 info29 rfl (by decide) (by omega) u5 x5_2 (⟨2, a0_0, x6_2, a0_1, rd l0_9 x6_2, t232, a0_4, false, t234⟩ : S29) [.int .i64 2, .int .i64 a0_0, .int .i64 x6_2, .int .i64 a0_1, .int .i64 (rd l0_9 x6_2), .int .i64 t232, .int .i64 a0_4, .bool false, .slice Ao27 t234.length co27] (fun _ => True) (fun k_ => some k_ = (.slice Ao27 t234.length co27 : Value).ownBlock) rfl rfl ?aP (fun k_ hk_ => ((Kd.R_mono (ok' := fun k_ => ((fun _ => True)) k_ ∧ some k_ ≠ (u5 : Value).ownBlock) (Kd.R_apart' (HO236.out) (Kd.S_typed HO_5.out) (by decide)) (fun k_ hk => ⟨trivial, hk.2⟩))).1 k_ hk_.symm) ?aF ?aO ?aB ?aS ?aL ?_
     (case aP => exact k29_mkM _ _ _ (⟨2, a0_0, x6_2, a0_1, rd l0_9 x6_2, t232, a0_4, false, t234⟩ : S29) (Kd.R_mono (Kd.R_tight rfl (Kd.R_mono (ok' := fun k_ => ((fun _ => True)) k_ ∧ some k_ ≠ (u5 : Value).ownBlock) (Kd.R_apart' (HO236.out) (Kd.S_typed HO_5.out) (by decide)) (fun k_ hk => ⟨trivial, hk.2⟩))) (fun _ h_ => h_)))
     (case aB => exact Q1)
     (case aF => exact (fun _ _ => trivial))
     (case aO => exact (by (with_reducible repeat (first | apply Kd.S_alloc | apply Kd.S_drewN | apply Kd.S_drew)); exact Kd.S_mono HO_5.out (fun k_ hk => ⟨trivial, fun e_ => hk.2 e_⟩)))
     (case aS => exact (below_size Q1))
     (case aL => have := LMc22.out; omega)
     intro v238 w28 ho hb hg hat
     rw [← Ny237.out] at ho
     replace BK225 := am (blk_grown (g := gb225) (o := .cells #[.int .i64 a0_0, .int .i64 a0_1, .int .i64 a0_2, .int .i64 a0_3, .int .i64 a0_4, .int .i64 a0_5, .int .i64 a0_6, .slice A0_7 l0_7.length c0_7, .slice A0_8 l0_8.length c0_8, .slice (some ad230) l0_9.length c0_9] 37 (0, 0)) u8_2 hg (Kd.S_ne HO_5.out BK225.out (by decide)))
     replace HB := am (hb)
     have HO239 := am (ho)
     clear HO_5 HO236
     clear ho hb hg hat
     refine hK.out _ _ ⟨(blk_cell BK225.out 0).trans rfl, (blk_cell BK225.out 1).trans rfl, (blk_cell BK225.out 2).trans rfl, (blk_cell BK225.out 3).trans rfl, (blk_cell BK225.out 4).trans rfl, (blk_cell BK225.out 5).trans rfl, (blk_cell BK225.out 6).trans rfl, (blk_cell BK225.out 7).trans rfl, (blk_cell BK225.out 8).trans rfl, (blk_cell BK225.out 9).trans rfl, (cm HB.out hw230_0), (cm HB.out hw231_0), (cm HB.out hw233_0)⟩ (fun hHeld => ?_)
     clear hK K
     refine norm_ (a' := ?_) ?_ ?_
     rotate_left
     · show Act.put _ (some 58) _ = _
       simp only [Act.put, la, lb, lc, i64_w, i32_w]
       rfl
     refine pV 33 5 (bt 34 34) ?_
     refine done_ (done_of HT_.out kr) ?_
     try go_wp2
     go_roundg k2
     case measure => have := HJ2.out; have := HK2.out; omega
     case rel => exact ⟨(y237), (wrap64 (x6_2 + 1)), Q4, H', ⟨(by have := HJ2.out; have := HK2.out; omega)⟩, ⟨(by (with_reducible repeat (first | apply Kd.S_alloc | apply Kd.S_drewN | apply Kd.S_drew)); exact HO239.out)⟩, ⟨u8_2⟩, ⟨Q1⟩⟩

/-! ### impl_isEntry: function 111 -/
def impl_isEntry.f (a0_0 : Int) (a0_1 : ByteArray) : Option (Bool) := if a0_0 > 0 then (if a0_0 ≤ 1000000 then (some (decide ((a0_1.size : Int) ≤ 40))) else (some false)) else (some false)
set_option maxHeartbeats 8000000 in
set_option maxRecDepth 100000 in
theorem impl_isEntry.calls (a0_0 : Int) (a0_1 : ByteArray) (r : Bool) (w : World) (h : impl_isEntry.f a0_0 a0_1 = some r) :
   Calls Try.prog 111 #[.agg #[.int .i64 a0_0, .string a0_1]] w fun e w' => e = .returned (.bool r) ∧ Below w.heap.size w w' := by
 have hu85 := Try.underlying85
 have HB := am (Below.refl w.heap.size w)
 have H : (if a0_0 > 0 then (if a0_0 ≤ 1000000 then (some (decide ((a0_1.size : Int) ≤ 40))) else (some false)) else (some false)) = some r := h
 clear h
 by_cases c2 : a0_0 > 0
 rotate_left
 · rw [if_neg c2] at H
   have c2b0 : decide (0 < a0_0) = false := decide_eq_false c2
   clear c2
   obtain rfl := sj H
   go_enter Try.func111, Try.ntmps111
   go_wp2_with (first | ((with_reducible refine gate_dst (N := 1) rfl ?_); (try (refine gate_guard (by rfl) ?_; dsimp only)); refine box_event ?hg (N := 1) ?hd (cs := #[.int .i64 a0_0, .string a0_1]) (t := 85) ?hr ?_; (case hd => rfl); (case hg => rfl); (case hr => first | (go_simp; done) | (go_simp; rfl)); intro gb240 hg w8 hbox hb; have BK240 := am (hbox); have GW240 := am ((by rw [hg]; exact (below_size Q1) : w.heap.size ≤ gb240)); have GE240 := am ((by rw [hg]; exact (below_size Q1) : w.heap.size ≤ gb240)); replace HB := am (below_step Q1 hb); clear hb hbox hg; obtain ⟨hcz9_0, hcz9_1, hfz9_0, hfz9_1⟩ := bc2f w8 BK240.out))
   go_ret
   exact ⟨er, Q1⟩
 rw [if_pos c2] at H
 have c2b0 : decide (0 < a0_0) = true := decide_eq_true c2
 clear c2
 by_cases c3 : a0_0 ≤ 1000000
 · rw [if_pos c3] at H
   have c3b0 : decide (a0_0 ≤ 1000000) = true := decide_eq_true c3
   clear c3
   obtain rfl := sj H
   go_enter Try.func111, Try.ntmps111
   go_wp2_with (first | ((with_reducible refine gate_dst (N := 1) rfl ?_); (try (refine gate_guard (by rfl) ?_; dsimp only)); refine box_event ?hg (N := 1) ?hd (cs := #[.int .i64 a0_0, .string a0_1]) (t := 85) ?hr ?_; (case hd => rfl); (case hg => rfl); (case hr => first | (go_simp; done) | (go_simp; rfl)); intro gb240 hg w4 hbox hb; have BK240 := am (hbox); have GW240 := am ((by rw [hg]; exact (below_size Q1) : w.heap.size ≤ gb240)); have GE240 := am ((by rw [hg]; exact (below_size Q1) : w.heap.size ≤ gb240)); replace HB := am (below_step Q1 hb); clear hb hbox hg; obtain ⟨hcz5_0, hcz5_1, hfz5_0, hfz5_1⟩ := bc2f w4 BK240.out))
   go_ret
   exact ⟨er, Q1⟩
 rw [if_neg c3] at H
 have c3b0 : decide (a0_0 ≤ 1000000) = false := decide_eq_false c3
 clear c3
 obtain rfl := sj H
 go_enter Try.func111, Try.ntmps111
 go_wp2_with (first | ((with_reducible refine gate_dst (N := 1) rfl ?_); (try (refine gate_guard (by rfl) ?_; dsimp only)); refine box_event ?hg (N := 1) ?hd (cs := #[.int .i64 a0_0, .string a0_1]) (t := 85) ?hr ?_; (case hd => rfl); (case hg => rfl); (case hr => first | (go_simp; done) | (go_simp; rfl)); intro gb240 hg w6 hbox hb; have BK240 := am (hbox); have GW240 := am ((by rw [hg]; exact (below_size Q1) : w.heap.size ≤ gb240)); have GE240 := am ((by rw [hg]; exact (below_size Q1) : w.heap.size ≤ gb240)); replace HB := am (below_step Q1 hb); clear hb hbox hg; obtain ⟨hcz7_0, hcz7_1, hfz7_0, hfz7_1⟩ := bc2f w6 BK240.out))
 go_ret
 exact ⟨er, Q1⟩

end Go.Proofs.Ytkcadcoohmofcaa.QFnExactBeat
