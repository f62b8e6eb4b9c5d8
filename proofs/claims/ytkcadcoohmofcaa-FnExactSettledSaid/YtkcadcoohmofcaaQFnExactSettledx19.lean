import Derived.Test.YtkcadcoohmofcaaSqFnExactSettled
import Derived.Test.YtkcadcoohmofcaaQFnExactSettledx0
import Derived.Test.YtkcadcoohmofcaaQFnExactSettledx18
namespace Go.Proofs.Ytkcadcoohmofcaa.QFnExactSettled
open Go.RowKit Go.Proofs.YtkcadcoohmofcaaW.PrintWords Go.Proofs.YtkcadcoohmofcaaW.PrintLast Go.Proofs.YtkcadcoohmofcaaW.PrintMore Go.Proofs.Ytkcadcoohmofcaa.SqFnExactSettled
attribute [local go_sem] max2_int min2_int max_two min_two max_three min_three max_four min_four Go.Proofs.Ytkcadcoohmofcaa.Set.isSome_setCell
set_option linter.unusedVariables false
set_option linter.unusedSimpArgs false
theorem u19_1 {P : Prop} (h : P := by (with_reducible repeat (first | apply b1_ | apply b2_ | apply b3_)); exact BK367.out) : P := h
mutual
def impl_isMsg.j0 : Nat → Bool → Int → Int → Int → Int → Int → Int → Int → Bool → List (S85) → Option (Bool)
 | 0, _, _, _, _, _, _, _, _, _, _ => none
 | k + 1, x51, x368000, x368001, x368002, x368003, x368004, x368005, x368006, x368007, x368008 => if x51 = true then (some false) else (if x368003 < 1 then (impl_isMsg.j1 k true x368000 x368001 x368002 x368003 x368004 x368005 x368006 x368007 x368008) else (if x368003 > 1000000 then (impl_isMsg.j1 k true x368000 x368001 x368002 x368003 x368004 x368005 x368006 x368007 x368008) else (if x368004 < 0 then (impl_isMsg.j1 k true x368000 x368001 x368002 x368003 x368004 x368005 x368006 x368007 x368008) else (if x368004 > 60 then (impl_isMsg.j1 k true x368000 x368001 x368002 x368003 x368004 x368005 x368006 x368007 x368008) else (if x368005 < 0 then (impl_isMsg.j1 k true x368000 x368001 x368002 x368003 x368004 x368005 x368006 x368007 x368008) else (if x368005 > 1000000 then (impl_isMsg.j1 k true x368000 x368001 x368002 x368003 x368004 x368005 x368006 x368007 x368008) else (if x368006 < 0 then (impl_isMsg.j1 k true x368000 x368001 x368002 x368003 x368004 x368005 x368006 x368007 x368008) else (if x368006 > 1000000 then (impl_isMsg.j1 k true x368000 x368001 x368002 x368003 x368004 x368005 x368006 x368007 x368008) else (impl_isMsg.j1 k (decide ((x368008.length : Int) > 10)) x368000 x368001 x368002 x368003 x368004 x368005 x368006 x368007 x368008)))))))))
def impl_isMsg.j1 : Nat → Bool → Int → Int → Int → Int → Int → Int → Int → Bool → List (S85) → Option (Bool)
 | 0, _, _, _, _, _, _, _, _, _, _ => none
 | k + 1, x95, x368000, x368001, x368002, x368003, x368004, x368005, x368006, x368007, x368008 => if x95 = true then (some false) else ((impl_Entry.f x368008 x368000 x368001 x368002 x368003 x368004 x368005 x368006 x368007 x368008).bind fun t368 => (if t368 = true then (some false) else (if x368000 = 2 then (if x368000 = 0 then (if x368000 = 1 then (if x368004 = 0 then (if x368007 = true then (some true) else (some true)) else (some false)) else (if x368007 = true then (some (x368000 == 3)) else (some true))) else (if x368000 = 1 then (if x368004 = 0 then (if x368007 = true then (some true) else (some true)) else (some false)) else (if x368007 = true then (some (x368000 == 3)) else (some true)))) else (if x368006 = 0 then (if (x368008.length : Int) > 0 then (some false) else (if x368000 = 0 then (if x368000 = 1 then (if x368004 = 0 then (if x368007 = true then (some true) else (some true)) else (some false)) else (if x368007 = true then (some (x368000 == 3)) else (some true))) else (if x368005 = 0 then (if x368000 = 1 then (if x368004 = 0 then (if x368007 = true then (some true) else (some true)) else (some false)) else (if x368007 = true then (some (x368000 == 3)) else (some true))) else (some false)))) else (some false)))))
end
def impl_isMsg.f (k : Nat) (a0_0 : Int) (a0_1 : Int) (a0_2 : Int) (a0_3 : Int) (a0_4 : Int) (a0_5 : Int) (a0_6 : Int) (a0_7 : Bool) (l0_8 : List (S85)) (a1 : Int) : Option (Bool) := if a1 < 1 then (impl_isMsg.j0 k true a0_0 a0_1 a0_2 a0_3 a0_4 a0_5 a0_6 a0_7 l0_8) else (if a1 > 5 then (impl_isMsg.j0 k true a0_0 a0_1 a0_2 a0_3 a0_4 a0_5 a0_6 a0_7 l0_8) else (if a0_0 < 0 then (impl_isMsg.j0 k true a0_0 a0_1 a0_2 a0_3 a0_4 a0_5 a0_6 a0_7 l0_8) else (if a0_0 > 3 then (impl_isMsg.j0 k true a0_0 a0_1 a0_2 a0_3 a0_4 a0_5 a0_6 a0_7 l0_8) else (if a0_1 < 0 then (impl_isMsg.j0 k true a0_0 a0_1 a0_2 a0_3 a0_4 a0_5 a0_6 a0_7 l0_8) else (if a0_1 ≥ a1 then (impl_isMsg.j0 k true a0_0 a0_1 a0_2 a0_3 a0_4 a0_5 a0_6 a0_7 l0_8) else (if a0_2 < 0 then (impl_isMsg.j0 k true a0_0 a0_1 a0_2 a0_3 a0_4 a0_5 a0_6 a0_7 l0_8) else (if a0_2 ≥ a1 then (impl_isMsg.j0 k true a0_0 a0_1 a0_2 a0_3 a0_4 a0_5 a0_6 a0_7 l0_8) else (impl_isMsg.j0 k (a0_1 == a0_2) a0_0 a0_1 a0_2 a0_3 a0_4 a0_5 a0_6 a0_7 l0_8))))))))
theorem impl_isMsg.mono_l : ∀ k, (∀ y0 y1 y2 y3 y4 y5 y6 y7 y8 y9, LeO (impl_isMsg.j0 k y0 y1 y2 y3 y4 y5 y6 y7 y8 y9) (impl_isMsg.j0 (k + 1) y0 y1 y2 y3 y4 y5 y6 y7 y8 y9)) ∧ (∀ y0 y1 y2 y3 y4 y5 y6 y7 y8 y9, LeO (impl_isMsg.j1 k y0 y1 y2 y3 y4 y5 y6 y7 y8 y9) (impl_isMsg.j1 (k + 1) y0 y1 y2 y3 y4 y5 y6 y7 y8 y9))
 | 0 => ⟨fun _ _ _ _ _ _ _ _ _ _ r h => by simp [impl_isMsg.j0] at h, fun _ _ _ _ _ _ _ _ _ _ r h => by simp [impl_isMsg.j1] at h⟩
 | k + 1 => by
   obtain ⟨ih0, ih1⟩ := impl_isMsg.mono_l k
   refine ⟨?_, ?_⟩ <;> intros <;> (first | unfold impl_isMsg.j0 | unfold impl_isMsg.j1) <;> repeat' first
   | (with_reducible exact ih0 _ _ _ _ _ _ _ _ _ _)
   | (with_reducible exact ih1 _ _ _ _ _ _ _ _ _ _)
   | (with_reducible exact LeO.refl _)
   | (with_reducible exact LeO.none _)
   | (with_reducible refine LeO.ite ?_ ?_)
   | (with_reducible refine LeO.bind ?_ (fun _ => ?_))
   | exact ih0 _ _ _ _ _ _ _ _ _ _
   | exact ih1 _ _ _ _ _ _ _ _ _ _
   | exact LeO.none _
   | refine LeO.ite ?_ ?_
   | refine LeO.bind ?_ (fun _ => ?_)
theorem impl_isMsg.mono : ∀ a0 a1 a2 a3 a4 a5 a6 a7 a8 a9 k, LeO (impl_isMsg.f k a0 a1 a2 a3 a4 a5 a6 a7 a8 a9) (impl_isMsg.f (k + 1) a0 a1 a2 a3 a4 a5 a6 a7 a8 a9) := by
 intro a0 a1 a2 a3 a4 a5 a6 a7 a8 a9 k
 obtain ⟨ih0, ih1⟩ := impl_isMsg.mono_l k
 unfold impl_isMsg.f
 repeat' first
     | (with_reducible exact ih0 _ _ _ _ _ _ _ _ _ _)
     | (with_reducible exact ih1 _ _ _ _ _ _ _ _ _ _)
     | (with_reducible exact LeO.refl _)
     | (with_reducible exact LeO.none _)
     | (with_reducible refine LeO.ite ?_ ?_)
     | (with_reducible refine LeO.bind ?_ (fun _ => ?_))
     | exact ih0 _ _ _ _ _ _ _ _ _ _
     | exact ih1 _ _ _ _ _ _ _ _ _ _
     | exact LeO.none _
     | refine LeO.ite ?_ ?_
     | refine LeO.bind ?_ (fun _ => ?_)
set_option maxHeartbeats 8000000 in
set_option maxRecDepth 100000 in
theorem impl_isMsg.calls (k : Nat) (a0_0 : Int) (a0_1 : Int) (a0_2 : Int) (a0_3 : Int) (a0_4 : Int) (a0_5 : Int) (a0_6 : Int) (a0_7 : Bool) (A0_8 : Option Addr) (c0_8 : Nat) (l0_8 : List (S85)) (a1 : Int) (r : Bool) (w : World) (hr0_8 : Kd.C k85 w A0_8 l0_8.length l0_8) (hc0_8 : l0_8.length ≤ c0_8) (h : impl_isMsg.f k a0_0 a0_1 a0_2 a0_3 a0_4 a0_5 a0_6 a0_7 l0_8 a1 = some r) :
   Calls Try.prog 66 #[.agg #[.int .i64 a0_0, .int .i64 a0_1, .int .i64 a0_2, .int .i64 a0_3, .int .i64 a0_4, .int .i64 a0_5, .int .i64 a0_6, .bool a0_7, .slice A0_8 l0_8.length c0_8], .int .i64 a1] w fun e w' => e = .returned (.bool r) ∧ Below w.heap.size w w' := by
 have hu29 := Try.underlying29
 have HR0_8 := am hr0_8
 have HC0_8 := am hc0_8
 clear hr0_8 hc0_8
 have HB := am (Below.refl w.heap.size w)
 have H : (if a1 < 1 then (impl_isMsg.j0 k true a0_0 a0_1 a0_2 a0_3 a0_4 a0_5 a0_6 a0_7 l0_8) else (if a1 > 5 then (impl_isMsg.j0 k true a0_0 a0_1 a0_2 a0_3 a0_4 a0_5 a0_6 a0_7 l0_8) else (if a0_0 < 0 then (impl_isMsg.j0 k true a0_0 a0_1 a0_2 a0_3 a0_4 a0_5 a0_6 a0_7 l0_8) else (if a0_0 > 3 then (impl_isMsg.j0 k true a0_0 a0_1 a0_2 a0_3 a0_4 a0_5 a0_6 a0_7 l0_8) else (if a0_1 < 0 then (impl_isMsg.j0 k true a0_0 a0_1 a0_2 a0_3 a0_4 a0_5 a0_6 a0_7 l0_8) else (if a0_1 ≥ a1 then (impl_isMsg.j0 k true a0_0 a0_1 a0_2 a0_3 a0_4 a0_5 a0_6 a0_7 l0_8) else (if a0_2 < 0 then (impl_isMsg.j0 k true a0_0 a0_1 a0_2 a0_3 a0_4 a0_5 a0_6 a0_7 l0_8) else (if a0_2 ≥ a1 then (impl_isMsg.j0 k true a0_0 a0_1 a0_2 a0_3 a0_4 a0_5 a0_6 a0_7 l0_8) else (impl_isMsg.j0 k (a0_1 == a0_2) a0_0 a0_1 a0_2 a0_3 a0_4 a0_5 a0_6 a0_7 l0_8))))))))) = some r := h
 clear h
 have HC3 := am H
 clear H
 go_enter Try.func66, Try.ntmps66
 go_upto_region 1 with (first | ((with_reducible refine gate_dst (N := 2) rfl ?_); (try (refine gate_guard (by rfl) ?_; dsimp only)); refine box_event ?hg (N := 2) ?hd (cs := #[.int .i64 a0_0, .int .i64 a0_1, .int .i64 a0_2, .int .i64 a0_3, .int .i64 a0_4, .int .i64 a0_5, .int .i64 a0_6, .bool a0_7, .slice A0_8 l0_8.length c0_8]) (t := 29) ?hr ?_; (case hd => rfl); (case hg => rfl); (case hr => first | (go_simp; done) | (go_simp; rfl)); intro gb367 hg w4 hbox hb; have BK367 := am (hbox); have GW367 := am ((by rw [hg]; exact (below_size Q2) : w.heap.size ≤ gb367)); have GE367 := am ((by rw [hg]; exact (below_size Q2) : w.heap.size ≤ gb367)); replace HB := am (below_step Q2 hb); clear hb hbox hg))
 repeat (go_quiet (first | ((with_reducible refine gate_dst (N := 2) rfl ?_); (try (refine gate_guard (by rfl) ?_; dsimp only)); refine box_event ?hg (N := 2) ?hd (cs := #[.int .i64 a0_0, .int .i64 a0_1, .int .i64 a0_2, .int .i64 a0_3, .int .i64 a0_4, .int .i64 a0_5, .int .i64 a0_6, .bool a0_7, .slice A0_8 l0_8.length c0_8]) (t := 29) ?hr ?_; (case hd => rfl); (case hg => rfl); (case hr => first | (go_simp; done) | (go_simp; rfl)); intro gb367 hg w4 hbox hb; have BK367 := am (hbox); have GW367 := am ((by rw [hg]; exact (below_size Q2) : w.heap.size ≤ gb367)); have GE367 := am ((by rw [hg]; exact (below_size Q2) : w.heap.size ≤ gb367)); replace HB := am (below_step Q2 hb); clear hb hbox hg)); go_upto_region 1 with (first | ((with_reducible refine gate_dst (N := 2) rfl ?_); (try (refine gate_guard (by rfl) ?_; dsimp only)); refine box_event ?hg (N := 2) ?hd (cs := #[.int .i64 a0_0, .int .i64 a0_1, .int .i64 a0_2, .int .i64 a0_3, .int .i64 a0_4, .int .i64 a0_5, .int .i64 a0_6, .bool a0_7, .slice A0_8 l0_8.length c0_8]) (t := 29) ?hr ?_; (case hd => rfl); (case hg => rfl); (case hr => first | (go_simp; done) | (go_simp; rfl)); intro gb367 hg w4 hbox hb; have BK367 := am (hbox); have GW367 := am ((by rw [hg]; exact (below_size Q2) : w.heap.size ≤ gb367)); have GE367 := am ((by rw [hg]; exact (below_size Q2) : w.heap.size ≤ gb367)); replace HB := am (below_step Q2 hb); clear hb hbox hg)))
 (try simp only [Act.put, la, lb, lc])
 go_cut [51] (fun v51 wc => ∃ (kq : Nat) (x51_2 : Bool), v51 = .bool x51_2 ∧ Aside0 (impl_isMsg.j0 kq x51_2 a0_0 a0_1 a0_2 a0_3 a0_4 a0_5 a0_6 a0_7 l0_8 = some r) ∧ Aside0 (kq ≤ k) ∧ Aside0 (wc.heap[gb367]? = some (.cells #[.int .i64 a0_0, .int .i64 a0_1, .int .i64 a0_2, .int .i64 a0_3, .int .i64 a0_4, .int .i64 a0_5, .int .i64 a0_6, .bool a0_7, (.slice A0_8 l0_8.length c0_8)] 29 (0, 0))) ∧ Aside0 (Below w.heap.size w wc))
 case first =>
   have H := HC3.out
   clear HC3
   by_cases c5 : a1 < 1
   · rw [if_pos c5] at H
     have c5b0 : decide (a1 < 1) = true := decide_eq_true c5
     clear c5
     (first | rw [c5b0] | (simp only [i64_w, i32_w]; rw [c5b0]) | skip)
     have H' := am H
     clear H
     go_wp2
     repeat (go_quiet (fail); try go_wp2)
     go_meet
     case rel => exact ⟨_, (true), Q3, H', ⟨by first | omega | exact Nat.le_refl _⟩, ⟨u19_1⟩, ⟨Q2⟩⟩
   rw [if_neg c5] at H
   have c5b0 : decide (a1 < 1) = false := decide_eq_false c5
   clear c5
   (first | rw [c5b0] | (simp only [i64_w, i32_w]; rw [c5b0]) | skip)
   by_cases c6 : a1 > 5
   · rw [if_pos c6] at H
     have c6b0 : decide (5 < a1) = true := decide_eq_true c6
     clear c6
     have H' := am H
     clear H
     go_wp2
     repeat (go_quiet (fail); try go_wp2)
     go_meet
     case rel => exact ⟨_, (true), Q3, H', ⟨by first | omega | exact Nat.le_refl _⟩, ⟨u19_1⟩, ⟨Q2⟩⟩
   rw [if_neg c6] at H
   have c6b0 : decide (5 < a1) = false := decide_eq_false c6
   clear c6
   by_cases c7 : a0_0 < 0
   · rw [if_pos c7] at H
     have c7b0 : decide (a0_0 < 0) = true := decide_eq_true c7
     clear c7
     have H' := am H
     clear H
     obtain ⟨hcz8_0, hcz8_1, hcz8_2, hcz8_3, hcz8_4, hcz8_5, hcz8_6, hcz8_7, hcz8_8⟩ := bc9 w4 BK367.out
     go_wp2
     repeat (go_quiet (fail); try go_wp2)
     go_meet
     case rel => exact ⟨_, (true), Q3, H', ⟨by first | omega | exact Nat.le_refl _⟩, ⟨u19_1⟩, ⟨Q2⟩⟩
   rw [if_neg c7] at H
   have c7b0 : decide (a0_0 < 0) = false := decide_eq_false c7
   clear c7
   by_cases c9 : a0_0 > 3
   · rw [if_pos c9] at H
     have c9b0 : decide (3 < a0_0) = true := decide_eq_true c9
     clear c9
     have H' := am H
     clear H
     obtain ⟨hcz10_0, hcz10_1, hcz10_2, hcz10_3, hcz10_4, hcz10_5, hcz10_6, hcz10_7, hcz10_8⟩ := bc9 w4 BK367.out
     go_wp2
     repeat (go_quiet (fail); try go_wp2)
     go_meet
     case rel => exact ⟨_, (true), Q3, H', ⟨by first | omega | exact Nat.le_refl _⟩, ⟨u19_1⟩, ⟨Q2⟩⟩
   rw [if_neg c9] at H
   have c9b0 : decide (3 < a0_0) = false := decide_eq_false c9
   clear c9
   by_cases c11 : a0_1 < 0
   · rw [if_pos c11] at H
     have c11b0 : decide (a0_1 < 0) = true := decide_eq_true c11
     clear c11
     have H' := am H
     clear H
     obtain ⟨hcz12_0, hcz12_1, hcz12_2, hcz12_3, hcz12_4, hcz12_5, hcz12_6, hcz12_7, hcz12_8⟩ := bc9 w4 BK367.out
     go_wp2
     repeat (go_quiet (fail); try go_wp2)
     go_meet
     case rel => exact ⟨_, (true), Q3, H', ⟨by first | omega | exact Nat.le_refl _⟩, ⟨u19_1⟩, ⟨Q2⟩⟩
   rw [if_neg c11] at H
   have c11b0 : decide (a0_1 < 0) = false := decide_eq_false c11
   clear c11
   by_cases c13 : a0_1 ≥ a1
   · rw [if_pos c13] at H
     have c13b0 : decide (a1 ≤ a0_1) = true := decide_eq_true c13
     clear c13
     have H' := am H
     clear H
     obtain ⟨hcz14_0, hcz14_1, hcz14_2, hcz14_3, hcz14_4, hcz14_5, hcz14_6, hcz14_7, hcz14_8⟩ := bc9 w4 BK367.out
     go_wp2
     repeat (go_quiet (fail); try go_wp2)
     go_meet
     case rel => exact ⟨_, (true), Q3, H', ⟨by first | omega | exact Nat.le_refl _⟩, ⟨u19_1⟩, ⟨Q2⟩⟩
   rw [if_neg c13] at H
   have c13b0 : decide (a1 ≤ a0_1) = false := decide_eq_false c13
   clear c13
   by_cases c15 : a0_2 < 0
   · rw [if_pos c15] at H
     have c15b0 : decide (a0_2 < 0) = true := decide_eq_true c15
     clear c15
     have H' := am H
     clear H
     obtain ⟨hcz16_0, hcz16_1, hcz16_2, hcz16_3, hcz16_4, hcz16_5, hcz16_6, hcz16_7, hcz16_8⟩ := bc9 w4 BK367.out
     go_wp2
     repeat (go_quiet (fail); try go_wp2)
     go_meet
     case rel => exact ⟨_, (true), Q3, H', ⟨by first | omega | exact Nat.le_refl _⟩, ⟨u19_1⟩, ⟨Q2⟩⟩
   rw [if_neg c15] at H
   have c15b0 : decide (a0_2 < 0) = false := decide_eq_false c15
   clear c15
   by_cases c17 : a0_2 ≥ a1
   · rw [if_pos c17] at H
     have c17b0 : decide (a1 ≤ a0_2) = true := decide_eq_true c17
     clear c17
     have H' := am H
     clear H
     obtain ⟨hcz18_0, hcz18_1, hcz18_2, hcz18_3, hcz18_4, hcz18_5, hcz18_6, hcz18_7, hcz18_8⟩ := bc9 w4 BK367.out
     go_wp2
     repeat (go_quiet (fail); try go_wp2)
     go_meet
     case rel => exact ⟨_, (true), Q3, H', ⟨by first | omega | exact Nat.le_refl _⟩, ⟨u19_1⟩, ⟨Q2⟩⟩
   rw [if_neg c17] at H
   have c17b0 : decide (a1 ≤ a0_2) = false := decide_eq_false c17
   clear c17
   have H' := am H
   clear H
   obtain ⟨hcz19_0, hcz19_1, hcz19_2, hcz19_3, hcz19_4, hcz19_5, hcz19_6, hcz19_7, hcz19_8⟩ := bc9 w4 BK367.out
   go_wp2
   repeat (go_quiet (fail); try go_wp2)
   go_meet
   case rel => exact ⟨_, ((a0_1 == a0_2)), Q3, H', ⟨by first | omega | exact Nat.le_refl _⟩, ⟨u19_1⟩, ⟨Q2⟩⟩
 clear HC3
 obtain ⟨kq, x51_2, rfl, HA, HJ2, BK367, HB⟩ := hcut
 cases kq with
 | zero => exact absurd HA.out (by simp [impl_isMsg.j0])
 | succ kj2 =>
   have H := HA.out
   clear HA
   simp only [impl_isMsg.j0] at H
   by_cases c20 : x51_2 = true
   · subst c20
     rw [if_pos rfl] at H
     obtain rfl := sj H
     go_wp2
     repeat (go_quiet (fail); try go_wp2)
     go_ret
     exact ⟨er, Q2⟩
   replace c20 := Bool.eq_false_iff.mpr c20
   subst c20
   rw [nf] at H
   have HC21 := am H
   clear H
   go_upto_region 3 with (fail)
   repeat (go_quiet (fail); go_upto_region 3 with (fail))
   go_cut [95] (fun v95 wc => ∃ (kq : Nat) (x95_20 : Bool), v95 = .bool x95_20 ∧ Aside0 (impl_isMsg.j1 kq x95_20 a0_0 a0_1 a0_2 a0_3 a0_4 a0_5 a0_6 a0_7 l0_8 = some r) ∧ Aside0 (kq ≤ kj2) ∧ Aside0 (wc.heap[gb367]? = some (.cells #[.int .i64 a0_0, .int .i64 a0_1, .int .i64 a0_2, .int .i64 a0_3, .int .i64 a0_4, .int .i64 a0_5, .int .i64 a0_6, .bool a0_7, (.slice A0_8 l0_8.length c0_8)] 29 (0, 0))) ∧ Aside0 (Below w.heap.size w wc))
   case first =>
     have H := HC21.out
     clear HC21
     by_cases c22 : a0_3 < 1
     · rw [if_pos c22] at H
       have c22b0 : decide (a0_3 < 1) = true := decide_eq_true c22
       clear c22
       (first | rw [c22b0] | (simp only [i64_w, i32_w]; rw [c22b0]) | skip)
       have H' := am H
       clear H
       obtain ⟨hcz23_0, hcz23_1, hcz23_2, hcz23_3, hcz23_4, hcz23_5, hcz23_6, hcz23_7, hcz23_8⟩ := bc9 wc BK367.out
       go_wp2
       repeat (go_quiet (fail); try go_wp2)
       go_meet
       case rel => exact ⟨_, (true), Q3, H', ⟨Q10⟩, ⟨u19_1⟩, ⟨Q2⟩⟩
     rw [if_neg c22] at H
     have c22b0 : decide (a0_3 < 1) = false := decide_eq_false c22
     clear c22
     (first | rw [c22b0] | (simp only [i64_w, i32_w]; rw [c22b0]) | skip)
     by_cases c24 : a0_3 > 1000000
     · rw [if_pos c24] at H
       have c24b0 : decide (1000000 < a0_3) = true := decide_eq_true c24
       clear c24
       have H' := am H
       clear H
       obtain ⟨hcz25_0, hcz25_1, hcz25_2, hcz25_3, hcz25_4, hcz25_5, hcz25_6, hcz25_7, hcz25_8⟩ := bc9 wc BK367.out
       go_wp2
       repeat (go_quiet (fail); try go_wp2)
       go_meet
       case rel => exact ⟨_, (true), Q3, H', ⟨Q10⟩, ⟨u19_1⟩, ⟨Q2⟩⟩
     rw [if_neg c24] at H
     have c24b0 : decide (1000000 < a0_3) = false := decide_eq_false c24
     clear c24
     by_cases c26 : a0_4 < 0
     · rw [if_pos c26] at H
       have c26b0 : decide (a0_4 < 0) = true := decide_eq_true c26
       clear c26
       have H' := am H
       clear H
       obtain ⟨hcz27_0, hcz27_1, hcz27_2, hcz27_3, hcz27_4, hcz27_5, hcz27_6, hcz27_7, hcz27_8⟩ := bc9 wc BK367.out
       go_wp2
       repeat (go_quiet (fail); try go_wp2)
       go_meet
       case rel => exact ⟨_, (true), Q3, H', ⟨Q10⟩, ⟨u19_1⟩, ⟨Q2⟩⟩
     rw [if_neg c26] at H
     have c26b0 : decide (a0_4 < 0) = false := decide_eq_false c26
     clear c26
     by_cases c28 : a0_4 > 60
     · rw [if_pos c28] at H
       have c28b0 : decide (60 < a0_4) = true := decide_eq_true c28
       clear c28
       have H' := am H
       clear H
       obtain ⟨hcz29_0, hcz29_1, hcz29_2, hcz29_3, hcz29_4, hcz29_5, hcz29_6, hcz29_7, hcz29_8⟩ := bc9 wc BK367.out
       go_wp2
       repeat (go_quiet (fail); try go_wp2)
       go_meet
       case rel => exact ⟨_, (true), Q3, H', ⟨Q10⟩, ⟨u19_1⟩, ⟨Q2⟩⟩
     rw [if_neg c28] at H
     have c28b0 : decide (60 < a0_4) = false := decide_eq_false c28
     clear c28
     by_cases c30 : a0_5 < 0
     · rw [if_pos c30] at H
       have c30b0 : decide (a0_5 < 0) = true := decide_eq_true c30
       clear c30
       have H' := am H
       clear H
       obtain ⟨hcz31_0, hcz31_1, hcz31_2, hcz31_3, hcz31_4, hcz31_5, hcz31_6, hcz31_7, hcz31_8⟩ := bc9 wc BK367.out
       go_wp2
       repeat (go_quiet (fail); try go_wp2)
       go_meet
       case rel => exact ⟨_, (true), Q3, H', ⟨Q10⟩, ⟨u19_1⟩, ⟨Q2⟩⟩
     rw [if_neg c30] at H
     have c30b0 : decide (a0_5 < 0) = false := decide_eq_false c30
     clear c30
     by_cases c32 : a0_5 > 1000000
     · rw [if_pos c32] at H
       have c32b0 : decide (1000000 < a0_5) = true := decide_eq_true c32
       clear c32
       have H' := am H
       clear H
       obtain ⟨hcz33_0, hcz33_1, hcz33_2, hcz33_3, hcz33_4, hcz33_5, hcz33_6, hcz33_7, hcz33_8⟩ := bc9 wc BK367.out
       go_wp2
       repeat (go_quiet (fail); try go_wp2)
       go_meet
       case rel => exact ⟨_, (true), Q3, H', ⟨Q10⟩, ⟨u19_1⟩, ⟨Q2⟩⟩
     rw [if_neg c32] at H
     have c32b0 : decide (1000000 < a0_5) = false := decide_eq_false c32
     clear c32
     by_cases c34 : a0_6 < 0
     · rw [if_pos c34] at H
       have c34b0 : decide (a0_6 < 0) = true := decide_eq_true c34
       clear c34
       have H' := am H
       clear H
       obtain ⟨hcz35_0, hcz35_1, hcz35_2, hcz35_3, hcz35_4, hcz35_5, hcz35_6, hcz35_7, hcz35_8⟩ := bc9 wc BK367.out
       go_wp2
       repeat (go_quiet (fail); try go_wp2)
       go_meet
       case rel => exact ⟨_, (true), Q3, H', ⟨Q10⟩, ⟨u19_1⟩, ⟨Q2⟩⟩
     rw [if_neg c34] at H
     have c34b0 : decide (a0_6 < 0) = false := decide_eq_false c34
     clear c34
     by_cases c36 : a0_6 > 1000000
     · rw [if_pos c36] at H
       have c36b0 : decide (1000000 < a0_6) = true := decide_eq_true c36
       clear c36
       have H' := am H
       clear H
       obtain ⟨hcz37_0, hcz37_1, hcz37_2, hcz37_3, hcz37_4, hcz37_5, hcz37_6, hcz37_7, hcz37_8⟩ := bc9 wc BK367.out
       go_wp2
       repeat (go_quiet (fail); try go_wp2)
       go_meet
       case rel => exact ⟨_, (true), Q3, H', ⟨Q10⟩, ⟨u19_1⟩, ⟨Q2⟩⟩
     rw [if_neg c36] at H
     have c36b0 : decide (1000000 < a0_6) = false := decide_eq_false c36
     clear c36
     have H' := am H
     clear H
     obtain ⟨hcz38_0, hcz38_1, hcz38_2, hcz38_3, hcz38_4, hcz38_5, hcz38_6, hcz38_7, hcz38_8⟩ := bc9 wc BK367.out
     go_wp2
     repeat (go_quiet (fail); try go_wp2)
     go_meet
     case rel => exact ⟨_, (decide ((l0_8.length : Int) > 10)), Q3, H', ⟨Q10⟩, ⟨u19_1⟩, ⟨Q2⟩⟩
   clear HC21
   try clear c20
   obtain ⟨kq, x95_20, rfl, HA, HJ20, BK367, HB⟩ := hcut
   cases kq with
   | zero => exact absurd HA.out (by simp [impl_isMsg.j1])
   | succ kj20 =>
     have H := HA.out
     clear HA
     simp only [impl_isMsg.j1] at H
     by_cases c39 : x95_20 = true
     · subst c39
       rw [if_pos rfl] at H
       obtain rfl := sj H
       go_wp2
       repeat (go_quiet (fail); try go_wp2)
       go_ret
       exact ⟨er, Q2⟩
     replace c39 := Bool.eq_false_iff.mpr c39
     subst c39
     rw [nf] at H
     replace H := Option.bind_eq_some_iff.mp H
     obtain ⟨t368, A400, H⟩ := H
     have A40 := am A400
     clear A400
     have H9 := am H
     clear H
     obtain ⟨hcz41_0, hcz41_1, hcz41_2, hcz41_3, hcz41_4, hcz41_5, hcz41_6, hcz41_7, hcz41_8⟩ := bc9 wc BK367.out
     go_upto_if 99 with (first | (go_at_call 109; (with_reducible refine (impl_Entry.calls _ _ l0_8 a0_0 a0_1 a0_2 a0_3 a0_4 a0_5 a0_6 a0_7 A0_8 c0_8 l0_8 t368 _ ?side1 ?side2 ?side3 ?side4 ?side5 A40.out).mono ?_); (case side1 => exact Q8); (case side2 => exact HC0_8.out); (case side3 => exact Q8); (case side4 => exact HC0_8.out); (case side5 => exact (by exact u19_1)); rintro e w42 ⟨rfl, hb⟩; replace BK367 := am (bb_ BK367.out u19_1 hb); replace HB := am (below_step Q2 hb); (try clear hb); (try clear hb2); (try clear hk); (try clear hi)))
     repeat (go_quiet (first | (go_at_call 109; (with_reducible refine (impl_Entry.calls _ _ l0_8 a0_0 a0_1 a0_2 a0_3 a0_4 a0_5 a0_6 a0_7 A0_8 c0_8 l0_8 t368 _ ?side1 ?side2 ?side3 ?side4 ?side5 A40.out).mono ?_); (case side1 => exact Q8); (case side2 => exact HC0_8.out); (case side3 => exact Q8); (case side4 => exact HC0_8.out); (case side5 => exact (by exact u19_1)); rintro e w42 ⟨rfl, hb⟩; replace BK367 := am (bb_ BK367.out u19_1 hb); replace HB := am (below_step Q2 hb); (try clear hb); (try clear hb2); (try clear hk); (try clear hi))); go_upto_if 99 with (first | (go_at_call 109; (with_reducible refine (impl_Entry.calls _ _ l0_8 a0_0 a0_1 a0_2 a0_3 a0_4 a0_5 a0_6 a0_7 A0_8 c0_8 l0_8 t368 _ ?side1 ?side2 ?side3 ?side4 ?side5 A40.out).mono ?_); (case side1 => exact Q8); (case side2 => exact HC0_8.out); (case side3 => exact Q8); (case side4 => exact HC0_8.out); (case side5 => exact (by exact u19_1)); rintro e w42 ⟨rfl, hb⟩; replace BK367 := am (bb_ BK367.out u19_1 hb); replace HB := am (below_step Q2 hb); (try clear hb); (try clear hb2); (try clear hk); (try clear hi))))
     have H := H9.out
     clear H9
     by_cases c43 : t368 = true
     · subst c43
       rw [if_pos rfl] at H
       obtain rfl := sj H
       go_wp2
       repeat (go_quiet (fail); try go_wp2)
       go_ret
       exact ⟨er, Q2⟩
     replace c43 := Bool.eq_false_iff.mpr c43
     subst c43
     rw [nf] at H
     by_cases c44 : a0_0 = 2
     · rw [if_pos c44] at H
       have c44b0 : (a0_0 == 2) = true := beq_iff_eq.mpr c44
       have c44b1 : (a0_0 != 2) = false := bne_eq_false_iff_eq.mpr c44
       clear c44
       (first | rw [c44b0] | (simp only [i64_w, i32_w]; rw [c44b0]) | skip)
       by_cases c45 : a0_0 = 0
       rotate_left
       · rw [if_neg c45] at H
         have c45b0 : (a0_0 == 0) = false := beq_eq_false_iff_ne.mpr c45
         have c45b1 : (a0_0 != 0) = true := bne_iff_ne.mpr c45
         by_cases c55 : a0_0 = 1
         rotate_left
         · rw [if_neg c55] at H
           have c55b0 : (a0_0 == 1) = false := beq_eq_false_iff_ne.mpr c55
           have c55b1 : (a0_0 != 1) = true := bne_iff_ne.mpr c55
           by_cases c61 : a0_7 = true
           · subst c61
             rw [if_pos rfl] at H
             obtain rfl := sj H
             obtain ⟨hcz62_0, hcz62_1, hcz62_2, hcz62_3, hcz62_4, hcz62_5, hcz62_6, hcz62_7, hcz62_8⟩ := bc9 w42 BK367.out
             go_wp2
             repeat (go_quiet (fail); try go_wp2)
             go_ret
             exact ⟨er, Q2⟩
           replace c61 := Bool.eq_false_iff.mpr c61
           subst c61
           rw [nf] at H
           obtain rfl := sj H
           obtain ⟨hcz63_0, hcz63_1, hcz63_2, hcz63_3, hcz63_4, hcz63_5, hcz63_6, hcz63_7, hcz63_8⟩ := bc9 w42 BK367.out
           go_wp2
           repeat (go_quiet (fail); try go_wp2)
           go_ret
           exact ⟨er, Q2⟩
         rw [if_pos c55] at H
         have c55b0 : (a0_0 == 1) = true := beq_iff_eq.mpr c55
         have c55b1 : (a0_0 != 1) = false := bne_eq_false_iff_eq.mpr c55
         clear c55
         by_cases c56 : a0_4 = 0
         rotate_left
         · rw [if_neg c56] at H
           have c56b0 : (a0_4 == 0) = false := beq_eq_false_iff_ne.mpr c56
           have c56b1 : (a0_4 != 0) = true := bne_iff_ne.mpr c56
           obtain rfl := sj H
           obtain ⟨hcz60_0, hcz60_1, hcz60_2, hcz60_3, hcz60_4, hcz60_5, hcz60_6, hcz60_7, hcz60_8⟩ := bc9 w42 BK367.out
           go_wp2
           repeat (go_quiet (fail); try go_wp2)
           go_ret
           exact ⟨er, Q2⟩
         rw [if_pos c56] at H
         have c56b0 : (a0_4 == 0) = true := beq_iff_eq.mpr c56
         have c56b1 : (a0_4 != 0) = false := bne_eq_false_iff_eq.mpr c56
         clear c56
         by_cases c57 : a0_7 = true
         · subst c57
           rw [if_pos rfl] at H
           obtain rfl := sj H
           obtain ⟨hcz58_0, hcz58_1, hcz58_2, hcz58_3, hcz58_4, hcz58_5, hcz58_6, hcz58_7, hcz58_8⟩ := bc9 w42 BK367.out
           go_wp2
           repeat (go_quiet (fail); try go_wp2)
           go_ret
           exact ⟨er, Q2⟩
         replace c57 := Bool.eq_false_iff.mpr c57
         subst c57
         rw [nf] at H
         obtain rfl := sj H
         obtain ⟨hcz59_0, hcz59_1, hcz59_2, hcz59_3, hcz59_4, hcz59_5, hcz59_6, hcz59_7, hcz59_8⟩ := bc9 w42 BK367.out
         go_wp2
         repeat (go_quiet (fail); try go_wp2)
         go_ret
         exact ⟨er, Q2⟩
       rw [if_pos c45] at H
       have c45b0 : (a0_0 == 0) = true := beq_iff_eq.mpr c45
       have c45b1 : (a0_0 != 0) = false := bne_eq_false_iff_eq.mpr c45
       clear c45
       by_cases c46 : a0_0 = 1
       rotate_left
       · rw [if_neg c46] at H
         have c46b0 : (a0_0 == 1) = false := beq_eq_false_iff_ne.mpr c46
         have c46b1 : (a0_0 != 1) = true := bne_iff_ne.mpr c46
         by_cases c52 : a0_7 = true
         · subst c52
           rw [if_pos rfl] at H
           obtain rfl := sj H
           obtain ⟨hcz53_0, hcz53_1, hcz53_2, hcz53_3, hcz53_4, hcz53_5, hcz53_6, hcz53_7, hcz53_8⟩ := bc9 w42 BK367.out
           go_wp2
           repeat (go_quiet (fail); try go_wp2)
           go_ret
           exact ⟨er, Q2⟩
         replace c52 := Bool.eq_false_iff.mpr c52
         subst c52
         rw [nf] at H
         obtain rfl := sj H
         obtain ⟨hcz54_0, hcz54_1, hcz54_2, hcz54_3, hcz54_4, hcz54_5, hcz54_6, hcz54_7, hcz54_8⟩ := bc9 w42 BK367.out
         go_wp2
         repeat (go_quiet (fail); try go_wp2)
         go_ret
         exact ⟨er, Q2⟩
       rw [if_pos c46] at H
       have c46b0 : (a0_0 == 1) = true := beq_iff_eq.mpr c46
       have c46b1 : (a0_0 != 1) = false := bne_eq_false_iff_eq.mpr c46
       clear c46
       by_cases c47 : a0_4 = 0
       rotate_left
       · rw [if_neg c47] at H
         have c47b0 : (a0_4 == 0) = false := beq_eq_false_iff_ne.mpr c47
         have c47b1 : (a0_4 != 0) = true := bne_iff_ne.mpr c47
         obtain rfl := sj H
         obtain ⟨hcz51_0, hcz51_1, hcz51_2, hcz51_3, hcz51_4, hcz51_5, hcz51_6, hcz51_7, hcz51_8⟩ := bc9 w42 BK367.out
         go_wp2
         repeat (go_quiet (fail); try go_wp2)
         go_ret
         exact ⟨er, Q2⟩
       rw [if_pos c47] at H
       have c47b0 : (a0_4 == 0) = true := beq_iff_eq.mpr c47
       have c47b1 : (a0_4 != 0) = false := bne_eq_false_iff_eq.mpr c47
       clear c47
       by_cases c48 : a0_7 = true
       · subst c48
         rw [if_pos rfl] at H
         obtain rfl := sj H
         obtain ⟨hcz49_0, hcz49_1, hcz49_2, hcz49_3, hcz49_4, hcz49_5, hcz49_6, hcz49_7, hcz49_8⟩ := bc9 w42 BK367.out
         go_wp2
         repeat (go_quiet (fail); try go_wp2)
         go_ret
         exact ⟨er, Q2⟩
       replace c48 := Bool.eq_false_iff.mpr c48
       subst c48
       rw [nf] at H
       obtain rfl := sj H
       obtain ⟨hcz50_0, hcz50_1, hcz50_2, hcz50_3, hcz50_4, hcz50_5, hcz50_6, hcz50_7, hcz50_8⟩ := bc9 w42 BK367.out
       go_wp2
       repeat (go_quiet (fail); try go_wp2)
       go_ret
       exact ⟨er, Q2⟩
     rw [if_neg c44] at H
     have c44b0 : (a0_0 == 2) = false := beq_eq_false_iff_ne.mpr c44
     have c44b1 : (a0_0 != 2) = true := bne_iff_ne.mpr c44
     (first | rw [c44b0] | (simp only [i64_w, i32_w]; rw [c44b0]) | skip)
     by_cases c64 : a0_6 = 0
     rotate_left
     · rw [if_neg c64] at H
       have c64b0 : (a0_6 == 0) = false := beq_eq_false_iff_ne.mpr c64
       have c64b1 : (a0_6 != 0) = true := bne_iff_ne.mpr c64
       obtain rfl := sj H
       obtain ⟨hcz88_0, hcz88_1, hcz88_2, hcz88_3, hcz88_4, hcz88_5, hcz88_6, hcz88_7, hcz88_8⟩ := bc9 w42 BK367.out
       go_wp2
       repeat (go_quiet (fail); try go_wp2)
       go_ret
       exact ⟨er, Q2⟩
     rw [if_pos c64] at H
     have c64b0 : (a0_6 == 0) = true := beq_iff_eq.mpr c64
     have c64b1 : (a0_6 != 0) = false := bne_eq_false_iff_eq.mpr c64
     clear c64
     by_cases c65 : (l0_8.length : Int) > 0
     · rw [if_pos c65] at H
       have c65b0 : decide (0 < (l0_8.length : Int)) = true := decide_eq_true c65
       have c65b1 : decide (0 < l0_8.length) = true := decide_eq_true (by omega)
       clear c65
       obtain rfl := sj H
       obtain ⟨hcz66_0, hcz66_1, hcz66_2, hcz66_3, hcz66_4, hcz66_5, hcz66_6, hcz66_7, hcz66_8⟩ := bc9 w42 BK367.out
       go_wp2
       repeat (go_quiet (fail); try go_wp2)
       go_ret
       exact ⟨er, Q2⟩
     rw [if_neg c65] at H
     have c65b0 : decide (0 < (l0_8.length : Int)) = false := decide_eq_false c65
     have c65b1 : decide (0 < l0_8.length) = false := decide_eq_false (by omega)
     clear c65
     by_cases c67 : a0_0 = 0
     · rw [if_pos c67] at H
       have c67b0 : (a0_0 == 0) = true := beq_iff_eq.mpr c67
       have c67b1 : (a0_0 != 0) = false := bne_eq_false_iff_eq.mpr c67
       clear c67
       by_cases c68 : a0_0 = 1
       rotate_left
       · rw [if_neg c68] at H
         have c68b0 : (a0_0 == 1) = false := beq_eq_false_iff_ne.mpr c68
         have c68b1 : (a0_0 != 1) = true := bne_iff_ne.mpr c68
         by_cases c74 : a0_7 = true
         · subst c74
           rw [if_pos rfl] at H
           obtain rfl := sj H
           obtain ⟨hcz75_0, hcz75_1, hcz75_2, hcz75_3, hcz75_4, hcz75_5, hcz75_6, hcz75_7, hcz75_8⟩ := bc9 w42 BK367.out
           go_wp2
           repeat (go_quiet (fail); try go_wp2)
           go_ret
           exact ⟨er, Q2⟩
         replace c74 := Bool.eq_false_iff.mpr c74
         subst c74
         rw [nf] at H
         obtain rfl := sj H
         obtain ⟨hcz76_0, hcz76_1, hcz76_2, hcz76_3, hcz76_4, hcz76_5, hcz76_6, hcz76_7, hcz76_8⟩ := bc9 w42 BK367.out
         go_wp2
         repeat (go_quiet (fail); try go_wp2)
         go_ret
         exact ⟨er, Q2⟩
       rw [if_pos c68] at H
       have c68b0 : (a0_0 == 1) = true := beq_iff_eq.mpr c68
       have c68b1 : (a0_0 != 1) = false := bne_eq_false_iff_eq.mpr c68
       clear c68
       by_cases c69 : a0_4 = 0
       rotate_left
       · rw [if_neg c69] at H
         have c69b0 : (a0_4 == 0) = false := beq_eq_false_iff_ne.mpr c69
         have c69b1 : (a0_4 != 0) = true := bne_iff_ne.mpr c69
         obtain rfl := sj H
         obtain ⟨hcz73_0, hcz73_1, hcz73_2, hcz73_3, hcz73_4, hcz73_5, hcz73_6, hcz73_7, hcz73_8⟩ := bc9 w42 BK367.out
         go_wp2
         repeat (go_quiet (fail); try go_wp2)
         go_ret
         exact ⟨er, Q2⟩
       rw [if_pos c69] at H
       have c69b0 : (a0_4 == 0) = true := beq_iff_eq.mpr c69
       have c69b1 : (a0_4 != 0) = false := bne_eq_false_iff_eq.mpr c69
       clear c69
       by_cases c70 : a0_7 = true
       · subst c70
         rw [if_pos rfl] at H
         obtain rfl := sj H
         obtain ⟨hcz71_0, hcz71_1, hcz71_2, hcz71_3, hcz71_4, hcz71_5, hcz71_6, hcz71_7, hcz71_8⟩ := bc9 w42 BK367.out
         go_wp2
         repeat (go_quiet (fail); try go_wp2)
         go_ret
         exact ⟨er, Q2⟩
       replace c70 := Bool.eq_false_iff.mpr c70
       subst c70
       rw [nf] at H
       obtain rfl := sj H
       obtain ⟨hcz72_0, hcz72_1, hcz72_2, hcz72_3, hcz72_4, hcz72_5, hcz72_6, hcz72_7, hcz72_8⟩ := bc9 w42 BK367.out
       go_wp2
       repeat (go_quiet (fail); try go_wp2)
       go_ret
       exact ⟨er, Q2⟩
     rw [if_neg c67] at H
     have c67b0 : (a0_0 == 0) = false := beq_eq_false_iff_ne.mpr c67
     have c67b1 : (a0_0 != 0) = true := bne_iff_ne.mpr c67
     by_cases c77 : a0_5 = 0
     rotate_left
     · rw [if_neg c77] at H
       have c77b0 : (a0_5 == 0) = false := beq_eq_false_iff_ne.mpr c77
       have c77b1 : (a0_5 != 0) = true := bne_iff_ne.mpr c77
       obtain rfl := sj H
       obtain ⟨hcz87_0, hcz87_1, hcz87_2, hcz87_3, hcz87_4, hcz87_5, hcz87_6, hcz87_7, hcz87_8⟩ := bc9 w42 BK367.out
       go_wp2
       repeat (go_quiet (fail); try go_wp2)
       go_ret
       exact ⟨er, Q2⟩
     rw [if_pos c77] at H
     have c77b0 : (a0_5 == 0) = true := beq_iff_eq.mpr c77
     have c77b1 : (a0_5 != 0) = false := bne_eq_false_iff_eq.mpr c77
     clear c77
     by_cases c78 : a0_0 = 1
     rotate_left
     · rw [if_neg c78] at H
       have c78b0 : (a0_0 == 1) = false := beq_eq_false_iff_ne.mpr c78
       have c78b1 : (a0_0 != 1) = true := bne_iff_ne.mpr c78
       by_cases c84 : a0_7 = true
       · subst c84
         rw [if_pos rfl] at H
         obtain rfl := sj H
         obtain ⟨hcz85_0, hcz85_1, hcz85_2, hcz85_3, hcz85_4, hcz85_5, hcz85_6, hcz85_7, hcz85_8⟩ := bc9 w42 BK367.out
         go_wp2
         repeat (go_quiet (fail); try go_wp2)
         go_ret
         exact ⟨er, Q2⟩
       replace c84 := Bool.eq_false_iff.mpr c84
       subst c84
       rw [nf] at H
       obtain rfl := sj H
       obtain ⟨hcz86_0, hcz86_1, hcz86_2, hcz86_3, hcz86_4, hcz86_5, hcz86_6, hcz86_7, hcz86_8⟩ := bc9 w42 BK367.out
       go_wp2
       repeat (go_quiet (fail); try go_wp2)
       go_ret
       exact ⟨er, Q2⟩
     rw [if_pos c78] at H
     have c78b0 : (a0_0 == 1) = true := beq_iff_eq.mpr c78
     have c78b1 : (a0_0 != 1) = false := bne_eq_false_iff_eq.mpr c78
     clear c78
     by_cases c79 : a0_4 = 0
     rotate_left
     · rw [if_neg c79] at H
       have c79b0 : (a0_4 == 0) = false := beq_eq_false_iff_ne.mpr c79
       have c79b1 : (a0_4 != 0) = true := bne_iff_ne.mpr c79
       obtain rfl := sj H
       obtain ⟨hcz83_0, hcz83_1, hcz83_2, hcz83_3, hcz83_4, hcz83_5, hcz83_6, hcz83_7, hcz83_8⟩ := bc9 w42 BK367.out
       go_wp2
       repeat (go_quiet (fail); try go_wp2)
       go_ret
       exact ⟨er, Q2⟩
     rw [if_pos c79] at H
     have c79b0 : (a0_4 == 0) = true := beq_iff_eq.mpr c79
     have c79b1 : (a0_4 != 0) = false := bne_eq_false_iff_eq.mpr c79
     clear c79
     by_cases c80 : a0_7 = true
     · subst c80
       rw [if_pos rfl] at H
       obtain rfl := sj H
       obtain ⟨hcz81_0, hcz81_1, hcz81_2, hcz81_3, hcz81_4, hcz81_5, hcz81_6, hcz81_7, hcz81_8⟩ := bc9 w42 BK367.out
       go_wp2
       repeat (go_quiet (fail); try go_wp2)
       go_ret
       exact ⟨er, Q2⟩
     replace c80 := Bool.eq_false_iff.mpr c80
     subst c80
     rw [nf] at H
     obtain rfl := sj H
     obtain ⟨hcz82_0, hcz82_1, hcz82_2, hcz82_3, hcz82_4, hcz82_5, hcz82_6, hcz82_7, hcz82_8⟩ := bc9 w42 BK367.out
     go_wp2
     repeat (go_quiet (fail); try go_wp2)
     go_ret
     exact ⟨er, Q2⟩
end Go.Proofs.Ytkcadcoohmofcaa.QFnExactSettled
