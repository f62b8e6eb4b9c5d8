-- Printed by the session's own program wip/prx.py.
import Derived.Test.YtkcadcoohmofcaaSqFnExactElect
import Derived.Test.YtkcadcoohmofcaaQFnExactElectx0
import Derived.Test.YtkcadcoohmofcaaQFnExactElectx1
namespace Go.Proofs.Ytkcadcoohmofcaa.QFnExactElect
open Go.RowKit Go.Proofs.YtkcadcoohmofcaaW.PrintWords Go.Proofs.YtkcadcoohmofcaaW.PrintLast Go.Proofs.YtkcadcoohmofcaaW.PrintMore Go.Proofs.Ytkcadcoohmofcaa.SqFnExactElect
attribute [local go_sem] max2_int min2_int max_two min_two max_three min_three max_four min_four Go.Proofs.Ytkcadcoohmofcaa.Set.isSome_setCell
set_option linter.unusedVariables false
set_option linter.unusedSimpArgs false

-- squeezed
theorem u5_2 {P : Prop} (h : P := by (with_reducible repeat (first | refine blk_drewN ?_ _ | refine blk_drew ?_ | refine blk_alloc ?_ _)); exact BK187.out) : P := h
/-! ### laws_eqMsg: function 19 -/
def laws_eqMsg.f (k : Nat) (a0_0 : Int) (a0_1 : Int) (a0_2 : Int) (a0_3 : Int) (a0_4 : Int) (a0_5 : Int) (a0_6 : Int) (a0_7 : Bool) (l0_8 : List (S85)) (a1_0 : Int) (a1_1 : Int) (a1_2 : Int) (a1_3 : Int) (a1_4 : Int) (a1_5 : Int) (a1_6 : Int) (a1_7 : Bool) (l1_8 : List (S85)) : Option (Bool) := if a0_0 = a1_0 then (if a0_1 = a1_1 then (if a0_2 = a1_2 then (if a0_3 = a1_3 then (if a0_4 = a1_4 then (if a0_5 = a1_5 then (if a0_6 = a1_6 then (if (a0_7 != a1_7) = true then (some false) else ((laws_eqEntryS.f k l0_8 l1_8).bind fun t189 => (if t189 = true then (some true) else (some false)))) else (some false)) else (some false)) else (some false)) else (some false)) else (some false)) else (some false)) else (some false)
theorem laws_eqMsg.mono : ∀ a0 a1 a2 a3 a4 a5 a6 a7 a8 a9 a10 a11 a12 a13 a14 a15 a16 a17 k, LeO (laws_eqMsg.f k a0 a1 a2 a3 a4 a5 a6 a7 a8 a9 a10 a11 a12 a13 a14 a15 a16 a17) (laws_eqMsg.f (k + 1) a0 a1 a2 a3 a4 a5 a6 a7 a8 a9 a10 a11 a12 a13 a14 a15 a16 a17) := by
 intro a0 a1 a2 a3 a4 a5 a6 a7 a8 a9 a10 a11 a12 a13 a14 a15 a16 a17 k
 unfold laws_eqMsg.f
 repeat' first
     | (with_reducible exact laws_eqEntryS.mono _ _ _)
     | (with_reducible exact LeO.refl _)
     | (with_reducible exact LeO.none _)
     | (with_reducible refine LeO.ite ?_ ?_)
     | (with_reducible refine LeO.bind ?_ (fun _ => ?_))
     | exact laws_eqEntryS.mono _ _ _
     | exact LeO.none _
     | refine LeO.ite ?_ ?_
     | refine LeO.bind ?_ (fun _ => ?_)
set_option maxHeartbeats 8000000 in
set_option maxRecDepth 100000 in
theorem laws_eqMsg.calls (k : Nat) (a0_0 : Int) (a0_1 : Int) (a0_2 : Int) (a0_3 : Int) (a0_4 : Int) (a0_5 : Int) (a0_6 : Int) (a0_7 : Bool) (A0_8 : Option Addr) (c0_8 : Nat) (l0_8 : List (S85)) (a1_0 : Int) (a1_1 : Int) (a1_2 : Int) (a1_3 : Int) (a1_4 : Int) (a1_5 : Int) (a1_6 : Int) (a1_7 : Bool) (A1_8 : Option Addr) (c1_8 : Nat) (l1_8 : List (S85)) (r : Bool) (w : World) (hr0_8 : Kd.C k85 w A0_8 l0_8.length l0_8) (hc0_8 : l0_8.length ≤ c0_8) (hr1_8 : Kd.C k85 w A1_8 l1_8.length l1_8) (hc1_8 : l1_8.length ≤ c1_8) (h : laws_eqMsg.f k a0_0 a0_1 a0_2 a0_3 a0_4 a0_5 a0_6 a0_7 l0_8 a1_0 a1_1 a1_2 a1_3 a1_4 a1_5 a1_6 a1_7 l1_8 = some r) :
   Calls Try.prog 19 #[.agg #[.int .i64 a0_0, .int .i64 a0_1, .int .i64 a0_2, .int .i64 a0_3, .int .i64 a0_4, .int .i64 a0_5, .int .i64 a0_6, .bool a0_7, .slice A0_8 l0_8.length c0_8], .agg #[.int .i64 a1_0, .int .i64 a1_1, .int .i64 a1_2, .int .i64 a1_3, .int .i64 a1_4, .int .i64 a1_5, .int .i64 a1_6, .bool a1_7, .slice A1_8 l1_8.length c1_8]] w fun e w' => e = .returned (.bool r) ∧ Below w.heap.size w w' := by
 have hu29 := Try.underlying29
 have HR0_8 := am hr0_8
 have HC0_8 := am hc0_8
 clear hr0_8 hc0_8
 have HR1_8 := am hr1_8
 have HC1_8 := am hc1_8
 clear hr1_8 hc1_8
 have HB := am (Below.refl w.heap.size w)
 have H : (if a0_0 = a1_0 then (if a0_1 = a1_1 then (if a0_2 = a1_2 then (if a0_3 = a1_3 then (if a0_4 = a1_4 then (if a0_5 = a1_5 then (if a0_6 = a1_6 then (if (a0_7 != a1_7) = true then (some false) else ((laws_eqEntryS.f k l0_8 l1_8).bind fun t189 => (if t189 = true then (some true) else (some false)))) else (some false)) else (some false)) else (some false)) else (some false)) else (some false)) else (some false)) else (some false)) = some r := h
 clear h
 have H9 := am H
 clear H
 go_enter Try.func19, Try.ntmps19
 go_upto_if 9 with (first | ((with_reducible refine gate_dst (N := 2) rfl ?_); refine box_event ?hg (N := 2) ?hd (cs := #[.int .i64 a0_0, .int .i64 a0_1, .int .i64 a0_2, .int .i64 a0_3, .int .i64 a0_4, .int .i64 a0_5, .int .i64 a0_6, .bool a0_7, .slice A0_8 l0_8.length c0_8]) (t := 29) ?hr ?_; (case hd => rfl); (case hg => rfl); (case hr => first | (go_simp; done) | (go_simp; rfl)); intro gb187 hg w3 hbox hb; have BK187 := am (hbox); have GW187 := am ((by rw [hg]; exact (below_size Q0) : w.heap.size ≤ gb187)); have GE187 := am ((by rw [hg]; exact (below_size Q0) : w.heap.size ≤ gb187)); replace HB := am (below_step Q0 hb); clear hb hbox hg) | ((with_reducible refine gate_dst (N := 3) rfl ?_); refine box_event ?hg (N := 3) ?hd (cs := #[.int .i64 a1_0, .int .i64 a1_1, .int .i64 a1_2, .int .i64 a1_3, .int .i64 a1_4, .int .i64 a1_5, .int .i64 a1_6, .bool a1_7, .slice A1_8 l1_8.length c1_8]) (t := 29) ?hr ?_; (case hd => rfl); (case hg => rfl); (case hr => first | (go_simp; done) | (go_simp; rfl)); intro gb188 hg w4 hbox hb; have BK188 := am (hbox); have GW188 := am ((by rw [hg]; exact (below_size Q0) : w.heap.size ≤ gb188)); have GE188 := am ((by rw [hg]; exact (below_size Q0) : w.heap.size ≤ gb188)); replace HB := am (below_step Q0 hb); have NB187_188 := am ((by rw [hg]; exact Nat.ne_of_lt (blk_lt (g := gb187) (o := .cells #[.int .i64 a0_0, .int .i64 a0_1, .int .i64 a0_2, .int .i64 a0_3, .int .i64 a0_4, .int .i64 a0_5, .int .i64 a0_6, .bool a0_7, .slice A0_8 l0_8.length c0_8] 29 (0, 0)) u5_2) : gb187 ≠ gb188)); have NB188_187 := am ((by rw [hg]; exact Nat.ne_of_gt (blk_lt (g := gb187) (o := .cells #[.int .i64 a0_0, .int .i64 a0_1, .int .i64 a0_2, .int .i64 a0_3, .int .i64 a0_4, .int .i64 a0_5, .int .i64 a0_6, .bool a0_7, .slice A0_8 l0_8.length c0_8] 29 (0, 0)) u5_2) : gb188 ≠ gb187)); replace BK187 := am (blk_below (g := gb187) (o := .cells #[.int .i64 a0_0, .int .i64 a0_1, .int .i64 a0_2, .int .i64 a0_3, .int .i64 a0_4, .int .i64 a0_5, .int .i64 a0_6, .bool a0_7, .slice A0_8 l0_8.length c0_8] 29 (0, 0)) u5_2 hb); clear hb hbox hg; have hnb5 := NB187_188.out; have hnc5 := NB188_187.out; obtain ⟨hcz6_0, hcz6_1, hcz6_2, hcz6_3, hcz6_4, hcz6_5, hcz6_6, hcz6_7, hcz6_8⟩ := bc9 w4 BK187.out; obtain ⟨hcz7_0, hcz7_1, hcz7_2, hcz7_3, hcz7_4, hcz7_5, hcz7_6, hcz7_7, hcz7_8, hfz7_0, hfz7_1, hfz7_2, hfz7_3, hfz7_4, hfz7_5, hfz7_6, hfz7_7, hfz7_8⟩ := bc9f w4 BK188.out))
 have H := H9.out
 clear H9
 by_cases c8 : a0_0 = a1_0
 rotate_left
 · rw [if_neg c8] at H
   have c8b0 : (a0_0 == a1_0) = false := beq_eq_false_iff_ne.mpr c8
   have c8b1 : (a0_0 != a1_0) = true := bne_iff_ne.mpr c8
   (first | rw [c8b0] | (simp only [i64_w, i32_w]; rw [c8b0]) | skip)
   obtain rfl := sj H
   go_wp2
   go_ret
   exact ⟨er, Q0⟩
 rw [if_pos c8] at H
 have c8b0 : (a0_0 == a1_0) = true := beq_iff_eq.mpr c8
 have c8b1 : (a0_0 != a1_0) = false := bne_eq_false_iff_eq.mpr c8
 clear c8
 (first | rw [c8b0] | (simp only [i64_w, i32_w]; rw [c8b0]) | skip)
 by_cases c9 : a0_1 = a1_1
 rotate_left
 · rw [if_neg c9] at H
   have c9b0 : (a0_1 == a1_1) = false := beq_eq_false_iff_ne.mpr c9
   have c9b1 : (a0_1 != a1_1) = true := bne_iff_ne.mpr c9
   obtain rfl := sj H
   have hnb40 := NB187_188.out
   have hnc40 := NB188_187.out
   obtain ⟨hcz41_0, hcz41_1, hcz41_2, hcz41_3, hcz41_4, hcz41_5, hcz41_6, hcz41_7, hcz41_8⟩ := bc9 w4 BK187.out
   obtain ⟨hcz42_0, hcz42_1, hcz42_2, hcz42_3, hcz42_4, hcz42_5, hcz42_6, hcz42_7, hcz42_8, hfz42_0, hfz42_1, hfz42_2, hfz42_3, hfz42_4, hfz42_5, hfz42_6, hfz42_7, hfz42_8⟩ := bc9f w4 BK188.out
   go_wp2
   go_ret
   exact ⟨er, Q0⟩
 rw [if_pos c9] at H
 have c9b0 : (a0_1 == a1_1) = true := beq_iff_eq.mpr c9
 have c9b1 : (a0_1 != a1_1) = false := bne_eq_false_iff_eq.mpr c9
 clear c9
 by_cases c10 : a0_2 = a1_2
 rotate_left
 · rw [if_neg c10] at H
   have c10b0 : (a0_2 == a1_2) = false := beq_eq_false_iff_ne.mpr c10
   have c10b1 : (a0_2 != a1_2) = true := bne_iff_ne.mpr c10
   obtain rfl := sj H
   have hnb37 := NB187_188.out
   have hnc37 := NB188_187.out
   obtain ⟨hcz38_0, hcz38_1, hcz38_2, hcz38_3, hcz38_4, hcz38_5, hcz38_6, hcz38_7, hcz38_8⟩ := bc9 w4 BK187.out
   obtain ⟨hcz39_0, hcz39_1, hcz39_2, hcz39_3, hcz39_4, hcz39_5, hcz39_6, hcz39_7, hcz39_8, hfz39_0, hfz39_1, hfz39_2, hfz39_3, hfz39_4, hfz39_5, hfz39_6, hfz39_7, hfz39_8⟩ := bc9f w4 BK188.out
   go_wp2
   go_ret
   exact ⟨er, Q0⟩
 rw [if_pos c10] at H
 have c10b0 : (a0_2 == a1_2) = true := beq_iff_eq.mpr c10
 have c10b1 : (a0_2 != a1_2) = false := bne_eq_false_iff_eq.mpr c10
 clear c10
 by_cases c11 : a0_3 = a1_3
 rotate_left
 · rw [if_neg c11] at H
   have c11b0 : (a0_3 == a1_3) = false := beq_eq_false_iff_ne.mpr c11
   have c11b1 : (a0_3 != a1_3) = true := bne_iff_ne.mpr c11
   obtain rfl := sj H
   have hnb34 := NB187_188.out
   have hnc34 := NB188_187.out
   obtain ⟨hcz35_0, hcz35_1, hcz35_2, hcz35_3, hcz35_4, hcz35_5, hcz35_6, hcz35_7, hcz35_8⟩ := bc9 w4 BK187.out
   obtain ⟨hcz36_0, hcz36_1, hcz36_2, hcz36_3, hcz36_4, hcz36_5, hcz36_6, hcz36_7, hcz36_8, hfz36_0, hfz36_1, hfz36_2, hfz36_3, hfz36_4, hfz36_5, hfz36_6, hfz36_7, hfz36_8⟩ := bc9f w4 BK188.out
   go_wp2
   go_ret
   exact ⟨er, Q0⟩
 rw [if_pos c11] at H
 have c11b0 : (a0_3 == a1_3) = true := beq_iff_eq.mpr c11
 have c11b1 : (a0_3 != a1_3) = false := bne_eq_false_iff_eq.mpr c11
 clear c11
 by_cases c12 : a0_4 = a1_4
 rotate_left
 · rw [if_neg c12] at H
   have c12b0 : (a0_4 == a1_4) = false := beq_eq_false_iff_ne.mpr c12
   have c12b1 : (a0_4 != a1_4) = true := bne_iff_ne.mpr c12
   obtain rfl := sj H
   have hnb31 := NB187_188.out
   have hnc31 := NB188_187.out
   obtain ⟨hcz32_0, hcz32_1, hcz32_2, hcz32_3, hcz32_4, hcz32_5, hcz32_6, hcz32_7, hcz32_8⟩ := bc9 w4 BK187.out
   obtain ⟨hcz33_0, hcz33_1, hcz33_2, hcz33_3, hcz33_4, hcz33_5, hcz33_6, hcz33_7, hcz33_8, hfz33_0, hfz33_1, hfz33_2, hfz33_3, hfz33_4, hfz33_5, hfz33_6, hfz33_7, hfz33_8⟩ := bc9f w4 BK188.out
   go_wp2
   go_ret
   exact ⟨er, Q0⟩
 rw [if_pos c12] at H
 have c12b0 : (a0_4 == a1_4) = true := beq_iff_eq.mpr c12
 have c12b1 : (a0_4 != a1_4) = false := bne_eq_false_iff_eq.mpr c12
 clear c12
 by_cases c13 : a0_5 = a1_5
 rotate_left
 · rw [if_neg c13] at H
   have c13b0 : (a0_5 == a1_5) = false := beq_eq_false_iff_ne.mpr c13
   have c13b1 : (a0_5 != a1_5) = true := bne_iff_ne.mpr c13
   obtain rfl := sj H
   have hnb28 := NB187_188.out
   have hnc28 := NB188_187.out
   obtain ⟨hcz29_0, hcz29_1, hcz29_2, hcz29_3, hcz29_4, hcz29_5, hcz29_6, hcz29_7, hcz29_8⟩ := bc9 w4 BK187.out
   obtain ⟨hcz30_0, hcz30_1, hcz30_2, hcz30_3, hcz30_4, hcz30_5, hcz30_6, hcz30_7, hcz30_8, hfz30_0, hfz30_1, hfz30_2, hfz30_3, hfz30_4, hfz30_5, hfz30_6, hfz30_7, hfz30_8⟩ := bc9f w4 BK188.out
   go_wp2
   go_ret
   exact ⟨er, Q0⟩
 rw [if_pos c13] at H
 have c13b0 : (a0_5 == a1_5) = true := beq_iff_eq.mpr c13
 have c13b1 : (a0_5 != a1_5) = false := bne_eq_false_iff_eq.mpr c13
 clear c13
 by_cases c14 : a0_6 = a1_6
 rotate_left
 · rw [if_neg c14] at H
   have c14b0 : (a0_6 == a1_6) = false := beq_eq_false_iff_ne.mpr c14
   have c14b1 : (a0_6 != a1_6) = true := bne_iff_ne.mpr c14
   obtain rfl := sj H
   have hnb25 := NB187_188.out
   have hnc25 := NB188_187.out
   obtain ⟨hcz26_0, hcz26_1, hcz26_2, hcz26_3, hcz26_4, hcz26_5, hcz26_6, hcz26_7, hcz26_8⟩ := bc9 w4 BK187.out
   obtain ⟨hcz27_0, hcz27_1, hcz27_2, hcz27_3, hcz27_4, hcz27_5, hcz27_6, hcz27_7, hcz27_8, hfz27_0, hfz27_1, hfz27_2, hfz27_3, hfz27_4, hfz27_5, hfz27_6, hfz27_7, hfz27_8⟩ := bc9f w4 BK188.out
   go_wp2
   go_ret
   exact ⟨er, Q0⟩
 rw [if_pos c14] at H
 have c14b0 : (a0_6 == a1_6) = true := beq_iff_eq.mpr c14
 have c14b1 : (a0_6 != a1_6) = false := bne_eq_false_iff_eq.mpr c14
 clear c14
 by_cases c15 : (a0_7 != a1_7) = true
 · rw [if_pos c15] at H
   have c15b0 : (a0_7 != a1_7) = true := c15
   (try (have c15b1 : decide (a0_7 = a1_7) = false := by simpa using c15))
   (try (have c15b2 : (a0_7 == a1_7) = false := by simpa using c15))
   (try (have c15b3 : ¬ (a0_7 = a1_7) := by simpa using c15))
   clear c15
   obtain rfl := sj H
   have hnb16 := NB187_188.out
   have hnc16 := NB188_187.out
   obtain ⟨hcz17_0, hcz17_1, hcz17_2, hcz17_3, hcz17_4, hcz17_5, hcz17_6, hcz17_7, hcz17_8⟩ := bc9 w4 BK187.out
   obtain ⟨hcz18_0, hcz18_1, hcz18_2, hcz18_3, hcz18_4, hcz18_5, hcz18_6, hcz18_7, hcz18_8, hfz18_0, hfz18_1, hfz18_2, hfz18_3, hfz18_4, hfz18_5, hfz18_6, hfz18_7, hfz18_8⟩ := bc9f w4 BK188.out
   go_wp2
   go_ret
   exact ⟨er, Q0⟩
 rw [if_neg c15] at H
 have c15b0 : (a0_7 != a1_7) = false := by simpa using c15
 (try (have c15b1 : decide (a0_7 = a1_7) = true := by simpa using c15))
 (try (have c15b2 : (a0_7 == a1_7) = true := by simpa using c15))
 clear c15
 replace H := Option.bind_eq_some_iff.mp H
 obtain ⟨t189, A190, H⟩ := H
 replace H : (if t189 = true then (some true) else (some false)) = some r := H
 have A19 := am A190
 clear A190
 have H9 := am H
 clear H
 have hnb20 := NB187_188.out
 have hnc20 := NB188_187.out
 obtain ⟨hcz21_0, hcz21_1, hcz21_2, hcz21_3, hcz21_4, hcz21_5, hcz21_6, hcz21_7, hcz21_8⟩ := bc9 w4 BK187.out
 obtain ⟨hcz22_0, hcz22_1, hcz22_2, hcz22_3, hcz22_4, hcz22_5, hcz22_6, hcz22_7, hcz22_8, hfz22_0, hfz22_1, hfz22_2, hfz22_3, hfz22_4, hfz22_5, hfz22_6, hfz22_7, hfz22_8⟩ := bc9f w4 BK188.out
 go_upto_if 50 with (first | ((with_reducible refine gate_callee (f := 58) rfl ?_); refine goesL_ (some 49) rfl rfl Try.func58 kr rfl #[.slice A0_8 l0_8.length c0_8, .slice A1_8 l1_8.length c1_8] rfl Q3 ?_; (with_reducible refine (laws_eqEntryS.calls k _ _ l0_8 _ _ l1_8 t189 _ ?side1 ?side2 ?side3 ?side4 A19.out).mono ?_); (case side1 => exact (by repeat (first | exact (Kd.C_below HR0_8.out HB.out) | (with_reducible refine Kd.C_alloc ?_ _) | (with_reducible refine Kd.C_drewN ?_ _) | (with_reducible refine Kd.C_drew ?_)))); (case side2 => exact HC0_8.out); (case side3 => exact (by repeat (first | exact (Kd.C_below HR1_8.out HB.out) | (with_reducible refine Kd.C_alloc ?_ _) | (with_reducible refine Kd.C_drewN ?_ _) | (with_reducible refine Kd.C_drew ?_)))); (case side4 => exact HC1_8.out); rintro e w23 ⟨rfl, hb⟩; refine ⟨_, rfl, ?_⟩; replace BK187 := am (blk_below (g := gb187) (o := .cells #[.int .i64 a0_0, .int .i64 a0_1, .int .i64 a0_2, .int .i64 a0_3, .int .i64 a0_4, .int .i64 a0_5, .int .i64 a0_6, .bool a0_7, .slice A0_8 l0_8.length c0_8] 29 (0, 0)) u5_2 hb); replace BK188 := am (blk_below (g := gb188) (o := .cells #[.int .i64 a1_0, .int .i64 a1_1, .int .i64 a1_2, .int .i64 a1_3, .int .i64 a1_4, .int .i64 a1_5, .int .i64 a1_6, .bool a1_7, .slice A1_8 l1_8.length c1_8] 29 (0, 0)) (by (with_reducible repeat (first | refine blk_drewN ?_ _ | refine blk_drew ?_ | refine blk_alloc ?_ _)); exact BK188.out) hb); replace HB := am (below_step Q0 hb); (try clear hb); (try clear hb2); (try clear hk); (try clear hi)))
 have H := H9.out
 clear H9
 by_cases c24 : t189 = true
 · subst c24
   rw [if_pos rfl] at H
   obtain rfl := sj H
   go_wp2
   go_ret
   exact ⟨er, Q0⟩
 replace c24 := Bool.eq_false_iff.mpr c24
 subst c24
 rw [nf] at H
 obtain rfl := sj H
 go_wp2
 go_ret
 exact ⟨er, Q0⟩

/-! ### laws_eqMsgS: function 40 -/
def laws_eqMsgS.l0 : Nat → List (S29) → List (S29) → Int → Option (Bool)
 | 0, _, _, _ => none
 | k + 1, x0, x1, x5 => if x5 < (x0.length : Int) then (if 0 ≤ x5 then (if x5 < (x1.length : Int) then ((laws_eqMsg.f k ((rd_T29 x0 x5).f0) ((rd_T29 x0 x5).f1) ((rd_T29 x0 x5).f2) ((rd_T29 x0 x5).f3) ((rd_T29 x0 x5).f4) ((rd_T29 x0 x5).f5) ((rd_T29 x0 x5).f6) ((rd_T29 x0 x5).f7) ((rd_T29 x0 x5).f8) ((rd_T29 x1 x5).f0) ((rd_T29 x1 x5).f1) ((rd_T29 x1 x5).f2) ((rd_T29 x1 x5).f3) ((rd_T29 x1 x5).f4) ((rd_T29 x1 x5).f5) ((rd_T29 x1 x5).f6) ((rd_T29 x1 x5).f7) ((rd_T29 x1 x5).f8)).bind fun t192 => (if t192 = true then (laws_eqMsgS.l0 k x0 x1 (wrap64 (x5 + 1))) else (some false))) else (none)) else (none)) else (some true)
def laws_eqMsgS.f (k : Nat) (l0 : List (S29)) (l1 : List (S29)) : Option (Bool) := if (l0.length : Int) = (l1.length : Int) then (laws_eqMsgS.l0 k l0 l1 0) else (some false)
theorem laws_eqMsgS.mono_l : ∀ k, (∀ y0 y1 y2, LeO (laws_eqMsgS.l0 k y0 y1 y2) (laws_eqMsgS.l0 (k + 1) y0 y1 y2))
 | 0 => fun _ _ _ r h => by simp [laws_eqMsgS.l0] at h
 | k + 1 => by
   have ih0 := laws_eqMsgS.mono_l k
   · intro y0 y1 y2
     unfold laws_eqMsgS.l0
     repeat' first
     | (with_reducible exact ih0 _ _ _)
     | (with_reducible exact laws_eqMsg.mono _ _ _ _ _ _ _ _ _ _ _ _ _ _ _ _ _ _ _)
     | (with_reducible exact LeO.refl _)
     | (with_reducible exact LeO.none _)
     | (with_reducible refine LeO.ite ?_ ?_)
     | (with_reducible refine LeO.bind ?_ (fun _ => ?_))
     | exact ih0 _ _ _
     | exact laws_eqMsg.mono _ _ _ _ _ _ _ _ _ _ _ _ _ _ _ _ _ _ _
     | exact LeO.none _
     | refine LeO.ite ?_ ?_
     | refine LeO.bind ?_ (fun _ => ?_)
theorem laws_eqMsgS.mono : ∀ a0 a1 k, LeO (laws_eqMsgS.f k a0 a1) (laws_eqMsgS.f (k + 1) a0 a1) := by
 intro a0 a1 k
 have ih0 := laws_eqMsgS.mono_l k
 unfold laws_eqMsgS.f
 repeat' first
     | (with_reducible exact ih0 _ _ _)
     | (with_reducible exact laws_eqMsg.mono _ _ _ _ _ _ _ _ _ _ _ _ _ _ _ _ _ _ _)
     | (with_reducible exact LeO.refl _)
     | (with_reducible exact LeO.none _)
     | (with_reducible refine LeO.ite ?_ ?_)
     | (with_reducible refine LeO.bind ?_ (fun _ => ?_))
     | exact ih0 _ _ _
     | exact laws_eqMsg.mono _ _ _ _ _ _ _ _ _ _ _ _ _ _ _ _ _ _ _
     | exact LeO.none _
     | refine LeO.ite ?_ ?_
     | refine LeO.bind ?_ (fun _ => ?_)
def laws_eqMsgS.T6 : Bool × List (List Nat × List Nat) := (true, [([], []), ([], []), ([0, 1], [0, 1]), ([2], [2]), ([], []), ([], []), ([4, 5], [4, 5]), ([6], [6]), ([3, 7], [3, 7]), ([8], [8])])
def laws_eqMsgS.B6 : List Nat := [0, 0, 3, 7, 0, 0, 48, 112, 255, 511]
theorem laws_eqMsgS.tab6 : rtab .any (opsOf Try.f40 6) = laws_eqMsgS.T6 := by kernel_rfl
theorem laws_eqMsgS.bits6 : waitsOk laws_eqMsgS.T6.2 laws_eqMsgS.B6 = true := by kernel_rfl
set_option maxHeartbeats 8000000 in
set_option maxRecDepth 100000 in
theorem laws_eqMsgS.calls (k : Nat) (A0 : Option Addr) (c0 : Nat) (l0 : List (S29)) (A1 : Option Addr) (c1 : Nat) (l1 : List (S29)) (r : Bool) (w : World) (hr0 : Kd.C k29 w A0 l0.length l0) (hc0 : l0.length ≤ c0) (hr1 : Kd.C k29 w A1 l1.length l1) (hc1 : l1.length ≤ c1) (h : laws_eqMsgS.f k l0 l1 = some r) :
   Calls Try.prog 40 #[.slice A0 l0.length c0, .slice A1 l1.length c1] w fun e w' => e = .returned (.bool r) ∧ Below w.heap.size w w' := by
 have hu29 := Try.underlying29
 have HR0 := am hr0
 have HC0 := am hc0
 clear hr0 hc0
 have HR1 := am hr1
 have HC1 := am hc1
 clear hr1 hc1
 have HB := am (Below.refl w.heap.size w)
 have H : (if (l0.length : Int) = (l1.length : Int) then (laws_eqMsgS.l0 k l0 l1 0) else (some false)) = some r := h
 clear h
 by_cases c3 : (l0.length : Int) = (l1.length : Int)
 rotate_left
 · rw [if_neg c3] at H
   have c3b0 : ((l0.length : Int) == (l1.length : Int)) = false := beq_eq_false_iff_ne.mpr c3
   have c3b1 : ((l0.length : Int) != (l1.length : Int)) = true := bne_iff_ne.mpr c3
   have c3b2 : (l0.length == l1.length) = false := by first | simpa using c3 | (simp at c3 ⊢; omega)
   obtain rfl := sj H
   go_enter Try.func40, Try.ntmps40
   go_wp2
   go_ret
   exact ⟨er, Q0⟩
 rw [if_pos c3] at H
 have c3b0 : ((l0.length : Int) == (l1.length : Int)) = true := beq_iff_eq.mpr c3
 have c3b1 : ((l0.length : Int) != (l1.length : Int)) = false := bne_eq_false_iff_eq.mpr c3
 have c3b2 : (l0.length == l1.length) = true := by first | simpa using c3 | (simp at c3 ⊢; omega)
 clear c3
 have H' := am H
 clear H
 go_enter Try.func40, Try.ntmps40
 go_wp2
 go_loopg [5] k (fun kq v5 w' => ∃ (x5_1 : Int), v5 = .int .i64 x5_1 ∧ Aside0 (laws_eqMsgS.l0 kq l0 l1 x5_1 = some r) ∧ Aside0 (kq ≤ k) ∧ Aside0 (Below w.heap.size w w'))
 case atStart => exact ⟨(0), (by first | rfl | (simp; done) | (simp [*]; done)), H', ⟨Nat.le_refl _⟩, ⟨Q0⟩⟩
 clear H'
 try clear c1
 try clear c3
 try clear c3b0
 try clear c3b1
 try clear c3b2
 obtain ⟨x5_1, rfl, HA, HK1, HB⟩ := hrel
 cases gk with
 | zero => exact absurd HA.out (by simp [laws_eqMsgS.l0])
 | succ k1 =>
   have H := HA.out
   clear HA
   simp only [laws_eqMsgS.l0] at H
   by_cases c4 : x5_1 < (l0.length : Int)
   rotate_left
   · rw [if_neg c4] at H
     have c4b0 : decide (x5_1 < (l0.length : Int)) = false := decide_eq_false c4
     clear c4
     obtain rfl := sj H
     go_wp2
     go_ret
     exact ⟨er, Q0⟩
   rw [if_pos c4] at H
   have c4b0 : decide (x5_1 < (l0.length : Int)) = true := decide_eq_true c4
   clear c4
   by_cases c5 : 0 ≤ x5_1
   rotate_left
   · rw [if_neg c5] at H
     exact absurd H (by simp)
   rw [if_pos c5] at H
   have c5b0 : decide (0 ≤ x5_1) = true := decide_eq_true c5
   clear c5
   by_cases c6 : x5_1 < (l1.length : Int)
   rotate_left
   · rw [if_neg c6] at H
     exact absurd H (by simp)
   rw [if_pos c6] at H
   have c6b0 : decide (x5_1 < (l1.length : Int)) = true := decide_eq_true c6
   clear c6
   replace H := Option.bind_eq_some_iff.mp H
   obtain ⟨t192, A70, H⟩ := H
   replace H : (if t192 = true then (laws_eqMsgS.l0 k1 l0 l1 (wrap64 (x5_1 + 1))) else (some false)) = some r := H
   have A7 := am A70
   clear A70
   have H9 := am H
   clear H
   try go_wp2
   replace HB := am (below_drew1 HB.out)
   have p190 : 0 ≤ (x5_1 : Int) := of_decide_eq_true Q1
   have q190 : x5_1 < (l0.length : Int) := of_decide_eq_true Q1
   obtain ⟨ad190, A190_8, c190_8, e190, hx190_0, hx190_1, hx190_2, hx190_3, hx190_4, hx190_5, hx190_6, hx190_7, hx190_8, hl190_8, hi190_8⟩ := at_T29 HR0.out x5_1 p190 q190
   have hw190_8 := hx190_8
   have hw190_7 := hx190_7
   have hw190_6 := hx190_6
   have hw190_5 := hx190_5
   have hw190_4 := hx190_4
   have hw190_3 := hx190_3
   have hw190_2 := hx190_2
   have hw190_1 := hx190_1
   have hw190_0 := hx190_0
   cases e190
   replace hx190_0 := cm HB.out hx190_0
   replace hx190_1 := cm HB.out hx190_1
   replace hx190_2 := cm HB.out hx190_2
   replace hx190_3 := cm HB.out hx190_3
   replace hx190_4 := cm HB.out hx190_4
   replace hx190_5 := cm HB.out hx190_5
   replace hx190_6 := cm HB.out hx190_6
   replace hx190_7 := cm HB.out hx190_7
   replace hx190_8 := cm HB.out hx190_8
   have HR190_8 := am hi190_8
   have HC190_8 := am hl190_8
   clear hi190_8 hl190_8
   replace p190 := eq_true p190
   replace q190 := eq_true q190
   have p191 : 0 ≤ (x5_1 : Int) := of_decide_eq_true Q1
   have q191 : x5_1 < (l1.length : Int) := of_decide_eq_true Q1
   obtain ⟨ad191, A191_8, c191_8, e191, hx191_0, hx191_1, hx191_2, hx191_3, hx191_4, hx191_5, hx191_6, hx191_7, hx191_8, hl191_8, hi191_8⟩ := at_T29 HR1.out x5_1 p191 q191
   have hw191_8 := hx191_8
   have hw191_7 := hx191_7
   have hw191_6 := hx191_6
   have hw191_5 := hx191_5
   have hw191_4 := hx191_4
   have hw191_3 := hx191_3
   have hw191_2 := hx191_2
   have hw191_1 := hx191_1
   have hw191_0 := hx191_0
   cases e191
   replace hx191_0 := cm HB.out hx191_0
   replace hx191_1 := cm HB.out hx191_1
   replace hx191_2 := cm HB.out hx191_2
   replace hx191_3 := cm HB.out hx191_3
   replace hx191_4 := cm HB.out hx191_4
   replace hx191_5 := cm HB.out hx191_5
   replace hx191_6 := cm HB.out hx191_6
   replace hx191_7 := cm HB.out hx191_7
   replace hx191_8 := cm HB.out hx191_8
   have HR191_8 := am hi191_8
   have HC191_8 := am hl191_8
   clear hi191_8 hl191_8
   replace p191 := eq_true p191
   replace q191 := eq_true q191
   refine start_ (n := 10) (S := fun w' => w'.cell? (ad190.add ((x5_1).toNat * 9)) = some (.int .i64 ((rd_T29 l0 x5_1).f0)) ∧ w'.cell? ⟨(ad190.add ((x5_1).toNat * 9)).block, (ad190.add ((x5_1).toNat * 9)).off + 1, none⟩ = some (.int .i64 ((rd_T29 l0 x5_1).f1)) ∧ w'.cell? ⟨(ad190.add ((x5_1).toNat * 9)).block, (ad190.add ((x5_1).toNat * 9)).off + 2, none⟩ = some (.int .i64 ((rd_T29 l0 x5_1).f2)) ∧ w'.cell? ⟨(ad190.add ((x5_1).toNat * 9)).block, (ad190.add ((x5_1).toNat * 9)).off + 3, none⟩ = some (.int .i64 ((rd_T29 l0 x5_1).f3)) ∧ w'.cell? ⟨(ad190.add ((x5_1).toNat * 9)).block, (ad190.add ((x5_1).toNat * 9)).off + 4, none⟩ = some (.int .i64 ((rd_T29 l0 x5_1).f4)) ∧ w'.cell? ⟨(ad190.add ((x5_1).toNat * 9)).block, (ad190.add ((x5_1).toNat * 9)).off + 5, none⟩ = some (.int .i64 ((rd_T29 l0 x5_1).f5)) ∧ w'.cell? ⟨(ad190.add ((x5_1).toNat * 9)).block, (ad190.add ((x5_1).toNat * 9)).off + 6, none⟩ = some (.int .i64 ((rd_T29 l0 x5_1).f6)) ∧ w'.cell? ⟨(ad190.add ((x5_1).toNat * 9)).block, (ad190.add ((x5_1).toNat * 9)).off + 7, none⟩ = some (.bool ((rd_T29 l0 x5_1).f7)) ∧ w'.cell? ⟨(ad190.add ((x5_1).toNat * 9)).block, (ad190.add ((x5_1).toNat * 9)).off + 8, none⟩ = some (.slice A190_8 ((rd_T29 l0 x5_1).f8).length c190_8) ∧ w'.cell? (ad191.add ((x5_1).toNat * 9)) = some (.int .i64 ((rd_T29 l1 x5_1).f0)) ∧ w'.cell? ⟨(ad191.add ((x5_1).toNat * 9)).block, (ad191.add ((x5_1).toNat * 9)).off + 1, none⟩ = some (.int .i64 ((rd_T29 l1 x5_1).f1)) ∧ w'.cell? ⟨(ad191.add ((x5_1).toNat * 9)).block, (ad191.add ((x5_1).toNat * 9)).off + 2, none⟩ = some (.int .i64 ((rd_T29 l1 x5_1).f2)) ∧ w'.cell? ⟨(ad191.add ((x5_1).toNat * 9)).block, (ad191.add ((x5_1).toNat * 9)).off + 3, none⟩ = some (.int .i64 ((rd_T29 l1 x5_1).f3)) ∧ w'.cell? ⟨(ad191.add ((x5_1).toNat * 9)).block, (ad191.add ((x5_1).toNat * 9)).off + 4, none⟩ = some (.int .i64 ((rd_T29 l1 x5_1).f4)) ∧ w'.cell? ⟨(ad191.add ((x5_1).toNat * 9)).block, (ad191.add ((x5_1).toNat * 9)).off + 5, none⟩ = some (.int .i64 ((rd_T29 l1 x5_1).f5)) ∧ w'.cell? ⟨(ad191.add ((x5_1).toNat * 9)).block, (ad191.add ((x5_1).toNat * 9)).off + 6, none⟩ = some (.int .i64 ((rd_T29 l1 x5_1).f6)) ∧ w'.cell? ⟨(ad191.add ((x5_1).toNat * 9)).block, (ad191.add ((x5_1).toNat * 9)).off + 7, none⟩ = some (.bool ((rd_T29 l1 x5_1).f7)) ∧ w'.cell? ⟨(ad191.add ((x5_1).toNat * 9)).block, (ad191.add ((x5_1).toNat * 9)).off + 8, none⟩ = some (.slice A191_8 ((rd_T29 l1 x5_1).f8).length c191_8)) (ds := []) #[false, false, false, false, false, false, false, false, false, false] kr rfl rfl ⟨(cm HB.out hw190_0), (cm HB.out hw190_1), (cm HB.out hw190_2), (cm HB.out hw190_3), (cm HB.out hw190_4), (cm HB.out hw190_5), (cm HB.out hw190_6), (cm HB.out hw190_7), (cm HB.out hw190_8), (cm HB.out hw191_0), (cm HB.out hw191_1), (cm HB.out hw191_2), (cm HB.out hw191_3), (cm HB.out hw191_4), (cm HB.out hw191_5), (cm HB.out hw191_6), (cm HB.out hw191_7), (cm HB.out hw191_8)⟩ (fun hHeld => ?_); refine with_tabW laws_eqMsgS.tab6 laws_eqMsgS.bits6 (fun HT_ HW_ => ?_)
   generalize wr.drew = w8 at HB HR190_8 HR191_8 hx190_0 hx190_1 hx190_2 hx190_3 hx190_4 hx190_5 hx190_6 hx190_7 hx190_8 hx191_0 hx191_1 hx191_2 hx191_3 hx191_4 hx191_5 hx191_6 hx191_7 hx191_8 hHeld ⊢
   refine pV 0 17 (bt 1 10) ?_
   refine pV 1 18 (bt 2 10) ?_
   refine pV 2 19 (bt 3 10) ?_
   refine pV 4 21 #[true, true, true, false, true, false, false, false, false, false] ?_
   refine pV 5 22 #[true, true, true, false, true, true, false, false, false, false] ?_
   refine pV 6 23 #[true, true, true, false, true, true, true, false, false, false] ?_
   refine tV 3 20 (bt 7 10) ?_
   refine tV 7 24 (bt 8 10) ?_
   refine one_ (i := 8) (N := some 25) #[true, true, true, true, true, true, true, true, true, false] rfl rfl (one_of HT_.out kr) (by decide) (fun K hK => ?_)
   refine goes_ Try.func19 kr rfl #[.agg #[.int .i64 ((rd_T29 l0 x5_1).f0), .int .i64 ((rd_T29 l0 x5_1).f1), .int .i64 ((rd_T29 l0 x5_1).f2), .int .i64 ((rd_T29 l0 x5_1).f3), .int .i64 ((rd_T29 l0 x5_1).f4), .int .i64 ((rd_T29 l0 x5_1).f5), .int .i64 ((rd_T29 l0 x5_1).f6), .bool ((rd_T29 l0 x5_1).f7), .slice A190_8 ((rd_T29 l0 x5_1).f8).length c190_8], .agg #[.int .i64 ((rd_T29 l1 x5_1).f0), .int .i64 ((rd_T29 l1 x5_1).f1), .int .i64 ((rd_T29 l1 x5_1).f2), .int .i64 ((rd_T29 l1 x5_1).f3), .int .i64 ((rd_T29 l1 x5_1).f4), .int .i64 ((rd_T29 l1 x5_1).f5), .int .i64 ((rd_T29 l1 x5_1).f6), .bool ((rd_T29 l1 x5_1).f7), .slice A191_8 ((rd_T29 l1 x5_1).f8).length c191_8]] (by rfl) rfl rfl Q3 ?_
   with_reducible refine (laws_eqMsg.calls k1 ((rd_T29 l0 x5_1).f0) ((rd_T29 l0 x5_1).f1) ((rd_T29 l0 x5_1).f2) ((rd_T29 l0 x5_1).f3) ((rd_T29 l0 x5_1).f4) ((rd_T29 l0 x5_1).f5) ((rd_T29 l0 x5_1).f6) ((rd_T29 l0 x5_1).f7) _ _ ((rd_T29 l0 x5_1).f8) ((rd_T29 l1 x5_1).f0) ((rd_T29 l1 x5_1).f1) ((rd_T29 l1 x5_1).f2) ((rd_T29 l1 x5_1).f3) ((rd_T29 l1 x5_1).f4) ((rd_T29 l1 x5_1).f5) ((rd_T29 l1 x5_1).f6) ((rd_T29 l1 x5_1).f7) _ _ ((rd_T29 l1 x5_1).f8) t192 _ ?side1 ?side2 ?side3 ?side4 A7.out).mono ?_
   (case side1 => exact (by repeat (first | exact (Kd.C_below HR190_8.out HB.out) | (with_reducible refine Kd.C_alloc ?_ _) | (with_reducible refine Kd.C_drewN ?_ _) | (with_reducible refine Kd.C_drew ?_))))
   (case side2 => exact HC190_8.out)
   (case side3 => exact (by repeat (first | exact (Kd.C_below HR191_8.out HB.out) | (with_reducible refine Kd.C_alloc ?_ _) | (with_reducible refine Kd.C_drewN ?_ _) | (with_reducible refine Kd.C_drew ?_))))
   (case side4 => exact HC191_8.out)
   rintro e w9 ⟨rfl, hb⟩
   refine ⟨_, rfl, ?_⟩
   replace HB := am (below_step Q0 hb)
   (try clear hb)
   (try clear hb2)
   (try clear hk)
   (try clear hi)
   refine hK.out _ _ ⟨(cm HB.out hw190_0), (cm HB.out hw190_1), (cm HB.out hw190_2), (cm HB.out hw190_3), (cm HB.out hw190_4), (cm HB.out hw190_5), (cm HB.out hw190_6), (cm HB.out hw190_7), (cm HB.out hw190_8), (cm HB.out hw191_0), (cm HB.out hw191_1), (cm HB.out hw191_2), (cm HB.out hw191_3), (cm HB.out hw191_4), (cm HB.out hw191_5), (cm HB.out hw191_6), (cm HB.out hw191_7), (cm HB.out hw191_8)⟩ (fun hHeld => ?_)
   clear hK K
   refine norm_ (a' := ?_) ?_ ?_
   rotate_left
   · show Act.put _ (some 25) _ = _
     simp only [Act.put, la, lb, lc, i64_w, i32_w]
     rfl
   refine pV 9 26 (bt 10 10) ?_
   refine done_ (done_of HT_.out kr) ?_
   go_upto_if 26 with (fail)
   have H := H9.out
   clear H9
   by_cases c10 : t192 = true
   · subst c10
     rw [if_pos rfl] at H
     have H' := am H
     clear H
     go_wp2
     go_roundg k1
     case measure => have := HK1.out; omega
     case rel => exact ⟨(wrap64 (x5_1 + 1)), (by first | rfl | (simp; done) | (simp [*]; done)), H', ⟨by have := HK1.out; omega⟩, ⟨Q0⟩⟩
   replace c10 := Bool.eq_false_iff.mpr c10
   subst c10
   rw [nf] at H
   obtain rfl := sj H
   go_wp2
   go_ret
   exact ⟨er, Q0⟩

/-! ### laws_markEntry0: function 59, another contract -/
def laws_markEntry0.f (l0 : List S85) (a1 : Int) : Option Int := if l0.length = 0 then some a1 else none
set_option maxHeartbeats 400000 in
theorem laws_markEntry0.calls (A0 : Option Addr) (c0 : Nat) (l0 : List S85) (a1 : Int) (r : Int) (w : World) (hr0 : Kd.C k85 w A0 l0.length l0) (hc0 : l0.length ≤ c0) (h : laws_markEntry0.f l0 a1 = some r) :
   Calls Try.prog 59 #[.slice A0 l0.length c0, .int .i64 a1] w fun e w' => e = .returned (.int .i64 r) ∧ Below w.heap.size w w' := by
 have hn : l0.length = 0 ∧ a1 = r := by
   unfold laws_markEntry0.f at h
   by_cases e : l0.length = 0
   · rw [if_pos e] at h; exact ⟨e, Option.some.inj h⟩
   · rw [if_neg e] at h; exact absurd h (by simp)
 obtain ⟨hl, rfl⟩ := hn
 have HL := am hl
 clear h hl hr0 hc0
 go_enter Try.func59, Try.ntmps59
 go_wp2
 go_loopg [1, 5] 1 (fun kq v1 v5 w' => ∃ x5 : Int, v1 = .int .i64 a1 ∧ v5 = .int .i64 x5 ∧ Aside0 (x5 = 0) ∧ Aside0 (Below w.heap.size w w'))
 case atStart => exact ⟨0, rfl, rfl, ⟨rfl⟩, ⟨(by first | exact Below.refl _ _ | (repeat (first | exact Below.refl _ _ | apply below_alloc | apply pw_below_drewN | apply below_drew1)))⟩⟩
 obtain ⟨x5, rfl, rfl, X5, HB⟩ := hrel
 have c3 : decide (x5 < (l0.length : Int)) = false := decide_eq_false (by have := HL.out; have := X5.out; omega)
 go_wp2
 go_ret
 exact ⟨rfl, (by repeat (first | exact HB.out | apply below_alloc | apply pw_below_drewN | apply below_drew1))⟩


end Go.Proofs.Ytkcadcoohmofcaa.QFnExactElect
