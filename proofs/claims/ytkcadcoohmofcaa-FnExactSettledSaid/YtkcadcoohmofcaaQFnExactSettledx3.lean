import Derived.Test.YtkcadcoohmofcaaSqFnExactSettled
import Derived.Test.YtkcadcoohmofcaaQFnExactSettledx0
import Derived.Test.YtkcadcoohmofcaaQFnExactSettledx2
namespace Go.Proofs.Ytkcadcoohmofcaa.QFnExactSettled
open Go.RowKit Go.Proofs.YtkcadcoohmofcaaW.PrintWords Go.Proofs.YtkcadcoohmofcaaW.PrintLast Go.Proofs.YtkcadcoohmofcaaW.PrintMore Go.Proofs.Ytkcadcoohmofcaa.SqFnExactSettled
attribute [local go_sem] max2_int min2_int max_two min_two max_three min_three max_four min_four Go.Proofs.Ytkcadcoohmofcaa.Set.isSome_setCell
set_option linter.unusedVariables false
set_option linter.unusedSimpArgs false
theorem u3_3 {P : Prop} (h : P := by (with_reducible repeat (first | apply b1_ | apply b2_ | apply b3_)); exact BK117.out) : P := h
def laws_eqNode.f (k : Nat) (a0_0 : Int) (a0_1 : Int) (a0_2 : Int) (a0_3 : Int) (a0_4 : Int) (a0_5 : Int) (a0_6 : Int) (l0_7 : List (S85)) (l0_8 : List Int) (l0_9 : List Int) (a1_0 : Int) (a1_1 : Int) (a1_2 : Int) (a1_3 : Int) (a1_4 : Int) (a1_5 : Int) (a1_6 : Int) (l1_7 : List (S85)) (l1_8 : List Int) (l1_9 : List Int) : Option (Bool) := if a0_0 = a1_0 then (if a0_1 = a1_1 then (if a0_2 = a1_2 then (if a0_3 = a1_3 then (if a0_4 = a1_4 then ((laws_eqRLog.f k a0_5 a0_6 l0_7 a1_5 a1_6 l1_7).bind fun t119 => (if t119 = true then ((laws_eqIntS.f k l0_8 l1_8).bind fun t120 => (if t120 = true then ((laws_eqIntS.f k l0_9 l1_9).bind fun t121 => (if t121 = true then (some true) else (some false))) else (some false))) else (some false))) else (some false)) else (some false)) else (some false)) else (some false)) else (some false)
theorem laws_eqNode.mono : ∀ a0 a1 a2 a3 a4 a5 a6 a7 a8 a9 a10 a11 a12 a13 a14 a15 a16 a17 a18 a19 k, LeO (laws_eqNode.f k a0 a1 a2 a3 a4 a5 a6 a7 a8 a9 a10 a11 a12 a13 a14 a15 a16 a17 a18 a19) (laws_eqNode.f (k + 1) a0 a1 a2 a3 a4 a5 a6 a7 a8 a9 a10 a11 a12 a13 a14 a15 a16 a17 a18 a19) := by
 intro a0 a1 a2 a3 a4 a5 a6 a7 a8 a9 a10 a11 a12 a13 a14 a15 a16 a17 a18 a19 k
 unfold laws_eqNode.f
 repeat' first
     | (with_reducible exact laws_eqIntS.mono _ _ _)
     | (with_reducible exact laws_eqRLog.mono _ _ _ _ _ _ _)
     | (with_reducible exact LeO.refl _)
     | (with_reducible exact LeO.none _)
     | (with_reducible refine LeO.ite ?_ ?_)
     | (with_reducible refine LeO.bind ?_ (fun _ => ?_))
     | exact laws_eqIntS.mono _ _ _
     | exact laws_eqRLog.mono _ _ _ _ _ _ _
     | exact LeO.none _
     | refine LeO.ite ?_ ?_
     | refine LeO.bind ?_ (fun _ => ?_)
set_option maxHeartbeats 8000000 in
set_option maxRecDepth 100000 in
theorem laws_eqNode.calls (k : Nat) (a0_0 : Int) (a0_1 : Int) (a0_2 : Int) (a0_3 : Int) (a0_4 : Int) (a0_5 : Int) (a0_6 : Int) (A0_7 : Option Addr) (c0_7 : Nat) (l0_7 : List (S85)) (A0_8 : Option Addr) (c0_8 : Nat) (l0_8 : List Int) (A0_9 : Option Addr) (c0_9 : Nat) (l0_9 : List Int) (a1_0 : Int) (a1_1 : Int) (a1_2 : Int) (a1_3 : Int) (a1_4 : Int) (a1_5 : Int) (a1_6 : Int) (A1_7 : Option Addr) (c1_7 : Nat) (l1_7 : List (S85)) (A1_8 : Option Addr) (c1_8 : Nat) (l1_8 : List Int) (A1_9 : Option Addr) (c1_9 : Nat) (l1_9 : List Int) (r : Bool) (w : World) (hr0_7 : Kd.C k85 w A0_7 l0_7.length l0_7) (hc0_7 : l0_7.length ≤ c0_7) (hr0_8 : Kd.C (Kd.int .i64) w A0_8 l0_8.length l0_8) (hc0_8 : l0_8.length ≤ c0_8) (hr0_9 : Kd.C (Kd.int .i64) w A0_9 l0_9.length l0_9) (hc0_9 : l0_9.length ≤ c0_9) (hr1_7 : Kd.C k85 w A1_7 l1_7.length l1_7) (hc1_7 : l1_7.length ≤ c1_7) (hr1_8 : Kd.C (Kd.int .i64) w A1_8 l1_8.length l1_8) (hc1_8 : l1_8.length ≤ c1_8) (hr1_9 : Kd.C (Kd.int .i64) w A1_9 l1_9.length l1_9) (hc1_9 : l1_9.length ≤ c1_9) (h : laws_eqNode.f k a0_0 a0_1 a0_2 a0_3 a0_4 a0_5 a0_6 l0_7 l0_8 l0_9 a1_0 a1_1 a1_2 a1_3 a1_4 a1_5 a1_6 l1_7 l1_8 l1_9 = some r) :
   Calls Try.prog 22 #[.agg #[.int .i64 a0_0, .int .i64 a0_1, .int .i64 a0_2, .int .i64 a0_3, .int .i64 a0_4, .int .i64 a0_5, .int .i64 a0_6, .slice A0_7 l0_7.length c0_7, .slice A0_8 l0_8.length c0_8, .slice A0_9 l0_9.length c0_9], .agg #[.int .i64 a1_0, .int .i64 a1_1, .int .i64 a1_2, .int .i64 a1_3, .int .i64 a1_4, .int .i64 a1_5, .int .i64 a1_6, .slice A1_7 l1_7.length c1_7, .slice A1_8 l1_8.length c1_8, .slice A1_9 l1_9.length c1_9]] w fun e w' => e = .returned (.bool r) ∧ Below w.heap.size w w' := by
 have hu37 := Try.underlying37
 have hu34 := Try.underlying34
 have HR0_7 := am hr0_7
 have HC0_7 := am hc0_7
 clear hr0_7 hc0_7
 have HR0_8 := am hr0_8
 have HC0_8 := am hc0_8
 clear hr0_8 hc0_8
 have HR0_9 := am hr0_9
 have HC0_9 := am hc0_9
 clear hr0_9 hc0_9
 have HR1_7 := am hr1_7
 have HC1_7 := am hc1_7
 clear hr1_7 hc1_7
 have HR1_8 := am hr1_8
 have HC1_8 := am hc1_8
 clear hr1_8 hc1_8
 have HR1_9 := am hr1_9
 have HC1_9 := am hc1_9
 clear hr1_9 hc1_9
 have HB := am (Below.refl w.heap.size w)
 have H : (if a0_0 = a1_0 then (if a0_1 = a1_1 then (if a0_2 = a1_2 then (if a0_3 = a1_3 then (if a0_4 = a1_4 then ((laws_eqRLog.f k a0_5 a0_6 l0_7 a1_5 a1_6 l1_7).bind fun t119 => (if t119 = true then ((laws_eqIntS.f k l0_8 l1_8).bind fun t120 => (if t120 = true then ((laws_eqIntS.f k l0_9 l1_9).bind fun t121 => (if t121 = true then (some true) else (some false))) else (some false))) else (some false))) else (some false)) else (some false)) else (some false)) else (some false)) else (some false)) = some r := h
 clear h
 have H9 := am H
 clear H
 go_enter Try.func22, Try.ntmps22
 go_upto_if 9 with (first | ((with_reducible refine gate_dst (N := 2) rfl ?_); refine box_event ?hg (N := 2) ?hd (cs := #[.int .i64 a0_0, .int .i64 a0_1, .int .i64 a0_2, .int .i64 a0_3, .int .i64 a0_4, .int .i64 a0_5, .int .i64 a0_6, .slice A0_7 l0_7.length c0_7, .slice A0_8 l0_8.length c0_8, .slice A0_9 l0_9.length c0_9]) (t := 37) ?hr ?_; (case hd => rfl); (case hg => rfl); (case hr => first | (go_simp; done) | (go_simp; rfl)); intro gb117 hg w3 hbox hb; have BK117 := am (hbox); have GW117 := am ((by rw [hg]; exact (below_size Q2) : w.heap.size ≤ gb117)); have GE117 := am ((by rw [hg]; exact (below_size Q2) : w.heap.size ≤ gb117)); replace HB := am (below_step Q2 hb); clear hb hbox hg) | ((with_reducible refine gate_dst (N := 3) rfl ?_); refine box_event ?hg (N := 3) ?hd (cs := #[.int .i64 a1_0, .int .i64 a1_1, .int .i64 a1_2, .int .i64 a1_3, .int .i64 a1_4, .int .i64 a1_5, .int .i64 a1_6, .slice A1_7 l1_7.length c1_7, .slice A1_8 l1_8.length c1_8, .slice A1_9 l1_9.length c1_9]) (t := 37) ?hr ?_; (case hd => rfl); (case hg => rfl); (case hr => first | (go_simp; done) | (go_simp; rfl)); intro gb118 hg w4 hbox hb; have BK118 := am (hbox); have GW118 := am ((by rw [hg]; exact (below_size Q2) : w.heap.size ≤ gb118)); have GE118 := am ((by rw [hg]; exact (below_size Q2) : w.heap.size ≤ gb118)); replace HB := am (below_step Q2 hb); have NB117_118 := am ((by rw [hg]; exact Nat.ne_of_lt (blk_lt (g := gb117) (o := .cells #[.int .i64 a0_0, .int .i64 a0_1, .int .i64 a0_2, .int .i64 a0_3, .int .i64 a0_4, .int .i64 a0_5, .int .i64 a0_6, .slice A0_7 l0_7.length c0_7, .slice A0_8 l0_8.length c0_8, .slice A0_9 l0_9.length c0_9] 37 (0, 0)) u3_3) : gb117 ≠ gb118)); have NB118_117 := am ((by rw [hg]; exact Nat.ne_of_gt (blk_lt (g := gb117) (o := .cells #[.int .i64 a0_0, .int .i64 a0_1, .int .i64 a0_2, .int .i64 a0_3, .int .i64 a0_4, .int .i64 a0_5, .int .i64 a0_6, .slice A0_7 l0_7.length c0_7, .slice A0_8 l0_8.length c0_8, .slice A0_9 l0_9.length c0_9] 37 (0, 0)) u3_3) : gb118 ≠ gb117)); replace BK117 := am (bb_ BK117.out u3_3 hb); clear hb hbox hg; have hnb5 := NB117_118.out; have hnc5 := NB118_117.out; obtain ⟨hcz6_0, hcz6_1, hcz6_2, hcz6_3, hcz6_4, hcz6_5, hcz6_6, hcz6_7, hcz6_8, hcz6_9⟩ := bc10 w4 BK117.out; obtain ⟨hcz7_0, hcz7_1, hcz7_2, hcz7_3, hcz7_4, hcz7_5, hcz7_6, hcz7_7, hcz7_8, hcz7_9, hfz7_0, hfz7_1, hfz7_2, hfz7_3, hfz7_4, hfz7_5, hfz7_6, hfz7_7, hfz7_8, hfz7_9⟩ := bc10f w4 BK118.out))
 have H := H9.out
 clear H9
 by_cases c8 : a0_0 = a1_0
 rotate_left
 · rw [if_neg c8] at H
   have c8b0 : (a0_0 == a1_0) = false := beq_eq_false_iff_ne.mpr c8
   have c8b1 : (a0_0 != a1_0) = true := bne_iff_ne.mpr c8
   (first | rw [c8b0] | (simp only [i64_w, i32_w]; rw [c8b0]) | skip)
   obtain rfl := sj H
   go_wp2
   go_ret
   exact ⟨er, Q2⟩
 rw [if_pos c8] at H
 have c8b0 : (a0_0 == a1_0) = true := beq_iff_eq.mpr c8
 have c8b1 : (a0_0 != a1_0) = false := bne_eq_false_iff_eq.mpr c8
 clear c8
 (first | rw [c8b0] | (simp only [i64_w, i32_w]; rw [c8b0]) | skip)
 by_cases c9 : a0_1 = a1_1
 rotate_left
 · rw [if_neg c9] at H
   have c9b0 : (a0_1 == a1_1) = false := beq_eq_false_iff_ne.mpr c9
   have c9b1 : (a0_1 != a1_1) = true := bne_iff_ne.mpr c9
   obtain rfl := sj H
   have hnb38 := NB117_118.out
   have hnc38 := NB118_117.out
   obtain ⟨hcz39_0, hcz39_1, hcz39_2, hcz39_3, hcz39_4, hcz39_5, hcz39_6, hcz39_7, hcz39_8, hcz39_9⟩ := bc10 w4 BK117.out
   obtain ⟨hcz40_0, hcz40_1, hcz40_2, hcz40_3, hcz40_4, hcz40_5, hcz40_6, hcz40_7, hcz40_8, hcz40_9, hfz40_0, hfz40_1, hfz40_2, hfz40_3, hfz40_4, hfz40_5, hfz40_6, hfz40_7, hfz40_8, hfz40_9⟩ := bc10f w4 BK118.out
   go_wp2
   go_ret
   exact ⟨er, Q2⟩
 rw [if_pos c9] at H
 have c9b0 : (a0_1 == a1_1) = true := beq_iff_eq.mpr c9
 have c9b1 : (a0_1 != a1_1) = false := bne_eq_false_iff_eq.mpr c9
 clear c9
 by_cases c10 : a0_2 = a1_2
 rotate_left
 · rw [if_neg c10] at H
   have c10b0 : (a0_2 == a1_2) = false := beq_eq_false_iff_ne.mpr c10
   have c10b1 : (a0_2 != a1_2) = true := bne_iff_ne.mpr c10
   obtain rfl := sj H
   have hnb35 := NB117_118.out
   have hnc35 := NB118_117.out
   obtain ⟨hcz36_0, hcz36_1, hcz36_2, hcz36_3, hcz36_4, hcz36_5, hcz36_6, hcz36_7, hcz36_8, hcz36_9⟩ := bc10 w4 BK117.out
   obtain ⟨hcz37_0, hcz37_1, hcz37_2, hcz37_3, hcz37_4, hcz37_5, hcz37_6, hcz37_7, hcz37_8, hcz37_9, hfz37_0, hfz37_1, hfz37_2, hfz37_3, hfz37_4, hfz37_5, hfz37_6, hfz37_7, hfz37_8, hfz37_9⟩ := bc10f w4 BK118.out
   go_wp2
   go_ret
   exact ⟨er, Q2⟩
 rw [if_pos c10] at H
 have c10b0 : (a0_2 == a1_2) = true := beq_iff_eq.mpr c10
 have c10b1 : (a0_2 != a1_2) = false := bne_eq_false_iff_eq.mpr c10
 clear c10
 by_cases c11 : a0_3 = a1_3
 rotate_left
 · rw [if_neg c11] at H
   have c11b0 : (a0_3 == a1_3) = false := beq_eq_false_iff_ne.mpr c11
   have c11b1 : (a0_3 != a1_3) = true := bne_iff_ne.mpr c11
   obtain rfl := sj H
   have hnb32 := NB117_118.out
   have hnc32 := NB118_117.out
   obtain ⟨hcz33_0, hcz33_1, hcz33_2, hcz33_3, hcz33_4, hcz33_5, hcz33_6, hcz33_7, hcz33_8, hcz33_9⟩ := bc10 w4 BK117.out
   obtain ⟨hcz34_0, hcz34_1, hcz34_2, hcz34_3, hcz34_4, hcz34_5, hcz34_6, hcz34_7, hcz34_8, hcz34_9, hfz34_0, hfz34_1, hfz34_2, hfz34_3, hfz34_4, hfz34_5, hfz34_6, hfz34_7, hfz34_8, hfz34_9⟩ := bc10f w4 BK118.out
   go_wp2
   go_ret
   exact ⟨er, Q2⟩
 rw [if_pos c11] at H
 have c11b0 : (a0_3 == a1_3) = true := beq_iff_eq.mpr c11
 have c11b1 : (a0_3 != a1_3) = false := bne_eq_false_iff_eq.mpr c11
 clear c11
 by_cases c12 : a0_4 = a1_4
 rotate_left
 · rw [if_neg c12] at H
   have c12b0 : (a0_4 == a1_4) = false := beq_eq_false_iff_ne.mpr c12
   have c12b1 : (a0_4 != a1_4) = true := bne_iff_ne.mpr c12
   obtain rfl := sj H
   have hnb29 := NB117_118.out
   have hnc29 := NB118_117.out
   obtain ⟨hcz30_0, hcz30_1, hcz30_2, hcz30_3, hcz30_4, hcz30_5, hcz30_6, hcz30_7, hcz30_8, hcz30_9⟩ := bc10 w4 BK117.out
   obtain ⟨hcz31_0, hcz31_1, hcz31_2, hcz31_3, hcz31_4, hcz31_5, hcz31_6, hcz31_7, hcz31_8, hcz31_9, hfz31_0, hfz31_1, hfz31_2, hfz31_3, hfz31_4, hfz31_5, hfz31_6, hfz31_7, hfz31_8, hfz31_9⟩ := bc10f w4 BK118.out
   go_wp2
   go_ret
   exact ⟨er, Q2⟩
 rw [if_pos c12] at H
 have c12b0 : (a0_4 == a1_4) = true := beq_iff_eq.mpr c12
 have c12b1 : (a0_4 != a1_4) = false := bne_eq_false_iff_eq.mpr c12
 clear c12
 replace H := Option.bind_eq_some_iff.mp H
 obtain ⟨t119, A130, H⟩ := H
 have A13 := am A130
 clear A130
 have H9 := am H
 clear H
 have hnb14 := NB117_118.out
 have hnc14 := NB118_117.out
 obtain ⟨hcz15_0, hcz15_1, hcz15_2, hcz15_3, hcz15_4, hcz15_5, hcz15_6, hcz15_7, hcz15_8, hcz15_9⟩ := bc10 w4 BK117.out
 obtain ⟨hcz16_0, hcz16_1, hcz16_2, hcz16_3, hcz16_4, hcz16_5, hcz16_6, hcz16_7, hcz16_8, hcz16_9, hfz16_0, hfz16_1, hfz16_2, hfz16_3, hfz16_4, hfz16_5, hfz16_6, hfz16_7, hfz16_8, hfz16_9⟩ := bc10f w4 BK118.out
 go_upto_if 35 with (first | ((with_reducible refine gate_callee (f := 67) rfl ?_); refine goesL_ (some 34) rfl rfl Try.func67 kr rfl #[.agg #[.int .i64 a0_5, .int .i64 a0_6, .slice A0_7 l0_7.length c0_7], .agg #[.int .i64 a1_5, .int .i64 a1_6, .slice A1_7 l1_7.length c1_7]] rfl Q0 ?_; (with_reducible refine (laws_eqRLog.calls k a0_5 a0_6 _ _ l0_7 a1_5 a1_6 _ _ l1_7 t119 _ ?side1 ?side2 ?side3 ?side4 A13.out).mono ?_); (case side1 => exact (by repeat (first | exact (Kd.C_below HR0_7.out HB.out) | (with_reducible refine Kd.C_alloc ?_ _) | (with_reducible refine Kd.C_drewN ?_ _) | (with_reducible refine Kd.C_drew ?_)))); (case side2 => exact HC0_7.out); (case side3 => exact (by repeat (first | exact (Kd.C_below HR1_7.out HB.out) | (with_reducible refine Kd.C_alloc ?_ _) | (with_reducible refine Kd.C_drewN ?_ _) | (with_reducible refine Kd.C_drew ?_)))); (case side4 => exact HC1_7.out); rintro e w17 ⟨rfl, hb⟩; refine ⟨_, rfl, ?_⟩; replace BK117 := am (bb_ BK117.out u3_3 hb); replace BK118 := am (blk_below (g := gb118) (o := .cells #[.int .i64 a1_0, .int .i64 a1_1, .int .i64 a1_2, .int .i64 a1_3, .int .i64 a1_4, .int .i64 a1_5, .int .i64 a1_6, .slice A1_7 l1_7.length c1_7, .slice A1_8 l1_8.length c1_8, .slice A1_9 l1_9.length c1_9] 37 (0, 0)) (by (with_reducible repeat (first | apply b1_ | apply b2_ | apply b3_)); exact BK118.out) hb); replace HB := am (below_step Q2 hb); (try clear hb); (try clear hb2); (try clear hk); (try clear hi)))
 have H := H9.out
 clear H9
 by_cases c18 : t119 = true
 rotate_left
 · replace c18 := Bool.eq_false_iff.mpr c18
   subst c18
   rw [nf] at H
   obtain rfl := sj H
   go_wp2
   go_ret
   exact ⟨er, Q2⟩
 subst c18
 rw [if_pos rfl] at H
 replace H := Option.bind_eq_some_iff.mp H
 obtain ⟨t120, A190, H⟩ := H
 have A19 := am A190
 clear A190
 have H9 := am H
 clear H
 have hnb20 := NB117_118.out
 have hnc20 := NB118_117.out
 obtain ⟨hcz21_0, hcz21_1, hcz21_2, hcz21_3, hcz21_4, hcz21_5, hcz21_6, hcz21_7, hcz21_8, hcz21_9⟩ := bc10 w17 BK117.out
 obtain ⟨hcz22_0, hcz22_1, hcz22_2, hcz22_3, hcz22_4, hcz22_5, hcz22_6, hcz22_7, hcz22_8, hcz22_9, hfz22_0, hfz22_1, hfz22_2, hfz22_3, hfz22_4, hfz22_5, hfz22_6, hfz22_7, hfz22_8, hfz22_9⟩ := bc10f w17 BK118.out
 go_upto_if 41 with (first | ((with_reducible refine gate_callee (f := 53) rfl ?_); refine goesL_ (some 40) rfl rfl Try.func53 kr rfl #[.slice A0_8 l0_8.length c0_8, .slice A1_8 l1_8.length c1_8] rfl Q0 ?_; (with_reducible refine (laws_eqIntS.calls k _ _ l0_8 _ _ l1_8 t120 _ ?side1 ?side2 ?side3 ?side4 A19.out).mono ?_); (case side1 => exact (by repeat (first | exact (Kd.C_below HR0_8.out HB.out) | (with_reducible refine Kd.C_alloc ?_ _) | (with_reducible refine Kd.C_drewN ?_ _) | (with_reducible refine Kd.C_drew ?_)))); (case side2 => exact HC0_8.out); (case side3 => exact (by repeat (first | exact (Kd.C_below HR1_8.out HB.out) | (with_reducible refine Kd.C_alloc ?_ _) | (with_reducible refine Kd.C_drewN ?_ _) | (with_reducible refine Kd.C_drew ?_)))); (case side4 => exact HC1_8.out); rintro e w' ⟨rfl, ⟨nd, rfl⟩⟩; refine ⟨_, rfl, ?_⟩))
 have H := H9.out
 clear H9
 by_cases c23 : t120 = true
 rotate_left
 · replace c23 := Bool.eq_false_iff.mpr c23
   subst c23
   rw [nf] at H
   obtain rfl := sj H
   go_wp2
   go_ret
   exact ⟨er, Q2⟩
 subst c23
 rw [if_pos rfl] at H
 replace H := Option.bind_eq_some_iff.mp H
 obtain ⟨t121, A240, H⟩ := H
 replace H : (if t121 = true then (some true) else (some false)) = some r := H
 have A24 := am A240
 clear A240
 have H9 := am H
 clear H
 have hnb25 := NB117_118.out
 have hnc25 := NB118_117.out
 obtain ⟨hcz26_0, hcz26_1, hcz26_2, hcz26_3, hcz26_4, hcz26_5, hcz26_6, hcz26_7, hcz26_8, hcz26_9⟩ := bc10 w17 BK117.out
 obtain ⟨hcz27_0, hcz27_1, hcz27_2, hcz27_3, hcz27_4, hcz27_5, hcz27_6, hcz27_7, hcz27_8, hcz27_9, hfz27_0, hfz27_1, hfz27_2, hfz27_3, hfz27_4, hfz27_5, hfz27_6, hfz27_7, hfz27_8, hfz27_9⟩ := bc10f w17 BK118.out
 go_upto_if 47 with (first | ((with_reducible refine gate_callee (f := 53) rfl ?_); refine goesL_ (some 46) rfl rfl Try.func53 kr rfl #[.slice A0_9 l0_9.length c0_9, .slice A1_9 l1_9.length c1_9] rfl Q0 ?_; (with_reducible refine (laws_eqIntS.calls k _ _ l0_9 _ _ l1_9 t121 _ ?side1 ?side2 ?side3 ?side4 A24.out).mono ?_); (case side1 => exact (by repeat (first | exact (Kd.C_below HR0_9.out HB.out) | (with_reducible refine Kd.C_alloc ?_ _) | (with_reducible refine Kd.C_drewN ?_ _) | (with_reducible refine Kd.C_drew ?_)))); (case side2 => exact HC0_9.out); (case side3 => exact (by repeat (first | exact (Kd.C_below HR1_9.out HB.out) | (with_reducible refine Kd.C_alloc ?_ _) | (with_reducible refine Kd.C_drewN ?_ _) | (with_reducible refine Kd.C_drew ?_)))); (case side4 => exact HC1_9.out); rintro e w' ⟨rfl, ⟨nd, rfl⟩⟩; refine ⟨_, rfl, ?_⟩))
 have H := H9.out
 clear H9
 by_cases c28 : t121 = true
 · subst c28
   rw [if_pos rfl] at H
   obtain rfl := sj H
   go_wp2
   go_ret
   exact ⟨er, Q2⟩
 replace c28 := Bool.eq_false_iff.mpr c28
 subst c28
 rw [nf] at H
 obtain rfl := sj H
 go_wp2
 go_ret
 exact ⟨er, Q2⟩
def laws_eqNodeS.l0 : Nat → List (S37) → List (S37) → Int → Option (Bool)
 | 0, _, _, _ => none
 | k + 1, x0, x1, x5 => if x5 < (x0.length : Int) then (if 0 ≤ x5 then (if x5 < (x1.length : Int) then ((laws_eqNode.f k ((rd_T37 x0 x5).f0) ((rd_T37 x0 x5).f1) ((rd_T37 x0 x5).f2) ((rd_T37 x0 x5).f3) ((rd_T37 x0 x5).f4) ((rd_T37 x0 x5).f5.f0) ((rd_T37 x0 x5).f5.f1) ((rd_T37 x0 x5).f5.f2) ((rd_T37 x0 x5).f6) ((rd_T37 x0 x5).f7) ((rd_T37 x1 x5).f0) ((rd_T37 x1 x5).f1) ((rd_T37 x1 x5).f2) ((rd_T37 x1 x5).f3) ((rd_T37 x1 x5).f4) ((rd_T37 x1 x5).f5.f0) ((rd_T37 x1 x5).f5.f1) ((rd_T37 x1 x5).f5.f2) ((rd_T37 x1 x5).f6) ((rd_T37 x1 x5).f7)).bind fun t124 => (if t124 = true then (laws_eqNodeS.l0 k x0 x1 (wrap64 (x5 + 1))) else (some false))) else (none)) else (none)) else (some true)
def laws_eqNodeS.f (k : Nat) (l0 : List (S37)) (l1 : List (S37)) : Option (Bool) := if (l0.length : Int) = (l1.length : Int) then (laws_eqNodeS.l0 k l0 l1 0) else (some false)
theorem laws_eqNodeS.mono_l : ∀ k, (∀ y0 y1 y2, LeO (laws_eqNodeS.l0 k y0 y1 y2) (laws_eqNodeS.l0 (k + 1) y0 y1 y2))
 | 0 => fun _ _ _ r h => by simp [laws_eqNodeS.l0] at h
 | k + 1 => by
   have ih0 := laws_eqNodeS.mono_l k
   · intro y0 y1 y2
     unfold laws_eqNodeS.l0
     repeat' first
     | (with_reducible exact ih0 _ _ _)
     | (with_reducible exact laws_eqNode.mono _ _ _ _ _ _ _ _ _ _ _ _ _ _ _ _ _ _ _ _ _)
     | (with_reducible exact LeO.refl _)
     | (with_reducible exact LeO.none _)
     | (with_reducible refine LeO.ite ?_ ?_)
     | (with_reducible refine LeO.bind ?_ (fun _ => ?_))
     | exact ih0 _ _ _
     | exact laws_eqNode.mono _ _ _ _ _ _ _ _ _ _ _ _ _ _ _ _ _ _ _ _ _
     | exact LeO.none _
     | refine LeO.ite ?_ ?_
     | refine LeO.bind ?_ (fun _ => ?_)
theorem laws_eqNodeS.mono : ∀ a0 a1 k, LeO (laws_eqNodeS.f k a0 a1) (laws_eqNodeS.f (k + 1) a0 a1) := by
 intro a0 a1 k
 have ih0 := laws_eqNodeS.mono_l k
 unfold laws_eqNodeS.f
 repeat' first
     | (with_reducible exact ih0 _ _ _)
     | (with_reducible exact laws_eqNode.mono _ _ _ _ _ _ _ _ _ _ _ _ _ _ _ _ _ _ _ _ _)
     | (with_reducible exact LeO.refl _)
     | (with_reducible exact LeO.none _)
     | (with_reducible refine LeO.ite ?_ ?_)
     | (with_reducible refine LeO.bind ?_ (fun _ => ?_))
     | exact ih0 _ _ _
     | exact laws_eqNode.mono _ _ _ _ _ _ _ _ _ _ _ _ _ _ _ _ _ _ _ _ _
     | exact LeO.none _
     | refine LeO.ite ?_ ?_
     | refine LeO.bind ?_ (fun _ => ?_)
def laws_eqNodeS.T6 : Bool × List (List Nat × List Nat) := (true, [([], []), ([], []), ([0, 1], [0, 1]), ([2], [2]), ([], []), ([], []), ([4, 5], [4, 5]), ([6], [6]), ([3, 7], [3, 7]), ([8], [8])])
def laws_eqNodeS.B6 : List Nat := [0, 0, 3, 7, 0, 0, 48, 112, 255, 511]
theorem laws_eqNodeS.tab6 : rtab .any (opsOf Try.f80 6) = laws_eqNodeS.T6 := by kernel_rfl
theorem laws_eqNodeS.bits6 : waitsOk laws_eqNodeS.T6.2 laws_eqNodeS.B6 = true := by kernel_rfl
set_option maxHeartbeats 8000000 in
set_option maxRecDepth 100000 in
theorem laws_eqNodeS.calls (k : Nat) (A0 : Option Addr) (c0 : Nat) (l0 : List (S37)) (A1 : Option Addr) (c1 : Nat) (l1 : List (S37)) (r : Bool) (w : World) (hr0 : Kd.C k37 w A0 l0.length l0) (hc0 : l0.length ≤ c0) (hr1 : Kd.C k37 w A1 l1.length l1) (hc1 : l1.length ≤ c1) (h : laws_eqNodeS.f k l0 l1 = some r) :
   Calls Try.prog 80 #[.slice A0 l0.length c0, .slice A1 l1.length c1] w fun e w' => e = .returned (.bool r) ∧ Below w.heap.size w w' := by
 have hu37 := Try.underlying37
 have HR0 := am hr0
 have HC0 := am hc0
 clear hr0 hc0
 have HR1 := am hr1
 have HC1 := am hc1
 clear hr1 hc1
 have HB := am (Below.refl w.heap.size w)
 have H : (if (l0.length : Int) = (l1.length : Int) then (laws_eqNodeS.l0 k l0 l1 0) else (some false)) = some r := h
 clear h
 by_cases c3 : (l0.length : Int) = (l1.length : Int)
 rotate_left
 · rw [if_neg c3] at H
   have c3b0 : ((l0.length : Int) == (l1.length : Int)) = false := beq_eq_false_iff_ne.mpr c3
   have c3b1 : ((l0.length : Int) != (l1.length : Int)) = true := bne_iff_ne.mpr c3
   have c3b2 : (l0.length == l1.length) = false := by first | simpa using c3 | (simp at c3 ⊢; omega)
   obtain rfl := sj H
   go_enter Try.func80, Try.ntmps80
   go_wp2
   go_ret
   exact ⟨er, Q2⟩
 rw [if_pos c3] at H
 have c3b0 : ((l0.length : Int) == (l1.length : Int)) = true := beq_iff_eq.mpr c3
 have c3b1 : ((l0.length : Int) != (l1.length : Int)) = false := bne_eq_false_iff_eq.mpr c3
 have c3b2 : (l0.length == l1.length) = true := by first | simpa using c3 | (simp at c3 ⊢; omega)
 clear c3
 have H' := am H
 clear H
 go_enter Try.func80, Try.ntmps80
 go_wp2
 go_loopg [5] k (fun kq v5 w' => ∃ (x5_1 : Int), v5 = .int .i64 x5_1 ∧ Aside0 (laws_eqNodeS.l0 kq l0 l1 x5_1 = some r) ∧ Aside0 (kq ≤ k) ∧ Aside0 (Below w.heap.size w w'))
 case atStart => exact ⟨(0), (by first | rfl | (simp; done) | (simp [*]; done)), H', ⟨Nat.le_refl _⟩, ⟨Q2⟩⟩
 clear H'
 try clear c1
 try clear c3
 try clear c3b0
 try clear c3b1
 try clear c3b2
 obtain ⟨x5_1, rfl, HA, HK1, HB⟩ := hrel
 cases gk with
 | zero => exact absurd HA.out (by simp [laws_eqNodeS.l0])
 | succ k1 =>
   have H := HA.out
   clear HA
   simp only [laws_eqNodeS.l0] at H
   by_cases c4 : x5_1 < (l0.length : Int)
   rotate_left
   · rw [if_neg c4] at H
     have c4b0 : decide (x5_1 < (l0.length : Int)) = false := decide_eq_false c4
     clear c4
     obtain rfl := sj H
     go_wp2
     go_ret
     exact ⟨er, Q2⟩
   rw [if_pos c4] at H
   have c4b0 : decide (x5_1 < (l0.length : Int)) = true := decide_eq_true c4
   clear c4
   by_cases c5 : 0 ≤ x5_1
   rotate_left
   · rw [if_neg c5] at H
     exact absurd H (by simp)
   rw [if_pos c5] at H
   have c5b0 : decide (0 ≤ x5_1) = true := decide_eq_true c5
   clear c5
   by_cases c6 : x5_1 < (l1.length : Int)
   rotate_left
   · rw [if_neg c6] at H
     exact absurd H (by simp)
   rw [if_pos c6] at H
   have c6b0 : decide (x5_1 < (l1.length : Int)) = true := decide_eq_true c6
   clear c6
   replace H := Option.bind_eq_some_iff.mp H
   obtain ⟨t124, A70, H⟩ := H
   replace H : (if t124 = true then (laws_eqNodeS.l0 k1 l0 l1 (wrap64 (x5_1 + 1))) else (some false)) = some r := H
   have A7 := am A70
   clear A70
   have H9 := am H
   clear H
   try go_wp2
   replace HB := am (below_drew1 HB.out)
   have p122 : 0 ≤ (x5_1 : Int) := of_decide_eq_true Q1
   have q122 : x5_1 < (l0.length : Int) := of_decide_eq_true Q1
   obtain ⟨ad122, A122_7, c122_7, A122_8, c122_8, A122_9, c122_9, e122, hx122_0, hx122_1, hx122_2, hx122_3, hx122_4, hx122_5, hx122_6, hx122_7, hx122_8, hx122_9, hl122_7, hi122_7, hl122_8, hi122_8, hl122_9, hi122_9⟩ := at_T37 HR0.out x5_1 p122 q122
   have hw122_9 := hx122_9
   have hw122_8 := hx122_8
   have hw122_7 := hx122_7
   have hw122_6 := hx122_6
   have hw122_5 := hx122_5
   have hw122_4 := hx122_4
   have hw122_3 := hx122_3
   have hw122_2 := hx122_2
   have hw122_1 := hx122_1
   have hw122_0 := hx122_0
   cases e122
   replace hx122_0 := cm HB.out hx122_0
   replace hx122_1 := cm HB.out hx122_1
   replace hx122_2 := cm HB.out hx122_2
   replace hx122_3 := cm HB.out hx122_3
   replace hx122_4 := cm HB.out hx122_4
   replace hx122_5 := cm HB.out hx122_5
   replace hx122_6 := cm HB.out hx122_6
   replace hx122_7 := cm HB.out hx122_7
   replace hx122_8 := cm HB.out hx122_8
   replace hx122_9 := cm HB.out hx122_9
   have HR122_7 := am hi122_7
   have HC122_7 := am hl122_7
   clear hi122_7 hl122_7
   have HR122_8 := am hi122_8
   have HC122_8 := am hl122_8
   clear hi122_8 hl122_8
   have HR122_9 := am hi122_9
   have HC122_9 := am hl122_9
   clear hi122_9 hl122_9
   replace p122 := eq_true p122
   replace q122 := eq_true q122
   have p123 : 0 ≤ (x5_1 : Int) := of_decide_eq_true Q1
   have q123 : x5_1 < (l1.length : Int) := of_decide_eq_true Q1
   obtain ⟨ad123, A123_7, c123_7, A123_8, c123_8, A123_9, c123_9, e123, hx123_0, hx123_1, hx123_2, hx123_3, hx123_4, hx123_5, hx123_6, hx123_7, hx123_8, hx123_9, hl123_7, hi123_7, hl123_8, hi123_8, hl123_9, hi123_9⟩ := at_T37 HR1.out x5_1 p123 q123
   have hw123_9 := hx123_9
   have hw123_8 := hx123_8
   have hw123_7 := hx123_7
   have hw123_6 := hx123_6
   have hw123_5 := hx123_5
   have hw123_4 := hx123_4
   have hw123_3 := hx123_3
   have hw123_2 := hx123_2
   have hw123_1 := hx123_1
   have hw123_0 := hx123_0
   cases e123
   replace hx123_0 := cm HB.out hx123_0
   replace hx123_1 := cm HB.out hx123_1
   replace hx123_2 := cm HB.out hx123_2
   replace hx123_3 := cm HB.out hx123_3
   replace hx123_4 := cm HB.out hx123_4
   replace hx123_5 := cm HB.out hx123_5
   replace hx123_6 := cm HB.out hx123_6
   replace hx123_7 := cm HB.out hx123_7
   replace hx123_8 := cm HB.out hx123_8
   replace hx123_9 := cm HB.out hx123_9
   have HR123_7 := am hi123_7
   have HC123_7 := am hl123_7
   clear hi123_7 hl123_7
   have HR123_8 := am hi123_8
   have HC123_8 := am hl123_8
   clear hi123_8 hl123_8
   have HR123_9 := am hi123_9
   have HC123_9 := am hl123_9
   clear hi123_9 hl123_9
   replace p123 := eq_true p123
   replace q123 := eq_true q123
   refine start_ (n := 10) (S := fun w' => w'.cell? (ad122.add ((x5_1).toNat * 10)) = some (.int .i64 ((rd_T37 l0 x5_1).f0)) ∧ w'.cell? ⟨(ad122.add ((x5_1).toNat * 10)).block, (ad122.add ((x5_1).toNat * 10)).off + 1, none⟩ = some (.int .i64 ((rd_T37 l0 x5_1).f1)) ∧ w'.cell? ⟨(ad122.add ((x5_1).toNat * 10)).block, (ad122.add ((x5_1).toNat * 10)).off + 2, none⟩ = some (.int .i64 ((rd_T37 l0 x5_1).f2)) ∧ w'.cell? ⟨(ad122.add ((x5_1).toNat * 10)).block, (ad122.add ((x5_1).toNat * 10)).off + 3, none⟩ = some (.int .i64 ((rd_T37 l0 x5_1).f3)) ∧ w'.cell? ⟨(ad122.add ((x5_1).toNat * 10)).block, (ad122.add ((x5_1).toNat * 10)).off + 4, none⟩ = some (.int .i64 ((rd_T37 l0 x5_1).f4)) ∧ w'.cell? ⟨(ad122.add ((x5_1).toNat * 10)).block, (ad122.add ((x5_1).toNat * 10)).off + 5, none⟩ = some (.int .i64 ((rd_T37 l0 x5_1).f5.f0)) ∧ w'.cell? ⟨(ad122.add ((x5_1).toNat * 10)).block, (ad122.add ((x5_1).toNat * 10)).off + 6, none⟩ = some (.int .i64 ((rd_T37 l0 x5_1).f5.f1)) ∧ w'.cell? ⟨(ad122.add ((x5_1).toNat * 10)).block, (ad122.add ((x5_1).toNat * 10)).off + 7, none⟩ = some (.slice A122_7 ((rd_T37 l0 x5_1).f5.f2).length c122_7) ∧ w'.cell? ⟨(ad122.add ((x5_1).toNat * 10)).block, (ad122.add ((x5_1).toNat * 10)).off + 8, none⟩ = some (.slice A122_8 ((rd_T37 l0 x5_1).f6).length c122_8) ∧ w'.cell? ⟨(ad122.add ((x5_1).toNat * 10)).block, (ad122.add ((x5_1).toNat * 10)).off + 9, none⟩ = some (.slice A122_9 ((rd_T37 l0 x5_1).f7).length c122_9) ∧ w'.cell? (ad123.add ((x5_1).toNat * 10)) = some (.int .i64 ((rd_T37 l1 x5_1).f0)) ∧ w'.cell? ⟨(ad123.add ((x5_1).toNat * 10)).block, (ad123.add ((x5_1).toNat * 10)).off + 1, none⟩ = some (.int .i64 ((rd_T37 l1 x5_1).f1)) ∧ w'.cell? ⟨(ad123.add ((x5_1).toNat * 10)).block, (ad123.add ((x5_1).toNat * 10)).off + 2, none⟩ = some (.int .i64 ((rd_T37 l1 x5_1).f2)) ∧ w'.cell? ⟨(ad123.add ((x5_1).toNat * 10)).block, (ad123.add ((x5_1).toNat * 10)).off + 3, none⟩ = some (.int .i64 ((rd_T37 l1 x5_1).f3)) ∧ w'.cell? ⟨(ad123.add ((x5_1).toNat * 10)).block, (ad123.add ((x5_1).toNat * 10)).off + 4, none⟩ = some (.int .i64 ((rd_T37 l1 x5_1).f4)) ∧ w'.cell? ⟨(ad123.add ((x5_1).toNat * 10)).block, (ad123.add ((x5_1).toNat * 10)).off + 5, none⟩ = some (.int .i64 ((rd_T37 l1 x5_1).f5.f0)) ∧ w'.cell? ⟨(ad123.add ((x5_1).toNat * 10)).block, (ad123.add ((x5_1).toNat * 10)).off + 6, none⟩ = some (.int .i64 ((rd_T37 l1 x5_1).f5.f1)) ∧ w'.cell? ⟨(ad123.add ((x5_1).toNat * 10)).block, (ad123.add ((x5_1).toNat * 10)).off + 7, none⟩ = some (.slice A123_7 ((rd_T37 l1 x5_1).f5.f2).length c123_7) ∧ w'.cell? ⟨(ad123.add ((x5_1).toNat * 10)).block, (ad123.add ((x5_1).toNat * 10)).off + 8, none⟩ = some (.slice A123_8 ((rd_T37 l1 x5_1).f6).length c123_8) ∧ w'.cell? ⟨(ad123.add ((x5_1).toNat * 10)).block, (ad123.add ((x5_1).toNat * 10)).off + 9, none⟩ = some (.slice A123_9 ((rd_T37 l1 x5_1).f7).length c123_9)) (ds := []) b0_10 kr rfl rfl ⟨(cm HB.out hw122_0), (cm HB.out hw122_1), (cm HB.out hw122_2), (cm HB.out hw122_3), (cm HB.out hw122_4), (cm HB.out hw122_5), (cm HB.out hw122_6), (cm HB.out hw122_7), (cm HB.out hw122_8), (cm HB.out hw122_9), (cm HB.out hw123_0), (cm HB.out hw123_1), (cm HB.out hw123_2), (cm HB.out hw123_3), (cm HB.out hw123_4), (cm HB.out hw123_5), (cm HB.out hw123_6), (cm HB.out hw123_7), (cm HB.out hw123_8), (cm HB.out hw123_9)⟩ (fun hHeld => ?_); refine with_tabW laws_eqNodeS.tab6 laws_eqNodeS.bits6 (fun HT_ HW_ => ?_)
   generalize wr.drew = w8 at HB HR122_7 HR122_8 HR122_9 HR123_7 HR123_8 HR123_9 hx122_0 hx122_1 hx122_2 hx122_3 hx122_4 hx122_5 hx122_6 hx122_7 hx122_8 hx122_9 hx123_0 hx123_1 hx123_2 hx123_3 hx123_4 hx123_5 hx123_6 hx123_7 hx123_8 hx123_9 hHeld ⊢
   refine pV 0 17 (bt 1 10) ?_
   refine pV 1 18 (bt 2 10) ?_
   refine pV 2 19 (bt 3 10) ?_
   refine pV 4 21 bx4 ?_
   refine pV 5 22 bx5 ?_
   refine pV 6 23 bx6 ?_
   refine tV 3 20 (bt 7 10) ?_
   refine tV 7 24 (bt 8 10) ?_
   refine one_ (i := 8) (N := some 25) b9_10 rfl rfl (one_of HT_.out kr) (by decide) (fun K hK => ?_)
   refine goes_ Try.func22 kr rfl #[.agg #[.int .i64 ((rd_T37 l0 x5_1).f0), .int .i64 ((rd_T37 l0 x5_1).f1), .int .i64 ((rd_T37 l0 x5_1).f2), .int .i64 ((rd_T37 l0 x5_1).f3), .int .i64 ((rd_T37 l0 x5_1).f4), .int .i64 ((rd_T37 l0 x5_1).f5.f0), .int .i64 ((rd_T37 l0 x5_1).f5.f1), .slice A122_7 ((rd_T37 l0 x5_1).f5.f2).length c122_7, .slice A122_8 ((rd_T37 l0 x5_1).f6).length c122_8, .slice A122_9 ((rd_T37 l0 x5_1).f7).length c122_9], .agg #[.int .i64 ((rd_T37 l1 x5_1).f0), .int .i64 ((rd_T37 l1 x5_1).f1), .int .i64 ((rd_T37 l1 x5_1).f2), .int .i64 ((rd_T37 l1 x5_1).f3), .int .i64 ((rd_T37 l1 x5_1).f4), .int .i64 ((rd_T37 l1 x5_1).f5.f0), .int .i64 ((rd_T37 l1 x5_1).f5.f1), .slice A123_7 ((rd_T37 l1 x5_1).f5.f2).length c123_7, .slice A123_8 ((rd_T37 l1 x5_1).f6).length c123_8, .slice A123_9 ((rd_T37 l1 x5_1).f7).length c123_9]] (by rfl) rfl rfl Q0 ?_
   with_reducible refine (laws_eqNode.calls k1 ((rd_T37 l0 x5_1).f0) ((rd_T37 l0 x5_1).f1) ((rd_T37 l0 x5_1).f2) ((rd_T37 l0 x5_1).f3) ((rd_T37 l0 x5_1).f4) ((rd_T37 l0 x5_1).f5.f0) ((rd_T37 l0 x5_1).f5.f1) _ _ ((rd_T37 l0 x5_1).f5.f2) _ _ ((rd_T37 l0 x5_1).f6) _ _ ((rd_T37 l0 x5_1).f7) ((rd_T37 l1 x5_1).f0) ((rd_T37 l1 x5_1).f1) ((rd_T37 l1 x5_1).f2) ((rd_T37 l1 x5_1).f3) ((rd_T37 l1 x5_1).f4) ((rd_T37 l1 x5_1).f5.f0) ((rd_T37 l1 x5_1).f5.f1) _ _ ((rd_T37 l1 x5_1).f5.f2) _ _ ((rd_T37 l1 x5_1).f6) _ _ ((rd_T37 l1 x5_1).f7) t124 _ ?side1 ?side2 ?side3 ?side4 ?side5 ?side6 ?side7 ?side8 ?side9 ?side10 ?side11 ?side12 A7.out).mono ?_
   (case side1 => exact (by repeat (first | exact (Kd.C_below HR122_7.out HB.out) | (with_reducible refine Kd.C_alloc ?_ _) | (with_reducible refine Kd.C_drewN ?_ _) | (with_reducible refine Kd.C_drew ?_))))
   (case side2 => exact HC122_7.out)
   (case side3 => exact (by repeat (first | exact (Kd.C_below HR122_8.out HB.out) | (with_reducible refine Kd.C_alloc ?_ _) | (with_reducible refine Kd.C_drewN ?_ _) | (with_reducible refine Kd.C_drew ?_))))
   (case side4 => exact HC122_8.out)
   (case side5 => exact (by repeat (first | exact (Kd.C_below HR122_9.out HB.out) | (with_reducible refine Kd.C_alloc ?_ _) | (with_reducible refine Kd.C_drewN ?_ _) | (with_reducible refine Kd.C_drew ?_))))
   (case side6 => exact HC122_9.out)
   (case side7 => exact (by repeat (first | exact (Kd.C_below HR123_7.out HB.out) | (with_reducible refine Kd.C_alloc ?_ _) | (with_reducible refine Kd.C_drewN ?_ _) | (with_reducible refine Kd.C_drew ?_))))
   (case side8 => exact HC123_7.out)
   (case side9 => exact (by repeat (first | exact (Kd.C_below HR123_8.out HB.out) | (with_reducible refine Kd.C_alloc ?_ _) | (with_reducible refine Kd.C_drewN ?_ _) | (with_reducible refine Kd.C_drew ?_))))
   (case side10 => exact HC123_8.out)
   (case side11 => exact (by repeat (first | exact (Kd.C_below HR123_9.out HB.out) | (with_reducible refine Kd.C_alloc ?_ _) | (with_reducible refine Kd.C_drewN ?_ _) | (with_reducible refine Kd.C_drew ?_))))
   (case side12 => exact HC123_9.out)
   rintro e w9 ⟨rfl, hb⟩
   refine ⟨_, rfl, ?_⟩
   replace HB := am (below_step Q2 hb)
   (try clear hb)
   (try clear hb2)
   (try clear hk)
   (try clear hi)
   refine hK.out _ _ ⟨(cm HB.out hw122_0), (cm HB.out hw122_1), (cm HB.out hw122_2), (cm HB.out hw122_3), (cm HB.out hw122_4), (cm HB.out hw122_5), (cm HB.out hw122_6), (cm HB.out hw122_7), (cm HB.out hw122_8), (cm HB.out hw122_9), (cm HB.out hw123_0), (cm HB.out hw123_1), (cm HB.out hw123_2), (cm HB.out hw123_3), (cm HB.out hw123_4), (cm HB.out hw123_5), (cm HB.out hw123_6), (cm HB.out hw123_7), (cm HB.out hw123_8), (cm HB.out hw123_9)⟩ (fun hHeld => ?_)
   clear hK K
   refine norm_ (a' := ?_) ?_ ?_
   rotate_left
   · show Act.put _ (some 25) _ = _
     simp only [Act.put, la, lb, lc, i64_w, i32_w]
     rfl
   refine pV 9 26 (bt 10 10) ?_
   refine done_ (done_of HT_.out kr) ?_
   go_upto_if 26 with (fail)
   have H := H9.out
   clear H9
   by_cases c10 : t124 = true
   · subst c10
     rw [if_pos rfl] at H
     have H' := am H
     clear H
     go_wp2
     go_roundg k1
     case measure => have := HK1.out; omega
     case rel => exact ⟨(wrap64 (x5_1 + 1)), (by first | rfl | (simp; done) | (simp [*]; done)), H', ⟨by have := HK1.out; omega⟩, ⟨Q2⟩⟩
   replace c10 := Bool.eq_false_iff.mpr c10
   subst c10
   rw [nf] at H
   obtain rfl := sj H
   go_wp2
   go_ret
   exact ⟨er, Q2⟩
end Go.Proofs.Ytkcadcoohmofcaa.QFnExactSettled
