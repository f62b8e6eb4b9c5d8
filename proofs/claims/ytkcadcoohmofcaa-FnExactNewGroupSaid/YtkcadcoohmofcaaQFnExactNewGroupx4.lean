-- Printed by the session's own program wip/prx.py.
import Derived.Test.YtkcadcoohmofcaaQFnExactNewGroupx0
import Derived.Test.YtkcadcoohmofcaaQFnExactNewGroupx3
namespace Go.Proofs.Ytkcadcoohmofcaa.QFnExactNewGroup
open Go.RowKit Go.Proofs.YtkcadcoohmofcaaW.PrintWords Go.Proofs.YtkcadcoohmofcaaW.PrintLast Go.Proofs.YtkcadcoohmofcaaW.PrintMore
attribute [local go_sem] max2_int min2_int max_two min_two max_three min_three max_four min_four Go.Proofs.Ytkcadcoohmofcaa.Set.isSome_setCell   -- for this text's walks alone
set_option linter.unusedVariables false
set_option linter.unusedSimpArgs false

/-! ### laws_eqNode: function 22 -/
def laws_eqNode.f (k : Nat) (a0_0 : Int) (a0_1 : Int) (a0_2 : Int) (a0_3 : Int) (a0_4 : Int) (a0_5 : Int) (a0_6 : Int) (l0_7 : List (S85)) (l0_8 : List Int) (l0_9 : List Int) (a1_0 : Int) (a1_1 : Int) (a1_2 : Int) (a1_3 : Int) (a1_4 : Int) (a1_5 : Int) (a1_6 : Int) (l1_7 : List (S85)) (l1_8 : List Int) (l1_9 : List Int) : Option (Bool) := if a0_0 = a1_0 then (if a0_1 = a1_1 then (if a0_2 = a1_2 then (if a0_3 = a1_3 then (if a0_4 = a1_4 then ((laws_eqRLog.f k a0_5 a0_6 l0_7 a1_5 a1_6 l1_7).bind fun t158 => (if t158 = true then ((laws_eqIntS.f k l0_8 l1_8).bind fun t159 => (if t159 = true then ((laws_eqIntS.f k l0_9 l1_9).bind fun t160 => (if t160 = true then (some true) else (some false))) else (some false))) else (some false))) else (some false)) else (some false)) else (some false)) else (some false)) else (some false)
theorem laws_eqNode.mono : ∀ a0 a1 a2 a3 a4 a5 a6 a7 a8 a9 a10 a11 a12 a13 a14 a15 a16 a17 a18 a19 k, LeO (laws_eqNode.f k a0 a1 a2 a3 a4 a5 a6 a7 a8 a9 a10 a11 a12 a13 a14 a15 a16 a17 a18 a19) (laws_eqNode.f (k + 1) a0 a1 a2 a3 a4 a5 a6 a7 a8 a9 a10 a11 a12 a13 a14 a15 a16 a17 a18 a19) := by
  intro a0 a1 a2 a3 a4 a5 a6 a7 a8 a9 a10 a11 a12 a13 a14 a15 a16 a17 a18 a19 k
  unfold laws_eqNode.f
  repeat' first
      | (with_reducible exact laws_eqIntS.mono _ _ _)
      | (with_reducible exact laws_eqRLog.mono _ _ _ _ _ _ _)
      | (with_reducible exact LeO.refl _)
      | (with_reducible exact LeO.none _)
      | (with_reducible refine LeO.ite ?_ ?_)
      | (with_reducible refine LeO.bind ?_ (fun _ => ?_))
      | exact laws_eqIntS.mono _ _ _
      | exact laws_eqRLog.mono _ _ _ _ _ _ _
      | exact LeO.none _
      | refine LeO.ite ?_ ?_
      | refine LeO.bind ?_ (fun _ => ?_)
set_option maxHeartbeats 8000000 in
set_option maxRecDepth 100000 in
theorem laws_eqNode.calls (k : Nat) (a0_0 : Int) (a0_1 : Int) (a0_2 : Int) (a0_3 : Int) (a0_4 : Int) (a0_5 : Int) (a0_6 : Int) (A0_7 : Option Addr) (c0_7 : Nat) (l0_7 : List (S85)) (A0_8 : Option Addr) (c0_8 : Nat) (l0_8 : List Int) (A0_9 : Option Addr) (c0_9 : Nat) (l0_9 : List Int) (a1_0 : Int) (a1_1 : Int) (a1_2 : Int) (a1_3 : Int) (a1_4 : Int) (a1_5 : Int) (a1_6 : Int) (A1_7 : Option Addr) (c1_7 : Nat) (l1_7 : List (S85)) (A1_8 : Option Addr) (c1_8 : Nat) (l1_8 : List Int) (A1_9 : Option Addr) (c1_9 : Nat) (l1_9 : List Int) (r : Bool) (w : World) (hr0_7 : Kd.C k85 w A0_7 l0_7.length l0_7) (hc0_7 : l0_7.length ≤ c0_7) (hr0_8 : Kd.C (Kd.int .i64) w A0_8 l0_8.length l0_8) (hc0_8 : l0_8.length ≤ c0_8) (hr0_9 : Kd.C (Kd.int .i64) w A0_9 l0_9.length l0_9) (hc0_9 : l0_9.length ≤ c0_9) (hr1_7 : Kd.C k85 w A1_7 l1_7.length l1_7) (hc1_7 : l1_7.length ≤ c1_7) (hr1_8 : Kd.C (Kd.int .i64) w A1_8 l1_8.length l1_8) (hc1_8 : l1_8.length ≤ c1_8) (hr1_9 : Kd.C (Kd.int .i64) w A1_9 l1_9.length l1_9) (hc1_9 : l1_9.length ≤ c1_9) (h : laws_eqNode.f k a0_0 a0_1 a0_2 a0_3 a0_4 a0_5 a0_6 l0_7 l0_8 l0_9 a1_0 a1_1 a1_2 a1_3 a1_4 a1_5 a1_6 l1_7 l1_8 l1_9 = some r) :
    Calls Try.prog 22 #[.agg #[.int .i64 a0_0, .int .i64 a0_1, .int .i64 a0_2, .int .i64 a0_3, .int .i64 a0_4, .int .i64 a0_5, .int .i64 a0_6, .slice A0_7 l0_7.length c0_7, .slice A0_8 l0_8.length c0_8, .slice A0_9 l0_9.length c0_9], .agg #[.int .i64 a1_0, .int .i64 a1_1, .int .i64 a1_2, .int .i64 a1_3, .int .i64 a1_4, .int .i64 a1_5, .int .i64 a1_6, .slice A1_7 l1_7.length c1_7, .slice A1_8 l1_8.length c1_8, .slice A1_9 l1_9.length c1_9]] w fun e w' => e = .returned (.bool r) ∧ Below w.heap.size w w' := by
  have hu37 := Try.underlying37
  have hu34 := Try.underlying34
  have HR0_7 := Aside0.mk hr0_7
  have HC0_7 := Aside0.mk hc0_7
  clear hr0_7 hc0_7
  have HR0_8 := Aside0.mk hr0_8
  have HC0_8 := Aside0.mk hc0_8
  clear hr0_8 hc0_8
  have HR0_9 := Aside0.mk hr0_9
  have HC0_9 := Aside0.mk hc0_9
  clear hr0_9 hc0_9
  have HR1_7 := Aside0.mk hr1_7
  have HC1_7 := Aside0.mk hc1_7
  clear hr1_7 hc1_7
  have HR1_8 := Aside0.mk hr1_8
  have HC1_8 := Aside0.mk hc1_8
  clear hr1_8 hc1_8
  have HR1_9 := Aside0.mk hr1_9
  have HC1_9 := Aside0.mk hc1_9
  clear hr1_9 hc1_9
  have HB := Aside0.mk (Below.refl w.heap.size w)
  have H : (if a0_0 = a1_0 then (if a0_1 = a1_1 then (if a0_2 = a1_2 then (if a0_3 = a1_3 then (if a0_4 = a1_4 then ((laws_eqRLog.f k a0_5 a0_6 l0_7 a1_5 a1_6 l1_7).bind fun t158 => (if t158 = true then ((laws_eqIntS.f k l0_8 l1_8).bind fun t159 => (if t159 = true then ((laws_eqIntS.f k l0_9 l1_9).bind fun t160 => (if t160 = true then (some true) else (some false))) else (some false))) else (some false))) else (some false)) else (some false)) else (some false)) else (some false)) else (some false)) = some r := h
  clear h
  have H9 := Aside0.mk H
  clear H
  go_enter Try.func22, Try.ntmps22
  go_upto_if 9 with (first | ((with_reducible refine gate_dst (N := 2) rfl ?_); refine box_event ?hg (N := 2) ?hd (cs := #[.int .i64 a0_0, .int .i64 a0_1, .int .i64 a0_2, .int .i64 a0_3, .int .i64 a0_4, .int .i64 a0_5, .int .i64 a0_6, .slice A0_7 l0_7.length c0_7, .slice A0_8 l0_8.length c0_8, .slice A0_9 l0_9.length c0_9]) (t := 37) ?hr ?_; (case hd => rfl); (case hg => rfl); (case hr => first | (go_simp; done) | (go_simp; rfl)); intro gb156 hg w3 hbox hb; have n0_ := Aside0.mk (below_step (by repeat (first | (with_reducible first | exact HB.out | apply below_alloc | apply pw_below_drewN | apply below_drew1) | exact HB.out)) hb); have n1_ := Aside0.mk (hbox); have n2_ := Aside0.mk ((by rw [hg]; exact (below_size (by repeat (first | (with_reducible first | exact HB.out | apply below_alloc | apply pw_below_drewN | apply below_drew1) | exact HB.out))) : w.heap.size ≤ gb156)); have n3_ := Aside0.mk ((by rw [hg]; exact (below_size (by repeat (first | (with_reducible first | exact HB.out | apply below_alloc | apply pw_below_drewN | apply below_drew1) | exact HB.out))) : w.heap.size ≤ gb156)); clear HB; have HB := n0_; have BK156 := n1_; have GW156 := n2_; have GE156 := n3_; clear n0_ n1_ n2_ n3_; clear hb hbox hg) | ((with_reducible refine gate_dst (N := 3) rfl ?_); refine box_event ?hg (N := 3) ?hd (cs := #[.int .i64 a1_0, .int .i64 a1_1, .int .i64 a1_2, .int .i64 a1_3, .int .i64 a1_4, .int .i64 a1_5, .int .i64 a1_6, .slice A1_7 l1_7.length c1_7, .slice A1_8 l1_8.length c1_8, .slice A1_9 l1_9.length c1_9]) (t := 37) ?hr ?_; (case hd => rfl); (case hg => rfl); (case hr => first | (go_simp; done) | (go_simp; rfl)); intro gb157 hg w4 hbox hb; have n0_ := Aside0.mk (blk_below (g := gb156) (o := .cells #[.int .i64 a0_0, .int .i64 a0_1, .int .i64 a0_2, .int .i64 a0_3, .int .i64 a0_4, .int .i64 a0_5, .int .i64 a0_6, .slice A0_7 l0_7.length c0_7, .slice A0_8 l0_8.length c0_8, .slice A0_9 l0_9.length c0_9] 37 (0, 0)) (by (with_reducible repeat (first | refine blk_drewN ?_ _ | refine blk_drew ?_ | refine blk_alloc ?_ _)); exact BK156.out) hb); have n1_ := Aside0.mk (below_step (by repeat (first | (with_reducible first | exact HB.out | apply below_alloc | apply pw_below_drewN | apply below_drew1 | refine below_set ?_ GE156.out) | exact HB.out)) hb); have n2_ := Aside0.mk (hbox); have n3_ := Aside0.mk ((by rw [hg]; exact (below_size (by repeat (first | (with_reducible first | exact HB.out | apply below_alloc | apply pw_below_drewN | apply below_drew1 | refine below_set ?_ GE156.out) | exact HB.out))) : w.heap.size ≤ gb157)); have n4_ := Aside0.mk ((by rw [hg]; exact (below_size (by repeat (first | (with_reducible first | exact HB.out | apply below_alloc | apply pw_below_drewN | apply below_drew1 | refine below_set ?_ GE156.out) | exact HB.out))) : w.heap.size ≤ gb157)); have n5_ := Aside0.mk ((by rw [hg]; exact Nat.ne_of_lt (blk_lt (g := gb156) (o := .cells #[.int .i64 a0_0, .int .i64 a0_1, .int .i64 a0_2, .int .i64 a0_3, .int .i64 a0_4, .int .i64 a0_5, .int .i64 a0_6, .slice A0_7 l0_7.length c0_7, .slice A0_8 l0_8.length c0_8, .slice A0_9 l0_9.length c0_9] 37 (0, 0)) (by (with_reducible repeat (first | refine blk_drewN ?_ _ | refine blk_drew ?_ | refine blk_alloc ?_ _)); exact BK156.out)) : gb156 ≠ gb157)); have n6_ := Aside0.mk ((by rw [hg]; exact Nat.ne_of_gt (blk_lt (g := gb156) (o := .cells #[.int .i64 a0_0, .int .i64 a0_1, .int .i64 a0_2, .int .i64 a0_3, .int .i64 a0_4, .int .i64 a0_5, .int .i64 a0_6, .slice A0_7 l0_7.length c0_7, .slice A0_8 l0_8.length c0_8, .slice A0_9 l0_9.length c0_9] 37 (0, 0)) (by (with_reducible repeat (first | refine blk_drewN ?_ _ | refine blk_drew ?_ | refine blk_alloc ?_ _)); exact BK156.out)) : gb157 ≠ gb156)); clear BK156; clear HB; have BK156 := n0_; have HB := n1_; have BK157 := n2_; have GW157 := n3_; have GE157 := n4_; have NB156_157 := n5_; have NB157_156 := n6_; clear n0_ n1_ n2_ n3_ n4_ n5_ n6_; clear hb hbox hg; have hnb5 := NB156_157.out; have hnc5 := NB157_156.out; have hcz6_0 : w4.cell? ⟨gb156, 0, none⟩ = some (.int .i64 a0_0) := (blk_cell BK156.out 0).trans rfl; have hcz6_1 : w4.cell? ⟨gb156, 1, none⟩ = some (.int .i64 a0_1) := (blk_cell BK156.out 1).trans rfl; have hcz6_2 : w4.cell? ⟨gb156, 2, none⟩ = some (.int .i64 a0_2) := (blk_cell BK156.out 2).trans rfl; have hcz6_3 : w4.cell? ⟨gb156, 3, none⟩ = some (.int .i64 a0_3) := (blk_cell BK156.out 3).trans rfl; have hcz6_4 : w4.cell? ⟨gb156, 4, none⟩ = some (.int .i64 a0_4) := (blk_cell BK156.out 4).trans rfl; have hcz6_5 : w4.cell? ⟨gb156, 5, none⟩ = some (.int .i64 a0_5) := (blk_cell BK156.out 5).trans rfl; have hcz6_6 : w4.cell? ⟨gb156, 6, none⟩ = some (.int .i64 a0_6) := (blk_cell BK156.out 6).trans rfl; have hcz6_7 : w4.cell? ⟨gb156, 7, none⟩ = some (.slice A0_7 l0_7.length c0_7) := (blk_cell BK156.out 7).trans rfl; have hcz6_8 : w4.cell? ⟨gb156, 8, none⟩ = some (.slice A0_8 l0_8.length c0_8) := (blk_cell BK156.out 8).trans rfl; have hcz6_9 : w4.cell? ⟨gb156, 9, none⟩ = some (.slice A0_9 l0_9.length c0_9) := (blk_cell BK156.out 9).trans rfl; have hfz6_0 := blk_frozen BK156.out 0; have hfz6_1 := blk_frozen BK156.out 1; have hfz6_2 := blk_frozen BK156.out 2; have hfz6_3 := blk_frozen BK156.out 3; have hfz6_4 := blk_frozen BK156.out 4; have hfz6_5 := blk_frozen BK156.out 5; have hfz6_6 := blk_frozen BK156.out 6; have hfz6_7 := blk_frozen BK156.out 7; have hfz6_8 := blk_frozen BK156.out 8; have hfz6_9 := blk_frozen BK156.out 9; have hcz7_0 : w4.cell? ⟨gb157, 0, none⟩ = some (.int .i64 a1_0) := (blk_cell BK157.out 0).trans rfl; have hcz7_1 : w4.cell? ⟨gb157, 1, none⟩ = some (.int .i64 a1_1) := (blk_cell BK157.out 1).trans rfl; have hcz7_2 : w4.cell? ⟨gb157, 2, none⟩ = some (.int .i64 a1_2) := (blk_cell BK157.out 2).trans rfl; have hcz7_3 : w4.cell? ⟨gb157, 3, none⟩ = some (.int .i64 a1_3) := (blk_cell BK157.out 3).trans rfl; have hcz7_4 : w4.cell? ⟨gb157, 4, none⟩ = some (.int .i64 a1_4) := (blk_cell BK157.out 4).trans rfl; have hcz7_5 : w4.cell? ⟨gb157, 5, none⟩ = some (.int .i64 a1_5) := (blk_cell BK157.out 5).trans rfl; have hcz7_6 : w4.cell? ⟨gb157, 6, none⟩ = some (.int .i64 a1_6) := (blk_cell BK157.out 6).trans rfl; have hcz7_7 : w4.cell? ⟨gb157, 7, none⟩ = some (.slice A1_7 l1_7.length c1_7) := (blk_cell BK157.out 7).trans rfl; have hcz7_8 : w4.cell? ⟨gb157, 8, none⟩ = some (.slice A1_8 l1_8.length c1_8) := (blk_cell BK157.out 8).trans rfl; have hcz7_9 : w4.cell? ⟨gb157, 9, none⟩ = some (.slice A1_9 l1_9.length c1_9) := (blk_cell BK157.out 9).trans rfl; have hfz7_0 := blk_frozen BK157.out 0; have hfz7_1 := blk_frozen BK157.out 1; have hfz7_2 := blk_frozen BK157.out 2; have hfz7_3 := blk_frozen BK157.out 3; have hfz7_4 := blk_frozen BK157.out 4; have hfz7_5 := blk_frozen BK157.out 5; have hfz7_6 := blk_frozen BK157.out 6; have hfz7_7 := blk_frozen BK157.out 7; have hfz7_8 := blk_frozen BK157.out 8; have hfz7_9 := blk_frozen BK157.out 9))
  have H := H9.out
  clear H9
  by_cases c8 : a0_0 = a1_0
  · rw [if_pos c8] at H
    have c8b0 : (a0_0 == a1_0) = true := beq_iff_eq.mpr c8
    have c8b1 : (a0_0 != a1_0) = false := bne_eq_false_iff_eq.mpr c8
    clear c8
    (first | rw [c8b0] | (simp only [i64_w, i32_w]; rw [c8b0]) | skip)
    by_cases c9 : a0_1 = a1_1
    · rw [if_pos c9] at H
      have c9b0 : (a0_1 == a1_1) = true := beq_iff_eq.mpr c9
      have c9b1 : (a0_1 != a1_1) = false := bne_eq_false_iff_eq.mpr c9
      clear c9
      by_cases c10 : a0_2 = a1_2
      · rw [if_pos c10] at H
        have c10b0 : (a0_2 == a1_2) = true := beq_iff_eq.mpr c10
        have c10b1 : (a0_2 != a1_2) = false := bne_eq_false_iff_eq.mpr c10
        clear c10
        by_cases c11 : a0_3 = a1_3
        · rw [if_pos c11] at H
          have c11b0 : (a0_3 == a1_3) = true := beq_iff_eq.mpr c11
          have c11b1 : (a0_3 != a1_3) = false := bne_eq_false_iff_eq.mpr c11
          clear c11
          by_cases c12 : a0_4 = a1_4
          · rw [if_pos c12] at H
            have c12b0 : (a0_4 == a1_4) = true := beq_iff_eq.mpr c12
            have c12b1 : (a0_4 != a1_4) = false := bne_eq_false_iff_eq.mpr c12
            clear c12
            replace H := Option.bind_eq_some_iff.mp H
            obtain ⟨t158, A130, H⟩ := H
            replace H : (if t158 = true then ((laws_eqIntS.f k l0_8 l1_8).bind fun t159 => (if t159 = true then ((laws_eqIntS.f k l0_9 l1_9).bind fun t160 => (if t160 = true then (some true) else (some false))) else (some false))) else (some false)) = some r := H
            have A13 := Aside0.mk A130
            clear A130
            have H9 := Aside0.mk H
            clear H
            have hnb14 := NB156_157.out
            have hnc14 := NB157_156.out
            have hcz15_0 : w4.cell? ⟨gb156, 0, none⟩ = some (.int .i64 a0_0) := (blk_cell BK156.out 0).trans rfl
            have hcz15_1 : w4.cell? ⟨gb156, 1, none⟩ = some (.int .i64 a0_1) := (blk_cell BK156.out 1).trans rfl
            have hcz15_2 : w4.cell? ⟨gb156, 2, none⟩ = some (.int .i64 a0_2) := (blk_cell BK156.out 2).trans rfl
            have hcz15_3 : w4.cell? ⟨gb156, 3, none⟩ = some (.int .i64 a0_3) := (blk_cell BK156.out 3).trans rfl
            have hcz15_4 : w4.cell? ⟨gb156, 4, none⟩ = some (.int .i64 a0_4) := (blk_cell BK156.out 4).trans rfl
            have hcz15_5 : w4.cell? ⟨gb156, 5, none⟩ = some (.int .i64 a0_5) := (blk_cell BK156.out 5).trans rfl
            have hcz15_6 : w4.cell? ⟨gb156, 6, none⟩ = some (.int .i64 a0_6) := (blk_cell BK156.out 6).trans rfl
            have hcz15_7 : w4.cell? ⟨gb156, 7, none⟩ = some (.slice A0_7 l0_7.length c0_7) := (blk_cell BK156.out 7).trans rfl
            have hcz15_8 : w4.cell? ⟨gb156, 8, none⟩ = some (.slice A0_8 l0_8.length c0_8) := (blk_cell BK156.out 8).trans rfl
            have hcz15_9 : w4.cell? ⟨gb156, 9, none⟩ = some (.slice A0_9 l0_9.length c0_9) := (blk_cell BK156.out 9).trans rfl
            have hfz15_0 := blk_frozen BK156.out 0
            have hfz15_1 := blk_frozen BK156.out 1
            have hfz15_2 := blk_frozen BK156.out 2
            have hfz15_3 := blk_frozen BK156.out 3
            have hfz15_4 := blk_frozen BK156.out 4
            have hfz15_5 := blk_frozen BK156.out 5
            have hfz15_6 := blk_frozen BK156.out 6
            have hfz15_7 := blk_frozen BK156.out 7
            have hfz15_8 := blk_frozen BK156.out 8
            have hfz15_9 := blk_frozen BK156.out 9
            have hcz16_0 : w4.cell? ⟨gb157, 0, none⟩ = some (.int .i64 a1_0) := (blk_cell BK157.out 0).trans rfl
            have hcz16_1 : w4.cell? ⟨gb157, 1, none⟩ = some (.int .i64 a1_1) := (blk_cell BK157.out 1).trans rfl
            have hcz16_2 : w4.cell? ⟨gb157, 2, none⟩ = some (.int .i64 a1_2) := (blk_cell BK157.out 2).trans rfl
            have hcz16_3 : w4.cell? ⟨gb157, 3, none⟩ = some (.int .i64 a1_3) := (blk_cell BK157.out 3).trans rfl
            have hcz16_4 : w4.cell? ⟨gb157, 4, none⟩ = some (.int .i64 a1_4) := (blk_cell BK157.out 4).trans rfl
            have hcz16_5 : w4.cell? ⟨gb157, 5, none⟩ = some (.int .i64 a1_5) := (blk_cell BK157.out 5).trans rfl
            have hcz16_6 : w4.cell? ⟨gb157, 6, none⟩ = some (.int .i64 a1_6) := (blk_cell BK157.out 6).trans rfl
            have hcz16_7 : w4.cell? ⟨gb157, 7, none⟩ = some (.slice A1_7 l1_7.length c1_7) := (blk_cell BK157.out 7).trans rfl
            have hcz16_8 : w4.cell? ⟨gb157, 8, none⟩ = some (.slice A1_8 l1_8.length c1_8) := (blk_cell BK157.out 8).trans rfl
            have hcz16_9 : w4.cell? ⟨gb157, 9, none⟩ = some (.slice A1_9 l1_9.length c1_9) := (blk_cell BK157.out 9).trans rfl
            have hfz16_0 := blk_frozen BK157.out 0
            have hfz16_1 := blk_frozen BK157.out 1
            have hfz16_2 := blk_frozen BK157.out 2
            have hfz16_3 := blk_frozen BK157.out 3
            have hfz16_4 := blk_frozen BK157.out 4
            have hfz16_5 := blk_frozen BK157.out 5
            have hfz16_6 := blk_frozen BK157.out 6
            have hfz16_7 := blk_frozen BK157.out 7
            have hfz16_8 := blk_frozen BK157.out 8
            have hfz16_9 := blk_frozen BK157.out 9
            go_upto_if 35 with (first | ((with_reducible refine gate_callee (f := 67) rfl ?_); refine goesL_ (some 34) rfl rfl Try.func67 (by kernel_rfl) rfl #[.agg #[.int .i64 a0_5, .int .i64 a0_6, .slice A0_7 l0_7.length c0_7], .agg #[.int .i64 a1_5, .int .i64 a1_6, .slice A1_7 l1_7.length c1_7]] rfl (by (try simp only [List.map_toArray, List.map_cons, List.map_nil]); first | done | rfl | (simp only [List.length_drop, List.length_take]; rfl)) ?_; (with_reducible refine (laws_eqRLog.calls k a0_5 a0_6 _ _ l0_7 a1_5 a1_6 _ _ l1_7 t158 _ ?side1 ?side2 ?side3 ?side4 A13.out).mono ?_); (case side1 => repeat (first | exact (Kd.C_below HR0_7.out HB.out) | (with_reducible refine Kd.C_alloc ?_ _) | (with_reducible refine Kd.C_drewN ?_ _) | (with_reducible refine Kd.C_drew ?_))); (case side2 => exact HC0_7.out); (case side3 => repeat (first | exact (Kd.C_below HR1_7.out HB.out) | (with_reducible refine Kd.C_alloc ?_ _) | (with_reducible refine Kd.C_drewN ?_ _) | (with_reducible refine Kd.C_drew ?_))); (case side4 => exact HC1_7.out); rintro e w17 ⟨rfl, hb⟩; refine ⟨_, rfl, ?_⟩; have n0_ := Aside0.mk (blk_below (g := gb156) (o := .cells #[.int .i64 a0_0, .int .i64 a0_1, .int .i64 a0_2, .int .i64 a0_3, .int .i64 a0_4, .int .i64 a0_5, .int .i64 a0_6, .slice A0_7 l0_7.length c0_7, .slice A0_8 l0_8.length c0_8, .slice A0_9 l0_9.length c0_9] 37 (0, 0)) (by (with_reducible repeat (first | refine blk_drewN ?_ _ | refine blk_drew ?_ | refine blk_alloc ?_ _)); exact BK156.out) hb); have n1_ := Aside0.mk (blk_below (g := gb157) (o := .cells #[.int .i64 a1_0, .int .i64 a1_1, .int .i64 a1_2, .int .i64 a1_3, .int .i64 a1_4, .int .i64 a1_5, .int .i64 a1_6, .slice A1_7 l1_7.length c1_7, .slice A1_8 l1_8.length c1_8, .slice A1_9 l1_9.length c1_9] 37 (0, 0)) (by (with_reducible repeat (first | refine blk_drewN ?_ _ | refine blk_drew ?_ | refine blk_alloc ?_ _)); exact BK157.out) hb); have n2_ := Aside0.mk (below_step (by repeat (first | (with_reducible first | exact HB.out | apply below_alloc | apply pw_below_drewN | apply below_drew1 | refine below_set ?_ GE156.out | refine below_set ?_ GE157.out) | exact HB.out)) hb); clear BK156; clear BK157; clear HB; have BK156 := n0_; have BK157 := n1_; have HB := n2_; clear n0_ n1_ n2_; (try clear hb); (try clear hb2); (try clear hk); (try clear hi)))
            have H := H9.out
            clear H9
            by_cases c18 : t158 = true
            · subst c18
              have H1 : ((laws_eqIntS.f k l0_8 l1_8).bind fun t159 => (if t159 = true then ((laws_eqIntS.f k l0_9 l1_9).bind fun t160 => (if t160 = true then (some true) else (some false))) else (some false))) = some r := by rw [if_pos rfl] at H; exact H
              clear H
              have H := H1
              clear H1
              replace H := Option.bind_eq_some_iff.mp H
              obtain ⟨t159, A190, H⟩ := H
              replace H : (if t159 = true then ((laws_eqIntS.f k l0_9 l1_9).bind fun t160 => (if t160 = true then (some true) else (some false))) else (some false)) = some r := H
              have A19 := Aside0.mk A190
              clear A190
              have H9 := Aside0.mk H
              clear H
              have hnb20 := NB156_157.out
              have hnc20 := NB157_156.out
              have hcz21_0 : w17.cell? ⟨gb156, 0, none⟩ = some (.int .i64 a0_0) := (blk_cell BK156.out 0).trans rfl
              have hcz21_1 : w17.cell? ⟨gb156, 1, none⟩ = some (.int .i64 a0_1) := (blk_cell BK156.out 1).trans rfl
              have hcz21_2 : w17.cell? ⟨gb156, 2, none⟩ = some (.int .i64 a0_2) := (blk_cell BK156.out 2).trans rfl
              have hcz21_3 : w17.cell? ⟨gb156, 3, none⟩ = some (.int .i64 a0_3) := (blk_cell BK156.out 3).trans rfl
              have hcz21_4 : w17.cell? ⟨gb156, 4, none⟩ = some (.int .i64 a0_4) := (blk_cell BK156.out 4).trans rfl
              have hcz21_5 : w17.cell? ⟨gb156, 5, none⟩ = some (.int .i64 a0_5) := (blk_cell BK156.out 5).trans rfl
              have hcz21_6 : w17.cell? ⟨gb156, 6, none⟩ = some (.int .i64 a0_6) := (blk_cell BK156.out 6).trans rfl
              have hcz21_7 : w17.cell? ⟨gb156, 7, none⟩ = some (.slice A0_7 l0_7.length c0_7) := (blk_cell BK156.out 7).trans rfl
              have hcz21_8 : w17.cell? ⟨gb156, 8, none⟩ = some (.slice A0_8 l0_8.length c0_8) := (blk_cell BK156.out 8).trans rfl
              have hcz21_9 : w17.cell? ⟨gb156, 9, none⟩ = some (.slice A0_9 l0_9.length c0_9) := (blk_cell BK156.out 9).trans rfl
              have hfz21_0 := blk_frozen BK156.out 0
              have hfz21_1 := blk_frozen BK156.out 1
              have hfz21_2 := blk_frozen BK156.out 2
              have hfz21_3 := blk_frozen BK156.out 3
              have hfz21_4 := blk_frozen BK156.out 4
              have hfz21_5 := blk_frozen BK156.out 5
              have hfz21_6 := blk_frozen BK156.out 6
              have hfz21_7 := blk_frozen BK156.out 7
              have hfz21_8 := blk_frozen BK156.out 8
              have hfz21_9 := blk_frozen BK156.out 9
              have hcz22_0 : w17.cell? ⟨gb157, 0, none⟩ = some (.int .i64 a1_0) := (blk_cell BK157.out 0).trans rfl
              have hcz22_1 : w17.cell? ⟨gb157, 1, none⟩ = some (.int .i64 a1_1) := (blk_cell BK157.out 1).trans rfl
              have hcz22_2 : w17.cell? ⟨gb157, 2, none⟩ = some (.int .i64 a1_2) := (blk_cell BK157.out 2).trans rfl
              have hcz22_3 : w17.cell? ⟨gb157, 3, none⟩ = some (.int .i64 a1_3) := (blk_cell BK157.out 3).trans rfl
              have hcz22_4 : w17.cell? ⟨gb157, 4, none⟩ = some (.int .i64 a1_4) := (blk_cell BK157.out 4).trans rfl
              have hcz22_5 : w17.cell? ⟨gb157, 5, none⟩ = some (.int .i64 a1_5) := (blk_cell BK157.out 5).trans rfl
              have hcz22_6 : w17.cell? ⟨gb157, 6, none⟩ = some (.int .i64 a1_6) := (blk_cell BK157.out 6).trans rfl
              have hcz22_7 : w17.cell? ⟨gb157, 7, none⟩ = some (.slice A1_7 l1_7.length c1_7) := (blk_cell BK157.out 7).trans rfl
              have hcz22_8 : w17.cell? ⟨gb157, 8, none⟩ = some (.slice A1_8 l1_8.length c1_8) := (blk_cell BK157.out 8).trans rfl
              have hcz22_9 : w17.cell? ⟨gb157, 9, none⟩ = some (.slice A1_9 l1_9.length c1_9) := (blk_cell BK157.out 9).trans rfl
              have hfz22_0 := blk_frozen BK157.out 0
              have hfz22_1 := blk_frozen BK157.out 1
              have hfz22_2 := blk_frozen BK157.out 2
              have hfz22_3 := blk_frozen BK157.out 3
              have hfz22_4 := blk_frozen BK157.out 4
              have hfz22_5 := blk_frozen BK157.out 5
              have hfz22_6 := blk_frozen BK157.out 6
              have hfz22_7 := blk_frozen BK157.out 7
              have hfz22_8 := blk_frozen BK157.out 8
              have hfz22_9 := blk_frozen BK157.out 9
              go_upto_if 41 with (first | ((with_reducible refine gate_callee (f := 53) rfl ?_); refine goesL_ (some 40) rfl rfl Try.func53 (by kernel_rfl) rfl #[.slice A0_8 l0_8.length c0_8, .slice A1_8 l1_8.length c1_8] rfl (by (try simp only [List.map_toArray, List.map_cons, List.map_nil]); first | done | rfl | (simp only [List.length_drop, List.length_take]; rfl)) ?_; (with_reducible refine (laws_eqIntS.calls k _ _ l0_8 _ _ l1_8 t159 _ ?side1 ?side2 ?side3 ?side4 A19.out).mono ?_); (case side1 => repeat (first | exact (Kd.C_below HR0_8.out HB.out) | (with_reducible refine Kd.C_alloc ?_ _) | (with_reducible refine Kd.C_drewN ?_ _) | (with_reducible refine Kd.C_drew ?_))); (case side2 => exact HC0_8.out); (case side3 => repeat (first | exact (Kd.C_below HR1_8.out HB.out) | (with_reducible refine Kd.C_alloc ?_ _) | (with_reducible refine Kd.C_drewN ?_ _) | (with_reducible refine Kd.C_drew ?_))); (case side4 => exact HC1_8.out); rintro e w' ⟨rfl, ⟨nd, rfl⟩⟩; refine ⟨_, rfl, ?_⟩))
              have H := H9.out
              clear H9
              by_cases c23 : t159 = true
              · subst c23
                have H1 : ((laws_eqIntS.f k l0_9 l1_9).bind fun t160 => (if t160 = true then (some true) else (some false))) = some r := by rw [if_pos rfl] at H; exact H
                clear H
                have H := H1
                clear H1
                replace H := Option.bind_eq_some_iff.mp H
                obtain ⟨t160, A240, H⟩ := H
                replace H : (if t160 = true then (some true) else (some false)) = some r := H
                have A24 := Aside0.mk A240
                clear A240
                have H9 := Aside0.mk H
                clear H
                have hnb25 := NB156_157.out
                have hnc25 := NB157_156.out
                have hcz26_0 : w17.cell? ⟨gb156, 0, none⟩ = some (.int .i64 a0_0) := (blk_cell BK156.out 0).trans rfl
                have hcz26_1 : w17.cell? ⟨gb156, 1, none⟩ = some (.int .i64 a0_1) := (blk_cell BK156.out 1).trans rfl
                have hcz26_2 : w17.cell? ⟨gb156, 2, none⟩ = some (.int .i64 a0_2) := (blk_cell BK156.out 2).trans rfl
                have hcz26_3 : w17.cell? ⟨gb156, 3, none⟩ = some (.int .i64 a0_3) := (blk_cell BK156.out 3).trans rfl
                have hcz26_4 : w17.cell? ⟨gb156, 4, none⟩ = some (.int .i64 a0_4) := (blk_cell BK156.out 4).trans rfl
                have hcz26_5 : w17.cell? ⟨gb156, 5, none⟩ = some (.int .i64 a0_5) := (blk_cell BK156.out 5).trans rfl
                have hcz26_6 : w17.cell? ⟨gb156, 6, none⟩ = some (.int .i64 a0_6) := (blk_cell BK156.out 6).trans rfl
                have hcz26_7 : w17.cell? ⟨gb156, 7, none⟩ = some (.slice A0_7 l0_7.length c0_7) := (blk_cell BK156.out 7).trans rfl
                have hcz26_8 : w17.cell? ⟨gb156, 8, none⟩ = some (.slice A0_8 l0_8.length c0_8) := (blk_cell BK156.out 8).trans rfl
                have hcz26_9 : w17.cell? ⟨gb156, 9, none⟩ = some (.slice A0_9 l0_9.length c0_9) := (blk_cell BK156.out 9).trans rfl
                have hfz26_0 := blk_frozen BK156.out 0
                have hfz26_1 := blk_frozen BK156.out 1
                have hfz26_2 := blk_frozen BK156.out 2
                have hfz26_3 := blk_frozen BK156.out 3
                have hfz26_4 := blk_frozen BK156.out 4
                have hfz26_5 := blk_frozen BK156.out 5
                have hfz26_6 := blk_frozen BK156.out 6
                have hfz26_7 := blk_frozen BK156.out 7
                have hfz26_8 := blk_frozen BK156.out 8
                have hfz26_9 := blk_frozen BK156.out 9
                have hcz27_0 : w17.cell? ⟨gb157, 0, none⟩ = some (.int .i64 a1_0) := (blk_cell BK157.out 0).trans rfl
                have hcz27_1 : w17.cell? ⟨gb157, 1, none⟩ = some (.int .i64 a1_1) := (blk_cell BK157.out 1).trans rfl
                have hcz27_2 : w17.cell? ⟨gb157, 2, none⟩ = some (.int .i64 a1_2) := (blk_cell BK157.out 2).trans rfl
                have hcz27_3 : w17.cell? ⟨gb157, 3, none⟩ = some (.int .i64 a1_3) := (blk_cell BK157.out 3).trans rfl
                have hcz27_4 : w17.cell? ⟨gb157, 4, none⟩ = some (.int .i64 a1_4) := (blk_cell BK157.out 4).trans rfl
                have hcz27_5 : w17.cell? ⟨gb157, 5, none⟩ = some (.int .i64 a1_5) := (blk_cell BK157.out 5).trans rfl
                have hcz27_6 : w17.cell? ⟨gb157, 6, none⟩ = some (.int .i64 a1_6) := (blk_cell BK157.out 6).trans rfl
                have hcz27_7 : w17.cell? ⟨gb157, 7, none⟩ = some (.slice A1_7 l1_7.length c1_7) := (blk_cell BK157.out 7).trans rfl
                have hcz27_8 : w17.cell? ⟨gb157, 8, none⟩ = some (.slice A1_8 l1_8.length c1_8) := (blk_cell BK157.out 8).trans rfl
                have hcz27_9 : w17.cell? ⟨gb157, 9, none⟩ = some (.slice A1_9 l1_9.length c1_9) := (blk_cell BK157.out 9).trans rfl
                have hfz27_0 := blk_frozen BK157.out 0
                have hfz27_1 := blk_frozen BK157.out 1
                have hfz27_2 := blk_frozen BK157.out 2
                have hfz27_3 := blk_frozen BK157.out 3
                have hfz27_4 := blk_frozen BK157.out 4
                have hfz27_5 := blk_frozen BK157.out 5
                have hfz27_6 := blk_frozen BK157.out 6
                have hfz27_7 := blk_frozen BK157.out 7
                have hfz27_8 := blk_frozen BK157.out 8
                have hfz27_9 := blk_frozen BK157.out 9
                go_upto_if 47 with (first | ((with_reducible refine gate_callee (f := 53) rfl ?_); refine goesL_ (some 46) rfl rfl Try.func53 (by kernel_rfl) rfl #[.slice A0_9 l0_9.length c0_9, .slice A1_9 l1_9.length c1_9] rfl (by (try simp only [List.map_toArray, List.map_cons, List.map_nil]); first | done | rfl | (simp only [List.length_drop, List.length_take]; rfl)) ?_; (with_reducible refine (laws_eqIntS.calls k _ _ l0_9 _ _ l1_9 t160 _ ?side1 ?side2 ?side3 ?side4 A24.out).mono ?_); (case side1 => repeat (first | exact (Kd.C_below HR0_9.out HB.out) | (with_reducible refine Kd.C_alloc ?_ _) | (with_reducible refine Kd.C_drewN ?_ _) | (with_reducible refine Kd.C_drew ?_))); (case side2 => exact HC0_9.out); (case side3 => repeat (first | exact (Kd.C_below HR1_9.out HB.out) | (with_reducible refine Kd.C_alloc ?_ _) | (with_reducible refine Kd.C_drewN ?_ _) | (with_reducible refine Kd.C_drew ?_))); (case side4 => exact HC1_9.out); rintro e w' ⟨rfl, ⟨nd, rfl⟩⟩; refine ⟨_, rfl, ?_⟩))
                have H := H9.out
                clear H9
                by_cases c28 : t160 = true
                · subst c28
                  have H1 : (some true) = some r := by rw [if_pos rfl] at H; exact H
                  clear H
                  have H := H1
                  clear H1
                  obtain rfl := Option.some.inj H
                  go_wp2
                  go_ret
                  exact ⟨by first | rfl | (simp [errW_none, errW_some] <;> rfl) | (simp [*, errW_none, errW_some] <;> rfl), by repeat (first | (with_reducible first | exact HB.out | apply below_alloc | apply pw_below_drewN | apply below_drew1 | refine below_set ?_ GE156.out | refine below_set ?_ GE157.out) | exact HB.out)⟩
                · replace c28 := Bool.eq_false_iff.mpr c28
                  subst c28
                  have H1 : (some false) = some r := by rw [if_neg (show ¬ (false = true) by decide)] at H; exact H
                  clear H
                  have H := H1
                  clear H1
                  obtain rfl := Option.some.inj H
                  go_wp2
                  go_ret
                  exact ⟨by first | rfl | (simp [errW_none, errW_some] <;> rfl) | (simp [*, errW_none, errW_some] <;> rfl), by repeat (first | (with_reducible first | exact HB.out | apply below_alloc | apply pw_below_drewN | apply below_drew1 | refine below_set ?_ GE156.out | refine below_set ?_ GE157.out) | exact HB.out)⟩
              · replace c23 := Bool.eq_false_iff.mpr c23
                subst c23
                have H1 : (some false) = some r := by rw [if_neg (show ¬ (false = true) by decide)] at H; exact H
                clear H
                have H := H1
                clear H1
                obtain rfl := Option.some.inj H
                go_wp2
                go_ret
                exact ⟨by first | rfl | (simp [errW_none, errW_some] <;> rfl) | (simp [*, errW_none, errW_some] <;> rfl), by repeat (first | (with_reducible first | exact HB.out | apply below_alloc | apply pw_below_drewN | apply below_drew1 | refine below_set ?_ GE156.out | refine below_set ?_ GE157.out) | exact HB.out)⟩
            · replace c18 := Bool.eq_false_iff.mpr c18
              subst c18
              have H1 : (some false) = some r := by rw [if_neg (show ¬ (false = true) by decide)] at H; exact H
              clear H
              have H := H1
              clear H1
              obtain rfl := Option.some.inj H
              go_wp2
              go_ret
              exact ⟨by first | rfl | (simp [errW_none, errW_some] <;> rfl) | (simp [*, errW_none, errW_some] <;> rfl), by repeat (first | (with_reducible first | exact HB.out | apply below_alloc | apply pw_below_drewN | apply below_drew1 | refine below_set ?_ GE156.out | refine below_set ?_ GE157.out) | exact HB.out)⟩
          · rw [if_neg c12] at H
            have c12b0 : (a0_4 == a1_4) = false := beq_eq_false_iff_ne.mpr c12
            have c12b1 : (a0_4 != a1_4) = true := bne_iff_ne.mpr c12
            obtain rfl := Option.some.inj H
            have hnb29 := NB156_157.out
            have hnc29 := NB157_156.out
            have hcz30_0 : w4.cell? ⟨gb156, 0, none⟩ = some (.int .i64 a0_0) := (blk_cell BK156.out 0).trans rfl
            have hcz30_1 : w4.cell? ⟨gb156, 1, none⟩ = some (.int .i64 a0_1) := (blk_cell BK156.out 1).trans rfl
            have hcz30_2 : w4.cell? ⟨gb156, 2, none⟩ = some (.int .i64 a0_2) := (blk_cell BK156.out 2).trans rfl
            have hcz30_3 : w4.cell? ⟨gb156, 3, none⟩ = some (.int .i64 a0_3) := (blk_cell BK156.out 3).trans rfl
            have hcz30_4 : w4.cell? ⟨gb156, 4, none⟩ = some (.int .i64 a0_4) := (blk_cell BK156.out 4).trans rfl
            have hcz30_5 : w4.cell? ⟨gb156, 5, none⟩ = some (.int .i64 a0_5) := (blk_cell BK156.out 5).trans rfl
            have hcz30_6 : w4.cell? ⟨gb156, 6, none⟩ = some (.int .i64 a0_6) := (blk_cell BK156.out 6).trans rfl
            have hcz30_7 : w4.cell? ⟨gb156, 7, none⟩ = some (.slice A0_7 l0_7.length c0_7) := (blk_cell BK156.out 7).trans rfl
            have hcz30_8 : w4.cell? ⟨gb156, 8, none⟩ = some (.slice A0_8 l0_8.length c0_8) := (blk_cell BK156.out 8).trans rfl
            have hcz30_9 : w4.cell? ⟨gb156, 9, none⟩ = some (.slice A0_9 l0_9.length c0_9) := (blk_cell BK156.out 9).trans rfl
            have hfz30_0 := blk_frozen BK156.out 0
            have hfz30_1 := blk_frozen BK156.out 1
            have hfz30_2 := blk_frozen BK156.out 2
            have hfz30_3 := blk_frozen BK156.out 3
            have hfz30_4 := blk_frozen BK156.out 4
            have hfz30_5 := blk_frozen BK156.out 5
            have hfz30_6 := blk_frozen BK156.out 6
            have hfz30_7 := blk_frozen BK156.out 7
            have hfz30_8 := blk_frozen BK156.out 8
            have hfz30_9 := blk_frozen BK156.out 9
            have hcz31_0 : w4.cell? ⟨gb157, 0, none⟩ = some (.int .i64 a1_0) := (blk_cell BK157.out 0).trans rfl
            have hcz31_1 : w4.cell? ⟨gb157, 1, none⟩ = some (.int .i64 a1_1) := (blk_cell BK157.out 1).trans rfl
            have hcz31_2 : w4.cell? ⟨gb157, 2, none⟩ = some (.int .i64 a1_2) := (blk_cell BK157.out 2).trans rfl
            have hcz31_3 : w4.cell? ⟨gb157, 3, none⟩ = some (.int .i64 a1_3) := (blk_cell BK157.out 3).trans rfl
            have hcz31_4 : w4.cell? ⟨gb157, 4, none⟩ = some (.int .i64 a1_4) := (blk_cell BK157.out 4).trans rfl
            have hcz31_5 : w4.cell? ⟨gb157, 5, none⟩ = some (.int .i64 a1_5) := (blk_cell BK157.out 5).trans rfl
            have hcz31_6 : w4.cell? ⟨gb157, 6, none⟩ = some (.int .i64 a1_6) := (blk_cell BK157.out 6).trans rfl
            have hcz31_7 : w4.cell? ⟨gb157, 7, none⟩ = some (.slice A1_7 l1_7.length c1_7) := (blk_cell BK157.out 7).trans rfl
            have hcz31_8 : w4.cell? ⟨gb157, 8, none⟩ = some (.slice A1_8 l1_8.length c1_8) := (blk_cell BK157.out 8).trans rfl
            have hcz31_9 : w4.cell? ⟨gb157, 9, none⟩ = some (.slice A1_9 l1_9.length c1_9) := (blk_cell BK157.out 9).trans rfl
            have hfz31_0 := blk_frozen BK157.out 0
            have hfz31_1 := blk_frozen BK157.out 1
            have hfz31_2 := blk_frozen BK157.out 2
            have hfz31_3 := blk_frozen BK157.out 3
            have hfz31_4 := blk_frozen BK157.out 4
            have hfz31_5 := blk_frozen BK157.out 5
            have hfz31_6 := blk_frozen BK157.out 6
            have hfz31_7 := blk_frozen BK157.out 7
            have hfz31_8 := blk_frozen BK157.out 8
            have hfz31_9 := blk_frozen BK157.out 9
            go_wp2
            go_ret
            exact ⟨by first | rfl | (simp [errW_none, errW_some] <;> rfl) | (simp [*, errW_none, errW_some] <;> rfl), by repeat (first | (with_reducible first | exact HB.out | apply below_alloc | apply pw_below_drewN | apply below_drew1 | refine below_set ?_ GE156.out | refine below_set ?_ GE157.out) | exact HB.out)⟩
        · rw [if_neg c11] at H
          have c11b0 : (a0_3 == a1_3) = false := beq_eq_false_iff_ne.mpr c11
          have c11b1 : (a0_3 != a1_3) = true := bne_iff_ne.mpr c11
          obtain rfl := Option.some.inj H
          have hnb32 := NB156_157.out
          have hnc32 := NB157_156.out
          have hcz33_0 : w4.cell? ⟨gb156, 0, none⟩ = some (.int .i64 a0_0) := (blk_cell BK156.out 0).trans rfl
          have hcz33_1 : w4.cell? ⟨gb156, 1, none⟩ = some (.int .i64 a0_1) := (blk_cell BK156.out 1).trans rfl
          have hcz33_2 : w4.cell? ⟨gb156, 2, none⟩ = some (.int .i64 a0_2) := (blk_cell BK156.out 2).trans rfl
          have hcz33_3 : w4.cell? ⟨gb156, 3, none⟩ = some (.int .i64 a0_3) := (blk_cell BK156.out 3).trans rfl
          have hcz33_4 : w4.cell? ⟨gb156, 4, none⟩ = some (.int .i64 a0_4) := (blk_cell BK156.out 4).trans rfl
          have hcz33_5 : w4.cell? ⟨gb156, 5, none⟩ = some (.int .i64 a0_5) := (blk_cell BK156.out 5).trans rfl
          have hcz33_6 : w4.cell? ⟨gb156, 6, none⟩ = some (.int .i64 a0_6) := (blk_cell BK156.out 6).trans rfl
          have hcz33_7 : w4.cell? ⟨gb156, 7, none⟩ = some (.slice A0_7 l0_7.length c0_7) := (blk_cell BK156.out 7).trans rfl
          have hcz33_8 : w4.cell? ⟨gb156, 8, none⟩ = some (.slice A0_8 l0_8.length c0_8) := (blk_cell BK156.out 8).trans rfl
          have hcz33_9 : w4.cell? ⟨gb156, 9, none⟩ = some (.slice A0_9 l0_9.length c0_9) := (blk_cell BK156.out 9).trans rfl
          have hfz33_0 := blk_frozen BK156.out 0
          have hfz33_1 := blk_frozen BK156.out 1
          have hfz33_2 := blk_frozen BK156.out 2
          have hfz33_3 := blk_frozen BK156.out 3
          have hfz33_4 := blk_frozen BK156.out 4
          have hfz33_5 := blk_frozen BK156.out 5
          have hfz33_6 := blk_frozen BK156.out 6
          have hfz33_7 := blk_frozen BK156.out 7
          have hfz33_8 := blk_frozen BK156.out 8
          have hfz33_9 := blk_frozen BK156.out 9
          have hcz34_0 : w4.cell? ⟨gb157, 0, none⟩ = some (.int .i64 a1_0) := (blk_cell BK157.out 0).trans rfl
          have hcz34_1 : w4.cell? ⟨gb157, 1, none⟩ = some (.int .i64 a1_1) := (blk_cell BK157.out 1).trans rfl
          have hcz34_2 : w4.cell? ⟨gb157, 2, none⟩ = some (.int .i64 a1_2) := (blk_cell BK157.out 2).trans rfl
          have hcz34_3 : w4.cell? ⟨gb157, 3, none⟩ = some (.int .i64 a1_3) := (blk_cell BK157.out 3).trans rfl
          have hcz34_4 : w4.cell? ⟨gb157, 4, none⟩ = some (.int .i64 a1_4) := (blk_cell BK157.out 4).trans rfl
          have hcz34_5 : w4.cell? ⟨gb157, 5, none⟩ = some (.int .i64 a1_5) := (blk_cell BK157.out 5).trans rfl
          have hcz34_6 : w4.cell? ⟨gb157, 6, none⟩ = some (.int .i64 a1_6) := (blk_cell BK157.out 6).trans rfl
          have hcz34_7 : w4.cell? ⟨gb157, 7, none⟩ = some (.slice A1_7 l1_7.length c1_7) := (blk_cell BK157.out 7).trans rfl
          have hcz34_8 : w4.cell? ⟨gb157, 8, none⟩ = some (.slice A1_8 l1_8.length c1_8) := (blk_cell BK157.out 8).trans rfl
          have hcz34_9 : w4.cell? ⟨gb157, 9, none⟩ = some (.slice A1_9 l1_9.length c1_9) := (blk_cell BK157.out 9).trans rfl
          have hfz34_0 := blk_frozen BK157.out 0
          have hfz34_1 := blk_frozen BK157.out 1
          have hfz34_2 := blk_frozen BK157.out 2
          have hfz34_3 := blk_frozen BK157.out 3
          have hfz34_4 := blk_frozen BK157.out 4
          have hfz34_5 := blk_frozen BK157.out 5
          have hfz34_6 := blk_frozen BK157.out 6
          have hfz34_7 := blk_frozen BK157.out 7
          have hfz34_8 := blk_frozen BK157.out 8
          have hfz34_9 := blk_frozen BK157.out 9
          go_wp2
          go_ret
          exact ⟨by first | rfl | (simp [errW_none, errW_some] <;> rfl) | (simp [*, errW_none, errW_some] <;> rfl), by repeat (first | (with_reducible first | exact HB.out | apply below_alloc | apply pw_below_drewN | apply below_drew1 | refine below_set ?_ GE156.out | refine below_set ?_ GE157.out) | exact HB.out)⟩
      · rw [if_neg c10] at H
        have c10b0 : (a0_2 == a1_2) = false := beq_eq_false_iff_ne.mpr c10
        have c10b1 : (a0_2 != a1_2) = true := bne_iff_ne.mpr c10
        obtain rfl := Option.some.inj H
        have hnb35 := NB156_157.out
        have hnc35 := NB157_156.out
        have hcz36_0 : w4.cell? ⟨gb156, 0, none⟩ = some (.int .i64 a0_0) := (blk_cell BK156.out 0).trans rfl
        have hcz36_1 : w4.cell? ⟨gb156, 1, none⟩ = some (.int .i64 a0_1) := (blk_cell BK156.out 1).trans rfl
        have hcz36_2 : w4.cell? ⟨gb156, 2, none⟩ = some (.int .i64 a0_2) := (blk_cell BK156.out 2).trans rfl
        have hcz36_3 : w4.cell? ⟨gb156, 3, none⟩ = some (.int .i64 a0_3) := (blk_cell BK156.out 3).trans rfl
        have hcz36_4 : w4.cell? ⟨gb156, 4, none⟩ = some (.int .i64 a0_4) := (blk_cell BK156.out 4).trans rfl
        have hcz36_5 : w4.cell? ⟨gb156, 5, none⟩ = some (.int .i64 a0_5) := (blk_cell BK156.out 5).trans rfl
        have hcz36_6 : w4.cell? ⟨gb156, 6, none⟩ = some (.int .i64 a0_6) := (blk_cell BK156.out 6).trans rfl
        have hcz36_7 : w4.cell? ⟨gb156, 7, none⟩ = some (.slice A0_7 l0_7.length c0_7) := (blk_cell BK156.out 7).trans rfl
        have hcz36_8 : w4.cell? ⟨gb156, 8, none⟩ = some (.slice A0_8 l0_8.length c0_8) := (blk_cell BK156.out 8).trans rfl
        have hcz36_9 : w4.cell? ⟨gb156, 9, none⟩ = some (.slice A0_9 l0_9.length c0_9) := (blk_cell BK156.out 9).trans rfl
        have hfz36_0 := blk_frozen BK156.out 0
        have hfz36_1 := blk_frozen BK156.out 1
        have hfz36_2 := blk_frozen BK156.out 2
        have hfz36_3 := blk_frozen BK156.out 3
        have hfz36_4 := blk_frozen BK156.out 4
        have hfz36_5 := blk_frozen BK156.out 5
        have hfz36_6 := blk_frozen BK156.out 6
        have hfz36_7 := blk_frozen BK156.out 7
        have hfz36_8 := blk_frozen BK156.out 8
        have hfz36_9 := blk_frozen BK156.out 9
        have hcz37_0 : w4.cell? ⟨gb157, 0, none⟩ = some (.int .i64 a1_0) := (blk_cell BK157.out 0).trans rfl
        have hcz37_1 : w4.cell? ⟨gb157, 1, none⟩ = some (.int .i64 a1_1) := (blk_cell BK157.out 1).trans rfl
        have hcz37_2 : w4.cell? ⟨gb157, 2, none⟩ = some (.int .i64 a1_2) := (blk_cell BK157.out 2).trans rfl
        have hcz37_3 : w4.cell? ⟨gb157, 3, none⟩ = some (.int .i64 a1_3) := (blk_cell BK157.out 3).trans rfl
        have hcz37_4 : w4.cell? ⟨gb157, 4, none⟩ = some (.int .i64 a1_4) := (blk_cell BK157.out 4).trans rfl
        have hcz37_5 : w4.cell? ⟨gb157, 5, none⟩ = some (.int .i64 a1_5) := (blk_cell BK157.out 5).trans rfl
        have hcz37_6 : w4.cell? ⟨gb157, 6, none⟩ = some (.int .i64 a1_6) := (blk_cell BK157.out 6).trans rfl
        have hcz37_7 : w4.cell? ⟨gb157, 7, none⟩ = some (.slice A1_7 l1_7.length c1_7) := (blk_cell BK157.out 7).trans rfl
        have hcz37_8 : w4.cell? ⟨gb157, 8, none⟩ = some (.slice A1_8 l1_8.length c1_8) := (blk_cell BK157.out 8).trans rfl
        have hcz37_9 : w4.cell? ⟨gb157, 9, none⟩ = some (.slice A1_9 l1_9.length c1_9) := (blk_cell BK157.out 9).trans rfl
        have hfz37_0 := blk_frozen BK157.out 0
        have hfz37_1 := blk_frozen BK157.out 1
        have hfz37_2 := blk_frozen BK157.out 2
        have hfz37_3 := blk_frozen BK157.out 3
        have hfz37_4 := blk_frozen BK157.out 4
        have hfz37_5 := blk_frozen BK157.out 5
        have hfz37_6 := blk_frozen BK157.out 6
        have hfz37_7 := blk_frozen BK157.out 7
        have hfz37_8 := blk_frozen BK157.out 8
        have hfz37_9 := blk_frozen BK157.out 9
        go_wp2
        go_ret
        exact ⟨by first | rfl | (simp [errW_none, errW_some] <;> rfl) | (simp [*, errW_none, errW_some] <;> rfl), by repeat (first | (with_reducible first | exact HB.out | apply below_alloc | apply pw_below_drewN | apply below_drew1 | refine below_set ?_ GE156.out | refine below_set ?_ GE157.out) | exact HB.out)⟩
    · rw [if_neg c9] at H
      have c9b0 : (a0_1 == a1_1) = false := beq_eq_false_iff_ne.mpr c9
      have c9b1 : (a0_1 != a1_1) = true := bne_iff_ne.mpr c9
      obtain rfl := Option.some.inj H
      have hnb38 := NB156_157.out
      have hnc38 := NB157_156.out
      have hcz39_0 : w4.cell? ⟨gb156, 0, none⟩ = some (.int .i64 a0_0) := (blk_cell BK156.out 0).trans rfl
      have hcz39_1 : w4.cell? ⟨gb156, 1, none⟩ = some (.int .i64 a0_1) := (blk_cell BK156.out 1).trans rfl
      have hcz39_2 : w4.cell? ⟨gb156, 2, none⟩ = some (.int .i64 a0_2) := (blk_cell BK156.out 2).trans rfl
      have hcz39_3 : w4.cell? ⟨gb156, 3, none⟩ = some (.int .i64 a0_3) := (blk_cell BK156.out 3).trans rfl
      have hcz39_4 : w4.cell? ⟨gb156, 4, none⟩ = some (.int .i64 a0_4) := (blk_cell BK156.out 4).trans rfl
      have hcz39_5 : w4.cell? ⟨gb156, 5, none⟩ = some (.int .i64 a0_5) := (blk_cell BK156.out 5).trans rfl
      have hcz39_6 : w4.cell? ⟨gb156, 6, none⟩ = some (.int .i64 a0_6) := (blk_cell BK156.out 6).trans rfl
      have hcz39_7 : w4.cell? ⟨gb156, 7, none⟩ = some (.slice A0_7 l0_7.length c0_7) := (blk_cell BK156.out 7).trans rfl
      have hcz39_8 : w4.cell? ⟨gb156, 8, none⟩ = some (.slice A0_8 l0_8.length c0_8) := (blk_cell BK156.out 8).trans rfl
      have hcz39_9 : w4.cell? ⟨gb156, 9, none⟩ = some (.slice A0_9 l0_9.length c0_9) := (blk_cell BK156.out 9).trans rfl
      have hfz39_0 := blk_frozen BK156.out 0
      have hfz39_1 := blk_frozen BK156.out 1
      have hfz39_2 := blk_frozen BK156.out 2
      have hfz39_3 := blk_frozen BK156.out 3
      have hfz39_4 := blk_frozen BK156.out 4
      have hfz39_5 := blk_frozen BK156.out 5
      have hfz39_6 := blk_frozen BK156.out 6
      have hfz39_7 := blk_frozen BK156.out 7
      have hfz39_8 := blk_frozen BK156.out 8
      have hfz39_9 := blk_frozen BK156.out 9
      have hcz40_0 : w4.cell? ⟨gb157, 0, none⟩ = some (.int .i64 a1_0) := (blk_cell BK157.out 0).trans rfl
      have hcz40_1 : w4.cell? ⟨gb157, 1, none⟩ = some (.int .i64 a1_1) := (blk_cell BK157.out 1).trans rfl
      have hcz40_2 : w4.cell? ⟨gb157, 2, none⟩ = some (.int .i64 a1_2) := (blk_cell BK157.out 2).trans rfl
      have hcz40_3 : w4.cell? ⟨gb157, 3, none⟩ = some (.int .i64 a1_3) := (blk_cell BK157.out 3).trans rfl
      have hcz40_4 : w4.cell? ⟨gb157, 4, none⟩ = some (.int .i64 a1_4) := (blk_cell BK157.out 4).trans rfl
      have hcz40_5 : w4.cell? ⟨gb157, 5, none⟩ = some (.int .i64 a1_5) := (blk_cell BK157.out 5).trans rfl
      have hcz40_6 : w4.cell? ⟨gb157, 6, none⟩ = some (.int .i64 a1_6) := (blk_cell BK157.out 6).trans rfl
      have hcz40_7 : w4.cell? ⟨gb157, 7, none⟩ = some (.slice A1_7 l1_7.length c1_7) := (blk_cell BK157.out 7).trans rfl
      have hcz40_8 : w4.cell? ⟨gb157, 8, none⟩ = some (.slice A1_8 l1_8.length c1_8) := (blk_cell BK157.out 8).trans rfl
      have hcz40_9 : w4.cell? ⟨gb157, 9, none⟩ = some (.slice A1_9 l1_9.length c1_9) := (blk_cell BK157.out 9).trans rfl
      have hfz40_0 := blk_frozen BK157.out 0
      have hfz40_1 := blk_frozen BK157.out 1
      have hfz40_2 := blk_frozen BK157.out 2
      have hfz40_3 := blk_frozen BK157.out 3
      have hfz40_4 := blk_frozen BK157.out 4
      have hfz40_5 := blk_frozen BK157.out 5
      have hfz40_6 := blk_frozen BK157.out 6
      have hfz40_7 := blk_frozen BK157.out 7
      have hfz40_8 := blk_frozen BK157.out 8
      have hfz40_9 := blk_frozen BK157.out 9
      go_wp2
      go_ret
      exact ⟨by first | rfl | (simp [errW_none, errW_some] <;> rfl) | (simp [*, errW_none, errW_some] <;> rfl), by repeat (first | (with_reducible first | exact HB.out | apply below_alloc | apply pw_below_drewN | apply below_drew1 | refine below_set ?_ GE156.out | refine below_set ?_ GE157.out) | exact HB.out)⟩
  · rw [if_neg c8] at H
    have c8b0 : (a0_0 == a1_0) = false := beq_eq_false_iff_ne.mpr c8
    have c8b1 : (a0_0 != a1_0) = true := bne_iff_ne.mpr c8
    (first | rw [c8b0] | (simp only [i64_w, i32_w]; rw [c8b0]) | skip)
    obtain rfl := Option.some.inj H
    go_wp2
    go_ret
    exact ⟨by first | rfl | (simp [errW_none, errW_some] <;> rfl) | (simp [*, errW_none, errW_some] <;> rfl), by repeat (first | (with_reducible first | exact HB.out | apply below_alloc | apply pw_below_drewN | apply below_drew1 | refine below_set ?_ GE156.out | refine below_set ?_ GE157.out) | exact HB.out)⟩

/-! ### laws_eqNodeS: function 80 -/
def laws_eqNodeS.l0 : Nat → List (S37) → List (S37) → Int → Option (Bool)
  | 0, _, _, _ => none
  | k + 1, x0, x1, x5 => if x5 < (x0.length : Int) then (if 0 ≤ x5 then (if x5 < (x1.length : Int) then ((laws_eqNode.f k ((rd_T37 x0 x5).f0) ((rd_T37 x0 x5).f1) ((rd_T37 x0 x5).f2) ((rd_T37 x0 x5).f3) ((rd_T37 x0 x5).f4) ((rd_T37 x0 x5).f5.f0) ((rd_T37 x0 x5).f5.f1) ((rd_T37 x0 x5).f5.f2) ((rd_T37 x0 x5).f6) ((rd_T37 x0 x5).f7) ((rd_T37 x1 x5).f0) ((rd_T37 x1 x5).f1) ((rd_T37 x1 x5).f2) ((rd_T37 x1 x5).f3) ((rd_T37 x1 x5).f4) ((rd_T37 x1 x5).f5.f0) ((rd_T37 x1 x5).f5.f1) ((rd_T37 x1 x5).f5.f2) ((rd_T37 x1 x5).f6) ((rd_T37 x1 x5).f7)).bind fun t163 => (if t163 = true then (laws_eqNodeS.l0 k x0 x1 (wrap64 (x5 + 1))) else (some false))) else (none)) else (none)) else (some true)
def laws_eqNodeS.f (k : Nat) (l0 : List (S37)) (l1 : List (S37)) : Option (Bool) := if (l0.length : Int) = (l1.length : Int) then (laws_eqNodeS.l0 k l0 l1 0) else (some false)
theorem laws_eqNodeS.mono_l : ∀ k, (∀ y0 y1 y2, LeO (laws_eqNodeS.l0 k y0 y1 y2) (laws_eqNodeS.l0 (k + 1) y0 y1 y2))
  | 0 => fun _ _ _ r h => by simp [laws_eqNodeS.l0] at h
  | k + 1 => by
    have ih0 := laws_eqNodeS.mono_l k
    · intro y0 y1 y2
      unfold laws_eqNodeS.l0
      repeat' first
      | (with_reducible exact ih0 _ _ _)
      | (with_reducible exact laws_eqNode.mono _ _ _ _ _ _ _ _ _ _ _ _ _ _ _ _ _ _ _ _ _)
      | (with_reducible exact LeO.refl _)
      | (with_reducible exact LeO.none _)
      | (with_reducible refine LeO.ite ?_ ?_)
      | (with_reducible refine LeO.bind ?_ (fun _ => ?_))
      | exact ih0 _ _ _
      | exact laws_eqNode.mono _ _ _ _ _ _ _ _ _ _ _ _ _ _ _ _ _ _ _ _ _
      | exact LeO.none _
      | refine LeO.ite ?_ ?_
      | refine LeO.bind ?_ (fun _ => ?_)
theorem laws_eqNodeS.mono : ∀ a0 a1 k, LeO (laws_eqNodeS.f k a0 a1) (laws_eqNodeS.f (k + 1) a0 a1) := by
  intro a0 a1 k
  have ih0 := laws_eqNodeS.mono_l k
  unfold laws_eqNodeS.f
  repeat' first
      | (with_reducible exact ih0 _ _ _)
      | (with_reducible exact laws_eqNode.mono _ _ _ _ _ _ _ _ _ _ _ _ _ _ _ _ _ _ _ _ _)
      | (with_reducible exact LeO.refl _)
      | (with_reducible exact LeO.none _)
      | (with_reducible refine LeO.ite ?_ ?_)
      | (with_reducible refine LeO.bind ?_ (fun _ => ?_))
      | exact ih0 _ _ _
      | exact laws_eqNode.mono _ _ _ _ _ _ _ _ _ _ _ _ _ _ _ _ _ _ _ _ _
      | exact LeO.none _
      | refine LeO.ite ?_ ?_
      | refine LeO.bind ?_ (fun _ => ?_)
def laws_eqNodeS.T6 : Bool × List (List Nat × List Nat) := (true, [([], []), ([], []), ([0, 1], [0, 1]), ([2], [2]), ([], []), ([], []), ([4, 5], [4, 5]), ([6], [6]), ([3, 7], [3, 7]), ([8], [8])])
def laws_eqNodeS.B6 : List Nat := [0, 0, 3, 7, 0, 0, 48, 112, 255, 511]
theorem laws_eqNodeS.tab6 : rtab .any (opsOf Try.f80 6) = laws_eqNodeS.T6 := by kernel_rfl
theorem laws_eqNodeS.bits6 : waitsOk laws_eqNodeS.T6.2 laws_eqNodeS.B6 = true := by kernel_rfl
set_option maxHeartbeats 8000000 in
set_option maxRecDepth 100000 in
theorem laws_eqNodeS.calls (k : Nat) (A0 : Option Addr) (c0 : Nat) (l0 : List (S37)) (A1 : Option Addr) (c1 : Nat) (l1 : List (S37)) (r : Bool) (w : World) (hr0 : Kd.C k37 w A0 l0.length l0) (hc0 : l0.length ≤ c0) (hr1 : Kd.C k37 w A1 l1.length l1) (hc1 : l1.length ≤ c1) (h : laws_eqNodeS.f k l0 l1 = some r) :
    Calls Try.prog 80 #[.slice A0 l0.length c0, .slice A1 l1.length c1] w fun e w' => e = .returned (.bool r) ∧ Below w.heap.size w w' := by
  have hu37 := Try.underlying37
  have HR0 := Aside0.mk hr0
  have HC0 := Aside0.mk hc0
  clear hr0 hc0
  have HR1 := Aside0.mk hr1
  have HC1 := Aside0.mk hc1
  clear hr1 hc1
  have HB := Aside0.mk (Below.refl w.heap.size w)
  have H : (if (l0.length : Int) = (l1.length : Int) then (laws_eqNodeS.l0 k l0 l1 0) else (some false)) = some r := h
  clear h
  by_cases c3 : (l0.length : Int) = (l1.length : Int)
  · rw [if_pos c3] at H
    have c3b0 : ((l0.length : Int) == (l1.length : Int)) = true := beq_iff_eq.mpr c3
    have c3b1 : ((l0.length : Int) != (l1.length : Int)) = false := bne_eq_false_iff_eq.mpr c3
    have c3b2 : (l0.length == l1.length) = true := by first | simpa using c3 | (simp at c3 ⊢; omega)
    clear c3
    have H' := Aside0.mk H
    clear H
    go_enter Try.func80, Try.ntmps80
    go_wp2
    go_loopg [5] k (fun kq v5 w' => ∃ (x5_1 : Int), v5 = .int .i64 x5_1 ∧ Aside0 (laws_eqNodeS.l0 kq l0 l1 x5_1 = some r) ∧ Aside0 (kq ≤ k) ∧ Aside0 (Below w.heap.size w w'))
    case atStart => exact ⟨(0), (by first | rfl | (simp; done) | (simp [*]; done)), H', ⟨Nat.le_refl _⟩, ⟨by repeat (first | (with_reducible first | exact HB.out | apply below_alloc | apply pw_below_drewN | apply below_drew1) | exact HB.out)⟩⟩
    case round =>
      clear H'
      try clear c1
      try clear p2
      try clear c3
      try clear c3b0
      try clear c3b1
      try clear c3b2
      obtain ⟨x5_1, rfl, HA, HK1, HB⟩ := hrel
      cases gk with
      | zero => exact absurd HA.out (by simp [laws_eqNodeS.l0])
      | succ k1 =>
        have H := HA.out
        clear HA
        simp only [laws_eqNodeS.l0] at H
        by_cases c4 : x5_1 < (l0.length : Int)
        · rw [if_pos c4] at H
          have c4b0 : decide (x5_1 < (l0.length : Int)) = true := decide_eq_true c4
          clear c4
          by_cases c5 : 0 ≤ x5_1
          · rw [if_pos c5] at H
            have c5b0 : decide (0 ≤ x5_1) = true := decide_eq_true c5
            clear c5
            by_cases c6 : x5_1 < (l1.length : Int)
            · rw [if_pos c6] at H
              have c6b0 : decide (x5_1 < (l1.length : Int)) = true := decide_eq_true c6
              clear c6
              replace H := Option.bind_eq_some_iff.mp H
              obtain ⟨t163, A70, H⟩ := H
              replace H : (if t163 = true then (laws_eqNodeS.l0 k1 l0 l1 (wrap64 (x5_1 + 1))) else (some false)) = some r := H
              have A7 := Aside0.mk A70
              clear A70
              have H9 := Aside0.mk H
              clear H
              try go_wp2
              have n0_ := Aside0.mk (below_drew1 HB.out)
              clear HB
              have HB := n0_
              clear n0_
              have p161 : 0 ≤ (x5_1 : Int) := of_decide_eq_true (by first | (with_reducible assumption) | assumption)
              have q161 : x5_1 < (l0.length : Int) := of_decide_eq_true (by first | (with_reducible assumption) | assumption)
              obtain ⟨ad161, A161_7, c161_7, A161_8, c161_8, A161_9, c161_9, e161, hx161_0, hx161_1, hx161_2, hx161_3, hx161_4, hx161_5, hx161_6, hx161_7, hx161_8, hx161_9, hl161_7, hi161_7, hl161_8, hi161_8, hl161_9, hi161_9⟩ := at_T37 HR0.out x5_1 p161 q161
              have hw161_9 := hx161_9
              have hw161_8 := hx161_8
              have hw161_7 := hx161_7
              have hw161_6 := hx161_6
              have hw161_5 := hx161_5
              have hw161_4 := hx161_4
              have hw161_3 := hx161_3
              have hw161_2 := hx161_2
              have hw161_1 := hx161_1
              have hw161_0 := hx161_0
              cases e161
              replace hx161_0 := (HB.out.cell (World.block_lt_of_cell? w _ hx161_0)).trans hx161_0
              replace hx161_1 := (HB.out.cell (World.block_lt_of_cell? w _ hx161_1)).trans hx161_1
              replace hx161_2 := (HB.out.cell (World.block_lt_of_cell? w _ hx161_2)).trans hx161_2
              replace hx161_3 := (HB.out.cell (World.block_lt_of_cell? w _ hx161_3)).trans hx161_3
              replace hx161_4 := (HB.out.cell (World.block_lt_of_cell? w _ hx161_4)).trans hx161_4
              replace hx161_5 := (HB.out.cell (World.block_lt_of_cell? w _ hx161_5)).trans hx161_5
              replace hx161_6 := (HB.out.cell (World.block_lt_of_cell? w _ hx161_6)).trans hx161_6
              replace hx161_7 := (HB.out.cell (World.block_lt_of_cell? w _ hx161_7)).trans hx161_7
              replace hx161_8 := (HB.out.cell (World.block_lt_of_cell? w _ hx161_8)).trans hx161_8
              replace hx161_9 := (HB.out.cell (World.block_lt_of_cell? w _ hx161_9)).trans hx161_9
              have HR161_7 := Aside0.mk hi161_7
              have HC161_7 := Aside0.mk hl161_7
              clear hi161_7 hl161_7
              have HR161_8 := Aside0.mk hi161_8
              have HC161_8 := Aside0.mk hl161_8
              clear hi161_8 hl161_8
              have HR161_9 := Aside0.mk hi161_9
              have HC161_9 := Aside0.mk hl161_9
              clear hi161_9 hl161_9
              replace p161 := eq_true p161
              replace q161 := eq_true q161
              have p162 : 0 ≤ (x5_1 : Int) := of_decide_eq_true (by first | (with_reducible assumption) | assumption)
              have q162 : x5_1 < (l1.length : Int) := of_decide_eq_true (by first | (with_reducible assumption) | assumption)
              obtain ⟨ad162, A162_7, c162_7, A162_8, c162_8, A162_9, c162_9, e162, hx162_0, hx162_1, hx162_2, hx162_3, hx162_4, hx162_5, hx162_6, hx162_7, hx162_8, hx162_9, hl162_7, hi162_7, hl162_8, hi162_8, hl162_9, hi162_9⟩ := at_T37 HR1.out x5_1 p162 q162
              have hw162_9 := hx162_9
              have hw162_8 := hx162_8
              have hw162_7 := hx162_7
              have hw162_6 := hx162_6
              have hw162_5 := hx162_5
              have hw162_4 := hx162_4
              have hw162_3 := hx162_3
              have hw162_2 := hx162_2
              have hw162_1 := hx162_1
              have hw162_0 := hx162_0
              cases e162
              replace hx162_0 := (HB.out.cell (World.block_lt_of_cell? w _ hx162_0)).trans hx162_0
              replace hx162_1 := (HB.out.cell (World.block_lt_of_cell? w _ hx162_1)).trans hx162_1
              replace hx162_2 := (HB.out.cell (World.block_lt_of_cell? w _ hx162_2)).trans hx162_2
              replace hx162_3 := (HB.out.cell (World.block_lt_of_cell? w _ hx162_3)).trans hx162_3
              replace hx162_4 := (HB.out.cell (World.block_lt_of_cell? w _ hx162_4)).trans hx162_4
              replace hx162_5 := (HB.out.cell (World.block_lt_of_cell? w _ hx162_5)).trans hx162_5
              replace hx162_6 := (HB.out.cell (World.block_lt_of_cell? w _ hx162_6)).trans hx162_6
              replace hx162_7 := (HB.out.cell (World.block_lt_of_cell? w _ hx162_7)).trans hx162_7
              replace hx162_8 := (HB.out.cell (World.block_lt_of_cell? w _ hx162_8)).trans hx162_8
              replace hx162_9 := (HB.out.cell (World.block_lt_of_cell? w _ hx162_9)).trans hx162_9
              have HR162_7 := Aside0.mk hi162_7
              have HC162_7 := Aside0.mk hl162_7
              clear hi162_7 hl162_7
              have HR162_8 := Aside0.mk hi162_8
              have HC162_8 := Aside0.mk hl162_8
              clear hi162_8 hl162_8
              have HR162_9 := Aside0.mk hi162_9
              have HC162_9 := Aside0.mk hl162_9
              clear hi162_9 hl162_9
              replace p162 := eq_true p162
              replace q162 := eq_true q162
              refine start_ (n := 10) (S := fun w' => w'.cell? (ad161.add ((x5_1).toNat * 10)) = some (.int .i64 ((rd_T37 l0 x5_1).f0)) ∧ w'.cell? ⟨(ad161.add ((x5_1).toNat * 10)).block, (ad161.add ((x5_1).toNat * 10)).off + 1, none⟩ = some (.int .i64 ((rd_T37 l0 x5_1).f1)) ∧ w'.cell? ⟨(ad161.add ((x5_1).toNat * 10)).block, (ad161.add ((x5_1).toNat * 10)).off + 2, none⟩ = some (.int .i64 ((rd_T37 l0 x5_1).f2)) ∧ w'.cell? ⟨(ad161.add ((x5_1).toNat * 10)).block, (ad161.add ((x5_1).toNat * 10)).off + 3, none⟩ = some (.int .i64 ((rd_T37 l0 x5_1).f3)) ∧ w'.cell? ⟨(ad161.add ((x5_1).toNat * 10)).block, (ad161.add ((x5_1).toNat * 10)).off + 4, none⟩ = some (.int .i64 ((rd_T37 l0 x5_1).f4)) ∧ w'.cell? ⟨(ad161.add ((x5_1).toNat * 10)).block, (ad161.add ((x5_1).toNat * 10)).off + 5, none⟩ = some (.int .i64 ((rd_T37 l0 x5_1).f5.f0)) ∧ w'.cell? ⟨(ad161.add ((x5_1).toNat * 10)).block, (ad161.add ((x5_1).toNat * 10)).off + 6, none⟩ = some (.int .i64 ((rd_T37 l0 x5_1).f5.f1)) ∧ w'.cell? ⟨(ad161.add ((x5_1).toNat * 10)).block, (ad161.add ((x5_1).toNat * 10)).off + 7, none⟩ = some (.slice A161_7 ((rd_T37 l0 x5_1).f5.f2).length c161_7) ∧ w'.cell? ⟨(ad161.add ((x5_1).toNat * 10)).block, (ad161.add ((x5_1).toNat * 10)).off + 8, none⟩ = some (.slice A161_8 ((rd_T37 l0 x5_1).f6).length c161_8) ∧ w'.cell? ⟨(ad161.add ((x5_1).toNat * 10)).block, (ad161.add ((x5_1).toNat * 10)).off + 9, none⟩ = some (.slice A161_9 ((rd_T37 l0 x5_1).f7).length c161_9) ∧ w'.cell? (ad162.add ((x5_1).toNat * 10)) = some (.int .i64 ((rd_T37 l1 x5_1).f0)) ∧ w'.cell? ⟨(ad162.add ((x5_1).toNat * 10)).block, (ad162.add ((x5_1).toNat * 10)).off + 1, none⟩ = some (.int .i64 ((rd_T37 l1 x5_1).f1)) ∧ w'.cell? ⟨(ad162.add ((x5_1).toNat * 10)).block, (ad162.add ((x5_1).toNat * 10)).off + 2, none⟩ = some (.int .i64 ((rd_T37 l1 x5_1).f2)) ∧ w'.cell? ⟨(ad162.add ((x5_1).toNat * 10)).block, (ad162.add ((x5_1).toNat * 10)).off + 3, none⟩ = some (.int .i64 ((rd_T37 l1 x5_1).f3)) ∧ w'.cell? ⟨(ad162.add ((x5_1).toNat * 10)).block, (ad162.add ((x5_1).toNat * 10)).off + 4, none⟩ = some (.int .i64 ((rd_T37 l1 x5_1).f4)) ∧ w'.cell? ⟨(ad162.add ((x5_1).toNat * 10)).block, (ad162.add ((x5_1).toNat * 10)).off + 5, none⟩ = some (.int .i64 ((rd_T37 l1 x5_1).f5.f0)) ∧ w'.cell? ⟨(ad162.add ((x5_1).toNat * 10)).block, (ad162.add ((x5_1).toNat * 10)).off + 6, none⟩ = some (.int .i64 ((rd_T37 l1 x5_1).f5.f1)) ∧ w'.cell? ⟨(ad162.add ((x5_1).toNat * 10)).block, (ad162.add ((x5_1).toNat * 10)).off + 7, none⟩ = some (.slice A162_7 ((rd_T37 l1 x5_1).f5.f2).length c162_7) ∧ w'.cell? ⟨(ad162.add ((x5_1).toNat * 10)).block, (ad162.add ((x5_1).toNat * 10)).off + 8, none⟩ = some (.slice A162_8 ((rd_T37 l1 x5_1).f6).length c162_8) ∧ w'.cell? ⟨(ad162.add ((x5_1).toNat * 10)).block, (ad162.add ((x5_1).toNat * 10)).off + 9, none⟩ = some (.slice A162_9 ((rd_T37 l1 x5_1).f7).length c162_9)) (ds := []) #[false, false, false, false, false, false, false, false, false, false] (by kernel_rfl) rfl rfl ⟨((HB.out.cell (World.block_lt_of_cell? w _ hw161_0)).trans hw161_0), ((HB.out.cell (World.block_lt_of_cell? w _ hw161_1)).trans hw161_1), ((HB.out.cell (World.block_lt_of_cell? w _ hw161_2)).trans hw161_2), ((HB.out.cell (World.block_lt_of_cell? w _ hw161_3)).trans hw161_3), ((HB.out.cell (World.block_lt_of_cell? w _ hw161_4)).trans hw161_4), ((HB.out.cell (World.block_lt_of_cell? w _ hw161_5)).trans hw161_5), ((HB.out.cell (World.block_lt_of_cell? w _ hw161_6)).trans hw161_6), ((HB.out.cell (World.block_lt_of_cell? w _ hw161_7)).trans hw161_7), ((HB.out.cell (World.block_lt_of_cell? w _ hw161_8)).trans hw161_8), ((HB.out.cell (World.block_lt_of_cell? w _ hw161_9)).trans hw161_9), ((HB.out.cell (World.block_lt_of_cell? w _ hw162_0)).trans hw162_0), ((HB.out.cell (World.block_lt_of_cell? w _ hw162_1)).trans hw162_1), ((HB.out.cell (World.block_lt_of_cell? w _ hw162_2)).trans hw162_2), ((HB.out.cell (World.block_lt_of_cell? w _ hw162_3)).trans hw162_3), ((HB.out.cell (World.block_lt_of_cell? w _ hw162_4)).trans hw162_4), ((HB.out.cell (World.block_lt_of_cell? w _ hw162_5)).trans hw162_5), ((HB.out.cell (World.block_lt_of_cell? w _ hw162_6)).trans hw162_6), ((HB.out.cell (World.block_lt_of_cell? w _ hw162_7)).trans hw162_7), ((HB.out.cell (World.block_lt_of_cell? w _ hw162_8)).trans hw162_8), ((HB.out.cell (World.block_lt_of_cell? w _ hw162_9)).trans hw162_9)⟩ (fun hHeld => ?_); refine with_tabW laws_eqNodeS.tab6 laws_eqNodeS.bits6 (fun HT_ HW_ => ?_)
              generalize wr.drew = w8 at HB HR161_7 HR161_8 HR161_9 HR162_7 HR162_8 HR162_9 hx161_0 hx161_1 hx161_2 hx161_3 hx161_4 hx161_5 hx161_6 hx161_7 hx161_8 hx161_9 hx162_0 hx162_1 hx162_2 hx162_3 hx162_4 hx162_5 hx162_6 hx162_7 hx162_8 hx162_9 hHeld ⊢
              refine pure_ (i := 0) (N := some 17) (v := ?_) (a' := ?_) #[true, false, false, false, false, false, false, false, false, false] rfl rfl (any_of HT_.out (by kernel_rfl)) (fun _ _ _ h => h) (Or.inl ⟨by rfl, ?_⟩) ?_ ?_
              rotate_left
              · intro w'
                go_simp
                with_reducible rfl
              rotate_left
              · simp only [Act.put, List.setIfInBounds_toArray, List.set_cons_zero, List.set_cons_succ, i64_w, i32_w]
                rfl
              refine pure_ (i := 1) (N := some 18) (v := ?_) (a' := ?_) #[true, true, false, false, false, false, false, false, false, false] rfl rfl (any_of HT_.out (by kernel_rfl)) (fun _ _ _ h => h) (Or.inl ⟨by rfl, ?_⟩) ?_ ?_
              rotate_left
              · intro w'
                go_simp
                with_reducible rfl
              rotate_left
              · simp only [Act.put, List.setIfInBounds_toArray, List.set_cons_zero, List.set_cons_succ, i64_w, i32_w]
                rfl
              refine pure_ (i := 2) (N := some 19) (v := ?_) (a' := ?_) #[true, true, true, false, false, false, false, false, false, false] rfl rfl (any_of HT_.out (by kernel_rfl)) (fun _ _ _ h => h) (Or.inl ⟨by rfl, ?_⟩) ?_ ?_
              rotate_left
              · intro w'
                go_simp
                with_reducible rfl
              rotate_left
              · simp only [Act.put, List.setIfInBounds_toArray, List.set_cons_zero, List.set_cons_succ, i64_w, i32_w]
                rfl
              refine pure_ (i := 4) (N := some 21) (v := ?_) (a' := ?_) #[true, true, true, false, true, false, false, false, false, false] rfl rfl (any_of HT_.out (by kernel_rfl)) (fun _ _ _ h => h) (Or.inl ⟨by rfl, ?_⟩) ?_ ?_
              rotate_left
              · intro w'
                go_simp
                with_reducible rfl
              rotate_left
              · simp only [Act.put, List.setIfInBounds_toArray, List.set_cons_zero, List.set_cons_succ, i64_w, i32_w]
                rfl
              refine pure_ (i := 5) (N := some 22) (v := ?_) (a' := ?_) #[true, true, true, false, true, true, false, false, false, false] rfl rfl (any_of HT_.out (by kernel_rfl)) (fun _ _ _ h => h) (Or.inl ⟨by rfl, ?_⟩) ?_ ?_
              rotate_left
              · intro w'
                go_simp
                with_reducible rfl
              rotate_left
              · simp only [Act.put, List.setIfInBounds_toArray, List.set_cons_zero, List.set_cons_succ, i64_w, i32_w]
                rfl
              refine pure_ (i := 6) (N := some 23) (v := ?_) (a' := ?_) #[true, true, true, false, true, true, true, false, false, false] rfl rfl (any_of HT_.out (by kernel_rfl)) (fun _ _ _ h => h) (Or.inl ⟨by rfl, ?_⟩) ?_ ?_
              rotate_left
              · intro w'
                go_simp
                with_reducible rfl
              rotate_left
              · simp only [Act.put, List.setIfInBounds_toArray, List.set_cons_zero, List.set_cons_succ, i64_w, i32_w]
                rfl
              refine take_ (i := 3) (N := some 20) (v := ?_) (a' := ?_) #[true, true, true, true, true, true, true, false, false, false] rfl rfl (take_ofW HT_.out HW_.out (by kernel_rfl)) (fun _ _ _ h => h) (Or.inl ⟨by rfl, ?_⟩) hHeld ?_ ?_
              rotate_left
              · rintro w' ⟨s0, s1, s2, s3, s4, s5, s6, s7, s8, s9, s10, s11, s12, s13, s14, s15, s16, s17, s18, s19⟩
                go_simp
                with_reducible rfl
              rotate_left
              · simp only [Act.put, List.setIfInBounds_toArray, List.set_cons_zero, List.set_cons_succ, i64_w, i32_w]
                rfl
              refine take_ (i := 7) (N := some 24) (v := ?_) (a' := ?_) #[true, true, true, true, true, true, true, true, false, false] rfl rfl (take_ofW HT_.out HW_.out (by kernel_rfl)) (fun _ _ _ h => h) (Or.inl ⟨by rfl, ?_⟩) hHeld ?_ ?_
              rotate_left
              · rintro w' ⟨s0, s1, s2, s3, s4, s5, s6, s7, s8, s9, s10, s11, s12, s13, s14, s15, s16, s17, s18, s19⟩
                go_simp
                with_reducible rfl
              rotate_left
              · simp only [Act.put, List.setIfInBounds_toArray, List.set_cons_zero, List.set_cons_succ, i64_w, i32_w]
                rfl
              refine one_ (i := 8) (N := some 25) #[true, true, true, true, true, true, true, true, true, false] rfl rfl (one_of HT_.out (by kernel_rfl)) (by decide) (fun K hK => ?_)
              refine goes_ Try.func22 (by kernel_rfl) rfl #[.agg #[.int .i64 ((rd_T37 l0 x5_1).f0), .int .i64 ((rd_T37 l0 x5_1).f1), .int .i64 ((rd_T37 l0 x5_1).f2), .int .i64 ((rd_T37 l0 x5_1).f3), .int .i64 ((rd_T37 l0 x5_1).f4), .int .i64 ((rd_T37 l0 x5_1).f5.f0), .int .i64 ((rd_T37 l0 x5_1).f5.f1), .slice A161_7 ((rd_T37 l0 x5_1).f5.f2).length c161_7, .slice A161_8 ((rd_T37 l0 x5_1).f6).length c161_8, .slice A161_9 ((rd_T37 l0 x5_1).f7).length c161_9], .agg #[.int .i64 ((rd_T37 l1 x5_1).f0), .int .i64 ((rd_T37 l1 x5_1).f1), .int .i64 ((rd_T37 l1 x5_1).f2), .int .i64 ((rd_T37 l1 x5_1).f3), .int .i64 ((rd_T37 l1 x5_1).f4), .int .i64 ((rd_T37 l1 x5_1).f5.f0), .int .i64 ((rd_T37 l1 x5_1).f5.f1), .slice A162_7 ((rd_T37 l1 x5_1).f5.f2).length c162_7, .slice A162_8 ((rd_T37 l1 x5_1).f6).length c162_8, .slice A162_9 ((rd_T37 l1 x5_1).f7).length c162_9]] (by rfl) rfl rfl (by (try simp only [List.map_toArray, List.map_cons, List.map_nil]); first | done | rfl | (simp only [List.length_drop, List.length_take]; rfl)) ?_
              with_reducible refine (laws_eqNode.calls k1 ((rd_T37 l0 x5_1).f0) ((rd_T37 l0 x5_1).f1) ((rd_T37 l0 x5_1).f2) ((rd_T37 l0 x5_1).f3) ((rd_T37 l0 x5_1).f4) ((rd_T37 l0 x5_1).f5.f0) ((rd_T37 l0 x5_1).f5.f1) _ _ ((rd_T37 l0 x5_1).f5.f2) _ _ ((rd_T37 l0 x5_1).f6) _ _ ((rd_T37 l0 x5_1).f7) ((rd_T37 l1 x5_1).f0) ((rd_T37 l1 x5_1).f1) ((rd_T37 l1 x5_1).f2) ((rd_T37 l1 x5_1).f3) ((rd_T37 l1 x5_1).f4) ((rd_T37 l1 x5_1).f5.f0) ((rd_T37 l1 x5_1).f5.f1) _ _ ((rd_T37 l1 x5_1).f5.f2) _ _ ((rd_T37 l1 x5_1).f6) _ _ ((rd_T37 l1 x5_1).f7) t163 _ ?side1 ?side2 ?side3 ?side4 ?side5 ?side6 ?side7 ?side8 ?side9 ?side10 ?side11 ?side12 A7.out).mono ?_
              (case side1 => repeat (first | exact (Kd.C_below HR161_7.out HB.out) | (with_reducible refine Kd.C_alloc ?_ _) | (with_reducible refine Kd.C_drewN ?_ _) | (with_reducible refine Kd.C_drew ?_)))
              (case side2 => exact HC161_7.out)
              (case side3 => repeat (first | exact (Kd.C_below HR161_8.out HB.out) | (with_reducible refine Kd.C_alloc ?_ _) | (with_reducible refine Kd.C_drewN ?_ _) | (with_reducible refine Kd.C_drew ?_)))
              (case side4 => exact HC161_8.out)
              (case side5 => repeat (first | exact (Kd.C_below HR161_9.out HB.out) | (with_reducible refine Kd.C_alloc ?_ _) | (with_reducible refine Kd.C_drewN ?_ _) | (with_reducible refine Kd.C_drew ?_)))
              (case side6 => exact HC161_9.out)
              (case side7 => repeat (first | exact (Kd.C_below HR162_7.out HB.out) | (with_reducible refine Kd.C_alloc ?_ _) | (with_reducible refine Kd.C_drewN ?_ _) | (with_reducible refine Kd.C_drew ?_)))
              (case side8 => exact HC162_7.out)
              (case side9 => repeat (first | exact (Kd.C_below HR162_8.out HB.out) | (with_reducible refine Kd.C_alloc ?_ _) | (with_reducible refine Kd.C_drewN ?_ _) | (with_reducible refine Kd.C_drew ?_)))
              (case side10 => exact HC162_8.out)
              (case side11 => repeat (first | exact (Kd.C_below HR162_9.out HB.out) | (with_reducible refine Kd.C_alloc ?_ _) | (with_reducible refine Kd.C_drewN ?_ _) | (with_reducible refine Kd.C_drew ?_)))
              (case side12 => exact HC162_9.out)
              rintro e w9 ⟨rfl, hb⟩
              refine ⟨_, rfl, ?_⟩
              have n0_ := Aside0.mk (below_step (by repeat (first | (with_reducible first | exact HB.out | apply below_alloc | apply pw_below_drewN | apply below_drew1) | exact HB.out)) hb)
              clear HB
              have HB := n0_
              clear n0_
              (try clear hb)
              (try clear hb2)
              (try clear hk)
              (try clear hi)
              refine hK.out _ _ ⟨((HB.out.cell (World.block_lt_of_cell? w _ hw161_0)).trans hw161_0), ((HB.out.cell (World.block_lt_of_cell? w _ hw161_1)).trans hw161_1), ((HB.out.cell (World.block_lt_of_cell? w _ hw161_2)).trans hw161_2), ((HB.out.cell (World.block_lt_of_cell? w _ hw161_3)).trans hw161_3), ((HB.out.cell (World.block_lt_of_cell? w _ hw161_4)).trans hw161_4), ((HB.out.cell (World.block_lt_of_cell? w _ hw161_5)).trans hw161_5), ((HB.out.cell (World.block_lt_of_cell? w _ hw161_6)).trans hw161_6), ((HB.out.cell (World.block_lt_of_cell? w _ hw161_7)).trans hw161_7), ((HB.out.cell (World.block_lt_of_cell? w _ hw161_8)).trans hw161_8), ((HB.out.cell (World.block_lt_of_cell? w _ hw161_9)).trans hw161_9), ((HB.out.cell (World.block_lt_of_cell? w _ hw162_0)).trans hw162_0), ((HB.out.cell (World.block_lt_of_cell? w _ hw162_1)).trans hw162_1), ((HB.out.cell (World.block_lt_of_cell? w _ hw162_2)).trans hw162_2), ((HB.out.cell (World.block_lt_of_cell? w _ hw162_3)).trans hw162_3), ((HB.out.cell (World.block_lt_of_cell? w _ hw162_4)).trans hw162_4), ((HB.out.cell (World.block_lt_of_cell? w _ hw162_5)).trans hw162_5), ((HB.out.cell (World.block_lt_of_cell? w _ hw162_6)).trans hw162_6), ((HB.out.cell (World.block_lt_of_cell? w _ hw162_7)).trans hw162_7), ((HB.out.cell (World.block_lt_of_cell? w _ hw162_8)).trans hw162_8), ((HB.out.cell (World.block_lt_of_cell? w _ hw162_9)).trans hw162_9)⟩ (fun hHeld => ?_)
              clear hK K
              refine norm_ (a' := ?_) ?_ ?_
              rotate_left
              · show Act.put _ (some 25) _ = _
                simp only [Act.put, List.setIfInBounds_toArray, List.set_cons_zero, List.set_cons_succ, i64_w, i32_w]
                rfl
              refine pure_ (i := 9) (N := some 26) (v := ?_) (a' := ?_) #[true, true, true, true, true, true, true, true, true, true] rfl rfl (any_of HT_.out (by kernel_rfl)) (fun _ _ _ h => h) (Or.inl ⟨by rfl, ?_⟩) ?_ ?_
              rotate_left
              · intro w'
                go_simp
                with_reducible rfl
              rotate_left
              · simp only [Act.put, List.setIfInBounds_toArray, List.set_cons_zero, List.set_cons_succ, i64_w, i32_w]
                rfl
              refine done_ (done_of HT_.out (by kernel_rfl)) ?_
              go_upto_if 26 with (fail)
              have H := H9.out
              clear H9
              by_cases c10 : t163 = true
              · subst c10
                have H1 : (laws_eqNodeS.l0 k1 l0 l1 (wrap64 (x5_1 + 1))) = some r := by rw [if_pos rfl] at H; exact H
                clear H
                have H := H1
                clear H1
                have H' := Aside0.mk H
                clear H
                go_wp2
                go_roundg k1
                case measure => have := HK1.out; omega
                case rel => exact ⟨(wrap64 (x5_1 + 1)), (by first | rfl | (simp; done) | (simp [*]; done)), H', ⟨by have := HK1.out; omega⟩, ⟨by repeat (first | (with_reducible first | exact HB.out | apply below_alloc | apply pw_below_drewN | apply below_drew1) | exact HB.out)⟩⟩
              · replace c10 := Bool.eq_false_iff.mpr c10
                subst c10
                have H1 : (some false) = some r := by rw [if_neg (show ¬ (false = true) by decide)] at H; exact H
                clear H
                have H := H1
                clear H1
                obtain rfl := Option.some.inj H
                go_wp2
                go_ret
                exact ⟨by first | rfl | (simp [errW_none, errW_some] <;> rfl) | (simp [*, errW_none, errW_some] <;> rfl), by repeat (first | (with_reducible first | exact HB.out | apply below_alloc | apply pw_below_drewN | apply below_drew1) | exact HB.out)⟩
            · rw [if_neg c6] at H
              exact absurd H (by simp)
          · rw [if_neg c5] at H
            exact absurd H (by simp)
        · rw [if_neg c4] at H
          have c4b0 : decide (x5_1 < (l0.length : Int)) = false := decide_eq_false c4
          clear c4
          obtain rfl := Option.some.inj H
          go_wp2
          go_ret
          exact ⟨by first | rfl | (simp [errW_none, errW_some] <;> rfl) | (simp [*, errW_none, errW_some] <;> rfl), by repeat (first | (with_reducible first | exact HB.out | apply below_alloc | apply pw_below_drewN | apply below_drew1) | exact HB.out)⟩
  · rw [if_neg c3] at H
    have c3b0 : ((l0.length : Int) == (l1.length : Int)) = false := beq_eq_false_iff_ne.mpr c3
    have c3b1 : ((l0.length : Int) != (l1.length : Int)) = true := bne_iff_ne.mpr c3
    have c3b2 : (l0.length == l1.length) = false := by first | simpa using c3 | (simp at c3 ⊢; omega)
    obtain rfl := Option.some.inj H
    go_enter Try.func80, Try.ntmps80
    go_wp2
    go_ret
    exact ⟨by first | rfl | (simp [errW_none, errW_some] <;> rfl) | (simp [*, errW_none, errW_some] <;> rfl), by repeat (first | (with_reducible first | exact HB.out | apply below_alloc | apply pw_below_drewN | apply below_drew1) | exact HB.out)⟩

end Go.Proofs.Ytkcadcoohmofcaa.QFnExactNewGroup
