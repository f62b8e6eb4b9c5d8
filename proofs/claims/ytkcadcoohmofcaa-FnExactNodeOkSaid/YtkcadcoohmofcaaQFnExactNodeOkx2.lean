-- Printed by the session's own program wip/prx.py.
import Derived.Test.YtkcadcoohmofcaaQFnExactNodeOkx0
import Derived.Test.YtkcadcoohmofcaaQFnExactNodeOkx1
namespace Go.Proofs.Ytkcadcoohmofcaa.QFnExactNodeOk
open Go.RowKit Go.Proofs.YtkcadcoohmofcaaW.PrintWords Go.Proofs.YtkcadcoohmofcaaW.PrintLast Go.Proofs.YtkcadcoohmofcaaW.PrintMore
attribute [local go_sem] max2_int min2_int max_two min_two max_three min_three max_four min_four Go.Proofs.Ytkcadcoohmofcaa.Set.isSome_setCell   -- for this text's walks alone
set_option linter.unusedVariables false
set_option linter.unusedSimpArgs false

-- squeezed
theorem u2_0 {P : Prop} (h : P := by repeat (first | (with_reducible first | exact HB.out | apply below_alloc | apply pw_below_drewN | apply below_drew1) | exact HB.out)) : P := h
theorem u2_1 {P : Prop} (h : P := by repeat (first | (with_reducible first | exact HB.out | apply below_alloc | apply pw_below_drewN | apply below_drew1 | refine below_set ?_ GE111.out | refine below_set ?_ GE112.out) | exact HB.out)) : P := h
theorem u2_2 {P : Prop} (h : P := by (try simp only [List.map_toArray, List.map_cons, List.map_nil]); first | done | rfl | (simp only [List.length_drop, List.length_take]; rfl)) : P := h
theorem u2_3 {P : Prop} (h : P := by repeat (first | (with_reducible first | exact HB.out | apply below_alloc | apply pw_below_drewN | apply below_drew1 | refine below_set ?_ GE121.out) | exact HB.out)) : P := h
theorem u2_4 {P : Prop} (h : P := by (with_reducible repeat (first | refine blk_drewN ?_ _ | refine blk_drew ?_ | refine blk_alloc ?_ _)); exact BK111.out) : P := h
theorem u2_5 {P : Prop} (h : P := by repeat (first | (with_reducible first | exact HB.out | apply below_alloc | apply pw_below_drewN | apply below_drew1 | refine below_set ?_ GE111.out) | exact HB.out)) : P := h
theorem u2_6 {P : Prop} (h : P := by repeat (first | (with_reducible first | exact HB.out | apply below_alloc | apply pw_below_drewN | apply below_drew1 | refine below_set ?_ GE119.out) | exact HB.out)) : P := h
theorem u2_7 {P : Prop} (h : P := by repeat (first | exact (Kd.C_below HR0_7.out HB.out) | (with_reducible refine Kd.C_alloc ?_ _) | (with_reducible refine Kd.C_drewN ?_ _) | (with_reducible refine Kd.C_drew ?_))) : P := h
theorem u2_8 {P : Prop} (h : P := by repeat (first | exact (Kd.C_below HR0_8.out HB.out) | (with_reducible refine Kd.C_alloc ?_ _) | (with_reducible refine Kd.C_drewN ?_ _) | (with_reducible refine Kd.C_drew ?_))) : P := h
theorem u2_9 {P : Prop} (h : P := by repeat (first | exact (Kd.C_below HR0_9.out HB.out) | (with_reducible refine Kd.C_alloc ?_ _) | (with_reducible refine Kd.C_drewN ?_ _) | (with_reducible refine Kd.C_drew ?_))) : P := h
theorem u2_10 {P : Prop} (h : P := by repeat (first | (with_reducible first | exact HB.out | apply below_alloc | apply pw_below_drewN | apply below_drew1 | refine below_set ?_ GE116.out) | exact HB.out)) : P := h
theorem u2_11 {P : Prop} (h : P := by first | rfl | (simp; done) | (simp [*]; done)) : P := h
/-! ### laws_eqNode: function 22 -/
def laws_eqNode.f (k : Nat) (a0_0 : Int) (a0_1 : Int) (a0_2 : Int) (a0_3 : Int) (a0_4 : Int) (a0_5 : Int) (a0_6 : Int) (l0_7 : List (S85)) (l0_8 : List Int) (l0_9 : List Int) (a1_0 : Int) (a1_1 : Int) (a1_2 : Int) (a1_3 : Int) (a1_4 : Int) (a1_5 : Int) (a1_6 : Int) (l1_7 : List (S85)) (l1_8 : List Int) (l1_9 : List Int) : Option (Bool) := if a0_0 = a1_0 then (if a0_1 = a1_1 then (if a0_2 = a1_2 then (if a0_3 = a1_3 then (if a0_4 = a1_4 then ((laws_eqRLog.f k a0_5 a0_6 l0_7 a1_5 a1_6 l1_7).bind fun t113 => (if t113 = true then ((laws_eqIntS.f k l0_8 l1_8).bind fun t114 => (if t114 = true then ((laws_eqIntS.f k l0_9 l1_9).bind fun t115 => (if t115 = true then (some true) else (some false))) else (some false))) else (some false))) else (some false)) else (some false)) else (some false)) else (some false)) else (some false)
theorem laws_eqNode.mono : ∀ a0 a1 a2 a3 a4 a5 a6 a7 a8 a9 a10 a11 a12 a13 a14 a15 a16 a17 a18 a19 k, LeO (laws_eqNode.f k a0 a1 a2 a3 a4 a5 a6 a7 a8 a9 a10 a11 a12 a13 a14 a15 a16 a17 a18 a19) (laws_eqNode.f (k + 1) a0 a1 a2 a3 a4 a5 a6 a7 a8 a9 a10 a11 a12 a13 a14 a15 a16 a17 a18 a19) := by
  intro a0 a1 a2 a3 a4 a5 a6 a7 a8 a9 a10 a11 a12 a13 a14 a15 a16 a17 a18 a19 k
  unfold laws_eqNode.f
  repeat' first
      | (with_reducible exact laws_eqIntS.mono _ _ _)
      | (with_reducible exact laws_eqRLog.mono _ _ _ _ _ _ _)
      | (with_reducible exact LeO.refl _)
      | (with_reducible exact LeO.none _)
      | (with_reducible refine LeO.ite ?_ ?_)
      | (with_reducible refine LeO.bind ?_ (fun _ => ?_))
      | exact laws_eqIntS.mono _ _ _
      | exact laws_eqRLog.mono _ _ _ _ _ _ _
      | exact LeO.none _
      | refine LeO.ite ?_ ?_
      | refine LeO.bind ?_ (fun _ => ?_)
set_option maxHeartbeats 8000000 in
set_option maxRecDepth 100000 in
theorem laws_eqNode.calls (k : Nat) (a0_0 : Int) (a0_1 : Int) (a0_2 : Int) (a0_3 : Int) (a0_4 : Int) (a0_5 : Int) (a0_6 : Int) (A0_7 : Option Addr) (c0_7 : Nat) (l0_7 : List (S85)) (A0_8 : Option Addr) (c0_8 : Nat) (l0_8 : List Int) (A0_9 : Option Addr) (c0_9 : Nat) (l0_9 : List Int) (a1_0 : Int) (a1_1 : Int) (a1_2 : Int) (a1_3 : Int) (a1_4 : Int) (a1_5 : Int) (a1_6 : Int) (A1_7 : Option Addr) (c1_7 : Nat) (l1_7 : List (S85)) (A1_8 : Option Addr) (c1_8 : Nat) (l1_8 : List Int) (A1_9 : Option Addr) (c1_9 : Nat) (l1_9 : List Int) (r : Bool) (w : World) (hr0_7 : Kd.C k85 w A0_7 l0_7.length l0_7) (hc0_7 : l0_7.length ≤ c0_7) (hr0_8 : Kd.C (Kd.int .i64) w A0_8 l0_8.length l0_8) (hc0_8 : l0_8.length ≤ c0_8) (hr0_9 : Kd.C (Kd.int .i64) w A0_9 l0_9.length l0_9) (hc0_9 : l0_9.length ≤ c0_9) (hr1_7 : Kd.C k85 w A1_7 l1_7.length l1_7) (hc1_7 : l1_7.length ≤ c1_7) (hr1_8 : Kd.C (Kd.int .i64) w A1_8 l1_8.length l1_8) (hc1_8 : l1_8.length ≤ c1_8) (hr1_9 : Kd.C (Kd.int .i64) w A1_9 l1_9.length l1_9) (hc1_9 : l1_9.length ≤ c1_9) (h : laws_eqNode.f k a0_0 a0_1 a0_2 a0_3 a0_4 a0_5 a0_6 l0_7 l0_8 l0_9 a1_0 a1_1 a1_2 a1_3 a1_4 a1_5 a1_6 l1_7 l1_8 l1_9 = some r) :
    Calls Try.prog 22 #[.agg #[.int .i64 a0_0, .int .i64 a0_1, .int .i64 a0_2, .int .i64 a0_3, .int .i64 a0_4, .int .i64 a0_5, .int .i64 a0_6, .slice A0_7 l0_7.length c0_7, .slice A0_8 l0_8.length c0_8, .slice A0_9 l0_9.length c0_9], .agg #[.int .i64 a1_0, .int .i64 a1_1, .int .i64 a1_2, .int .i64 a1_3, .int .i64 a1_4, .int .i64 a1_5, .int .i64 a1_6, .slice A1_7 l1_7.length c1_7, .slice A1_8 l1_8.length c1_8, .slice A1_9 l1_9.length c1_9]] w fun e w' => e = .returned (.bool r) ∧ Below w.heap.size w w' := by
  have hu37 := Try.underlying37
  have hu34 := Try.underlying34
  have HR0_7 := Aside0.mk hr0_7
  have HC0_7 := Aside0.mk hc0_7
  clear hr0_7 hc0_7
  have HR0_8 := Aside0.mk hr0_8
  have HC0_8 := Aside0.mk hc0_8
  clear hr0_8 hc0_8
  have HR0_9 := Aside0.mk hr0_9
  have HC0_9 := Aside0.mk hc0_9
  clear hr0_9 hc0_9
  have HR1_7 := Aside0.mk hr1_7
  have HC1_7 := Aside0.mk hc1_7
  clear hr1_7 hc1_7
  have HR1_8 := Aside0.mk hr1_8
  have HC1_8 := Aside0.mk hc1_8
  clear hr1_8 hc1_8
  have HR1_9 := Aside0.mk hr1_9
  have HC1_9 := Aside0.mk hc1_9
  clear hr1_9 hc1_9
  have HB := Aside0.mk (Below.refl w.heap.size w)
  have H : (if a0_0 = a1_0 then (if a0_1 = a1_1 then (if a0_2 = a1_2 then (if a0_3 = a1_3 then (if a0_4 = a1_4 then ((laws_eqRLog.f k a0_5 a0_6 l0_7 a1_5 a1_6 l1_7).bind fun t113 => (if t113 = true then ((laws_eqIntS.f k l0_8 l1_8).bind fun t114 => (if t114 = true then ((laws_eqIntS.f k l0_9 l1_9).bind fun t115 => (if t115 = true then (some true) else (some false))) else (some false))) else (some false))) else (some false)) else (some false)) else (some false)) else (some false)) else (some false)) = some r := h
  clear h
  have H9 := Aside0.mk H
  clear H
  go_enter Try.func22, Try.ntmps22
  go_upto_if 9 with (first | ((with_reducible refine gate_dst (N := 2) rfl ?_); refine box_event ?hg (N := 2) ?hd (cs := #[.int .i64 a0_0, .int .i64 a0_1, .int .i64 a0_2, .int .i64 a0_3, .int .i64 a0_4, .int .i64 a0_5, .int .i64 a0_6, .slice A0_7 l0_7.length c0_7, .slice A0_8 l0_8.length c0_8, .slice A0_9 l0_9.length c0_9]) (t := 37) ?hr ?_; (case hd => rfl); (case hg => rfl); (case hr => first | (go_simp; done) | (go_simp; rfl)); intro gb111 hg w3 hbox hb; have n0_ := Aside0.mk (below_step u2_0 hb); have n1_ := Aside0.mk (hbox); have n2_ := Aside0.mk ((by rw [hg]; exact (below_size u2_0) : w.heap.size ≤ gb111)); have n3_ := Aside0.mk ((by rw [hg]; exact (below_size u2_0) : w.heap.size ≤ gb111)); clear HB; have HB := n0_; have BK111 := n1_; have GW111 := n2_; have GE111 := n3_; clear n0_ n1_ n2_ n3_; clear hb hbox hg) | ((with_reducible refine gate_dst (N := 3) rfl ?_); refine box_event ?hg (N := 3) ?hd (cs := #[.int .i64 a1_0, .int .i64 a1_1, .int .i64 a1_2, .int .i64 a1_3, .int .i64 a1_4, .int .i64 a1_5, .int .i64 a1_6, .slice A1_7 l1_7.length c1_7, .slice A1_8 l1_8.length c1_8, .slice A1_9 l1_9.length c1_9]) (t := 37) ?hr ?_; (case hd => rfl); (case hg => rfl); (case hr => first | (go_simp; done) | (go_simp; rfl)); intro gb112 hg w4 hbox hb; have n0_ := Aside0.mk (blk_below (g := gb111) (o := .cells #[.int .i64 a0_0, .int .i64 a0_1, .int .i64 a0_2, .int .i64 a0_3, .int .i64 a0_4, .int .i64 a0_5, .int .i64 a0_6, .slice A0_7 l0_7.length c0_7, .slice A0_8 l0_8.length c0_8, .slice A0_9 l0_9.length c0_9] 37 (0, 0)) u2_4 hb); have n1_ := Aside0.mk (below_step u2_5 hb); have n2_ := Aside0.mk (hbox); have n3_ := Aside0.mk ((by rw [hg]; exact (below_size u2_5) : w.heap.size ≤ gb112)); have n4_ := Aside0.mk ((by rw [hg]; exact (below_size u2_5) : w.heap.size ≤ gb112)); have n5_ := Aside0.mk ((by rw [hg]; exact Nat.ne_of_lt (blk_lt (g := gb111) (o := .cells #[.int .i64 a0_0, .int .i64 a0_1, .int .i64 a0_2, .int .i64 a0_3, .int .i64 a0_4, .int .i64 a0_5, .int .i64 a0_6, .slice A0_7 l0_7.length c0_7, .slice A0_8 l0_8.length c0_8, .slice A0_9 l0_9.length c0_9] 37 (0, 0)) u2_4) : gb111 ≠ gb112)); have n6_ := Aside0.mk ((by rw [hg]; exact Nat.ne_of_gt (blk_lt (g := gb111) (o := .cells #[.int .i64 a0_0, .int .i64 a0_1, .int .i64 a0_2, .int .i64 a0_3, .int .i64 a0_4, .int .i64 a0_5, .int .i64 a0_6, .slice A0_7 l0_7.length c0_7, .slice A0_8 l0_8.length c0_8, .slice A0_9 l0_9.length c0_9] 37 (0, 0)) u2_4) : gb112 ≠ gb111)); clear BK111; clear HB; have BK111 := n0_; have HB := n1_; have BK112 := n2_; have GW112 := n3_; have GE112 := n4_; have NB111_112 := n5_; have NB112_111 := n6_; clear n0_ n1_ n2_ n3_ n4_ n5_ n6_; clear hb hbox hg; have hnb5 := NB111_112.out; have hnc5 := NB112_111.out; have hcz6_0 : w4.cell? ⟨gb111, 0, none⟩ = some (.int .i64 a0_0) := (blk_cell BK111.out 0).trans rfl; have hcz6_1 : w4.cell? ⟨gb111, 1, none⟩ = some (.int .i64 a0_1) := (blk_cell BK111.out 1).trans rfl; have hcz6_2 : w4.cell? ⟨gb111, 2, none⟩ = some (.int .i64 a0_2) := (blk_cell BK111.out 2).trans rfl; have hcz6_3 : w4.cell? ⟨gb111, 3, none⟩ = some (.int .i64 a0_3) := (blk_cell BK111.out 3).trans rfl; have hcz6_4 : w4.cell? ⟨gb111, 4, none⟩ = some (.int .i64 a0_4) := (blk_cell BK111.out 4).trans rfl; have hcz6_5 : w4.cell? ⟨gb111, 5, none⟩ = some (.int .i64 a0_5) := (blk_cell BK111.out 5).trans rfl; have hcz6_6 : w4.cell? ⟨gb111, 6, none⟩ = some (.int .i64 a0_6) := (blk_cell BK111.out 6).trans rfl; have hcz6_7 : w4.cell? ⟨gb111, 7, none⟩ = some (.slice A0_7 l0_7.length c0_7) := (blk_cell BK111.out 7).trans rfl; have hcz6_8 : w4.cell? ⟨gb111, 8, none⟩ = some (.slice A0_8 l0_8.length c0_8) := (blk_cell BK111.out 8).trans rfl; have hcz6_9 : w4.cell? ⟨gb111, 9, none⟩ = some (.slice A0_9 l0_9.length c0_9) := (blk_cell BK111.out 9).trans rfl; have hfz6_0 := blk_frozen BK111.out 0; have hfz6_1 := blk_frozen BK111.out 1; have hfz6_2 := blk_frozen BK111.out 2; have hfz6_3 := blk_frozen BK111.out 3; have hfz6_4 := blk_frozen BK111.out 4; have hfz6_5 := blk_frozen BK111.out 5; have hfz6_6 := blk_frozen BK111.out 6; have hfz6_7 := blk_frozen BK111.out 7; have hfz6_8 := blk_frozen BK111.out 8; have hfz6_9 := blk_frozen BK111.out 9; have hcz7_0 : w4.cell? ⟨gb112, 0, none⟩ = some (.int .i64 a1_0) := (blk_cell BK112.out 0).trans rfl; have hcz7_1 : w4.cell? ⟨gb112, 1, none⟩ = some (.int .i64 a1_1) := (blk_cell BK112.out 1).trans rfl; have hcz7_2 : w4.cell? ⟨gb112, 2, none⟩ = some (.int .i64 a1_2) := (blk_cell BK112.out 2).trans rfl; have hcz7_3 : w4.cell? ⟨gb112, 3, none⟩ = some (.int .i64 a1_3) := (blk_cell BK112.out 3).trans rfl; have hcz7_4 : w4.cell? ⟨gb112, 4, none⟩ = some (.int .i64 a1_4) := (blk_cell BK112.out 4).trans rfl; have hcz7_5 : w4.cell? ⟨gb112, 5, none⟩ = some (.int .i64 a1_5) := (blk_cell BK112.out 5).trans rfl; have hcz7_6 : w4.cell? ⟨gb112, 6, none⟩ = some (.int .i64 a1_6) := (blk_cell BK112.out 6).trans rfl; have hcz7_7 : w4.cell? ⟨gb112, 7, none⟩ = some (.slice A1_7 l1_7.length c1_7) := (blk_cell BK112.out 7).trans rfl; have hcz7_8 : w4.cell? ⟨gb112, 8, none⟩ = some (.slice A1_8 l1_8.length c1_8) := (blk_cell BK112.out 8).trans rfl; have hcz7_9 : w4.cell? ⟨gb112, 9, none⟩ = some (.slice A1_9 l1_9.length c1_9) := (blk_cell BK112.out 9).trans rfl; have hfz7_0 := blk_frozen BK112.out 0; have hfz7_1 := blk_frozen BK112.out 1; have hfz7_2 := blk_frozen BK112.out 2; have hfz7_3 := blk_frozen BK112.out 3; have hfz7_4 := blk_frozen BK112.out 4; have hfz7_5 := blk_frozen BK112.out 5; have hfz7_6 := blk_frozen BK112.out 6; have hfz7_7 := blk_frozen BK112.out 7; have hfz7_8 := blk_frozen BK112.out 8; have hfz7_9 := blk_frozen BK112.out 9))
  have H := H9.out
  clear H9
  by_cases c8 : a0_0 = a1_0
  rotate_left
  · rw [if_neg c8] at H
    have c8b0 : (a0_0 == a1_0) = false := beq_eq_false_iff_ne.mpr c8
    have c8b1 : (a0_0 != a1_0) = true := bne_iff_ne.mpr c8
    (first | rw [c8b0] | (simp only [i64_w, i32_w]; rw [c8b0]) | skip)
    obtain rfl := Option.some.inj H
    go_wp2
    go_ret
    exact ⟨by first | rfl | (simp [errW_none, errW_some] <;> rfl) | (simp [*, errW_none, errW_some] <;> rfl), u2_1⟩
  rw [if_pos c8] at H
  have c8b0 : (a0_0 == a1_0) = true := beq_iff_eq.mpr c8
  have c8b1 : (a0_0 != a1_0) = false := bne_eq_false_iff_eq.mpr c8
  clear c8
  (first | rw [c8b0] | (simp only [i64_w, i32_w]; rw [c8b0]) | skip)
  by_cases c9 : a0_1 = a1_1
  rotate_left
  · rw [if_neg c9] at H
    have c9b0 : (a0_1 == a1_1) = false := beq_eq_false_iff_ne.mpr c9
    have c9b1 : (a0_1 != a1_1) = true := bne_iff_ne.mpr c9
    obtain rfl := Option.some.inj H
    have hnb38 := NB111_112.out
    have hnc38 := NB112_111.out
    have hcz39_0 : w4.cell? ⟨gb111, 0, none⟩ = some (.int .i64 a0_0) := (blk_cell BK111.out 0).trans rfl
    have hcz39_1 : w4.cell? ⟨gb111, 1, none⟩ = some (.int .i64 a0_1) := (blk_cell BK111.out 1).trans rfl
    have hcz39_2 : w4.cell? ⟨gb111, 2, none⟩ = some (.int .i64 a0_2) := (blk_cell BK111.out 2).trans rfl
    have hcz39_3 : w4.cell? ⟨gb111, 3, none⟩ = some (.int .i64 a0_3) := (blk_cell BK111.out 3).trans rfl
    have hcz39_4 : w4.cell? ⟨gb111, 4, none⟩ = some (.int .i64 a0_4) := (blk_cell BK111.out 4).trans rfl
    have hcz39_5 : w4.cell? ⟨gb111, 5, none⟩ = some (.int .i64 a0_5) := (blk_cell BK111.out 5).trans rfl
    have hcz39_6 : w4.cell? ⟨gb111, 6, none⟩ = some (.int .i64 a0_6) := (blk_cell BK111.out 6).trans rfl
    have hcz39_7 : w4.cell? ⟨gb111, 7, none⟩ = some (.slice A0_7 l0_7.length c0_7) := (blk_cell BK111.out 7).trans rfl
    have hcz39_8 : w4.cell? ⟨gb111, 8, none⟩ = some (.slice A0_8 l0_8.length c0_8) := (blk_cell BK111.out 8).trans rfl
    have hcz39_9 : w4.cell? ⟨gb111, 9, none⟩ = some (.slice A0_9 l0_9.length c0_9) := (blk_cell BK111.out 9).trans rfl
    have hfz39_0 := blk_frozen BK111.out 0
    have hfz39_1 := blk_frozen BK111.out 1
    have hfz39_2 := blk_frozen BK111.out 2
    have hfz39_3 := blk_frozen BK111.out 3
    have hfz39_4 := blk_frozen BK111.out 4
    have hfz39_5 := blk_frozen BK111.out 5
    have hfz39_6 := blk_frozen BK111.out 6
    have hfz39_7 := blk_frozen BK111.out 7
    have hfz39_8 := blk_frozen BK111.out 8
    have hfz39_9 := blk_frozen BK111.out 9
    have hcz40_0 : w4.cell? ⟨gb112, 0, none⟩ = some (.int .i64 a1_0) := (blk_cell BK112.out 0).trans rfl
    have hcz40_1 : w4.cell? ⟨gb112, 1, none⟩ = some (.int .i64 a1_1) := (blk_cell BK112.out 1).trans rfl
    have hcz40_2 : w4.cell? ⟨gb112, 2, none⟩ = some (.int .i64 a1_2) := (blk_cell BK112.out 2).trans rfl
    have hcz40_3 : w4.cell? ⟨gb112, 3, none⟩ = some (.int .i64 a1_3) := (blk_cell BK112.out 3).trans rfl
    have hcz40_4 : w4.cell? ⟨gb112, 4, none⟩ = some (.int .i64 a1_4) := (blk_cell BK112.out 4).trans rfl
    have hcz40_5 : w4.cell? ⟨gb112, 5, none⟩ = some (.int .i64 a1_5) := (blk_cell BK112.out 5).trans rfl
    have hcz40_6 : w4.cell? ⟨gb112, 6, none⟩ = some (.int .i64 a1_6) := (blk_cell BK112.out 6).trans rfl
    have hcz40_7 : w4.cell? ⟨gb112, 7, none⟩ = some (.slice A1_7 l1_7.length c1_7) := (blk_cell BK112.out 7).trans rfl
    have hcz40_8 : w4.cell? ⟨gb112, 8, none⟩ = some (.slice A1_8 l1_8.length c1_8) := (blk_cell BK112.out 8).trans rfl
    have hcz40_9 : w4.cell? ⟨gb112, 9, none⟩ = some (.slice A1_9 l1_9.length c1_9) := (blk_cell BK112.out 9).trans rfl
    have hfz40_0 := blk_frozen BK112.out 0
    have hfz40_1 := blk_frozen BK112.out 1
    have hfz40_2 := blk_frozen BK112.out 2
    have hfz40_3 := blk_frozen BK112.out 3
    have hfz40_4 := blk_frozen BK112.out 4
    have hfz40_5 := blk_frozen BK112.out 5
    have hfz40_6 := blk_frozen BK112.out 6
    have hfz40_7 := blk_frozen BK112.out 7
    have hfz40_8 := blk_frozen BK112.out 8
    have hfz40_9 := blk_frozen BK112.out 9
    go_wp2
    go_ret
    exact ⟨by first | rfl | (simp [errW_none, errW_some] <;> rfl) | (simp [*, errW_none, errW_some] <;> rfl), u2_1⟩
  rw [if_pos c9] at H
  have c9b0 : (a0_1 == a1_1) = true := beq_iff_eq.mpr c9
  have c9b1 : (a0_1 != a1_1) = false := bne_eq_false_iff_eq.mpr c9
  clear c9
  by_cases c10 : a0_2 = a1_2
  rotate_left
  · rw [if_neg c10] at H
    have c10b0 : (a0_2 == a1_2) = false := beq_eq_false_iff_ne.mpr c10
    have c10b1 : (a0_2 != a1_2) = true := bne_iff_ne.mpr c10
    obtain rfl := Option.some.inj H
    have hnb35 := NB111_112.out
    have hnc35 := NB112_111.out
    have hcz36_0 : w4.cell? ⟨gb111, 0, none⟩ = some (.int .i64 a0_0) := (blk_cell BK111.out 0).trans rfl
    have hcz36_1 : w4.cell? ⟨gb111, 1, none⟩ = some (.int .i64 a0_1) := (blk_cell BK111.out 1).trans rfl
    have hcz36_2 : w4.cell? ⟨gb111, 2, none⟩ = some (.int .i64 a0_2) := (blk_cell BK111.out 2).trans rfl
    have hcz36_3 : w4.cell? ⟨gb111, 3, none⟩ = some (.int .i64 a0_3) := (blk_cell BK111.out 3).trans rfl
    have hcz36_4 : w4.cell? ⟨gb111, 4, none⟩ = some (.int .i64 a0_4) := (blk_cell BK111.out 4).trans rfl
    have hcz36_5 : w4.cell? ⟨gb111, 5, none⟩ = some (.int .i64 a0_5) := (blk_cell BK111.out 5).trans rfl
    have hcz36_6 : w4.cell? ⟨gb111, 6, none⟩ = some (.int .i64 a0_6) := (blk_cell BK111.out 6).trans rfl
    have hcz36_7 : w4.cell? ⟨gb111, 7, none⟩ = some (.slice A0_7 l0_7.length c0_7) := (blk_cell BK111.out 7).trans rfl
    have hcz36_8 : w4.cell? ⟨gb111, 8, none⟩ = some (.slice A0_8 l0_8.length c0_8) := (blk_cell BK111.out 8).trans rfl
    have hcz36_9 : w4.cell? ⟨gb111, 9, none⟩ = some (.slice A0_9 l0_9.length c0_9) := (blk_cell BK111.out 9).trans rfl
    have hfz36_0 := blk_frozen BK111.out 0
    have hfz36_1 := blk_frozen BK111.out 1
    have hfz36_2 := blk_frozen BK111.out 2
    have hfz36_3 := blk_frozen BK111.out 3
    have hfz36_4 := blk_frozen BK111.out 4
    have hfz36_5 := blk_frozen BK111.out 5
    have hfz36_6 := blk_frozen BK111.out 6
    have hfz36_7 := blk_frozen BK111.out 7
    have hfz36_8 := blk_frozen BK111.out 8
    have hfz36_9 := blk_frozen BK111.out 9
    have hcz37_0 : w4.cell? ⟨gb112, 0, none⟩ = some (.int .i64 a1_0) := (blk_cell BK112.out 0).trans rfl
    have hcz37_1 : w4.cell? ⟨gb112, 1, none⟩ = some (.int .i64 a1_1) := (blk_cell BK112.out 1).trans rfl
    have hcz37_2 : w4.cell? ⟨gb112, 2, none⟩ = some (.int .i64 a1_2) := (blk_cell BK112.out 2).trans rfl
    have hcz37_3 : w4.cell? ⟨gb112, 3, none⟩ = some (.int .i64 a1_3) := (blk_cell BK112.out 3).trans rfl
    have hcz37_4 : w4.cell? ⟨gb112, 4, none⟩ = some (.int .i64 a1_4) := (blk_cell BK112.out 4).trans rfl
    have hcz37_5 : w4.cell? ⟨gb112, 5, none⟩ = some (.int .i64 a1_5) := (blk_cell BK112.out 5).trans rfl
    have hcz37_6 : w4.cell? ⟨gb112, 6, none⟩ = some (.int .i64 a1_6) := (blk_cell BK112.out 6).trans rfl
    have hcz37_7 : w4.cell? ⟨gb112, 7, none⟩ = some (.slice A1_7 l1_7.length c1_7) := (blk_cell BK112.out 7).trans rfl
    have hcz37_8 : w4.cell? ⟨gb112, 8, none⟩ = some (.slice A1_8 l1_8.length c1_8) := (blk_cell BK112.out 8).trans rfl
    have hcz37_9 : w4.cell? ⟨gb112, 9, none⟩ = some (.slice A1_9 l1_9.length c1_9) := (blk_cell BK112.out 9).trans rfl
    have hfz37_0 := blk_frozen BK112.out 0
    have hfz37_1 := blk_frozen BK112.out 1
    have hfz37_2 := blk_frozen BK112.out 2
    have hfz37_3 := blk_frozen BK112.out 3
    have hfz37_4 := blk_frozen BK112.out 4
    have hfz37_5 := blk_frozen BK112.out 5
    have hfz37_6 := blk_frozen BK112.out 6
    have hfz37_7 := blk_frozen BK112.out 7
    have hfz37_8 := blk_frozen BK112.out 8
    have hfz37_9 := blk_frozen BK112.out 9
    go_wp2
    go_ret
    exact ⟨by first | rfl | (simp [errW_none, errW_some] <;> rfl) | (simp [*, errW_none, errW_some] <;> rfl), u2_1⟩
  rw [if_pos c10] at H
  have c10b0 : (a0_2 == a1_2) = true := beq_iff_eq.mpr c10
  have c10b1 : (a0_2 != a1_2) = false := bne_eq_false_iff_eq.mpr c10
  clear c10
  by_cases c11 : a0_3 = a1_3
  rotate_left
  · rw [if_neg c11] at H
    have c11b0 : (a0_3 == a1_3) = false := beq_eq_false_iff_ne.mpr c11
    have c11b1 : (a0_3 != a1_3) = true := bne_iff_ne.mpr c11
    obtain rfl := Option.some.inj H
    have hnb32 := NB111_112.out
    have hnc32 := NB112_111.out
    have hcz33_0 : w4.cell? ⟨gb111, 0, none⟩ = some (.int .i64 a0_0) := (blk_cell BK111.out 0).trans rfl
    have hcz33_1 : w4.cell? ⟨gb111, 1, none⟩ = some (.int .i64 a0_1) := (blk_cell BK111.out 1).trans rfl
    have hcz33_2 : w4.cell? ⟨gb111, 2, none⟩ = some (.int .i64 a0_2) := (blk_cell BK111.out 2).trans rfl
    have hcz33_3 : w4.cell? ⟨gb111, 3, none⟩ = some (.int .i64 a0_3) := (blk_cell BK111.out 3).trans rfl
    have hcz33_4 : w4.cell? ⟨gb111, 4, none⟩ = some (.int .i64 a0_4) := (blk_cell BK111.out 4).trans rfl
    have hcz33_5 : w4.cell? ⟨gb111, 5, none⟩ = some (.int .i64 a0_5) := (blk_cell BK111.out 5).trans rfl
    have hcz33_6 : w4.cell? ⟨gb111, 6, none⟩ = some (.int .i64 a0_6) := (blk_cell BK111.out 6).trans rfl
    have hcz33_7 : w4.cell? ⟨gb111, 7, none⟩ = some (.slice A0_7 l0_7.length c0_7) := (blk_cell BK111.out 7).trans rfl
    have hcz33_8 : w4.cell? ⟨gb111, 8, none⟩ = some (.slice A0_8 l0_8.length c0_8) := (blk_cell BK111.out 8).trans rfl
    have hcz33_9 : w4.cell? ⟨gb111, 9, none⟩ = some (.slice A0_9 l0_9.length c0_9) := (blk_cell BK111.out 9).trans rfl
    have hfz33_0 := blk_frozen BK111.out 0
    have hfz33_1 := blk_frozen BK111.out 1
    have hfz33_2 := blk_frozen BK111.out 2
    have hfz33_3 := blk_frozen BK111.out 3
    have hfz33_4 := blk_frozen BK111.out 4
    have hfz33_5 := blk_frozen BK111.out 5
    have hfz33_6 := blk_frozen BK111.out 6
    have hfz33_7 := blk_frozen BK111.out 7
    have hfz33_8 := blk_frozen BK111.out 8
    have hfz33_9 := blk_frozen BK111.out 9
    have hcz34_0 : w4.cell? ⟨gb112, 0, none⟩ = some (.int .i64 a1_0) := (blk_cell BK112.out 0).trans rfl
    have hcz34_1 : w4.cell? ⟨gb112, 1, none⟩ = some (.int .i64 a1_1) := (blk_cell BK112.out 1).trans rfl
    have hcz34_2 : w4.cell? ⟨gb112, 2, none⟩ = some (.int .i64 a1_2) := (blk_cell BK112.out 2).trans rfl
    have hcz34_3 : w4.cell? ⟨gb112, 3, none⟩ = some (.int .i64 a1_3) := (blk_cell BK112.out 3).trans rfl
    have hcz34_4 : w4.cell? ⟨gb112, 4, none⟩ = some (.int .i64 a1_4) := (blk_cell BK112.out 4).trans rfl
    have hcz34_5 : w4.cell? ⟨gb112, 5, none⟩ = some (.int .i64 a1_5) := (blk_cell BK112.out 5).trans rfl
    have hcz34_6 : w4.cell? ⟨gb112, 6, none⟩ = some (.int .i64 a1_6) := (blk_cell BK112.out 6).trans rfl
    have hcz34_7 : w4.cell? ⟨gb112, 7, none⟩ = some (.slice A1_7 l1_7.length c1_7) := (blk_cell BK112.out 7).trans rfl
    have hcz34_8 : w4.cell? ⟨gb112, 8, none⟩ = some (.slice A1_8 l1_8.length c1_8) := (blk_cell BK112.out 8).trans rfl
    have hcz34_9 : w4.cell? ⟨gb112, 9, none⟩ = some (.slice A1_9 l1_9.length c1_9) := (blk_cell BK112.out 9).trans rfl
    have hfz34_0 := blk_frozen BK112.out 0
    have hfz34_1 := blk_frozen BK112.out 1
    have hfz34_2 := blk_frozen BK112.out 2
    have hfz34_3 := blk_frozen BK112.out 3
    have hfz34_4 := blk_frozen BK112.out 4
    have hfz34_5 := blk_frozen BK112.out 5
    have hfz34_6 := blk_frozen BK112.out 6
    have hfz34_7 := blk_frozen BK112.out 7
    have hfz34_8 := blk_frozen BK112.out 8
    have hfz34_9 := blk_frozen BK112.out 9
    go_wp2
    go_ret
    exact ⟨by first | rfl | (simp [errW_none, errW_some] <;> rfl) | (simp [*, errW_none, errW_some] <;> rfl), u2_1⟩
  rw [if_pos c11] at H
  have c11b0 : (a0_3 == a1_3) = true := beq_iff_eq.mpr c11
  have c11b1 : (a0_3 != a1_3) = false := bne_eq_false_iff_eq.mpr c11
  clear c11
  by_cases c12 : a0_4 = a1_4
  rotate_left
  · rw [if_neg c12] at H
    have c12b0 : (a0_4 == a1_4) = false := beq_eq_false_iff_ne.mpr c12
    have c12b1 : (a0_4 != a1_4) = true := bne_iff_ne.mpr c12
    obtain rfl := Option.some.inj H
    have hnb29 := NB111_112.out
    have hnc29 := NB112_111.out
    have hcz30_0 : w4.cell? ⟨gb111, 0, none⟩ = some (.int .i64 a0_0) := (blk_cell BK111.out 0).trans rfl
    have hcz30_1 : w4.cell? ⟨gb111, 1, none⟩ = some (.int .i64 a0_1) := (blk_cell BK111.out 1).trans rfl
    have hcz30_2 : w4.cell? ⟨gb111, 2, none⟩ = some (.int .i64 a0_2) := (blk_cell BK111.out 2).trans rfl
    have hcz30_3 : w4.cell? ⟨gb111, 3, none⟩ = some (.int .i64 a0_3) := (blk_cell BK111.out 3).trans rfl
    have hcz30_4 : w4.cell? ⟨gb111, 4, none⟩ = some (.int .i64 a0_4) := (blk_cell BK111.out 4).trans rfl
    have hcz30_5 : w4.cell? ⟨gb111, 5, none⟩ = some (.int .i64 a0_5) := (blk_cell BK111.out 5).trans rfl
    have hcz30_6 : w4.cell? ⟨gb111, 6, none⟩ = some (.int .i64 a0_6) := (blk_cell BK111.out 6).trans rfl
    have hcz30_7 : w4.cell? ⟨gb111, 7, none⟩ = some (.slice A0_7 l0_7.length c0_7) := (blk_cell BK111.out 7).trans rfl
    have hcz30_8 : w4.cell? ⟨gb111, 8, none⟩ = some (.slice A0_8 l0_8.length c0_8) := (blk_cell BK111.out 8).trans rfl
    have hcz30_9 : w4.cell? ⟨gb111, 9, none⟩ = some (.slice A0_9 l0_9.length c0_9) := (blk_cell BK111.out 9).trans rfl
    have hfz30_0 := blk_frozen BK111.out 0
    have hfz30_1 := blk_frozen BK111.out 1
    have hfz30_2 := blk_frozen BK111.out 2
    have hfz30_3 := blk_frozen BK111.out 3
    have hfz30_4 := blk_frozen BK111.out 4
    have hfz30_5 := blk_frozen BK111.out 5
    have hfz30_6 := blk_frozen BK111.out 6
    have hfz30_7 := blk_frozen BK111.out 7
    have hfz30_8 := blk_frozen BK111.out 8
    have hfz30_9 := blk_frozen BK111.out 9
    have hcz31_0 : w4.cell? ⟨gb112, 0, none⟩ = some (.int .i64 a1_0) := (blk_cell BK112.out 0).trans rfl
    have hcz31_1 : w4.cell? ⟨gb112, 1, none⟩ = some (.int .i64 a1_1) := (blk_cell BK112.out 1).trans rfl
    have hcz31_2 : w4.cell? ⟨gb112, 2, none⟩ = some (.int .i64 a1_2) := (blk_cell BK112.out 2).trans rfl
    have hcz31_3 : w4.cell? ⟨gb112, 3, none⟩ = some (.int .i64 a1_3) := (blk_cell BK112.out 3).trans rfl
    have hcz31_4 : w4.cell? ⟨gb112, 4, none⟩ = some (.int .i64 a1_4) := (blk_cell BK112.out 4).trans rfl
    have hcz31_5 : w4.cell? ⟨gb112, 5, none⟩ = some (.int .i64 a1_5) := (blk_cell BK112.out 5).trans rfl
    have hcz31_6 : w4.cell? ⟨gb112, 6, none⟩ = some (.int .i64 a1_6) := (blk_cell BK112.out 6).trans rfl
    have hcz31_7 : w4.cell? ⟨gb112, 7, none⟩ = some (.slice A1_7 l1_7.length c1_7) := (blk_cell BK112.out 7).trans rfl
    have hcz31_8 : w4.cell? ⟨gb112, 8, none⟩ = some (.slice A1_8 l1_8.length c1_8) := (blk_cell BK112.out 8).trans rfl
    have hcz31_9 : w4.cell? ⟨gb112, 9, none⟩ = some (.slice A1_9 l1_9.length c1_9) := (blk_cell BK112.out 9).trans rfl
    have hfz31_0 := blk_frozen BK112.out 0
    have hfz31_1 := blk_frozen BK112.out 1
    have hfz31_2 := blk_frozen BK112.out 2
    have hfz31_3 := blk_frozen BK112.out 3
    have hfz31_4 := blk_frozen BK112.out 4
    have hfz31_5 := blk_frozen BK112.out 5
    have hfz31_6 := blk_frozen BK112.out 6
    have hfz31_7 := blk_frozen BK112.out 7
    have hfz31_8 := blk_frozen BK112.out 8
    have hfz31_9 := blk_frozen BK112.out 9
    go_wp2
    go_ret
    exact ⟨by first | rfl | (simp [errW_none, errW_some] <;> rfl) | (simp [*, errW_none, errW_some] <;> rfl), u2_1⟩
  rw [if_pos c12] at H
  have c12b0 : (a0_4 == a1_4) = true := beq_iff_eq.mpr c12
  have c12b1 : (a0_4 != a1_4) = false := bne_eq_false_iff_eq.mpr c12
  clear c12
  replace H := Option.bind_eq_some_iff.mp H
  obtain ⟨t113, A130, H⟩ := H
  have A13 := Aside0.mk A130
  clear A130
  have H9 := Aside0.mk H
  clear H
  have hnb14 := NB111_112.out
  have hnc14 := NB112_111.out
  have hcz15_0 : w4.cell? ⟨gb111, 0, none⟩ = some (.int .i64 a0_0) := (blk_cell BK111.out 0).trans rfl
  have hcz15_1 : w4.cell? ⟨gb111, 1, none⟩ = some (.int .i64 a0_1) := (blk_cell BK111.out 1).trans rfl
  have hcz15_2 : w4.cell? ⟨gb111, 2, none⟩ = some (.int .i64 a0_2) := (blk_cell BK111.out 2).trans rfl
  have hcz15_3 : w4.cell? ⟨gb111, 3, none⟩ = some (.int .i64 a0_3) := (blk_cell BK111.out 3).trans rfl
  have hcz15_4 : w4.cell? ⟨gb111, 4, none⟩ = some (.int .i64 a0_4) := (blk_cell BK111.out 4).trans rfl
  have hcz15_5 : w4.cell? ⟨gb111, 5, none⟩ = some (.int .i64 a0_5) := (blk_cell BK111.out 5).trans rfl
  have hcz15_6 : w4.cell? ⟨gb111, 6, none⟩ = some (.int .i64 a0_6) := (blk_cell BK111.out 6).trans rfl
  have hcz15_7 : w4.cell? ⟨gb111, 7, none⟩ = some (.slice A0_7 l0_7.length c0_7) := (blk_cell BK111.out 7).trans rfl
  have hcz15_8 : w4.cell? ⟨gb111, 8, none⟩ = some (.slice A0_8 l0_8.length c0_8) := (blk_cell BK111.out 8).trans rfl
  have hcz15_9 : w4.cell? ⟨gb111, 9, none⟩ = some (.slice A0_9 l0_9.length c0_9) := (blk_cell BK111.out 9).trans rfl
  have hfz15_0 := blk_frozen BK111.out 0
  have hfz15_1 := blk_frozen BK111.out 1
  have hfz15_2 := blk_frozen BK111.out 2
  have hfz15_3 := blk_frozen BK111.out 3
  have hfz15_4 := blk_frozen BK111.out 4
  have hfz15_5 := blk_frozen BK111.out 5
  have hfz15_6 := blk_frozen BK111.out 6
  have hfz15_7 := blk_frozen BK111.out 7
  have hfz15_8 := blk_frozen BK111.out 8
  have hfz15_9 := blk_frozen BK111.out 9
  have hcz16_0 : w4.cell? ⟨gb112, 0, none⟩ = some (.int .i64 a1_0) := (blk_cell BK112.out 0).trans rfl
  have hcz16_1 : w4.cell? ⟨gb112, 1, none⟩ = some (.int .i64 a1_1) := (blk_cell BK112.out 1).trans rfl
  have hcz16_2 : w4.cell? ⟨gb112, 2, none⟩ = some (.int .i64 a1_2) := (blk_cell BK112.out 2).trans rfl
  have hcz16_3 : w4.cell? ⟨gb112, 3, none⟩ = some (.int .i64 a1_3) := (blk_cell BK112.out 3).trans rfl
  have hcz16_4 : w4.cell? ⟨gb112, 4, none⟩ = some (.int .i64 a1_4) := (blk_cell BK112.out 4).trans rfl
  have hcz16_5 : w4.cell? ⟨gb112, 5, none⟩ = some (.int .i64 a1_5) := (blk_cell BK112.out 5).trans rfl
  have hcz16_6 : w4.cell? ⟨gb112, 6, none⟩ = some (.int .i64 a1_6) := (blk_cell BK112.out 6).trans rfl
  have hcz16_7 : w4.cell? ⟨gb112, 7, none⟩ = some (.slice A1_7 l1_7.length c1_7) := (blk_cell BK112.out 7).trans rfl
  have hcz16_8 : w4.cell? ⟨gb112, 8, none⟩ = some (.slice A1_8 l1_8.length c1_8) := (blk_cell BK112.out 8).trans rfl
  have hcz16_9 : w4.cell? ⟨gb112, 9, none⟩ = some (.slice A1_9 l1_9.length c1_9) := (blk_cell BK112.out 9).trans rfl
  have hfz16_0 := blk_frozen BK112.out 0
  have hfz16_1 := blk_frozen BK112.out 1
  have hfz16_2 := blk_frozen BK112.out 2
  have hfz16_3 := blk_frozen BK112.out 3
  have hfz16_4 := blk_frozen BK112.out 4
  have hfz16_5 := blk_frozen BK112.out 5
  have hfz16_6 := blk_frozen BK112.out 6
  have hfz16_7 := blk_frozen BK112.out 7
  have hfz16_8 := blk_frozen BK112.out 8
  have hfz16_9 := blk_frozen BK112.out 9
  go_upto_if 35 with (first | ((with_reducible refine gate_callee (f := 67) rfl ?_); refine goesL_ (some 34) rfl rfl Try.func67 (by kernel_rfl) rfl #[.agg #[.int .i64 a0_5, .int .i64 a0_6, .slice A0_7 l0_7.length c0_7], .agg #[.int .i64 a1_5, .int .i64 a1_6, .slice A1_7 l1_7.length c1_7]] rfl u2_2 ?_; (with_reducible refine (laws_eqRLog.calls k a0_5 a0_6 _ _ l0_7 a1_5 a1_6 _ _ l1_7 t113 _ ?side1 ?side2 ?side3 ?side4 A13.out).mono ?_); (case side1 => exact u2_7); (case side2 => exact HC0_7.out); (case side3 => exact (by repeat (first | exact (Kd.C_below HR1_7.out HB.out) | (with_reducible refine Kd.C_alloc ?_ _) | (with_reducible refine Kd.C_drewN ?_ _) | (with_reducible refine Kd.C_drew ?_)))); (case side4 => exact HC1_7.out); rintro e w17 ⟨rfl, hb⟩; refine ⟨_, rfl, ?_⟩; have n0_ := Aside0.mk (blk_below (g := gb111) (o := .cells #[.int .i64 a0_0, .int .i64 a0_1, .int .i64 a0_2, .int .i64 a0_3, .int .i64 a0_4, .int .i64 a0_5, .int .i64 a0_6, .slice A0_7 l0_7.length c0_7, .slice A0_8 l0_8.length c0_8, .slice A0_9 l0_9.length c0_9] 37 (0, 0)) u2_4 hb); have n1_ := Aside0.mk (blk_below (g := gb112) (o := .cells #[.int .i64 a1_0, .int .i64 a1_1, .int .i64 a1_2, .int .i64 a1_3, .int .i64 a1_4, .int .i64 a1_5, .int .i64 a1_6, .slice A1_7 l1_7.length c1_7, .slice A1_8 l1_8.length c1_8, .slice A1_9 l1_9.length c1_9] 37 (0, 0)) (by (with_reducible repeat (first | refine blk_drewN ?_ _ | refine blk_drew ?_ | refine blk_alloc ?_ _)); exact BK112.out) hb); have n2_ := Aside0.mk (below_step u2_1 hb); clear BK111; clear BK112; clear HB; have BK111 := n0_; have BK112 := n1_; have HB := n2_; clear n0_ n1_ n2_; (try clear hb); (try clear hb2); (try clear hk); (try clear hi)))
  have H := H9.out
  clear H9
  by_cases c18 : t113 = true
  rotate_left
  · replace c18 := Bool.eq_false_iff.mpr c18
    subst c18
    rw [if_neg (show ¬ (false = true) by decide)] at H
    obtain rfl := Option.some.inj H
    go_wp2
    go_ret
    exact ⟨by first | rfl | (simp [errW_none, errW_some] <;> rfl) | (simp [*, errW_none, errW_some] <;> rfl), u2_1⟩
  subst c18
  rw [if_pos rfl] at H
  replace H := Option.bind_eq_some_iff.mp H
  obtain ⟨t114, A190, H⟩ := H
  have A19 := Aside0.mk A190
  clear A190
  have H9 := Aside0.mk H
  clear H
  have hnb20 := NB111_112.out
  have hnc20 := NB112_111.out
  have hcz21_0 : w17.cell? ⟨gb111, 0, none⟩ = some (.int .i64 a0_0) := (blk_cell BK111.out 0).trans rfl
  have hcz21_1 : w17.cell? ⟨gb111, 1, none⟩ = some (.int .i64 a0_1) := (blk_cell BK111.out 1).trans rfl
  have hcz21_2 : w17.cell? ⟨gb111, 2, none⟩ = some (.int .i64 a0_2) := (blk_cell BK111.out 2).trans rfl
  have hcz21_3 : w17.cell? ⟨gb111, 3, none⟩ = some (.int .i64 a0_3) := (blk_cell BK111.out 3).trans rfl
  have hcz21_4 : w17.cell? ⟨gb111, 4, none⟩ = some (.int .i64 a0_4) := (blk_cell BK111.out 4).trans rfl
  have hcz21_5 : w17.cell? ⟨gb111, 5, none⟩ = some (.int .i64 a0_5) := (blk_cell BK111.out 5).trans rfl
  have hcz21_6 : w17.cell? ⟨gb111, 6, none⟩ = some (.int .i64 a0_6) := (blk_cell BK111.out 6).trans rfl
  have hcz21_7 : w17.cell? ⟨gb111, 7, none⟩ = some (.slice A0_7 l0_7.length c0_7) := (blk_cell BK111.out 7).trans rfl
  have hcz21_8 : w17.cell? ⟨gb111, 8, none⟩ = some (.slice A0_8 l0_8.length c0_8) := (blk_cell BK111.out 8).trans rfl
  have hcz21_9 : w17.cell? ⟨gb111, 9, none⟩ = some (.slice A0_9 l0_9.length c0_9) := (blk_cell BK111.out 9).trans rfl
  have hfz21_0 := blk_frozen BK111.out 0
  have hfz21_1 := blk_frozen BK111.out 1
  have hfz21_2 := blk_frozen BK111.out 2
  have hfz21_3 := blk_frozen BK111.out 3
  have hfz21_4 := blk_frozen BK111.out 4
  have hfz21_5 := blk_frozen BK111.out 5
  have hfz21_6 := blk_frozen BK111.out 6
  have hfz21_7 := blk_frozen BK111.out 7
  have hfz21_8 := blk_frozen BK111.out 8
  have hfz21_9 := blk_frozen BK111.out 9
  have hcz22_0 : w17.cell? ⟨gb112, 0, none⟩ = some (.int .i64 a1_0) := (blk_cell BK112.out 0).trans rfl
  have hcz22_1 : w17.cell? ⟨gb112, 1, none⟩ = some (.int .i64 a1_1) := (blk_cell BK112.out 1).trans rfl
  have hcz22_2 : w17.cell? ⟨gb112, 2, none⟩ = some (.int .i64 a1_2) := (blk_cell BK112.out 2).trans rfl
  have hcz22_3 : w17.cell? ⟨gb112, 3, none⟩ = some (.int .i64 a1_3) := (blk_cell BK112.out 3).trans rfl
  have hcz22_4 : w17.cell? ⟨gb112, 4, none⟩ = some (.int .i64 a1_4) := (blk_cell BK112.out 4).trans rfl
  have hcz22_5 : w17.cell? ⟨gb112, 5, none⟩ = some (.int .i64 a1_5) := (blk_cell BK112.out 5).trans rfl
  have hcz22_6 : w17.cell? ⟨gb112, 6, none⟩ = some (.int .i64 a1_6) := (blk_cell BK112.out 6).trans rfl
  have hcz22_7 : w17.cell? ⟨gb112, 7, none⟩ = some (.slice A1_7 l1_7.length c1_7) := (blk_cell BK112.out 7).trans rfl
  have hcz22_8 : w17.cell? ⟨gb112, 8, none⟩ = some (.slice A1_8 l1_8.length c1_8) := (blk_cell BK112.out 8).trans rfl
  have hcz22_9 : w17.cell? ⟨gb112, 9, none⟩ = some (.slice A1_9 l1_9.length c1_9) := (blk_cell BK112.out 9).trans rfl
  have hfz22_0 := blk_frozen BK112.out 0
  have hfz22_1 := blk_frozen BK112.out 1
  have hfz22_2 := blk_frozen BK112.out 2
  have hfz22_3 := blk_frozen BK112.out 3
  have hfz22_4 := blk_frozen BK112.out 4
  have hfz22_5 := blk_frozen BK112.out 5
  have hfz22_6 := blk_frozen BK112.out 6
  have hfz22_7 := blk_frozen BK112.out 7
  have hfz22_8 := blk_frozen BK112.out 8
  have hfz22_9 := blk_frozen BK112.out 9
  go_upto_if 41 with (first | ((with_reducible refine gate_callee (f := 53) rfl ?_); refine goesL_ (some 40) rfl rfl Try.func53 (by kernel_rfl) rfl #[.slice A0_8 l0_8.length c0_8, .slice A1_8 l1_8.length c1_8] rfl u2_2 ?_; (with_reducible refine (laws_eqIntS.calls k _ _ l0_8 _ _ l1_8 t114 _ ?side1 ?side2 ?side3 ?side4 A19.out).mono ?_); (case side1 => exact u2_8); (case side2 => exact HC0_8.out); (case side3 => exact (by repeat (first | exact (Kd.C_below HR1_8.out HB.out) | (with_reducible refine Kd.C_alloc ?_ _) | (with_reducible refine Kd.C_drewN ?_ _) | (with_reducible refine Kd.C_drew ?_)))); (case side4 => exact HC1_8.out); rintro e w' ⟨rfl, ⟨nd, rfl⟩⟩; refine ⟨_, rfl, ?_⟩))
  have H := H9.out
  clear H9
  by_cases c23 : t114 = true
  rotate_left
  · replace c23 := Bool.eq_false_iff.mpr c23
    subst c23
    rw [if_neg (show ¬ (false = true) by decide)] at H
    obtain rfl := Option.some.inj H
    go_wp2
    go_ret
    exact ⟨by first | rfl | (simp [errW_none, errW_some] <;> rfl) | (simp [*, errW_none, errW_some] <;> rfl), u2_1⟩
  subst c23
  rw [if_pos rfl] at H
  replace H := Option.bind_eq_some_iff.mp H
  obtain ⟨t115, A240, H⟩ := H
  replace H : (if t115 = true then (some true) else (some false)) = some r := H
  have A24 := Aside0.mk A240
  clear A240
  have H9 := Aside0.mk H
  clear H
  have hnb25 := NB111_112.out
  have hnc25 := NB112_111.out
  have hcz26_0 : w17.cell? ⟨gb111, 0, none⟩ = some (.int .i64 a0_0) := (blk_cell BK111.out 0).trans rfl
  have hcz26_1 : w17.cell? ⟨gb111, 1, none⟩ = some (.int .i64 a0_1) := (blk_cell BK111.out 1).trans rfl
  have hcz26_2 : w17.cell? ⟨gb111, 2, none⟩ = some (.int .i64 a0_2) := (blk_cell BK111.out 2).trans rfl
  have hcz26_3 : w17.cell? ⟨gb111, 3, none⟩ = some (.int .i64 a0_3) := (blk_cell BK111.out 3).trans rfl
  have hcz26_4 : w17.cell? ⟨gb111, 4, none⟩ = some (.int .i64 a0_4) := (blk_cell BK111.out 4).trans rfl
  have hcz26_5 : w17.cell? ⟨gb111, 5, none⟩ = some (.int .i64 a0_5) := (blk_cell BK111.out 5).trans rfl
  have hcz26_6 : w17.cell? ⟨gb111, 6, none⟩ = some (.int .i64 a0_6) := (blk_cell BK111.out 6).trans rfl
  have hcz26_7 : w17.cell? ⟨gb111, 7, none⟩ = some (.slice A0_7 l0_7.length c0_7) := (blk_cell BK111.out 7).trans rfl
  have hcz26_8 : w17.cell? ⟨gb111, 8, none⟩ = some (.slice A0_8 l0_8.length c0_8) := (blk_cell BK111.out 8).trans rfl
  have hcz26_9 : w17.cell? ⟨gb111, 9, none⟩ = some (.slice A0_9 l0_9.length c0_9) := (blk_cell BK111.out 9).trans rfl
  have hfz26_0 := blk_frozen BK111.out 0
  have hfz26_1 := blk_frozen BK111.out 1
  have hfz26_2 := blk_frozen BK111.out 2
  have hfz26_3 := blk_frozen BK111.out 3
  have hfz26_4 := blk_frozen BK111.out 4
  have hfz26_5 := blk_frozen BK111.out 5
  have hfz26_6 := blk_frozen BK111.out 6
  have hfz26_7 := blk_frozen BK111.out 7
  have hfz26_8 := blk_frozen BK111.out 8
  have hfz26_9 := blk_frozen BK111.out 9
  have hcz27_0 : w17.cell? ⟨gb112, 0, none⟩ = some (.int .i64 a1_0) := (blk_cell BK112.out 0).trans rfl
  have hcz27_1 : w17.cell? ⟨gb112, 1, none⟩ = some (.int .i64 a1_1) := (blk_cell BK112.out 1).trans rfl
  have hcz27_2 : w17.cell? ⟨gb112, 2, none⟩ = some (.int .i64 a1_2) := (blk_cell BK112.out 2).trans rfl
  have hcz27_3 : w17.cell? ⟨gb112, 3, none⟩ = some (.int .i64 a1_3) := (blk_cell BK112.out 3).trans rfl
  have hcz27_4 : w17.cell? ⟨gb112, 4, none⟩ = some (.int .i64 a1_4) := (blk_cell BK112.out 4).trans rfl
  have hcz27_5 : w17.cell? ⟨gb112, 5, none⟩ = some (.int .i64 a1_5) := (blk_cell BK112.out 5).trans rfl
  have hcz27_6 : w17.cell? ⟨gb112, 6, none⟩ = some (.int .i64 a1_6) := (blk_cell BK112.out 6).trans rfl
  have hcz27_7 : w17.cell? ⟨gb112, 7, none⟩ = some (.slice A1_7 l1_7.length c1_7) := (blk_cell BK112.out 7).trans rfl
  have hcz27_8 : w17.cell? ⟨gb112, 8, none⟩ = some (.slice A1_8 l1_8.length c1_8) := (blk_cell BK112.out 8).trans rfl
  have hcz27_9 : w17.cell? ⟨gb112, 9, none⟩ = some (.slice A1_9 l1_9.length c1_9) := (blk_cell BK112.out 9).trans rfl
  have hfz27_0 := blk_frozen BK112.out 0
  have hfz27_1 := blk_frozen BK112.out 1
  have hfz27_2 := blk_frozen BK112.out 2
  have hfz27_3 := blk_frozen BK112.out 3
  have hfz27_4 := blk_frozen BK112.out 4
  have hfz27_5 := blk_frozen BK112.out 5
  have hfz27_6 := blk_frozen BK112.out 6
  have hfz27_7 := blk_frozen BK112.out 7
  have hfz27_8 := blk_frozen BK112.out 8
  have hfz27_9 := blk_frozen BK112.out 9
  go_upto_if 47 with (first | ((with_reducible refine gate_callee (f := 53) rfl ?_); refine goesL_ (some 46) rfl rfl Try.func53 (by kernel_rfl) rfl #[.slice A0_9 l0_9.length c0_9, .slice A1_9 l1_9.length c1_9] rfl u2_2 ?_; (with_reducible refine (laws_eqIntS.calls k _ _ l0_9 _ _ l1_9 t115 _ ?side1 ?side2 ?side3 ?side4 A24.out).mono ?_); (case side1 => exact u2_9); (case side2 => exact HC0_9.out); (case side3 => exact (by repeat (first | exact (Kd.C_below HR1_9.out HB.out) | (with_reducible refine Kd.C_alloc ?_ _) | (with_reducible refine Kd.C_drewN ?_ _) | (with_reducible refine Kd.C_drew ?_)))); (case side4 => exact HC1_9.out); rintro e w' ⟨rfl, ⟨nd, rfl⟩⟩; refine ⟨_, rfl, ?_⟩))
  have H := H9.out
  clear H9
  by_cases c28 : t115 = true
  · subst c28
    rw [if_pos rfl] at H
    obtain rfl := Option.some.inj H
    go_wp2
    go_ret
    exact ⟨by first | rfl | (simp [errW_none, errW_some] <;> rfl) | (simp [*, errW_none, errW_some] <;> rfl), u2_1⟩
  replace c28 := Bool.eq_false_iff.mpr c28
  subst c28
  rw [if_neg (show ¬ (false = true) by decide)] at H
  obtain rfl := Option.some.inj H
  go_wp2
  go_ret
  exact ⟨by first | rfl | (simp [errW_none, errW_some] <;> rfl) | (simp [*, errW_none, errW_some] <;> rfl), u2_1⟩

/-! ### laws_szEntry: function 107 -/
def laws_szEntry.f (a0_0 : Int) (a0_1 : ByteArray) (a1 : Int) : Option (Int) := if (wrap64 (a1 - (a0_1.size : Int))) < 0 then (some (-1)) else (some (wrap64 (a1 - (a0_1.size : Int))))
set_option maxHeartbeats 8000000 in
set_option maxRecDepth 100000 in
theorem laws_szEntry.calls (a0_0 : Int) (a0_1 : ByteArray) (a1 : Int) (r : Int) (w : World) (h : laws_szEntry.f a0_0 a0_1 a1 = some r) :
    Calls Try.prog 107 #[.agg #[.int .i64 a0_0, .string a0_1], .int .i64 a1] w fun e w' => e = .returned (.int .i64 r) ∧ Below w.heap.size w w' := by
  have hu112 := Try.underlying112
  have HB := Aside0.mk (Below.refl w.heap.size w)
  have H : (if (wrap64 (a1 - (a0_1.size : Int))) < 0 then (some (-1)) else (some (wrap64 (a1 - (a0_1.size : Int))))) = some r := h
  clear h
  have H9 := Aside0.mk H
  clear H
  go_enter Try.func107, Try.ntmps107
  go_upto_if 11 with (first | ((with_reducible refine gate_dst (N := 2) rfl ?_); refine box_event ?hg (N := 2) ?hd (cs := #[.int .i64 a0_0, .string a0_1]) (t := 112) ?hr ?_; (case hd => rfl); (case hg => rfl); (case hr => first | (go_simp; done) | (go_simp; rfl)); intro gb116 hg w3 hbox hb; have n0_ := Aside0.mk (below_step u2_0 hb); have n1_ := Aside0.mk (hbox); have n2_ := Aside0.mk ((by rw [hg]; exact (below_size u2_0) : w.heap.size ≤ gb116)); have n3_ := Aside0.mk ((by rw [hg]; exact (below_size u2_0) : w.heap.size ≤ gb116)); clear HB; have HB := n0_; have BK116 := n1_; have GW116 := n2_; have GE116 := n3_; clear n0_ n1_ n2_ n3_; clear hb hbox hg; have hcz4_0 : w3.cell? ⟨gb116, 0, none⟩ = some (.int .i64 a0_0) := (blk_cell BK116.out 0).trans rfl; have hcz4_1 : w3.cell? ⟨gb116, 1, none⟩ = some (.string a0_1) := (blk_cell BK116.out 1).trans rfl; have hfz4_0 := blk_frozen BK116.out 0; have hfz4_1 := blk_frozen BK116.out 1))
  have H := H9.out
  clear H9
  by_cases c5 : (wrap64 (a1 - (a0_1.size : Int))) < 0
  · rw [if_pos c5] at H
    have c5b0 : decide ((wrap64 (a1 - (a0_1.size : Int))) < 0) = true := decide_eq_true c5
    clear c5
    (first | rw [c5b0] | (simp only [i64_w, i32_w]; rw [c5b0]) | skip)
    obtain rfl := Option.some.inj H
    go_wp2
    go_ret
    exact ⟨by first | rfl | (simp [errW_none, errW_some] <;> rfl) | (simp [*, errW_none, errW_some] <;> rfl), u2_10⟩
  rw [if_neg c5] at H
  have c5b0 : decide ((wrap64 (a1 - (a0_1.size : Int))) < 0) = false := decide_eq_false c5
  clear c5
  (first | rw [c5b0] | (simp only [i64_w, i32_w]; rw [c5b0]) | skip)
  obtain rfl := Option.some.inj H
  go_wp2
  go_ret
  exact ⟨by first | rfl | (simp [errW_none, errW_some] <;> rfl) | (simp [*, errW_none, errW_some] <;> rfl), u2_10⟩

/-! ### laws_szEntryS: function 61 -/
def laws_szEntryS.l0 : Nat → List (S112) → Int → Int → Option (Int)
  | 0, _, _, _ => none
  | k + 1, x0, x1, x5 => if x5 < (x0.length : Int) then (if 0 ≤ x5 then ((laws_szEntry.f ((rd_T112 x0 x5).f0) ((rd_T112 x0 x5).f1) x1).bind fun t118 => (if t118 < 0 then (some (-1)) else (laws_szEntryS.l0 k x0 t118 (wrap64 (x5 + 1))))) else (none)) else (some x1)
def laws_szEntryS.f (k : Nat) (l0 : List (S112)) (a1 : Int) : Option (Int) := if (wrap64 (a1 - (l0.length : Int))) < 0 then (some (-1)) else (laws_szEntryS.l0 k l0 (wrap64 (a1 - (l0.length : Int))) 0)
theorem laws_szEntryS.mono_l : ∀ k, (∀ y0 y1 y2, LeO (laws_szEntryS.l0 k y0 y1 y2) (laws_szEntryS.l0 (k + 1) y0 y1 y2))
  | 0 => fun _ _ _ r h => by simp [laws_szEntryS.l0] at h
  | k + 1 => by
    have ih0 := laws_szEntryS.mono_l k
    · intro y0 y1 y2
      unfold laws_szEntryS.l0
      repeat' first
      | (with_reducible exact ih0 _ _ _)
      | (with_reducible exact LeO.refl _)
      | (with_reducible exact LeO.none _)
      | (with_reducible refine LeO.ite ?_ ?_)
      | (with_reducible refine LeO.bind ?_ (fun _ => ?_))
      | exact ih0 _ _ _
      | exact LeO.none _
      | refine LeO.ite ?_ ?_
      | refine LeO.bind ?_ (fun _ => ?_)
theorem laws_szEntryS.mono : ∀ a0 a1 k, LeO (laws_szEntryS.f k a0 a1) (laws_szEntryS.f (k + 1) a0 a1) := by
  intro a0 a1 k
  have ih0 := laws_szEntryS.mono_l k
  unfold laws_szEntryS.f
  repeat' first
      | (with_reducible exact ih0 _ _ _)
      | (with_reducible exact LeO.refl _)
      | (with_reducible exact LeO.none _)
      | (with_reducible refine LeO.ite ?_ ?_)
      | (with_reducible refine LeO.bind ?_ (fun _ => ?_))
      | exact ih0 _ _ _
      | exact LeO.none _
      | refine LeO.ite ?_ ?_
      | refine LeO.bind ?_ (fun _ => ?_)
set_option maxHeartbeats 8000000 in
set_option maxRecDepth 100000 in
theorem laws_szEntryS.calls (k : Nat) (A0 : Option Addr) (c0 : Nat) (l0 : List (S112)) (a1 : Int) (r : Int) (w : World) (hr0 : Kd.C k112 w A0 l0.length l0) (hc0 : l0.length ≤ c0) (h : laws_szEntryS.f k l0 a1 = some r) :
    Calls Try.prog 61 #[.slice A0 l0.length c0, .int .i64 a1] w fun e w' => e = .returned (.int .i64 r) ∧ Below w.heap.size w w' := by
  have hu112 := Try.underlying112
  have HR0 := Aside0.mk hr0
  have HC0 := Aside0.mk hc0
  clear hr0 hc0
  have HB := Aside0.mk (Below.refl w.heap.size w)
  have H : (if (wrap64 (a1 - (l0.length : Int))) < 0 then (some (-1)) else (laws_szEntryS.l0 k l0 (wrap64 (a1 - (l0.length : Int))) 0)) = some r := h
  clear h
  by_cases c3 : (wrap64 (a1 - (l0.length : Int))) < 0
  · rw [if_pos c3] at H
    have c3b0 : decide ((wrap64 (a1 - (l0.length : Int))) < 0) = true := decide_eq_true c3
    clear c3
    obtain rfl := Option.some.inj H
    go_enter Try.func61, Try.ntmps61
    go_wp2
    go_ret
    exact ⟨by first | rfl | (simp [errW_none, errW_some] <;> rfl) | (simp [*, errW_none, errW_some] <;> rfl), u2_0⟩
  rw [if_neg c3] at H
  have c3b0 : decide ((wrap64 (a1 - (l0.length : Int))) < 0) = false := decide_eq_false c3
  clear c3
  have H' := Aside0.mk H
  clear H
  go_enter Try.func61, Try.ntmps61
  go_wp2
  go_loopg [1, 5] k (fun kq v1 v5 w' => ∃ (x1_1 : Int) (x5_1 : Int), v1 = .int .i64 x1_1 ∧ v5 = .int .i64 x5_1 ∧ Aside0 (laws_szEntryS.l0 kq l0 x1_1 x5_1 = some r) ∧ Aside0 (kq ≤ k) ∧ Aside0 (Below w.heap.size w w'))
  case atStart => exact ⟨(wrap64 (a1 - (l0.length : Int))), (0), u2_11, u2_11, H', ⟨Nat.le_refl _⟩, ⟨u2_0⟩⟩
  clear H'
  try clear p2
  try clear c3
  try clear c3b0
  obtain ⟨x1_1, x5_1, rfl, rfl, HA, HK1, HB⟩ := hrel
  cases gk with
  | zero => exact absurd HA.out (by simp [laws_szEntryS.l0])
  | succ k1 =>
    have H := HA.out
    clear HA
    simp only [laws_szEntryS.l0] at H
    by_cases c4 : x5_1 < (l0.length : Int)
    rotate_left
    · rw [if_neg c4] at H
      have c4b0 : decide (x5_1 < (l0.length : Int)) = false := decide_eq_false c4
      clear c4
      obtain rfl := Option.some.inj H
      go_wp2
      go_ret
      exact ⟨by first | rfl | (simp [errW_none, errW_some] <;> rfl) | (simp [*, errW_none, errW_some] <;> rfl), u2_0⟩
    rw [if_pos c4] at H
    have c4b0 : decide (x5_1 < (l0.length : Int)) = true := decide_eq_true c4
    clear c4
    by_cases c5 : 0 ≤ x5_1
    rotate_left
    · rw [if_neg c5] at H
      exact absurd H (by simp)
    rw [if_pos c5] at H
    have c5b0 : decide (0 ≤ x5_1) = true := decide_eq_true c5
    clear c5
    replace H := Option.bind_eq_some_iff.mp H
    obtain ⟨t118, A60, H⟩ := H
    replace H : (if t118 < 0 then (some (-1)) else (laws_szEntryS.l0 k1 l0 t118 (wrap64 (x5_1 + 1)))) = some r := H
    have A6 := Aside0.mk A60
    clear A60
    have H9 := Aside0.mk H
    clear H
    have p117 : 0 ≤ (x5_1 : Int) := of_decide_eq_true (by first | (with_reducible assumption) | assumption)
    have q117 : x5_1 < (l0.length : Int) := of_decide_eq_true (by first | (with_reducible assumption) | assumption)
    obtain ⟨ad117, e117, hx117_0, hx117_1⟩ := at_T112 HR0.out x5_1 p117 q117
    cases e117
    replace hx117_0 := (HB.out.cell (World.block_lt_of_cell? w _ hx117_0)).trans hx117_0
    replace hx117_1 := (HB.out.cell (World.block_lt_of_cell? w _ hx117_1)).trans hx117_1
    replace p117 := eq_true p117
    replace q117 := eq_true q117
    go_upto_if 25 with (first | ((with_reducible refine gate_callee (f := 107) rfl ?_); refine goesL_ (some 23) rfl rfl Try.func107 (by kernel_rfl) rfl #[.agg #[.int .i64 ((rd_T112 l0 x5_1).f0), .string ((rd_T112 l0 x5_1).f1)], .int .i64 x1_1] rfl u2_2 ?_; (with_reducible refine (laws_szEntry.calls ((rd_T112 l0 x5_1).f0) ((rd_T112 l0 x5_1).f1) x1_1 t118 _ A6.out).mono ?_); rintro e w7 ⟨rfl, hb⟩; refine ⟨_, rfl, ?_⟩; have n0_ := Aside0.mk (below_step u2_0 hb); clear HB; have HB := n0_; clear n0_; (try clear hb); (try clear hb2); (try clear hk); (try clear hi)))
    have H := H9.out
    clear H9
    by_cases c8 : t118 < 0
    · rw [if_pos c8] at H
      have c8b0 : decide (t118 < 0) = true := decide_eq_true c8
      clear c8
      (first | rw [c8b0] | (simp only [i64_w, i32_w]; rw [c8b0]) | skip)
      obtain rfl := Option.some.inj H
      go_wp2
      go_ret
      exact ⟨by first | rfl | (simp [errW_none, errW_some] <;> rfl) | (simp [*, errW_none, errW_some] <;> rfl), u2_0⟩
    rw [if_neg c8] at H
    have c8b0 : decide (t118 < 0) = false := decide_eq_false c8
    clear c8
    (first | rw [c8b0] | (simp only [i64_w, i32_w]; rw [c8b0]) | skip)
    have H' := Aside0.mk H
    clear H
    go_wp2
    go_roundg k1
    case measure => have := HK1.out; omega
    case rel => exact ⟨(t118), (wrap64 (x5_1 + 1)), u2_11, u2_11, H', ⟨by have := HK1.out; omega⟩, ⟨u2_0⟩⟩

/-! ### laws_szRLog: function 70 -/
def laws_szRLog.f (k : Nat) (a0_0 : Int) (a0_1 : Int) (l0_2 : List (S112)) (a1 : Int) : Option (Int) := (laws_szEntryS.f k l0_2 a1).bind fun t120 => (if t120 < 0 then (some (-1)) else (some t120))
theorem laws_szRLog.mono : ∀ a0 a1 a2 a3 k, LeO (laws_szRLog.f k a0 a1 a2 a3) (laws_szRLog.f (k + 1) a0 a1 a2 a3) := by
  intro a0 a1 a2 a3 k
  unfold laws_szRLog.f
  repeat' first
      | (with_reducible exact laws_szEntryS.mono _ _ _)
      | (with_reducible exact LeO.refl _)
      | (with_reducible exact LeO.none _)
      | (with_reducible refine LeO.ite ?_ ?_)
      | (with_reducible refine LeO.bind ?_ (fun _ => ?_))
      | exact laws_szEntryS.mono _ _ _
      | exact LeO.none _
      | refine LeO.ite ?_ ?_
      | refine LeO.bind ?_ (fun _ => ?_)
set_option maxHeartbeats 8000000 in
set_option maxRecDepth 100000 in
theorem laws_szRLog.calls (k : Nat) (a0_0 : Int) (a0_1 : Int) (A0_2 : Option Addr) (c0_2 : Nat) (l0_2 : List (S112)) (a1 : Int) (r : Int) (w : World) (hr0_2 : Kd.C k112 w A0_2 l0_2.length l0_2) (hc0_2 : l0_2.length ≤ c0_2) (h : laws_szRLog.f k a0_0 a0_1 l0_2 a1 = some r) :
    Calls Try.prog 70 #[.agg #[.int .i64 a0_0, .int .i64 a0_1, .slice A0_2 l0_2.length c0_2], .int .i64 a1] w fun e w' => e = .returned (.int .i64 r) ∧ Below w.heap.size w w' := by
  have hu43 := Try.underlying43
  have HR0_2 := Aside0.mk hr0_2
  have HC0_2 := Aside0.mk hc0_2
  clear hr0_2 hc0_2
  have HB := Aside0.mk (Below.refl w.heap.size w)
  have H : ((laws_szEntryS.f k l0_2 a1).bind fun t120 => (if t120 < 0 then (some (-1)) else (some t120))) = some r := h
  clear h
  replace H := Option.bind_eq_some_iff.mp H
  obtain ⟨t120, A30, H⟩ := H
  replace H : (if t120 < 0 then (some (-1)) else (some t120)) = some r := H
  have A3 := Aside0.mk A30
  clear A30
  have H9 := Aside0.mk H
  clear H
  go_enter Try.func70, Try.ntmps70
  go_upto_if 10 with (first | ((with_reducible refine gate_dst (N := 2) rfl ?_); refine box_event ?hg (N := 2) ?hd (cs := #[.int .i64 a0_0, .int .i64 a0_1, .slice A0_2 l0_2.length c0_2]) (t := 43) ?hr ?_; (case hd => rfl); (case hg => rfl); (case hr => first | (go_simp; done) | (go_simp; rfl)); intro gb119 hg w4 hbox hb; have n0_ := Aside0.mk (below_step u2_0 hb); have n1_ := Aside0.mk (hbox); have n2_ := Aside0.mk ((by rw [hg]; exact (below_size u2_0) : w.heap.size ≤ gb119)); have n3_ := Aside0.mk ((by rw [hg]; exact (below_size u2_0) : w.heap.size ≤ gb119)); clear HB; have HB := n0_; have BK119 := n1_; have GW119 := n2_; have GE119 := n3_; clear n0_ n1_ n2_ n3_; clear hb hbox hg; have hcz5_0 : w4.cell? ⟨gb119, 0, none⟩ = some (.int .i64 a0_0) := (blk_cell BK119.out 0).trans rfl; have hcz5_1 : w4.cell? ⟨gb119, 1, none⟩ = some (.int .i64 a0_1) := (blk_cell BK119.out 1).trans rfl; have hcz5_2 : w4.cell? ⟨gb119, 2, none⟩ = some (.slice A0_2 l0_2.length c0_2) := (blk_cell BK119.out 2).trans rfl; have hfz5_0 := blk_frozen BK119.out 0; have hfz5_1 := blk_frozen BK119.out 1; have hfz5_2 := blk_frozen BK119.out 2) | ((with_reducible refine gate_callee (f := 61) rfl ?_); refine goesL_ (some 8) rfl rfl Try.func61 (by kernel_rfl) rfl #[.slice A0_2 l0_2.length c0_2, .int .i64 a1] rfl u2_2 ?_; (with_reducible refine (laws_szEntryS.calls k _ _ l0_2 a1 t120 _ ?side1 ?side2 A3.out).mono ?_); (case side1 => exact (by repeat (first | exact (Kd.C_below HR0_2.out HB.out) | (with_reducible refine Kd.C_alloc ?_ _) | (with_reducible refine Kd.C_drewN ?_ _) | (with_reducible refine Kd.C_drew ?_)))); (case side2 => exact HC0_2.out); rintro e w6 ⟨rfl, hb⟩; refine ⟨_, rfl, ?_⟩; have n0_ := Aside0.mk (blk_below (g := gb119) (o := .cells #[.int .i64 a0_0, .int .i64 a0_1, .slice A0_2 l0_2.length c0_2] 43 (0, 0)) (by (with_reducible repeat (first | refine blk_drewN ?_ _ | refine blk_drew ?_ | refine blk_alloc ?_ _)); exact BK119.out) hb); have n1_ := Aside0.mk (below_step u2_6 hb); clear BK119; clear HB; have BK119 := n0_; have HB := n1_; clear n0_ n1_; (try clear hb); (try clear hb2); (try clear hk); (try clear hi)))
  have H := H9.out
  clear H9
  by_cases c7 : t120 < 0
  · rw [if_pos c7] at H
    have c7b0 : decide (t120 < 0) = true := decide_eq_true c7
    clear c7
    (first | rw [c7b0] | (simp only [i64_w, i32_w]; rw [c7b0]) | skip)
    obtain rfl := Option.some.inj H
    go_wp2
    go_ret
    exact ⟨by first | rfl | (simp [errW_none, errW_some] <;> rfl) | (simp [*, errW_none, errW_some] <;> rfl), u2_6⟩
  rw [if_neg c7] at H
  have c7b0 : decide (t120 < 0) = false := decide_eq_false c7
  clear c7
  (first | rw [c7b0] | (simp only [i64_w, i32_w]; rw [c7b0]) | skip)
  obtain rfl := Option.some.inj H
  go_wp2
  go_ret
  exact ⟨by first | rfl | (simp [errW_none, errW_some] <;> rfl) | (simp [*, errW_none, errW_some] <;> rfl), u2_6⟩

/-! ### laws_szIntS: function 71 -/
def laws_szIntS.f (l0 : List Int) (a1 : Int) : Option (Int) := if (wrap64 (a1 - (l0.length : Int))) < 0 then (some (-1)) else (some (wrap64 (a1 - (l0.length : Int))))
set_option maxHeartbeats 8000000 in
set_option maxRecDepth 100000 in
theorem laws_szIntS.calls (A0 : Option Addr) (c0 : Nat) (l0 : List Int) (a1 : Int) (r : Int) (w : World) (hr0 : Kd.C (Kd.int .i64) w A0 l0.length l0) (hc0 : l0.length ≤ c0) (h : laws_szIntS.f l0 a1 = some r) :
    Calls Try.prog 71 #[.slice A0 l0.length c0, .int .i64 a1] w fun e w' => e = .returned (.int .i64 r) ∧ Drawn0 w w' := by
  have HR0 := Aside0.mk hr0
  have HC0 := Aside0.mk hc0
  clear hr0 hc0
  have H : (if (wrap64 (a1 - (l0.length : Int))) < 0 then (some (-1)) else (some (wrap64 (a1 - (l0.length : Int))))) = some r := h
  clear h
  by_cases c3 : (wrap64 (a1 - (l0.length : Int))) < 0
  · rw [if_pos c3] at H
    have c3b0 : decide ((wrap64 (a1 - (l0.length : Int))) < 0) = true := decide_eq_true c3
    clear c3
    obtain rfl := Option.some.inj H
    go_enter Try.func71, Try.ntmps71
    go_wp2
    go_ret
    exact ⟨by first | rfl | (simp; done) | (simp [*]; done), (by repeat (first | exact Drawn0.refl _ | apply Drawn0.step))⟩
  rw [if_neg c3] at H
  have c3b0 : decide ((wrap64 (a1 - (l0.length : Int))) < 0) = false := decide_eq_false c3
  clear c3
  obtain rfl := Option.some.inj H
  go_enter Try.func71, Try.ntmps71
  go_wp2
  go_ret
  exact ⟨by first | rfl | (simp; done) | (simp [*]; done), (by repeat (first | exact Drawn0.refl _ | apply Drawn0.step))⟩

/-! ### laws_szNode: function 25 -/
def laws_szNode.f (k : Nat) (a0_0 : Int) (a0_1 : Int) (a0_2 : Int) (a0_3 : Int) (a0_4 : Int) (a0_5 : Int) (a0_6 : Int) (l0_7 : List (S112)) (l0_8 : List Int) (l0_9 : List Int) (a1 : Int) : Option (Int) := (laws_szRLog.f k a0_5 a0_6 l0_7 a1).bind fun t122 => (if t122 < 0 then (some (-1)) else ((laws_szIntS.f l0_8 t122).bind fun t123 => (if t123 < 0 then (some (-1)) else ((laws_szIntS.f l0_9 t123).bind fun t124 => (if t124 < 0 then (some (-1)) else (some t124))))))
theorem laws_szNode.mono : ∀ a0 a1 a2 a3 a4 a5 a6 a7 a8 a9 a10 k, LeO (laws_szNode.f k a0 a1 a2 a3 a4 a5 a6 a7 a8 a9 a10) (laws_szNode.f (k + 1) a0 a1 a2 a3 a4 a5 a6 a7 a8 a9 a10) := by
  intro a0 a1 a2 a3 a4 a5 a6 a7 a8 a9 a10 k
  unfold laws_szNode.f
  repeat' first
      | (with_reducible exact laws_szRLog.mono _ _ _ _ _)
      | (with_reducible exact LeO.refl _)
      | (with_reducible exact LeO.none _)
      | (with_reducible refine LeO.ite ?_ ?_)
      | (with_reducible refine LeO.bind ?_ (fun _ => ?_))
      | exact laws_szRLog.mono _ _ _ _ _
      | exact LeO.none _
      | refine LeO.ite ?_ ?_
      | refine LeO.bind ?_ (fun _ => ?_)
set_option maxHeartbeats 8000000 in
set_option maxRecDepth 100000 in
theorem laws_szNode.calls (k : Nat) (a0_0 : Int) (a0_1 : Int) (a0_2 : Int) (a0_3 : Int) (a0_4 : Int) (a0_5 : Int) (a0_6 : Int) (A0_7 : Option Addr) (c0_7 : Nat) (l0_7 : List (S112)) (A0_8 : Option Addr) (c0_8 : Nat) (l0_8 : List Int) (A0_9 : Option Addr) (c0_9 : Nat) (l0_9 : List Int) (a1 : Int) (r : Int) (w : World) (hr0_7 : Kd.C k112 w A0_7 l0_7.length l0_7) (hc0_7 : l0_7.length ≤ c0_7) (hr0_8 : Kd.C (Kd.int .i64) w A0_8 l0_8.length l0_8) (hc0_8 : l0_8.length ≤ c0_8) (hr0_9 : Kd.C (Kd.int .i64) w A0_9 l0_9.length l0_9) (hc0_9 : l0_9.length ≤ c0_9) (h : laws_szNode.f k a0_0 a0_1 a0_2 a0_3 a0_4 a0_5 a0_6 l0_7 l0_8 l0_9 a1 = some r) :
    Calls Try.prog 25 #[.agg #[.int .i64 a0_0, .int .i64 a0_1, .int .i64 a0_2, .int .i64 a0_3, .int .i64 a0_4, .int .i64 a0_5, .int .i64 a0_6, .slice A0_7 l0_7.length c0_7, .slice A0_8 l0_8.length c0_8, .slice A0_9 l0_9.length c0_9], .int .i64 a1] w fun e w' => e = .returned (.int .i64 r) ∧ Below w.heap.size w w' := by
  have hu45 := Try.underlying45
  have hu43 := Try.underlying43
  have HR0_7 := Aside0.mk hr0_7
  have HC0_7 := Aside0.mk hc0_7
  clear hr0_7 hc0_7
  have HR0_8 := Aside0.mk hr0_8
  have HC0_8 := Aside0.mk hc0_8
  clear hr0_8 hc0_8
  have HR0_9 := Aside0.mk hr0_9
  have HC0_9 := Aside0.mk hc0_9
  clear hr0_9 hc0_9
  have HB := Aside0.mk (Below.refl w.heap.size w)
  have H : ((laws_szRLog.f k a0_5 a0_6 l0_7 a1).bind fun t122 => (if t122 < 0 then (some (-1)) else ((laws_szIntS.f l0_8 t122).bind fun t123 => (if t123 < 0 then (some (-1)) else ((laws_szIntS.f l0_9 t123).bind fun t124 => (if t124 < 0 then (some (-1)) else (some t124))))))) = some r := h
  clear h
  replace H := Option.bind_eq_some_iff.mp H
  obtain ⟨t122, A30, H⟩ := H
  have A3 := Aside0.mk A30
  clear A30
  have H9 := Aside0.mk H
  clear H
  go_enter Try.func25, Try.ntmps25
  go_upto_if 10 with (first | ((with_reducible refine gate_dst (N := 2) rfl ?_); refine box_event ?hg (N := 2) ?hd (cs := #[.int .i64 a0_0, .int .i64 a0_1, .int .i64 a0_2, .int .i64 a0_3, .int .i64 a0_4, .int .i64 a0_5, .int .i64 a0_6, .slice A0_7 l0_7.length c0_7, .slice A0_8 l0_8.length c0_8, .slice A0_9 l0_9.length c0_9]) (t := 45) ?hr ?_; (case hd => rfl); (case hg => rfl); (case hr => first | (go_simp; done) | (go_simp; rfl)); intro gb121 hg w4 hbox hb; have n0_ := Aside0.mk (below_step u2_0 hb); have n1_ := Aside0.mk (hbox); have n2_ := Aside0.mk ((by rw [hg]; exact (below_size u2_0) : w.heap.size ≤ gb121)); have n3_ := Aside0.mk ((by rw [hg]; exact (below_size u2_0) : w.heap.size ≤ gb121)); clear HB; have HB := n0_; have BK121 := n1_; have GW121 := n2_; have GE121 := n3_; clear n0_ n1_ n2_ n3_; clear hb hbox hg; have hcz5_0 : w4.cell? ⟨gb121, 0, none⟩ = some (.int .i64 a0_0) := (blk_cell BK121.out 0).trans rfl; have hcz5_1 : w4.cell? ⟨gb121, 1, none⟩ = some (.int .i64 a0_1) := (blk_cell BK121.out 1).trans rfl; have hcz5_2 : w4.cell? ⟨gb121, 2, none⟩ = some (.int .i64 a0_2) := (blk_cell BK121.out 2).trans rfl; have hcz5_3 : w4.cell? ⟨gb121, 3, none⟩ = some (.int .i64 a0_3) := (blk_cell BK121.out 3).trans rfl; have hcz5_4 : w4.cell? ⟨gb121, 4, none⟩ = some (.int .i64 a0_4) := (blk_cell BK121.out 4).trans rfl; have hcz5_5 : w4.cell? ⟨gb121, 5, none⟩ = some (.int .i64 a0_5) := (blk_cell BK121.out 5).trans rfl; have hcz5_6 : w4.cell? ⟨gb121, 6, none⟩ = some (.int .i64 a0_6) := (blk_cell BK121.out 6).trans rfl; have hcz5_7 : w4.cell? ⟨gb121, 7, none⟩ = some (.slice A0_7 l0_7.length c0_7) := (blk_cell BK121.out 7).trans rfl; have hcz5_8 : w4.cell? ⟨gb121, 8, none⟩ = some (.slice A0_8 l0_8.length c0_8) := (blk_cell BK121.out 8).trans rfl; have hcz5_9 : w4.cell? ⟨gb121, 9, none⟩ = some (.slice A0_9 l0_9.length c0_9) := (blk_cell BK121.out 9).trans rfl; have hfz5_0 := blk_frozen BK121.out 0; have hfz5_1 := blk_frozen BK121.out 1; have hfz5_2 := blk_frozen BK121.out 2; have hfz5_3 := blk_frozen BK121.out 3; have hfz5_4 := blk_frozen BK121.out 4; have hfz5_5 := blk_frozen BK121.out 5; have hfz5_6 := blk_frozen BK121.out 6; have hfz5_7 := blk_frozen BK121.out 7; have hfz5_8 := blk_frozen BK121.out 8; have hfz5_9 := blk_frozen BK121.out 9) | ((with_reducible refine gate_callee (f := 70) rfl ?_); refine goesL_ (some 8) rfl rfl Try.func70 (by kernel_rfl) rfl #[.agg #[.int .i64 a0_5, .int .i64 a0_6, .slice A0_7 l0_7.length c0_7], .int .i64 a1] rfl u2_2 ?_; (with_reducible refine (laws_szRLog.calls k a0_5 a0_6 _ _ l0_7 a1 t122 _ ?side1 ?side2 A3.out).mono ?_); (case side1 => exact u2_7); (case side2 => exact HC0_7.out); rintro e w6 ⟨rfl, hb⟩; refine ⟨_, rfl, ?_⟩; have n0_ := Aside0.mk (blk_below (g := gb121) (o := .cells #[.int .i64 a0_0, .int .i64 a0_1, .int .i64 a0_2, .int .i64 a0_3, .int .i64 a0_4, .int .i64 a0_5, .int .i64 a0_6, .slice A0_7 l0_7.length c0_7, .slice A0_8 l0_8.length c0_8, .slice A0_9 l0_9.length c0_9] 45 (0, 0)) (by (with_reducible repeat (first | refine blk_drewN ?_ _ | refine blk_drew ?_ | refine blk_alloc ?_ _)); exact BK121.out) hb); have n1_ := Aside0.mk (below_step u2_3 hb); clear BK121; clear HB; have BK121 := n0_; have HB := n1_; clear n0_ n1_; (try clear hb); (try clear hb2); (try clear hk); (try clear hi)))
  have H := H9.out
  clear H9
  by_cases c7 : t122 < 0
  · rw [if_pos c7] at H
    have c7b0 : decide (t122 < 0) = true := decide_eq_true c7
    clear c7
    (first | rw [c7b0] | (simp only [i64_w, i32_w]; rw [c7b0]) | skip)
    obtain rfl := Option.some.inj H
    go_wp2
    go_ret
    exact ⟨by first | rfl | (simp [errW_none, errW_some] <;> rfl) | (simp [*, errW_none, errW_some] <;> rfl), u2_3⟩
  rw [if_neg c7] at H
  have c7b0 : decide (t122 < 0) = false := decide_eq_false c7
  clear c7
  (first | rw [c7b0] | (simp only [i64_w, i32_w]; rw [c7b0]) | skip)
  replace H := Option.bind_eq_some_iff.mp H
  obtain ⟨t123, A80, H⟩ := H
  have A8 := Aside0.mk A80
  clear A80
  have H9 := Aside0.mk H
  clear H
  have hcz9_0 : w6.cell? ⟨gb121, 0, none⟩ = some (.int .i64 a0_0) := (blk_cell BK121.out 0).trans rfl
  have hcz9_1 : w6.cell? ⟨gb121, 1, none⟩ = some (.int .i64 a0_1) := (blk_cell BK121.out 1).trans rfl
  have hcz9_2 : w6.cell? ⟨gb121, 2, none⟩ = some (.int .i64 a0_2) := (blk_cell BK121.out 2).trans rfl
  have hcz9_3 : w6.cell? ⟨gb121, 3, none⟩ = some (.int .i64 a0_3) := (blk_cell BK121.out 3).trans rfl
  have hcz9_4 : w6.cell? ⟨gb121, 4, none⟩ = some (.int .i64 a0_4) := (blk_cell BK121.out 4).trans rfl
  have hcz9_5 : w6.cell? ⟨gb121, 5, none⟩ = some (.int .i64 a0_5) := (blk_cell BK121.out 5).trans rfl
  have hcz9_6 : w6.cell? ⟨gb121, 6, none⟩ = some (.int .i64 a0_6) := (blk_cell BK121.out 6).trans rfl
  have hcz9_7 : w6.cell? ⟨gb121, 7, none⟩ = some (.slice A0_7 l0_7.length c0_7) := (blk_cell BK121.out 7).trans rfl
  have hcz9_8 : w6.cell? ⟨gb121, 8, none⟩ = some (.slice A0_8 l0_8.length c0_8) := (blk_cell BK121.out 8).trans rfl
  have hcz9_9 : w6.cell? ⟨gb121, 9, none⟩ = some (.slice A0_9 l0_9.length c0_9) := (blk_cell BK121.out 9).trans rfl
  have hfz9_0 := blk_frozen BK121.out 0
  have hfz9_1 := blk_frozen BK121.out 1
  have hfz9_2 := blk_frozen BK121.out 2
  have hfz9_3 := blk_frozen BK121.out 3
  have hfz9_4 := blk_frozen BK121.out 4
  have hfz9_5 := blk_frozen BK121.out 5
  have hfz9_6 := blk_frozen BK121.out 6
  have hfz9_7 := blk_frozen BK121.out 7
  have hfz9_8 := blk_frozen BK121.out 8
  have hfz9_9 := blk_frozen BK121.out 9
  go_upto_if 16 with (first | ((with_reducible refine gate_callee (f := 71) rfl ?_); refine goesL_ (some 14) rfl rfl Try.func71 (by kernel_rfl) rfl #[.slice A0_8 l0_8.length c0_8, .int .i64 t122] rfl u2_2 ?_; (with_reducible refine (laws_szIntS.calls _ _ l0_8 t122 t123 _ ?side1 ?side2 A8.out).mono ?_); (case side1 => exact u2_8); (case side2 => exact HC0_8.out); rintro e w' ⟨rfl, ⟨nd, rfl⟩⟩; refine ⟨_, rfl, ?_⟩))
  have H := H9.out
  clear H9
  by_cases c10 : t123 < 0
  · rw [if_pos c10] at H
    have c10b0 : decide (t123 < 0) = true := decide_eq_true c10
    clear c10
    (first | rw [c10b0] | (simp only [i64_w, i32_w]; rw [c10b0]) | skip)
    obtain rfl := Option.some.inj H
    go_wp2
    go_ret
    exact ⟨by first | rfl | (simp [errW_none, errW_some] <;> rfl) | (simp [*, errW_none, errW_some] <;> rfl), u2_3⟩
  rw [if_neg c10] at H
  have c10b0 : decide (t123 < 0) = false := decide_eq_false c10
  clear c10
  (first | rw [c10b0] | (simp only [i64_w, i32_w]; rw [c10b0]) | skip)
  replace H := Option.bind_eq_some_iff.mp H
  obtain ⟨t124, A110, H⟩ := H
  replace H : (if t124 < 0 then (some (-1)) else (some t124)) = some r := H
  have A11 := Aside0.mk A110
  clear A110
  have H9 := Aside0.mk H
  clear H
  have hcz12_0 : w6.cell? ⟨gb121, 0, none⟩ = some (.int .i64 a0_0) := (blk_cell BK121.out 0).trans rfl
  have hcz12_1 : w6.cell? ⟨gb121, 1, none⟩ = some (.int .i64 a0_1) := (blk_cell BK121.out 1).trans rfl
  have hcz12_2 : w6.cell? ⟨gb121, 2, none⟩ = some (.int .i64 a0_2) := (blk_cell BK121.out 2).trans rfl
  have hcz12_3 : w6.cell? ⟨gb121, 3, none⟩ = some (.int .i64 a0_3) := (blk_cell BK121.out 3).trans rfl
  have hcz12_4 : w6.cell? ⟨gb121, 4, none⟩ = some (.int .i64 a0_4) := (blk_cell BK121.out 4).trans rfl
  have hcz12_5 : w6.cell? ⟨gb121, 5, none⟩ = some (.int .i64 a0_5) := (blk_cell BK121.out 5).trans rfl
  have hcz12_6 : w6.cell? ⟨gb121, 6, none⟩ = some (.int .i64 a0_6) := (blk_cell BK121.out 6).trans rfl
  have hcz12_7 : w6.cell? ⟨gb121, 7, none⟩ = some (.slice A0_7 l0_7.length c0_7) := (blk_cell BK121.out 7).trans rfl
  have hcz12_8 : w6.cell? ⟨gb121, 8, none⟩ = some (.slice A0_8 l0_8.length c0_8) := (blk_cell BK121.out 8).trans rfl
  have hcz12_9 : w6.cell? ⟨gb121, 9, none⟩ = some (.slice A0_9 l0_9.length c0_9) := (blk_cell BK121.out 9).trans rfl
  have hfz12_0 := blk_frozen BK121.out 0
  have hfz12_1 := blk_frozen BK121.out 1
  have hfz12_2 := blk_frozen BK121.out 2
  have hfz12_3 := blk_frozen BK121.out 3
  have hfz12_4 := blk_frozen BK121.out 4
  have hfz12_5 := blk_frozen BK121.out 5
  have hfz12_6 := blk_frozen BK121.out 6
  have hfz12_7 := blk_frozen BK121.out 7
  have hfz12_8 := blk_frozen BK121.out 8
  have hfz12_9 := blk_frozen BK121.out 9
  go_upto_if 22 with (first | ((with_reducible refine gate_callee (f := 71) rfl ?_); refine goesL_ (some 20) rfl rfl Try.func71 (by kernel_rfl) rfl #[.slice A0_9 l0_9.length c0_9, .int .i64 t123] rfl u2_2 ?_; (with_reducible refine (laws_szIntS.calls _ _ l0_9 t123 t124 _ ?side1 ?side2 A11.out).mono ?_); (case side1 => exact u2_9); (case side2 => exact HC0_9.out); rintro e w' ⟨rfl, ⟨nd, rfl⟩⟩; refine ⟨_, rfl, ?_⟩))
  have H := H9.out
  clear H9
  by_cases c13 : t124 < 0
  · rw [if_pos c13] at H
    have c13b0 : decide (t124 < 0) = true := decide_eq_true c13
    clear c13
    (first | rw [c13b0] | (simp only [i64_w, i32_w]; rw [c13b0]) | skip)
    obtain rfl := Option.some.inj H
    go_wp2
    go_ret
    exact ⟨by first | rfl | (simp [errW_none, errW_some] <;> rfl) | (simp [*, errW_none, errW_some] <;> rfl), u2_3⟩
  rw [if_neg c13] at H
  have c13b0 : decide (t124 < 0) = false := decide_eq_false c13
  clear c13
  (first | rw [c13b0] | (simp only [i64_w, i32_w]; rw [c13b0]) | skip)
  obtain rfl := Option.some.inj H
  go_wp2
  go_ret
  exact ⟨by first | rfl | (simp [errW_none, errW_some] <;> rfl) | (simp [*, errW_none, errW_some] <;> rfl), u2_3⟩

end Go.Proofs.Ytkcadcoohmofcaa.QFnExactNodeOk
