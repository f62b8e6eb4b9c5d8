-- Printed by the session's own program wip/prx.py.
import Derived.Test.YtkcadcoohmofcaaSqFnExactGroupOk
import Derived.Test.YtkcadcoohmofcaaQFnExactGroupOkx0
import Derived.Test.YtkcadcoohmofcaaQFnExactGroupOkx15
namespace Go.Proofs.Ytkcadcoohmofcaa.QFnExactGroupOk
open Go.RowKit Go.Proofs.YtkcadcoohmofcaaW.PrintWords Go.Proofs.YtkcadcoohmofcaaW.PrintLast Go.Proofs.YtkcadcoohmofcaaW.PrintMore Go.Proofs.Ytkcadcoohmofcaa.SqFnExactGroupOk
attribute [local go_sem] max2_int min2_int max_two min_two max_three min_three max_four min_four Go.Proofs.Ytkcadcoohmofcaa.Set.isSome_setCell
set_option linter.unusedVariables false
set_option linter.unusedSimpArgs false

-- squeezed
theorem u16_0 {P : Prop} (h : P := by repeat (first | (with_reducible first | exact HB.out | apply below_alloc | apply pw_below_drewN | apply below_drew1 | refine below_set ?_ GE315.out) | exact HB.out)) : P := h
theorem u16_1 {P : Prop} (h : P := by (with_reducible repeat (first | refine blk_drewN ?_ _ | refine blk_drew ?_ | refine blk_alloc ?_ _)); exact BK315.out) : P := h
theorem u16_2 {P : Prop} (h : P := by repeat (first | (with_reducible first | exact HB.out | apply below_alloc | apply pw_below_drewN | apply below_drew1) | exact HB.out)) : P := h
theorem u16_3 {P : Prop} (h : P := by repeat (first | exact (Kd.C_below HR0_8.out HB.out) | (with_reducible refine Kd.C_alloc ?_ _) | (with_reducible refine Kd.C_drewN ?_ _) | (with_reducible refine Kd.C_drew ?_))) : P := h
theorem u16_4 {P : Prop} (h : P := by first | rfl | (simp; done) | (simp [*]; done)) : P := h
theorem u16_5 {P : Prop} (h : P := by have := HJ2.out; first | omega | exact Nat.le_refl _) : P := h
/-! ### impl_isMsg: function 66 -/
mutual
def impl_isMsg.j0 : Nat → Bool → Int → Int → Int → Int → Int → Int → Int → Bool → List (S85) → Option (Bool)
 | 0, _, _, _, _, _, _, _, _, _, _ => none
 | k + 1, x51, x316000, x316001, x316002, x316003, x316004, x316005, x316006, x316007, x316008 => if x51 = true then (some false) else (if x316003 < 1 then (impl_isMsg.j1 k true x316000 x316001 x316002 x316003 x316004 x316005 x316006 x316007 x316008) else (if x316003 > 1000000 then (impl_isMsg.j1 k true x316000 x316001 x316002 x316003 x316004 x316005 x316006 x316007 x316008) else (if x316004 < 0 then (impl_isMsg.j1 k true x316000 x316001 x316002 x316003 x316004 x316005 x316006 x316007 x316008) else (if x316004 > 60 then (impl_isMsg.j1 k true x316000 x316001 x316002 x316003 x316004 x316005 x316006 x316007 x316008) else (if x316005 < 0 then (impl_isMsg.j1 k true x316000 x316001 x316002 x316003 x316004 x316005 x316006 x316007 x316008) else (if x316005 > 1000000 then (impl_isMsg.j1 k true x316000 x316001 x316002 x316003 x316004 x316005 x316006 x316007 x316008) else (if x316006 < 0 then (impl_isMsg.j1 k true x316000 x316001 x316002 x316003 x316004 x316005 x316006 x316007 x316008) else (if x316006 > 1000000 then (impl_isMsg.j1 k true x316000 x316001 x316002 x316003 x316004 x316005 x316006 x316007 x316008) else (impl_isMsg.j1 k (decide ((x316008.length : Int) > 10)) x316000 x316001 x316002 x316003 x316004 x316005 x316006 x316007 x316008)))))))))
def impl_isMsg.j1 : Nat → Bool → Int → Int → Int → Int → Int → Int → Int → Bool → List (S85) → Option (Bool)
 | 0, _, _, _, _, _, _, _, _, _, _ => none
 | k + 1, x95, x316000, x316001, x316002, x316003, x316004, x316005, x316006, x316007, x316008 => if x95 = true then (some false) else ((impl_Entry.f x316008 x316000 x316001 x316002 x316003 x316004 x316005 x316006 x316007 x316008).bind fun t316 => (if t316 = true then (some false) else (if x316000 = 2 then (if x316000 = 0 then (if x316000 = 1 then (if x316004 = 0 then (if x316007 = true then (some true) else (some true)) else (some false)) else (if x316007 = true then (some (x316000 == 3)) else (some true))) else (if x316000 = 1 then (if x316004 = 0 then (if x316007 = true then (some true) else (some true)) else (some false)) else (if x316007 = true then (some (x316000 == 3)) else (some true)))) else (if x316006 = 0 then (if (x316008.length : Int) > 0 then (some false) else (if x316000 = 0 then (if x316000 = 1 then (if x316004 = 0 then (if x316007 = true then (some true) else (some true)) else (some false)) else (if x316007 = true then (some (x316000 == 3)) else (some true))) else (if x316005 = 0 then (if x316000 = 1 then (if x316004 = 0 then (if x316007 = true then (some true) else (some true)) else (some false)) else (if x316007 = true then (some (x316000 == 3)) else (some true))) else (some false)))) else (some false)))))
end
def impl_isMsg.f (k : Nat) (a0_0 : Int) (a0_1 : Int) (a0_2 : Int) (a0_3 : Int) (a0_4 : Int) (a0_5 : Int) (a0_6 : Int) (a0_7 : Bool) (l0_8 : List (S85)) (a1 : Int) : Option (Bool) := if a1 < 1 then (impl_isMsg.j0 k true a0_0 a0_1 a0_2 a0_3 a0_4 a0_5 a0_6 a0_7 l0_8) else (if a1 > 5 then (impl_isMsg.j0 k true a0_0 a0_1 a0_2 a0_3 a0_4 a0_5 a0_6 a0_7 l0_8) else (if a0_0 < 0 then (impl_isMsg.j0 k true a0_0 a0_1 a0_2 a0_3 a0_4 a0_5 a0_6 a0_7 l0_8) else (if a0_0 > 3 then (impl_isMsg.j0 k true a0_0 a0_1 a0_2 a0_3 a0_4 a0_5 a0_6 a0_7 l0_8) else (if a0_1 < 0 then (impl_isMsg.j0 k true a0_0 a0_1 a0_2 a0_3 a0_4 a0_5 a0_6 a0_7 l0_8) else (if a0_1 ≥ a1 then (impl_isMsg.j0 k true a0_0 a0_1 a0_2 a0_3 a0_4 a0_5 a0_6 a0_7 l0_8) else (if a0_2 < 0 then (impl_isMsg.j0 k true a0_0 a0_1 a0_2 a0_3 a0_4 a0_5 a0_6 a0_7 l0_8) else (if a0_2 ≥ a1 then (impl_isMsg.j0 k true a0_0 a0_1 a0_2 a0_3 a0_4 a0_5 a0_6 a0_7 l0_8) else (impl_isMsg.j0 k (a0_1 == a0_2) a0_0 a0_1 a0_2 a0_3 a0_4 a0_5 a0_6 a0_7 l0_8))))))))
theorem impl_isMsg.mono_l : ∀ k, (∀ y0 y1 y2 y3 y4 y5 y6 y7 y8 y9, LeO (impl_isMsg.j0 k y0 y1 y2 y3 y4 y5 y6 y7 y8 y9) (impl_isMsg.j0 (k + 1) y0 y1 y2 y3 y4 y5 y6 y7 y8 y9)) ∧ (∀ y0 y1 y2 y3 y4 y5 y6 y7 y8 y9, LeO (impl_isMsg.j1 k y0 y1 y2 y3 y4 y5 y6 y7 y8 y9) (impl_isMsg.j1 (k + 1) y0 y1 y2 y3 y4 y5 y6 y7 y8 y9))
 | 0 => ⟨fun _ _ _ _ _ _ _ _ _ _ r h => by simp [impl_isMsg.j0] at h, fun _ _ _ _ _ _ _ _ _ _ r h => by simp [impl_isMsg.j1] at h⟩
 | k + 1 => by
   obtain ⟨ih0, ih1⟩ := impl_isMsg.mono_l k
   refine ⟨?_, ?_⟩
   · intro y0 y1 y2 y3 y4 y5 y6 y7 y8 y9
     unfold impl_isMsg.j0
     repeat' first
     | (with_reducible exact ih0 _ _ _ _ _ _ _ _ _ _)
     | (with_reducible exact ih1 _ _ _ _ _ _ _ _ _ _)
     | (with_reducible exact LeO.refl _)
     | (with_reducible exact LeO.none _)
     | (with_reducible refine LeO.ite ?_ ?_)
     | (with_reducible refine LeO.bind ?_ (fun _ => ?_))
     | exact ih0 _ _ _ _ _ _ _ _ _ _
     | exact ih1 _ _ _ _ _ _ _ _ _ _
     | exact LeO.none _
     | refine LeO.ite ?_ ?_
     | refine LeO.bind ?_ (fun _ => ?_)
   · intro y0 y1 y2 y3 y4 y5 y6 y7 y8 y9
     unfold impl_isMsg.j1
     repeat' first
     | (with_reducible exact ih0 _ _ _ _ _ _ _ _ _ _)
     | (with_reducible exact ih1 _ _ _ _ _ _ _ _ _ _)
     | (with_reducible exact LeO.refl _)
     | (with_reducible exact LeO.none _)
     | (with_reducible refine LeO.ite ?_ ?_)
     | (with_reducible refine LeO.bind ?_ (fun _ => ?_))
     | exact ih0 _ _ _ _ _ _ _ _ _ _
     | exact ih1 _ _ _ _ _ _ _ _ _ _
     | exact LeO.none _
     | refine LeO.ite ?_ ?_
     | refine LeO.bind ?_ (fun _ => ?_)
theorem impl_isMsg.mono : ∀ a0 a1 a2 a3 a4 a5 a6 a7 a8 a9 k, LeO (impl_isMsg.f k a0 a1 a2 a3 a4 a5 a6 a7 a8 a9) (impl_isMsg.f (k + 1) a0 a1 a2 a3 a4 a5 a6 a7 a8 a9) := by
 intro a0 a1 a2 a3 a4 a5 a6 a7 a8 a9 k
 obtain ⟨ih0, ih1⟩ := impl_isMsg.mono_l k
 unfold impl_isMsg.f
 repeat' first
     | (with_reducible exact ih0 _ _ _ _ _ _ _ _ _ _)
     | (with_reducible exact ih1 _ _ _ _ _ _ _ _ _ _)
     | (with_reducible exact LeO.refl _)
     | (with_reducible exact LeO.none _)
     | (with_reducible refine LeO.ite ?_ ?_)
     | (with_reducible refine LeO.bind ?_ (fun _ => ?_))
     | exact ih0 _ _ _ _ _ _ _ _ _ _
     | exact ih1 _ _ _ _ _ _ _ _ _ _
     | exact LeO.none _
     | refine LeO.ite ?_ ?_
     | refine LeO.bind ?_ (fun _ => ?_)
set_option maxHeartbeats 8000000 in
set_option maxRecDepth 100000 in
theorem impl_isMsg.calls (k : Nat) (a0_0 : Int) (a0_1 : Int) (a0_2 : Int) (a0_3 : Int) (a0_4 : Int) (a0_5 : Int) (a0_6 : Int) (a0_7 : Bool) (A0_8 : Option Addr) (c0_8 : Nat) (l0_8 : List (S85)) (a1 : Int) (r : Bool) (w : World) (hr0_8 : Kd.C k85 w A0_8 l0_8.length l0_8) (hc0_8 : l0_8.length ≤ c0_8) (h : impl_isMsg.f k a0_0 a0_1 a0_2 a0_3 a0_4 a0_5 a0_6 a0_7 l0_8 a1 = some r) :
   Calls Try.prog 66 #[.agg #[.int .i64 a0_0, .int .i64 a0_1, .int .i64 a0_2, .int .i64 a0_3, .int .i64 a0_4, .int .i64 a0_5, .int .i64 a0_6, .bool a0_7, .slice A0_8 l0_8.length c0_8], .int .i64 a1] w fun e w' => e = .returned (.bool r) ∧ Below w.heap.size w w' := by
 have hu29 := Try.underlying29
 have HR0_8 := am hr0_8
 have HC0_8 := am hc0_8
 clear hr0_8 hc0_8
 have HB := am (Below.refl w.heap.size w)
 have H : (if a1 < 1 then (impl_isMsg.j0 k true a0_0 a0_1 a0_2 a0_3 a0_4 a0_5 a0_6 a0_7 l0_8) else (if a1 > 5 then (impl_isMsg.j0 k true a0_0 a0_1 a0_2 a0_3 a0_4 a0_5 a0_6 a0_7 l0_8) else (if a0_0 < 0 then (impl_isMsg.j0 k true a0_0 a0_1 a0_2 a0_3 a0_4 a0_5 a0_6 a0_7 l0_8) else (if a0_0 > 3 then (impl_isMsg.j0 k true a0_0 a0_1 a0_2 a0_3 a0_4 a0_5 a0_6 a0_7 l0_8) else (if a0_1 < 0 then (impl_isMsg.j0 k true a0_0 a0_1 a0_2 a0_3 a0_4 a0_5 a0_6 a0_7 l0_8) else (if a0_1 ≥ a1 then (impl_isMsg.j0 k true a0_0 a0_1 a0_2 a0_3 a0_4 a0_5 a0_6 a0_7 l0_8) else (if a0_2 < 0 then (impl_isMsg.j0 k true a0_0 a0_1 a0_2 a0_3 a0_4 a0_5 a0_6 a0_7 l0_8) else (if a0_2 ≥ a1 then (impl_isMsg.j0 k true a0_0 a0_1 a0_2 a0_3 a0_4 a0_5 a0_6 a0_7 l0_8) else (impl_isMsg.j0 k (a0_1 == a0_2) a0_0 a0_1 a0_2 a0_3 a0_4 a0_5 a0_6 a0_7 l0_8))))))))) = some r := h
 clear h
 have HC3 := am H
 clear H
 go_enter Try.func66, Try.ntmps66
 go_upto_region 1 with (first | ((with_reducible refine gate_dst (N := 2) rfl ?_); (try (refine gate_guard (by rfl) ?_; dsimp only)); refine box_event ?hg (N := 2) ?hd (cs := #[.int .i64 a0_0, .int .i64 a0_1, .int .i64 a0_2, .int .i64 a0_3, .int .i64 a0_4, .int .i64 a0_5, .int .i64 a0_6, .bool a0_7, .slice A0_8 l0_8.length c0_8]) (t := 29) ?hr ?_; (case hd => rfl); (case hg => rfl); (case hr => first | (go_simp; done) | (go_simp; rfl)); intro gb315 hg w4 hbox hb; have n0_ := am (below_step u16_2 hb); have n1_ := am (hbox); have n2_ := am ((by rw [hg]; exact (below_size u16_2) : w.heap.size ≤ gb315)); have n3_ := am ((by rw [hg]; exact (below_size u16_2) : w.heap.size ≤ gb315)); clear HB; have HB := n0_; have BK315 := n1_; have GW315 := n2_; have GE315 := n3_; clear n0_ n1_ n2_ n3_; clear hb hbox hg))
 repeat (go_quiet (first | ((with_reducible refine gate_dst (N := 2) rfl ?_); (try (refine gate_guard (by rfl) ?_; dsimp only)); refine box_event ?hg (N := 2) ?hd (cs := #[.int .i64 a0_0, .int .i64 a0_1, .int .i64 a0_2, .int .i64 a0_3, .int .i64 a0_4, .int .i64 a0_5, .int .i64 a0_6, .bool a0_7, .slice A0_8 l0_8.length c0_8]) (t := 29) ?hr ?_; (case hd => rfl); (case hg => rfl); (case hr => first | (go_simp; done) | (go_simp; rfl)); intro gb315 hg w4 hbox hb; have n0_ := am (below_step u16_2 hb); have n1_ := am (hbox); have n2_ := am ((by rw [hg]; exact (below_size u16_2) : w.heap.size ≤ gb315)); have n3_ := am ((by rw [hg]; exact (below_size u16_2) : w.heap.size ≤ gb315)); clear HB; have HB := n0_; have BK315 := n1_; have GW315 := n2_; have GE315 := n3_; clear n0_ n1_ n2_ n3_; clear hb hbox hg)); go_upto_region 1 with (first | ((with_reducible refine gate_dst (N := 2) rfl ?_); (try (refine gate_guard (by rfl) ?_; dsimp only)); refine box_event ?hg (N := 2) ?hd (cs := #[.int .i64 a0_0, .int .i64 a0_1, .int .i64 a0_2, .int .i64 a0_3, .int .i64 a0_4, .int .i64 a0_5, .int .i64 a0_6, .bool a0_7, .slice A0_8 l0_8.length c0_8]) (t := 29) ?hr ?_; (case hd => rfl); (case hg => rfl); (case hr => first | (go_simp; done) | (go_simp; rfl)); intro gb315 hg w4 hbox hb; have n0_ := am (below_step u16_2 hb); have n1_ := am (hbox); have n2_ := am ((by rw [hg]; exact (below_size u16_2) : w.heap.size ≤ gb315)); have n3_ := am ((by rw [hg]; exact (below_size u16_2) : w.heap.size ≤ gb315)); clear HB; have HB := n0_; have BK315 := n1_; have GW315 := n2_; have GE315 := n3_; clear n0_ n1_ n2_ n3_; clear hb hbox hg)))
 (try simp only [Act.put, la, lb, lc])
 go_cut [51] (fun v51 wc => ∃ (kq : Nat) (x51_2 : Bool), v51 = .bool x51_2 ∧ Aside0 (impl_isMsg.j0 kq x51_2 a0_0 a0_1 a0_2 a0_3 a0_4 a0_5 a0_6 a0_7 l0_8 = some r) ∧ Aside0 (kq ≤ k) ∧ Aside0 (wc.heap[gb315]? = some (.cells #[.int .i64 a0_0, .int .i64 a0_1, .int .i64 a0_2, .int .i64 a0_3, .int .i64 a0_4, .int .i64 a0_5, .int .i64 a0_6, .bool a0_7, (.slice A0_8 l0_8.length c0_8)] 29 (0, 0))) ∧ Aside0 (Below w.heap.size w wc))
 case first =>
   have H := HC3.out
   clear HC3
   by_cases c5 : a1 < 1
   · rw [if_pos c5] at H
     have c5b0 : decide (a1 < 1) = true := decide_eq_true c5
     clear c5
     (first | rw [c5b0] | (simp only [i64_w, i32_w]; rw [c5b0]) | skip)
     have H' := am H
     clear H
     go_wp2
     repeat (go_quiet (fail); try go_wp2)
     go_meet
     case rel => exact ⟨_, (true), u16_4, H', ⟨by first | omega | exact Nat.le_refl _⟩, ⟨u16_1⟩, ⟨u16_0⟩⟩
   rw [if_neg c5] at H
   have c5b0 : decide (a1 < 1) = false := decide_eq_false c5
   clear c5
   (first | rw [c5b0] | (simp only [i64_w, i32_w]; rw [c5b0]) | skip)
   by_cases c6 : a1 > 5
   · rw [if_pos c6] at H
     have c6b0 : decide (5 < a1) = true := decide_eq_true c6
     clear c6
     have H' := am H
     clear H
     go_wp2
     repeat (go_quiet (fail); try go_wp2)
     go_meet
     case rel => exact ⟨_, (true), u16_4, H', ⟨by first | omega | exact Nat.le_refl _⟩, ⟨u16_1⟩, ⟨u16_0⟩⟩
   rw [if_neg c6] at H
   have c6b0 : decide (5 < a1) = false := decide_eq_false c6
   clear c6
   by_cases c7 : a0_0 < 0
   · rw [if_pos c7] at H
     have c7b0 : decide (a0_0 < 0) = true := decide_eq_true c7
     clear c7
     have H' := am H
     clear H
     have hcz8_0 : w4.cell? ⟨gb315, 0, none⟩ = some (.int .i64 a0_0) := (blk_cell BK315.out 0).trans rfl
     have hcz8_1 : w4.cell? ⟨gb315, 1, none⟩ = some (.int .i64 a0_1) := (blk_cell BK315.out 1).trans rfl
     have hcz8_2 : w4.cell? ⟨gb315, 2, none⟩ = some (.int .i64 a0_2) := (blk_cell BK315.out 2).trans rfl
     have hcz8_3 : w4.cell? ⟨gb315, 3, none⟩ = some (.int .i64 a0_3) := (blk_cell BK315.out 3).trans rfl
     have hcz8_4 : w4.cell? ⟨gb315, 4, none⟩ = some (.int .i64 a0_4) := (blk_cell BK315.out 4).trans rfl
     have hcz8_5 : w4.cell? ⟨gb315, 5, none⟩ = some (.int .i64 a0_5) := (blk_cell BK315.out 5).trans rfl
     have hcz8_6 : w4.cell? ⟨gb315, 6, none⟩ = some (.int .i64 a0_6) := (blk_cell BK315.out 6).trans rfl
     have hcz8_7 : w4.cell? ⟨gb315, 7, none⟩ = some (.bool a0_7) := (blk_cell BK315.out 7).trans rfl
     have hcz8_8 : w4.cell? ⟨gb315, 8, none⟩ = some (.slice A0_8 l0_8.length c0_8) := (blk_cell BK315.out 8).trans rfl
     go_wp2
     repeat (go_quiet (fail); try go_wp2)
     go_meet
     case rel => exact ⟨_, (true), u16_4, H', ⟨by first | omega | exact Nat.le_refl _⟩, ⟨u16_1⟩, ⟨u16_0⟩⟩
   rw [if_neg c7] at H
   have c7b0 : decide (a0_0 < 0) = false := decide_eq_false c7
   clear c7
   by_cases c9 : a0_0 > 3
   · rw [if_pos c9] at H
     have c9b0 : decide (3 < a0_0) = true := decide_eq_true c9
     clear c9
     have H' := am H
     clear H
     have hcz10_0 : w4.cell? ⟨gb315, 0, none⟩ = some (.int .i64 a0_0) := (blk_cell BK315.out 0).trans rfl
     have hcz10_1 : w4.cell? ⟨gb315, 1, none⟩ = some (.int .i64 a0_1) := (blk_cell BK315.out 1).trans rfl
     have hcz10_2 : w4.cell? ⟨gb315, 2, none⟩ = some (.int .i64 a0_2) := (blk_cell BK315.out 2).trans rfl
     have hcz10_3 : w4.cell? ⟨gb315, 3, none⟩ = some (.int .i64 a0_3) := (blk_cell BK315.out 3).trans rfl
     have hcz10_4 : w4.cell? ⟨gb315, 4, none⟩ = some (.int .i64 a0_4) := (blk_cell BK315.out 4).trans rfl
     have hcz10_5 : w4.cell? ⟨gb315, 5, none⟩ = some (.int .i64 a0_5) := (blk_cell BK315.out 5).trans rfl
     have hcz10_6 : w4.cell? ⟨gb315, 6, none⟩ = some (.int .i64 a0_6) := (blk_cell BK315.out 6).trans rfl
     have hcz10_7 : w4.cell? ⟨gb315, 7, none⟩ = some (.bool a0_7) := (blk_cell BK315.out 7).trans rfl
     have hcz10_8 : w4.cell? ⟨gb315, 8, none⟩ = some (.slice A0_8 l0_8.length c0_8) := (blk_cell BK315.out 8).trans rfl
     go_wp2
     repeat (go_quiet (fail); try go_wp2)
     go_meet
     case rel => exact ⟨_, (true), u16_4, H', ⟨by first | omega | exact Nat.le_refl _⟩, ⟨u16_1⟩, ⟨u16_0⟩⟩
   rw [if_neg c9] at H
   have c9b0 : decide (3 < a0_0) = false := decide_eq_false c9
   clear c9
   by_cases c11 : a0_1 < 0
   · rw [if_pos c11] at H
     have c11b0 : decide (a0_1 < 0) = true := decide_eq_true c11
     clear c11
     have H' := am H
     clear H
     have hcz12_0 : w4.cell? ⟨gb315, 0, none⟩ = some (.int .i64 a0_0) := (blk_cell BK315.out 0).trans rfl
     have hcz12_1 : w4.cell? ⟨gb315, 1, none⟩ = some (.int .i64 a0_1) := (blk_cell BK315.out 1).trans rfl
     have hcz12_2 : w4.cell? ⟨gb315, 2, none⟩ = some (.int .i64 a0_2) := (blk_cell BK315.out 2).trans rfl
     have hcz12_3 : w4.cell? ⟨gb315, 3, none⟩ = some (.int .i64 a0_3) := (blk_cell BK315.out 3).trans rfl
     have hcz12_4 : w4.cell? ⟨gb315, 4, none⟩ = some (.int .i64 a0_4) := (blk_cell BK315.out 4).trans rfl
     have hcz12_5 : w4.cell? ⟨gb315, 5, none⟩ = some (.int .i64 a0_5) := (blk_cell BK315.out 5).trans rfl
     have hcz12_6 : w4.cell? ⟨gb315, 6, none⟩ = some (.int .i64 a0_6) := (blk_cell BK315.out 6).trans rfl
     have hcz12_7 : w4.cell? ⟨gb315, 7, none⟩ = some (.bool a0_7) := (blk_cell BK315.out 7).trans rfl
     have hcz12_8 : w4.cell? ⟨gb315, 8, none⟩ = some (.slice A0_8 l0_8.length c0_8) := (blk_cell BK315.out 8).trans rfl
     go_wp2
     repeat (go_quiet (fail); try go_wp2)
     go_meet
     case rel => exact ⟨_, (true), u16_4, H', ⟨by first | omega | exact Nat.le_refl _⟩, ⟨u16_1⟩, ⟨u16_0⟩⟩
   rw [if_neg c11] at H
   have c11b0 : decide (a0_1 < 0) = false := decide_eq_false c11
   clear c11
   by_cases c13 : a0_1 ≥ a1
   · rw [if_pos c13] at H
     have c13b0 : decide (a1 ≤ a0_1) = true := decide_eq_true c13
     clear c13
     have H' := am H
     clear H
     have hcz14_0 : w4.cell? ⟨gb315, 0, none⟩ = some (.int .i64 a0_0) := (blk_cell BK315.out 0).trans rfl
     have hcz14_1 : w4.cell? ⟨gb315, 1, none⟩ = some (.int .i64 a0_1) := (blk_cell BK315.out 1).trans rfl
     have hcz14_2 : w4.cell? ⟨gb315, 2, none⟩ = some (.int .i64 a0_2) := (blk_cell BK315.out 2).trans rfl
     have hcz14_3 : w4.cell? ⟨gb315, 3, none⟩ = some (.int .i64 a0_3) := (blk_cell BK315.out 3).trans rfl
     have hcz14_4 : w4.cell? ⟨gb315, 4, none⟩ = some (.int .i64 a0_4) := (blk_cell BK315.out 4).trans rfl
     have hcz14_5 : w4.cell? ⟨gb315, 5, none⟩ = some (.int .i64 a0_5) := (blk_cell BK315.out 5).trans rfl
     have hcz14_6 : w4.cell? ⟨gb315, 6, none⟩ = some (.int .i64 a0_6) := (blk_cell BK315.out 6).trans rfl
     have hcz14_7 : w4.cell? ⟨gb315, 7, none⟩ = some (.bool a0_7) := (blk_cell BK315.out 7).trans rfl
     have hcz14_8 : w4.cell? ⟨gb315, 8, none⟩ = some (.slice A0_8 l0_8.length c0_8) := (blk_cell BK315.out 8).trans rfl
     go_wp2
     repeat (go_quiet (fail); try go_wp2)
     go_meet
     case rel => exact ⟨_, (true), u16_4, H', ⟨by first | omega | exact Nat.le_refl _⟩, ⟨u16_1⟩, ⟨u16_0⟩⟩
   rw [if_neg c13] at H
   have c13b0 : decide (a1 ≤ a0_1) = false := decide_eq_false c13
   clear c13
   by_cases c15 : a0_2 < 0
   · rw [if_pos c15] at H
     have c15b0 : decide (a0_2 < 0) = true := decide_eq_true c15
     clear c15
     have H' := am H
     clear H
     have hcz16_0 : w4.cell? ⟨gb315, 0, none⟩ = some (.int .i64 a0_0) := (blk_cell BK315.out 0).trans rfl
     have hcz16_1 : w4.cell? ⟨gb315, 1, none⟩ = some (.int .i64 a0_1) := (blk_cell BK315.out 1).trans rfl
     have hcz16_2 : w4.cell? ⟨gb315, 2, none⟩ = some (.int .i64 a0_2) := (blk_cell BK315.out 2).trans rfl
     have hcz16_3 : w4.cell? ⟨gb315, 3, none⟩ = some (.int .i64 a0_3) := (blk_cell BK315.out 3).trans rfl
     have hcz16_4 : w4.cell? ⟨gb315, 4, none⟩ = some (.int .i64 a0_4) := (blk_cell BK315.out 4).trans rfl
     have hcz16_5 : w4.cell? ⟨gb315, 5, none⟩ = some (.int .i64 a0_5) := (blk_cell BK315.out 5).trans rfl
     have hcz16_6 : w4.cell? ⟨gb315, 6, none⟩ = some (.int .i64 a0_6) := (blk_cell BK315.out 6).trans rfl
     have hcz16_7 : w4.cell? ⟨gb315, 7, none⟩ = some (.bool a0_7) := (blk_cell BK315.out 7).trans rfl
     have hcz16_8 : w4.cell? ⟨gb315, 8, none⟩ = some (.slice A0_8 l0_8.length c0_8) := (blk_cell BK315.out 8).trans rfl
     go_wp2
     repeat (go_quiet (fail); try go_wp2)
     go_meet
     case rel => exact ⟨_, (true), u16_4, H', ⟨by first | omega | exact Nat.le_refl _⟩, ⟨u16_1⟩, ⟨u16_0⟩⟩
   rw [if_neg c15] at H
   have c15b0 : decide (a0_2 < 0) = false := decide_eq_false c15
   clear c15
   by_cases c17 : a0_2 ≥ a1
   · rw [if_pos c17] at H
     have c17b0 : decide (a1 ≤ a0_2) = true := decide_eq_true c17
     clear c17
     have H' := am H
     clear H
     have hcz18_0 : w4.cell? ⟨gb315, 0, none⟩ = some (.int .i64 a0_0) := (blk_cell BK315.out 0).trans rfl
     have hcz18_1 : w4.cell? ⟨gb315, 1, none⟩ = some (.int .i64 a0_1) := (blk_cell BK315.out 1).trans rfl
     have hcz18_2 : w4.cell? ⟨gb315, 2, none⟩ = some (.int .i64 a0_2) := (blk_cell BK315.out 2).trans rfl
     have hcz18_3 : w4.cell? ⟨gb315, 3, none⟩ = some (.int .i64 a0_3) := (blk_cell BK315.out 3).trans rfl
     have hcz18_4 : w4.cell? ⟨gb315, 4, none⟩ = some (.int .i64 a0_4) := (blk_cell BK315.out 4).trans rfl
     have hcz18_5 : w4.cell? ⟨gb315, 5, none⟩ = some (.int .i64 a0_5) := (blk_cell BK315.out 5).trans rfl
     have hcz18_6 : w4.cell? ⟨gb315, 6, none⟩ = some (.int .i64 a0_6) := (blk_cell BK315.out 6).trans rfl
     have hcz18_7 : w4.cell? ⟨gb315, 7, none⟩ = some (.bool a0_7) := (blk_cell BK315.out 7).trans rfl
     have hcz18_8 : w4.cell? ⟨gb315, 8, none⟩ = some (.slice A0_8 l0_8.length c0_8) := (blk_cell BK315.out 8).trans rfl
     go_wp2
     repeat (go_quiet (fail); try go_wp2)
     go_meet
     case rel => exact ⟨_, (true), u16_4, H', ⟨by first | omega | exact Nat.le_refl _⟩, ⟨u16_1⟩, ⟨u16_0⟩⟩
   rw [if_neg c17] at H
   have c17b0 : decide (a1 ≤ a0_2) = false := decide_eq_false c17
   clear c17
   have H' := am H
   clear H
   have hcz19_0 : w4.cell? ⟨gb315, 0, none⟩ = some (.int .i64 a0_0) := (blk_cell BK315.out 0).trans rfl
   have hcz19_1 : w4.cell? ⟨gb315, 1, none⟩ = some (.int .i64 a0_1) := (blk_cell BK315.out 1).trans rfl
   have hcz19_2 : w4.cell? ⟨gb315, 2, none⟩ = some (.int .i64 a0_2) := (blk_cell BK315.out 2).trans rfl
   have hcz19_3 : w4.cell? ⟨gb315, 3, none⟩ = some (.int .i64 a0_3) := (blk_cell BK315.out 3).trans rfl
   have hcz19_4 : w4.cell? ⟨gb315, 4, none⟩ = some (.int .i64 a0_4) := (blk_cell BK315.out 4).trans rfl
   have hcz19_5 : w4.cell? ⟨gb315, 5, none⟩ = some (.int .i64 a0_5) := (blk_cell BK315.out 5).trans rfl
   have hcz19_6 : w4.cell? ⟨gb315, 6, none⟩ = some (.int .i64 a0_6) := (blk_cell BK315.out 6).trans rfl
   have hcz19_7 : w4.cell? ⟨gb315, 7, none⟩ = some (.bool a0_7) := (blk_cell BK315.out 7).trans rfl
   have hcz19_8 : w4.cell? ⟨gb315, 8, none⟩ = some (.slice A0_8 l0_8.length c0_8) := (blk_cell BK315.out 8).trans rfl
   go_wp2
   repeat (go_quiet (fail); try go_wp2)
   go_meet
   case rel => exact ⟨_, ((a0_1 == a0_2)), u16_4, H', ⟨by first | omega | exact Nat.le_refl _⟩, ⟨u16_1⟩, ⟨u16_0⟩⟩
 clear HC3
 try clear c1
 try clear p2
 try clear c5
 try clear c5b0
 try clear c6
 try clear c6b0
 try clear c7
 try clear c7b0
 try clear c9
 try clear c9b0
 try clear c11
 try clear c11b0
 try clear c13
 try clear c13b0
 try clear c15
 try clear c15b0
 try clear c17
 try clear c17b0
 try clear hcz10_0
 try clear hcz10_1
 try clear hcz10_2
 try clear hcz10_3
 try clear hcz10_4
 try clear hcz10_5
 try clear hcz10_6
 try clear hcz10_7
 try clear hcz10_8
 try clear hcz12_0
 try clear hcz12_1
 try clear hcz12_2
 try clear hcz12_3
 try clear hcz12_4
 try clear hcz12_5
 try clear hcz12_6
 try clear hcz12_7
 try clear hcz12_8
 try clear hcz14_0
 try clear hcz14_1
 try clear hcz14_2
 try clear hcz14_3
 try clear hcz14_4
 try clear hcz14_5
 try clear hcz14_6
 try clear hcz14_7
 try clear hcz14_8
 try clear hcz16_0
 try clear hcz16_1
 try clear hcz16_2
 try clear hcz16_3
 try clear hcz16_4
 try clear hcz16_5
 try clear hcz16_6
 try clear hcz16_7
 try clear hcz16_8
 try clear hcz18_0
 try clear hcz18_1
 try clear hcz18_2
 try clear hcz18_3
 try clear hcz18_4
 try clear hcz18_5
 try clear hcz18_6
 try clear hcz18_7
 try clear hcz18_8
 try clear hcz19_0
 try clear hcz19_1
 try clear hcz19_2
 try clear hcz19_3
 try clear hcz19_4
 try clear hcz19_5
 try clear hcz19_6
 try clear hcz19_7
 try clear hcz19_8
 try clear hcz8_0
 try clear hcz8_1
 try clear hcz8_2
 try clear hcz8_3
 try clear hcz8_4
 try clear hcz8_5
 try clear hcz8_6
 try clear hcz8_7
 try clear hcz8_8
 obtain ⟨kq, x51_2, rfl, HA, HJ2, BK315, HB⟩ := hcut
 cases kq with
 | zero => exact absurd HA.out (by simp [impl_isMsg.j0])
 | succ kj2 =>
   have H := HA.out
   clear HA
   simp only [impl_isMsg.j0] at H
   by_cases c20 : x51_2 = true
   · subst c20
     rw [if_pos rfl] at H
     obtain rfl := Option.some.inj H
     go_wp2
     repeat (go_quiet (fail); try go_wp2)
     go_ret
     exact ⟨by first | rfl | (simp [errW_none, errW_some] <;> rfl) | (simp [*, errW_none, errW_some] <;> rfl), u16_0⟩
   replace c20 := Bool.eq_false_iff.mpr c20
   subst c20
   rw [if_neg (show ¬ (false = true) by decide)] at H
   have HC21 := am H
   clear H
   go_upto_region 3 with (fail)
   repeat (go_quiet (fail); go_upto_region 3 with (fail))
   go_cut [95] (fun v95 wc => ∃ (kq : Nat) (x95_20 : Bool), v95 = .bool x95_20 ∧ Aside0 (impl_isMsg.j1 kq x95_20 a0_0 a0_1 a0_2 a0_3 a0_4 a0_5 a0_6 a0_7 l0_8 = some r) ∧ Aside0 (kq ≤ kj2) ∧ Aside0 (wc.heap[gb315]? = some (.cells #[.int .i64 a0_0, .int .i64 a0_1, .int .i64 a0_2, .int .i64 a0_3, .int .i64 a0_4, .int .i64 a0_5, .int .i64 a0_6, .bool a0_7, (.slice A0_8 l0_8.length c0_8)] 29 (0, 0))) ∧ Aside0 (Below w.heap.size w wc))
   case first =>
     have H := HC21.out
     clear HC21
     by_cases c22 : a0_3 < 1
     · rw [if_pos c22] at H
       have c22b0 : decide (a0_3 < 1) = true := decide_eq_true c22
       clear c22
       (first | rw [c22b0] | (simp only [i64_w, i32_w]; rw [c22b0]) | skip)
       have H' := am H
       clear H
       have hcz23_0 : wc.cell? ⟨gb315, 0, none⟩ = some (.int .i64 a0_0) := (blk_cell BK315.out 0).trans rfl
       have hcz23_1 : wc.cell? ⟨gb315, 1, none⟩ = some (.int .i64 a0_1) := (blk_cell BK315.out 1).trans rfl
       have hcz23_2 : wc.cell? ⟨gb315, 2, none⟩ = some (.int .i64 a0_2) := (blk_cell BK315.out 2).trans rfl
       have hcz23_3 : wc.cell? ⟨gb315, 3, none⟩ = some (.int .i64 a0_3) := (blk_cell BK315.out 3).trans rfl
       have hcz23_4 : wc.cell? ⟨gb315, 4, none⟩ = some (.int .i64 a0_4) := (blk_cell BK315.out 4).trans rfl
       have hcz23_5 : wc.cell? ⟨gb315, 5, none⟩ = some (.int .i64 a0_5) := (blk_cell BK315.out 5).trans rfl
       have hcz23_6 : wc.cell? ⟨gb315, 6, none⟩ = some (.int .i64 a0_6) := (blk_cell BK315.out 6).trans rfl
       have hcz23_7 : wc.cell? ⟨gb315, 7, none⟩ = some (.bool a0_7) := (blk_cell BK315.out 7).trans rfl
       have hcz23_8 : wc.cell? ⟨gb315, 8, none⟩ = some (.slice A0_8 l0_8.length c0_8) := (blk_cell BK315.out 8).trans rfl
       go_wp2
       repeat (go_quiet (fail); try go_wp2)
       go_meet
       case rel => exact ⟨_, (true), u16_4, H', ⟨u16_5⟩, ⟨u16_1⟩, ⟨u16_0⟩⟩
     rw [if_neg c22] at H
     have c22b0 : decide (a0_3 < 1) = false := decide_eq_false c22
     clear c22
     (first | rw [c22b0] | (simp only [i64_w, i32_w]; rw [c22b0]) | skip)
     by_cases c24 : a0_3 > 1000000
     · rw [if_pos c24] at H
       have c24b0 : decide (1000000 < a0_3) = true := decide_eq_true c24
       clear c24
       have H' := am H
       clear H
       have hcz25_0 : wc.cell? ⟨gb315, 0, none⟩ = some (.int .i64 a0_0) := (blk_cell BK315.out 0).trans rfl
       have hcz25_1 : wc.cell? ⟨gb315, 1, none⟩ = some (.int .i64 a0_1) := (blk_cell BK315.out 1).trans rfl
       have hcz25_2 : wc.cell? ⟨gb315, 2, none⟩ = some (.int .i64 a0_2) := (blk_cell BK315.out 2).trans rfl
       have hcz25_3 : wc.cell? ⟨gb315, 3, none⟩ = some (.int .i64 a0_3) := (blk_cell BK315.out 3).trans rfl
       have hcz25_4 : wc.cell? ⟨gb315, 4, none⟩ = some (.int .i64 a0_4) := (blk_cell BK315.out 4).trans rfl
       have hcz25_5 : wc.cell? ⟨gb315, 5, none⟩ = some (.int .i64 a0_5) := (blk_cell BK315.out 5).trans rfl
       have hcz25_6 : wc.cell? ⟨gb315, 6, none⟩ = some (.int .i64 a0_6) := (blk_cell BK315.out 6).trans rfl
       have hcz25_7 : wc.cell? ⟨gb315, 7, none⟩ = some (.bool a0_7) := (blk_cell BK315.out 7).trans rfl
       have hcz25_8 : wc.cell? ⟨gb315, 8, none⟩ = some (.slice A0_8 l0_8.length c0_8) := (blk_cell BK315.out 8).trans rfl
       go_wp2
       repeat (go_quiet (fail); try go_wp2)
       go_meet
       case rel => exact ⟨_, (true), u16_4, H', ⟨u16_5⟩, ⟨u16_1⟩, ⟨u16_0⟩⟩
     rw [if_neg c24] at H
     have c24b0 : decide (1000000 < a0_3) = false := decide_eq_false c24
     clear c24
     by_cases c26 : a0_4 < 0
     · rw [if_pos c26] at H
       have c26b0 : decide (a0_4 < 0) = true := decide_eq_true c26
       clear c26
       have H' := am H
       clear H
       have hcz27_0 : wc.cell? ⟨gb315, 0, none⟩ = some (.int .i64 a0_0) := (blk_cell BK315.out 0).trans rfl
       have hcz27_1 : wc.cell? ⟨gb315, 1, none⟩ = some (.int .i64 a0_1) := (blk_cell BK315.out 1).trans rfl
       have hcz27_2 : wc.cell? ⟨gb315, 2, none⟩ = some (.int .i64 a0_2) := (blk_cell BK315.out 2).trans rfl
       have hcz27_3 : wc.cell? ⟨gb315, 3, none⟩ = some (.int .i64 a0_3) := (blk_cell BK315.out 3).trans rfl
       have hcz27_4 : wc.cell? ⟨gb315, 4, none⟩ = some (.int .i64 a0_4) := (blk_cell BK315.out 4).trans rfl
       have hcz27_5 : wc.cell? ⟨gb315, 5, none⟩ = some (.int .i64 a0_5) := (blk_cell BK315.out 5).trans rfl
       have hcz27_6 : wc.cell? ⟨gb315, 6, none⟩ = some (.int .i64 a0_6) := (blk_cell BK315.out 6).trans rfl
       have hcz27_7 : wc.cell? ⟨gb315, 7, none⟩ = some (.bool a0_7) := (blk_cell BK315.out 7).trans rfl
       have hcz27_8 : wc.cell? ⟨gb315, 8, none⟩ = some (.slice A0_8 l0_8.length c0_8) := (blk_cell BK315.out 8).trans rfl
       go_wp2
       repeat (go_quiet (fail); try go_wp2)
       go_meet
       case rel => exact ⟨_, (true), u16_4, H', ⟨u16_5⟩, ⟨u16_1⟩, ⟨u16_0⟩⟩
     rw [if_neg c26] at H
     have c26b0 : decide (a0_4 < 0) = false := decide_eq_false c26
     clear c26
     by_cases c28 : a0_4 > 60
     · rw [if_pos c28] at H
       have c28b0 : decide (60 < a0_4) = true := decide_eq_true c28
       clear c28
       have H' := am H
       clear H
       have hcz29_0 : wc.cell? ⟨gb315, 0, none⟩ = some (.int .i64 a0_0) := (blk_cell BK315.out 0).trans rfl
       have hcz29_1 : wc.cell? ⟨gb315, 1, none⟩ = some (.int .i64 a0_1) := (blk_cell BK315.out 1).trans rfl
       have hcz29_2 : wc.cell? ⟨gb315, 2, none⟩ = some (.int .i64 a0_2) := (blk_cell BK315.out 2).trans rfl
       have hcz29_3 : wc.cell? ⟨gb315, 3, none⟩ = some (.int .i64 a0_3) := (blk_cell BK315.out 3).trans rfl
       have hcz29_4 : wc.cell? ⟨gb315, 4, none⟩ = some (.int .i64 a0_4) := (blk_cell BK315.out 4).trans rfl
       have hcz29_5 : wc.cell? ⟨gb315, 5, none⟩ = some (.int .i64 a0_5) := (blk_cell BK315.out 5).trans rfl
       have hcz29_6 : wc.cell? ⟨gb315, 6, none⟩ = some (.int .i64 a0_6) := (blk_cell BK315.out 6).trans rfl
       have hcz29_7 : wc.cell? ⟨gb315, 7, none⟩ = some (.bool a0_7) := (blk_cell BK315.out 7).trans rfl
       have hcz29_8 : wc.cell? ⟨gb315, 8, none⟩ = some (.slice A0_8 l0_8.length c0_8) := (blk_cell BK315.out 8).trans rfl
       go_wp2
       repeat (go_quiet (fail); try go_wp2)
       go_meet
       case rel => exact ⟨_, (true), u16_4, H', ⟨u16_5⟩, ⟨u16_1⟩, ⟨u16_0⟩⟩
     rw [if_neg c28] at H
     have c28b0 : decide (60 < a0_4) = false := decide_eq_false c28
     clear c28
     by_cases c30 : a0_5 < 0
     · rw [if_pos c30] at H
       have c30b0 : decide (a0_5 < 0) = true := decide_eq_true c30
       clear c30
       have H' := am H
       clear H
       have hcz31_0 : wc.cell? ⟨gb315, 0, none⟩ = some (.int .i64 a0_0) := (blk_cell BK315.out 0).trans rfl
       have hcz31_1 : wc.cell? ⟨gb315, 1, none⟩ = some (.int .i64 a0_1) := (blk_cell BK315.out 1).trans rfl
       have hcz31_2 : wc.cell? ⟨gb315, 2, none⟩ = some (.int .i64 a0_2) := (blk_cell BK315.out 2).trans rfl
       have hcz31_3 : wc.cell? ⟨gb315, 3, none⟩ = some (.int .i64 a0_3) := (blk_cell BK315.out 3).trans rfl
       have hcz31_4 : wc.cell? ⟨gb315, 4, none⟩ = some (.int .i64 a0_4) := (blk_cell BK315.out 4).trans rfl
       have hcz31_5 : wc.cell? ⟨gb315, 5, none⟩ = some (.int .i64 a0_5) := (blk_cell BK315.out 5).trans rfl
       have hcz31_6 : wc.cell? ⟨gb315, 6, none⟩ = some (.int .i64 a0_6) := (blk_cell BK315.out 6).trans rfl
       have hcz31_7 : wc.cell? ⟨gb315, 7, none⟩ = some (.bool a0_7) := (blk_cell BK315.out 7).trans rfl
       have hcz31_8 : wc.cell? ⟨gb315, 8, none⟩ = some (.slice A0_8 l0_8.length c0_8) := (blk_cell BK315.out 8).trans rfl
       go_wp2
       repeat (go_quiet (fail); try go_wp2)
       go_meet
       case rel => exact ⟨_, (true), u16_4, H', ⟨u16_5⟩, ⟨u16_1⟩, ⟨u16_0⟩⟩
     rw [if_neg c30] at H
     have c30b0 : decide (a0_5 < 0) = false := decide_eq_false c30
     clear c30
     by_cases c32 : a0_5 > 1000000
     · rw [if_pos c32] at H
       have c32b0 : decide (1000000 < a0_5) = true := decide_eq_true c32
       clear c32
       have H' := am H
       clear H
       have hcz33_0 : wc.cell? ⟨gb315, 0, none⟩ = some (.int .i64 a0_0) := (blk_cell BK315.out 0).trans rfl
       have hcz33_1 : wc.cell? ⟨gb315, 1, none⟩ = some (.int .i64 a0_1) := (blk_cell BK315.out 1).trans rfl
       have hcz33_2 : wc.cell? ⟨gb315, 2, none⟩ = some (.int .i64 a0_2) := (blk_cell BK315.out 2).trans rfl
       have hcz33_3 : wc.cell? ⟨gb315, 3, none⟩ = some (.int .i64 a0_3) := (blk_cell BK315.out 3).trans rfl
       have hcz33_4 : wc.cell? ⟨gb315, 4, none⟩ = some (.int .i64 a0_4) := (blk_cell BK315.out 4).trans rfl
       have hcz33_5 : wc.cell? ⟨gb315, 5, none⟩ = some (.int .i64 a0_5) := (blk_cell BK315.out 5).trans rfl
       have hcz33_6 : wc.cell? ⟨gb315, 6, none⟩ = some (.int .i64 a0_6) := (blk_cell BK315.out 6).trans rfl
       have hcz33_7 : wc.cell? ⟨gb315, 7, none⟩ = some (.bool a0_7) := (blk_cell BK315.out 7).trans rfl
       have hcz33_8 : wc.cell? ⟨gb315, 8, none⟩ = some (.slice A0_8 l0_8.length c0_8) := (blk_cell BK315.out 8).trans rfl
       go_wp2
       repeat (go_quiet (fail); try go_wp2)
       go_meet
       case rel => exact ⟨_, (true), u16_4, H', ⟨u16_5⟩, ⟨u16_1⟩, ⟨u16_0⟩⟩
     rw [if_neg c32] at H
     have c32b0 : decide (1000000 < a0_5) = false := decide_eq_false c32
     clear c32
     by_cases c34 : a0_6 < 0
     · rw [if_pos c34] at H
       have c34b0 : decide (a0_6 < 0) = true := decide_eq_true c34
       clear c34
       have H' := am H
       clear H
       have hcz35_0 : wc.cell? ⟨gb315, 0, none⟩ = some (.int .i64 a0_0) := (blk_cell BK315.out 0).trans rfl
       have hcz35_1 : wc.cell? ⟨gb315, 1, none⟩ = some (.int .i64 a0_1) := (blk_cell BK315.out 1).trans rfl
       have hcz35_2 : wc.cell? ⟨gb315, 2, none⟩ = some (.int .i64 a0_2) := (blk_cell BK315.out 2).trans rfl
       have hcz35_3 : wc.cell? ⟨gb315, 3, none⟩ = some (.int .i64 a0_3) := (blk_cell BK315.out 3).trans rfl
       have hcz35_4 : wc.cell? ⟨gb315, 4, none⟩ = some (.int .i64 a0_4) := (blk_cell BK315.out 4).trans rfl
       have hcz35_5 : wc.cell? ⟨gb315, 5, none⟩ = some (.int .i64 a0_5) := (blk_cell BK315.out 5).trans rfl
       have hcz35_6 : wc.cell? ⟨gb315, 6, none⟩ = some (.int .i64 a0_6) := (blk_cell BK315.out 6).trans rfl
       have hcz35_7 : wc.cell? ⟨gb315, 7, none⟩ = some (.bool a0_7) := (blk_cell BK315.out 7).trans rfl
       have hcz35_8 : wc.cell? ⟨gb315, 8, none⟩ = some (.slice A0_8 l0_8.length c0_8) := (blk_cell BK315.out 8).trans rfl
       go_wp2
       repeat (go_quiet (fail); try go_wp2)
       go_meet
       case rel => exact ⟨_, (true), u16_4, H', ⟨u16_5⟩, ⟨u16_1⟩, ⟨u16_0⟩⟩
     rw [if_neg c34] at H
     have c34b0 : decide (a0_6 < 0) = false := decide_eq_false c34
     clear c34
     by_cases c36 : a0_6 > 1000000
     · rw [if_pos c36] at H
       have c36b0 : decide (1000000 < a0_6) = true := decide_eq_true c36
       clear c36
       have H' := am H
       clear H
       have hcz37_0 : wc.cell? ⟨gb315, 0, none⟩ = some (.int .i64 a0_0) := (blk_cell BK315.out 0).trans rfl
       have hcz37_1 : wc.cell? ⟨gb315, 1, none⟩ = some (.int .i64 a0_1) := (blk_cell BK315.out 1).trans rfl
       have hcz37_2 : wc.cell? ⟨gb315, 2, none⟩ = some (.int .i64 a0_2) := (blk_cell BK315.out 2).trans rfl
       have hcz37_3 : wc.cell? ⟨gb315, 3, none⟩ = some (.int .i64 a0_3) := (blk_cell BK315.out 3).trans rfl
       have hcz37_4 : wc.cell? ⟨gb315, 4, none⟩ = some (.int .i64 a0_4) := (blk_cell BK315.out 4).trans rfl
       have hcz37_5 : wc.cell? ⟨gb315, 5, none⟩ = some (.int .i64 a0_5) := (blk_cell BK315.out 5).trans rfl
       have hcz37_6 : wc.cell? ⟨gb315, 6, none⟩ = some (.int .i64 a0_6) := (blk_cell BK315.out 6).trans rfl
       have hcz37_7 : wc.cell? ⟨gb315, 7, none⟩ = some (.bool a0_7) := (blk_cell BK315.out 7).trans rfl
       have hcz37_8 : wc.cell? ⟨gb315, 8, none⟩ = some (.slice A0_8 l0_8.length c0_8) := (blk_cell BK315.out 8).trans rfl
       go_wp2
       repeat (go_quiet (fail); try go_wp2)
       go_meet
       case rel => exact ⟨_, (true), u16_4, H', ⟨u16_5⟩, ⟨u16_1⟩, ⟨u16_0⟩⟩
     rw [if_neg c36] at H
     have c36b0 : decide (1000000 < a0_6) = false := decide_eq_false c36
     clear c36
     have H' := am H
     clear H
     have hcz38_0 : wc.cell? ⟨gb315, 0, none⟩ = some (.int .i64 a0_0) := (blk_cell BK315.out 0).trans rfl
     have hcz38_1 : wc.cell? ⟨gb315, 1, none⟩ = some (.int .i64 a0_1) := (blk_cell BK315.out 1).trans rfl
     have hcz38_2 : wc.cell? ⟨gb315, 2, none⟩ = some (.int .i64 a0_2) := (blk_cell BK315.out 2).trans rfl
     have hcz38_3 : wc.cell? ⟨gb315, 3, none⟩ = some (.int .i64 a0_3) := (blk_cell BK315.out 3).trans rfl
     have hcz38_4 : wc.cell? ⟨gb315, 4, none⟩ = some (.int .i64 a0_4) := (blk_cell BK315.out 4).trans rfl
     have hcz38_5 : wc.cell? ⟨gb315, 5, none⟩ = some (.int .i64 a0_5) := (blk_cell BK315.out 5).trans rfl
     have hcz38_6 : wc.cell? ⟨gb315, 6, none⟩ = some (.int .i64 a0_6) := (blk_cell BK315.out 6).trans rfl
     have hcz38_7 : wc.cell? ⟨gb315, 7, none⟩ = some (.bool a0_7) := (blk_cell BK315.out 7).trans rfl
     have hcz38_8 : wc.cell? ⟨gb315, 8, none⟩ = some (.slice A0_8 l0_8.length c0_8) := (blk_cell BK315.out 8).trans rfl
     go_wp2
     repeat (go_quiet (fail); try go_wp2)
     go_meet
     case rel => exact ⟨_, (decide ((l0_8.length : Int) > 10)), u16_4, H', ⟨u16_5⟩, ⟨u16_1⟩, ⟨u16_0⟩⟩
   clear HC21
   try clear c1
   try clear c2
   try clear p2
   try clear c3
   try clear c5
   try clear c5b0
   try clear c6
   try clear c6b0
   try clear c7
   try clear c7b0
   try clear c9
   try clear c9b0
   try clear c11
   try clear c11b0
   try clear c13
   try clear c13b0
   try clear c15
   try clear c15b0
   try clear c17
   try clear c17b0
   try clear c20
   try clear c22
   try clear c22b0
   try clear c24
   try clear c24b0
   try clear c26
   try clear c26b0
   try clear c28
   try clear c28b0
   try clear c30
   try clear c30b0
   try clear c32
   try clear c32b0
   try clear c34
   try clear c34b0
   try clear c36
   try clear c36b0
   try clear hcz10_0
   try clear hcz10_1
   try clear hcz10_2
   try clear hcz10_3
   try clear hcz10_4
   try clear hcz10_5
   try clear hcz10_6
   try clear hcz10_7
   try clear hcz10_8
   try clear hcz12_0
   try clear hcz12_1
   try clear hcz12_2
   try clear hcz12_3
   try clear hcz12_4
   try clear hcz12_5
   try clear hcz12_6
   try clear hcz12_7
   try clear hcz12_8
   try clear hcz14_0
   try clear hcz14_1
   try clear hcz14_2
   try clear hcz14_3
   try clear hcz14_4
   try clear hcz14_5
   try clear hcz14_6
   try clear hcz14_7
   try clear hcz14_8
   try clear hcz16_0
   try clear hcz16_1
   try clear hcz16_2
   try clear hcz16_3
   try clear hcz16_4
   try clear hcz16_5
   try clear hcz16_6
   try clear hcz16_7
   try clear hcz16_8
   try clear hcz18_0
   try clear hcz18_1
   try clear hcz18_2
   try clear hcz18_3
   try clear hcz18_4
   try clear hcz18_5
   try clear hcz18_6
   try clear hcz18_7
   try clear hcz18_8
   try clear hcz19_0
   try clear hcz19_1
   try clear hcz19_2
   try clear hcz19_3
   try clear hcz19_4
   try clear hcz19_5
   try clear hcz19_6
   try clear hcz19_7
   try clear hcz19_8
   try clear hcz23_0
   try clear hcz23_1
   try clear hcz23_2
   try clear hcz23_3
   try clear hcz23_4
   try clear hcz23_5
   try clear hcz23_6
   try clear hcz23_7
   try clear hcz23_8
   try clear hcz25_0
   try clear hcz25_1
   try clear hcz25_2
   try clear hcz25_3
   try clear hcz25_4
   try clear hcz25_5
   try clear hcz25_6
   try clear hcz25_7
   try clear hcz25_8
   try clear hcz27_0
   try clear hcz27_1
   try clear hcz27_2
   try clear hcz27_3
   try clear hcz27_4
   try clear hcz27_5
   try clear hcz27_6
   try clear hcz27_7
   try clear hcz27_8
   try clear hcz29_0
   try clear hcz29_1
   try clear hcz29_2
   try clear hcz29_3
   try clear hcz29_4
   try clear hcz29_5
   try clear hcz29_6
   try clear hcz29_7
   try clear hcz29_8
   try clear hcz31_0
   try clear hcz31_1
   try clear hcz31_2
   try clear hcz31_3
   try clear hcz31_4
   try clear hcz31_5
   try clear hcz31_6
   try clear hcz31_7
   try clear hcz31_8
   try clear hcz33_0
   try clear hcz33_1
   try clear hcz33_2
   try clear hcz33_3
   try clear hcz33_4
   try clear hcz33_5
   try clear hcz33_6
   try clear hcz33_7
   try clear hcz33_8
   try clear hcz35_0
   try clear hcz35_1
   try clear hcz35_2
   try clear hcz35_3
   try clear hcz35_4
   try clear hcz35_5
   try clear hcz35_6
   try clear hcz35_7
   try clear hcz35_8
   try clear hcz37_0
   try clear hcz37_1
   try clear hcz37_2
   try clear hcz37_3
   try clear hcz37_4
   try clear hcz37_5
   try clear hcz37_6
   try clear hcz37_7
   try clear hcz37_8
   try clear hcz38_0
   try clear hcz38_1
   try clear hcz38_2
   try clear hcz38_3
   try clear hcz38_4
   try clear hcz38_5
   try clear hcz38_6
   try clear hcz38_7
   try clear hcz38_8
   try clear hcz8_0
   try clear hcz8_1
   try clear hcz8_2
   try clear hcz8_3
   try clear hcz8_4
   try clear hcz8_5
   try clear hcz8_6
   try clear hcz8_7
   try clear hcz8_8
   try clear p2
   obtain ⟨kq, x95_20, rfl, HA, HJ20, BK315, HB⟩ := hcut
   cases kq with
   | zero => exact absurd HA.out (by simp [impl_isMsg.j1])
   | succ kj20 =>
     have H := HA.out
     clear HA
     simp only [impl_isMsg.j1] at H
     by_cases c39 : x95_20 = true
     · subst c39
       rw [if_pos rfl] at H
       obtain rfl := Option.some.inj H
       go_wp2
       repeat (go_quiet (fail); try go_wp2)
       go_ret
       exact ⟨by first | rfl | (simp [errW_none, errW_some] <;> rfl) | (simp [*, errW_none, errW_some] <;> rfl), u16_0⟩
     replace c39 := Bool.eq_false_iff.mpr c39
     subst c39
     rw [if_neg (show ¬ (false = true) by decide)] at H
     replace H := Option.bind_eq_some_iff.mp H
     obtain ⟨t316, A400, H⟩ := H
     have A40 := am A400
     clear A400
     have H9 := am H
     clear H
     have hcz41_0 : wc.cell? ⟨gb315, 0, none⟩ = some (.int .i64 a0_0) := (blk_cell BK315.out 0).trans rfl
     have hcz41_1 : wc.cell? ⟨gb315, 1, none⟩ = some (.int .i64 a0_1) := (blk_cell BK315.out 1).trans rfl
     have hcz41_2 : wc.cell? ⟨gb315, 2, none⟩ = some (.int .i64 a0_2) := (blk_cell BK315.out 2).trans rfl
     have hcz41_3 : wc.cell? ⟨gb315, 3, none⟩ = some (.int .i64 a0_3) := (blk_cell BK315.out 3).trans rfl
     have hcz41_4 : wc.cell? ⟨gb315, 4, none⟩ = some (.int .i64 a0_4) := (blk_cell BK315.out 4).trans rfl
     have hcz41_5 : wc.cell? ⟨gb315, 5, none⟩ = some (.int .i64 a0_5) := (blk_cell BK315.out 5).trans rfl
     have hcz41_6 : wc.cell? ⟨gb315, 6, none⟩ = some (.int .i64 a0_6) := (blk_cell BK315.out 6).trans rfl
     have hcz41_7 : wc.cell? ⟨gb315, 7, none⟩ = some (.bool a0_7) := (blk_cell BK315.out 7).trans rfl
     have hcz41_8 : wc.cell? ⟨gb315, 8, none⟩ = some (.slice A0_8 l0_8.length c0_8) := (blk_cell BK315.out 8).trans rfl
     go_upto_if 99 with (first | (go_at_call 109; (with_reducible refine (impl_Entry.calls _ _ l0_8 a0_0 a0_1 a0_2 a0_3 a0_4 a0_5 a0_6 a0_7 A0_8 c0_8 l0_8 t316 _ ?side1 ?side2 ?side3 ?side4 ?side5 A40.out).mono ?_); (case side1 => exact u16_3); (case side2 => exact HC0_8.out); (case side3 => exact u16_3); (case side4 => exact HC0_8.out); (case side5 => exact (by exact u16_1)); rintro e w42 ⟨rfl, hb⟩; have n0_ := am (blk_below (g := gb315) (o := .cells #[.int .i64 a0_0, .int .i64 a0_1, .int .i64 a0_2, .int .i64 a0_3, .int .i64 a0_4, .int .i64 a0_5, .int .i64 a0_6, .bool a0_7, .slice A0_8 l0_8.length c0_8] 29 (0, 0)) u16_1 hb); have n1_ := am (below_step u16_0 hb); clear BK315; clear HB; have BK315 := n0_; have HB := n1_; clear n0_ n1_; (try clear hb); (try clear hb2); (try clear hk); (try clear hi)))
     repeat (go_quiet (first | (go_at_call 109; (with_reducible refine (impl_Entry.calls _ _ l0_8 a0_0 a0_1 a0_2 a0_3 a0_4 a0_5 a0_6 a0_7 A0_8 c0_8 l0_8 t316 _ ?side1 ?side2 ?side3 ?side4 ?side5 A40.out).mono ?_); (case side1 => exact u16_3); (case side2 => exact HC0_8.out); (case side3 => exact u16_3); (case side4 => exact HC0_8.out); (case side5 => exact (by exact u16_1)); rintro e w42 ⟨rfl, hb⟩; have n0_ := am (blk_below (g := gb315) (o := .cells #[.int .i64 a0_0, .int .i64 a0_1, .int .i64 a0_2, .int .i64 a0_3, .int .i64 a0_4, .int .i64 a0_5, .int .i64 a0_6, .bool a0_7, .slice A0_8 l0_8.length c0_8] 29 (0, 0)) u16_1 hb); have n1_ := am (below_step u16_0 hb); clear BK315; clear HB; have BK315 := n0_; have HB := n1_; clear n0_ n1_; (try clear hb); (try clear hb2); (try clear hk); (try clear hi))); go_upto_if 99 with (first | (go_at_call 109; (with_reducible refine (impl_Entry.calls _ _ l0_8 a0_0 a0_1 a0_2 a0_3 a0_4 a0_5 a0_6 a0_7 A0_8 c0_8 l0_8 t316 _ ?side1 ?side2 ?side3 ?side4 ?side5 A40.out).mono ?_); (case side1 => exact u16_3); (case side2 => exact HC0_8.out); (case side3 => exact u16_3); (case side4 => exact HC0_8.out); (case side5 => exact (by exact u16_1)); rintro e w42 ⟨rfl, hb⟩; have n0_ := am (blk_below (g := gb315) (o := .cells #[.int .i64 a0_0, .int .i64 a0_1, .int .i64 a0_2, .int .i64 a0_3, .int .i64 a0_4, .int .i64 a0_5, .int .i64 a0_6, .bool a0_7, .slice A0_8 l0_8.length c0_8] 29 (0, 0)) u16_1 hb); have n1_ := am (below_step u16_0 hb); clear BK315; clear HB; have BK315 := n0_; have HB := n1_; clear n0_ n1_; (try clear hb); (try clear hb2); (try clear hk); (try clear hi))))
     have H := H9.out
     clear H9
     by_cases c43 : t316 = true
     · subst c43
       rw [if_pos rfl] at H
       obtain rfl := Option.some.inj H
       go_wp2
       repeat (go_quiet (fail); try go_wp2)
       go_ret
       exact ⟨by first | rfl | (simp [errW_none, errW_some] <;> rfl) | (simp [*, errW_none, errW_some] <;> rfl), u16_0⟩
     replace c43 := Bool.eq_false_iff.mpr c43
     subst c43
     rw [if_neg (show ¬ (false = true) by decide)] at H
     by_cases c44 : a0_0 = 2
     · rw [if_pos c44] at H
       have c44b0 : (a0_0 == 2) = true := beq_iff_eq.mpr c44
       have c44b1 : (a0_0 != 2) = false := bne_eq_false_iff_eq.mpr c44
       clear c44
       (first | rw [c44b0] | (simp only [i64_w, i32_w]; rw [c44b0]) | skip)
       by_cases c45 : a0_0 = 0
       rotate_left
       · rw [if_neg c45] at H
         have c45b0 : (a0_0 == 0) = false := beq_eq_false_iff_ne.mpr c45
         have c45b1 : (a0_0 != 0) = true := bne_iff_ne.mpr c45
         by_cases c55 : a0_0 = 1
         rotate_left
         · rw [if_neg c55] at H
           have c55b0 : (a0_0 == 1) = false := beq_eq_false_iff_ne.mpr c55
           have c55b1 : (a0_0 != 1) = true := bne_iff_ne.mpr c55
           by_cases c61 : a0_7 = true
           · subst c61
             rw [if_pos rfl] at H
             obtain rfl := Option.some.inj H
             have hcz62_0 : w42.cell? ⟨gb315, 0, none⟩ = some (.int .i64 a0_0) := (blk_cell BK315.out 0).trans rfl
             have hcz62_1 : w42.cell? ⟨gb315, 1, none⟩ = some (.int .i64 a0_1) := (blk_cell BK315.out 1).trans rfl
             have hcz62_2 : w42.cell? ⟨gb315, 2, none⟩ = some (.int .i64 a0_2) := (blk_cell BK315.out 2).trans rfl
             have hcz62_3 : w42.cell? ⟨gb315, 3, none⟩ = some (.int .i64 a0_3) := (blk_cell BK315.out 3).trans rfl
             have hcz62_4 : w42.cell? ⟨gb315, 4, none⟩ = some (.int .i64 a0_4) := (blk_cell BK315.out 4).trans rfl
             have hcz62_5 : w42.cell? ⟨gb315, 5, none⟩ = some (.int .i64 a0_5) := (blk_cell BK315.out 5).trans rfl
             have hcz62_6 : w42.cell? ⟨gb315, 6, none⟩ = some (.int .i64 a0_6) := (blk_cell BK315.out 6).trans rfl
             have hcz62_7 : w42.cell? ⟨gb315, 7, none⟩ = some (.bool true) := (blk_cell BK315.out 7).trans rfl
             have hcz62_8 : w42.cell? ⟨gb315, 8, none⟩ = some (.slice A0_8 l0_8.length c0_8) := (blk_cell BK315.out 8).trans rfl
             go_wp2
             repeat (go_quiet (fail); try go_wp2)
             go_ret
             exact ⟨by first | rfl | (simp [errW_none, errW_some] <;> rfl) | (simp [*, errW_none, errW_some] <;> rfl), u16_0⟩
           replace c61 := Bool.eq_false_iff.mpr c61
           subst c61
           rw [if_neg (show ¬ (false = true) by decide)] at H
           obtain rfl := Option.some.inj H
           have hcz63_0 : w42.cell? ⟨gb315, 0, none⟩ = some (.int .i64 a0_0) := (blk_cell BK315.out 0).trans rfl
           have hcz63_1 : w42.cell? ⟨gb315, 1, none⟩ = some (.int .i64 a0_1) := (blk_cell BK315.out 1).trans rfl
           have hcz63_2 : w42.cell? ⟨gb315, 2, none⟩ = some (.int .i64 a0_2) := (blk_cell BK315.out 2).trans rfl
           have hcz63_3 : w42.cell? ⟨gb315, 3, none⟩ = some (.int .i64 a0_3) := (blk_cell BK315.out 3).trans rfl
           have hcz63_4 : w42.cell? ⟨gb315, 4, none⟩ = some (.int .i64 a0_4) := (blk_cell BK315.out 4).trans rfl
           have hcz63_5 : w42.cell? ⟨gb315, 5, none⟩ = some (.int .i64 a0_5) := (blk_cell BK315.out 5).trans rfl
           have hcz63_6 : w42.cell? ⟨gb315, 6, none⟩ = some (.int .i64 a0_6) := (blk_cell BK315.out 6).trans rfl
           have hcz63_7 : w42.cell? ⟨gb315, 7, none⟩ = some (.bool false) := (blk_cell BK315.out 7).trans rfl
           have hcz63_8 : w42.cell? ⟨gb315, 8, none⟩ = some (.slice A0_8 l0_8.length c0_8) := (blk_cell BK315.out 8).trans rfl
           go_wp2
           repeat (go_quiet (fail); try go_wp2)
           go_ret
           exact ⟨by first | rfl | (simp [errW_none, errW_some] <;> rfl) | (simp [*, errW_none, errW_some] <;> rfl), u16_0⟩
         rw [if_pos c55] at H
         have c55b0 : (a0_0 == 1) = true := beq_iff_eq.mpr c55
         have c55b1 : (a0_0 != 1) = false := bne_eq_false_iff_eq.mpr c55
         clear c55
         by_cases c56 : a0_4 = 0
         rotate_left
         · rw [if_neg c56] at H
           have c56b0 : (a0_4 == 0) = false := beq_eq_false_iff_ne.mpr c56
           have c56b1 : (a0_4 != 0) = true := bne_iff_ne.mpr c56
           obtain rfl := Option.some.inj H
           have hcz60_0 : w42.cell? ⟨gb315, 0, none⟩ = some (.int .i64 a0_0) := (blk_cell BK315.out 0).trans rfl
           have hcz60_1 : w42.cell? ⟨gb315, 1, none⟩ = some (.int .i64 a0_1) := (blk_cell BK315.out 1).trans rfl
           have hcz60_2 : w42.cell? ⟨gb315, 2, none⟩ = some (.int .i64 a0_2) := (blk_cell BK315.out 2).trans rfl
           have hcz60_3 : w42.cell? ⟨gb315, 3, none⟩ = some (.int .i64 a0_3) := (blk_cell BK315.out 3).trans rfl
           have hcz60_4 : w42.cell? ⟨gb315, 4, none⟩ = some (.int .i64 a0_4) := (blk_cell BK315.out 4).trans rfl
           have hcz60_5 : w42.cell? ⟨gb315, 5, none⟩ = some (.int .i64 a0_5) := (blk_cell BK315.out 5).trans rfl
           have hcz60_6 : w42.cell? ⟨gb315, 6, none⟩ = some (.int .i64 a0_6) := (blk_cell BK315.out 6).trans rfl
           have hcz60_7 : w42.cell? ⟨gb315, 7, none⟩ = some (.bool a0_7) := (blk_cell BK315.out 7).trans rfl
           have hcz60_8 : w42.cell? ⟨gb315, 8, none⟩ = some (.slice A0_8 l0_8.length c0_8) := (blk_cell BK315.out 8).trans rfl
           go_wp2
           repeat (go_quiet (fail); try go_wp2)
           go_ret
           exact ⟨by first | rfl | (simp [errW_none, errW_some] <;> rfl) | (simp [*, errW_none, errW_some] <;> rfl), u16_0⟩
         rw [if_pos c56] at H
         have c56b0 : (a0_4 == 0) = true := beq_iff_eq.mpr c56
         have c56b1 : (a0_4 != 0) = false := bne_eq_false_iff_eq.mpr c56
         clear c56
         by_cases c57 : a0_7 = true
         · subst c57
           rw [if_pos rfl] at H
           obtain rfl := Option.some.inj H
           have hcz58_0 : w42.cell? ⟨gb315, 0, none⟩ = some (.int .i64 a0_0) := (blk_cell BK315.out 0).trans rfl
           have hcz58_1 : w42.cell? ⟨gb315, 1, none⟩ = some (.int .i64 a0_1) := (blk_cell BK315.out 1).trans rfl
           have hcz58_2 : w42.cell? ⟨gb315, 2, none⟩ = some (.int .i64 a0_2) := (blk_cell BK315.out 2).trans rfl
           have hcz58_3 : w42.cell? ⟨gb315, 3, none⟩ = some (.int .i64 a0_3) := (blk_cell BK315.out 3).trans rfl
           have hcz58_4 : w42.cell? ⟨gb315, 4, none⟩ = some (.int .i64 a0_4) := (blk_cell BK315.out 4).trans rfl
           have hcz58_5 : w42.cell? ⟨gb315, 5, none⟩ = some (.int .i64 a0_5) := (blk_cell BK315.out 5).trans rfl
           have hcz58_6 : w42.cell? ⟨gb315, 6, none⟩ = some (.int .i64 a0_6) := (blk_cell BK315.out 6).trans rfl
           have hcz58_7 : w42.cell? ⟨gb315, 7, none⟩ = some (.bool true) := (blk_cell BK315.out 7).trans rfl
           have hcz58_8 : w42.cell? ⟨gb315, 8, none⟩ = some (.slice A0_8 l0_8.length c0_8) := (blk_cell BK315.out 8).trans rfl
           go_wp2
           repeat (go_quiet (fail); try go_wp2)
           go_ret
           exact ⟨by first | rfl | (simp [errW_none, errW_some] <;> rfl) | (simp [*, errW_none, errW_some] <;> rfl), u16_0⟩
         replace c57 := Bool.eq_false_iff.mpr c57
         subst c57
         rw [if_neg (show ¬ (false = true) by decide)] at H
         obtain rfl := Option.some.inj H
         have hcz59_0 : w42.cell? ⟨gb315, 0, none⟩ = some (.int .i64 a0_0) := (blk_cell BK315.out 0).trans rfl
         have hcz59_1 : w42.cell? ⟨gb315, 1, none⟩ = some (.int .i64 a0_1) := (blk_cell BK315.out 1).trans rfl
         have hcz59_2 : w42.cell? ⟨gb315, 2, none⟩ = some (.int .i64 a0_2) := (blk_cell BK315.out 2).trans rfl
         have hcz59_3 : w42.cell? ⟨gb315, 3, none⟩ = some (.int .i64 a0_3) := (blk_cell BK315.out 3).trans rfl
         have hcz59_4 : w42.cell? ⟨gb315, 4, none⟩ = some (.int .i64 a0_4) := (blk_cell BK315.out 4).trans rfl
         have hcz59_5 : w42.cell? ⟨gb315, 5, none⟩ = some (.int .i64 a0_5) := (blk_cell BK315.out 5).trans rfl
         have hcz59_6 : w42.cell? ⟨gb315, 6, none⟩ = some (.int .i64 a0_6) := (blk_cell BK315.out 6).trans rfl
         have hcz59_7 : w42.cell? ⟨gb315, 7, none⟩ = some (.bool false) := (blk_cell BK315.out 7).trans rfl
         have hcz59_8 : w42.cell? ⟨gb315, 8, none⟩ = some (.slice A0_8 l0_8.length c0_8) := (blk_cell BK315.out 8).trans rfl
         go_wp2
         repeat (go_quiet (fail); try go_wp2)
         go_ret
         exact ⟨by first | rfl | (simp [errW_none, errW_some] <;> rfl) | (simp [*, errW_none, errW_some] <;> rfl), u16_0⟩
       rw [if_pos c45] at H
       have c45b0 : (a0_0 == 0) = true := beq_iff_eq.mpr c45
       have c45b1 : (a0_0 != 0) = false := bne_eq_false_iff_eq.mpr c45
       clear c45
       by_cases c46 : a0_0 = 1
       rotate_left
       · rw [if_neg c46] at H
         have c46b0 : (a0_0 == 1) = false := beq_eq_false_iff_ne.mpr c46
         have c46b1 : (a0_0 != 1) = true := bne_iff_ne.mpr c46
         by_cases c52 : a0_7 = true
         · subst c52
           rw [if_pos rfl] at H
           obtain rfl := Option.some.inj H
           have hcz53_0 : w42.cell? ⟨gb315, 0, none⟩ = some (.int .i64 a0_0) := (blk_cell BK315.out 0).trans rfl
           have hcz53_1 : w42.cell? ⟨gb315, 1, none⟩ = some (.int .i64 a0_1) := (blk_cell BK315.out 1).trans rfl
           have hcz53_2 : w42.cell? ⟨gb315, 2, none⟩ = some (.int .i64 a0_2) := (blk_cell BK315.out 2).trans rfl
           have hcz53_3 : w42.cell? ⟨gb315, 3, none⟩ = some (.int .i64 a0_3) := (blk_cell BK315.out 3).trans rfl
           have hcz53_4 : w42.cell? ⟨gb315, 4, none⟩ = some (.int .i64 a0_4) := (blk_cell BK315.out 4).trans rfl
           have hcz53_5 : w42.cell? ⟨gb315, 5, none⟩ = some (.int .i64 a0_5) := (blk_cell BK315.out 5).trans rfl
           have hcz53_6 : w42.cell? ⟨gb315, 6, none⟩ = some (.int .i64 a0_6) := (blk_cell BK315.out 6).trans rfl
           have hcz53_7 : w42.cell? ⟨gb315, 7, none⟩ = some (.bool true) := (blk_cell BK315.out 7).trans rfl
           have hcz53_8 : w42.cell? ⟨gb315, 8, none⟩ = some (.slice A0_8 l0_8.length c0_8) := (blk_cell BK315.out 8).trans rfl
           go_wp2
           repeat (go_quiet (fail); try go_wp2)
           go_ret
           exact ⟨by first | rfl | (simp [errW_none, errW_some] <;> rfl) | (simp [*, errW_none, errW_some] <;> rfl), u16_0⟩
         replace c52 := Bool.eq_false_iff.mpr c52
         subst c52
         rw [if_neg (show ¬ (false = true) by decide)] at H
         obtain rfl := Option.some.inj H
         have hcz54_0 : w42.cell? ⟨gb315, 0, none⟩ = some (.int .i64 a0_0) := (blk_cell BK315.out 0).trans rfl
         have hcz54_1 : w42.cell? ⟨gb315, 1, none⟩ = some (.int .i64 a0_1) := (blk_cell BK315.out 1).trans rfl
         have hcz54_2 : w42.cell? ⟨gb315, 2, none⟩ = some (.int .i64 a0_2) := (blk_cell BK315.out 2).trans rfl
         have hcz54_3 : w42.cell? ⟨gb315, 3, none⟩ = some (.int .i64 a0_3) := (blk_cell BK315.out 3).trans rfl
         have hcz54_4 : w42.cell? ⟨gb315, 4, none⟩ = some (.int .i64 a0_4) := (blk_cell BK315.out 4).trans rfl
         have hcz54_5 : w42.cell? ⟨gb315, 5, none⟩ = some (.int .i64 a0_5) := (blk_cell BK315.out 5).trans rfl
         have hcz54_6 : w42.cell? ⟨gb315, 6, none⟩ = some (.int .i64 a0_6) := (blk_cell BK315.out 6).trans rfl
         have hcz54_7 : w42.cell? ⟨gb315, 7, none⟩ = some (.bool false) := (blk_cell BK315.out 7).trans rfl
         have hcz54_8 : w42.cell? ⟨gb315, 8, none⟩ = some (.slice A0_8 l0_8.length c0_8) := (blk_cell BK315.out 8).trans rfl
         go_wp2
         repeat (go_quiet (fail); try go_wp2)
         go_ret
         exact ⟨by first | rfl | (simp [errW_none, errW_some] <;> rfl) | (simp [*, errW_none, errW_some] <;> rfl), u16_0⟩
       rw [if_pos c46] at H
       have c46b0 : (a0_0 == 1) = true := beq_iff_eq.mpr c46
       have c46b1 : (a0_0 != 1) = false := bne_eq_false_iff_eq.mpr c46
       clear c46
       by_cases c47 : a0_4 = 0
       rotate_left
       · rw [if_neg c47] at H
         have c47b0 : (a0_4 == 0) = false := beq_eq_false_iff_ne.mpr c47
         have c47b1 : (a0_4 != 0) = true := bne_iff_ne.mpr c47
         obtain rfl := Option.some.inj H
         have hcz51_0 : w42.cell? ⟨gb315, 0, none⟩ = some (.int .i64 a0_0) := (blk_cell BK315.out 0).trans rfl
         have hcz51_1 : w42.cell? ⟨gb315, 1, none⟩ = some (.int .i64 a0_1) := (blk_cell BK315.out 1).trans rfl
         have hcz51_2 : w42.cell? ⟨gb315, 2, none⟩ = some (.int .i64 a0_2) := (blk_cell BK315.out 2).trans rfl
         have hcz51_3 : w42.cell? ⟨gb315, 3, none⟩ = some (.int .i64 a0_3) := (blk_cell BK315.out 3).trans rfl
         have hcz51_4 : w42.cell? ⟨gb315, 4, none⟩ = some (.int .i64 a0_4) := (blk_cell BK315.out 4).trans rfl
         have hcz51_5 : w42.cell? ⟨gb315, 5, none⟩ = some (.int .i64 a0_5) := (blk_cell BK315.out 5).trans rfl
         have hcz51_6 : w42.cell? ⟨gb315, 6, none⟩ = some (.int .i64 a0_6) := (blk_cell BK315.out 6).trans rfl
         have hcz51_7 : w42.cell? ⟨gb315, 7, none⟩ = some (.bool a0_7) := (blk_cell BK315.out 7).trans rfl
         have hcz51_8 : w42.cell? ⟨gb315, 8, none⟩ = some (.slice A0_8 l0_8.length c0_8) := (blk_cell BK315.out 8).trans rfl
         go_wp2
         repeat (go_quiet (fail); try go_wp2)
         go_ret
         exact ⟨by first | rfl | (simp [errW_none, errW_some] <;> rfl) | (simp [*, errW_none, errW_some] <;> rfl), u16_0⟩
       rw [if_pos c47] at H
       have c47b0 : (a0_4 == 0) = true := beq_iff_eq.mpr c47
       have c47b1 : (a0_4 != 0) = false := bne_eq_false_iff_eq.mpr c47
       clear c47
       by_cases c48 : a0_7 = true
       · subst c48
         rw [if_pos rfl] at H
         obtain rfl := Option.some.inj H
         have hcz49_0 : w42.cell? ⟨gb315, 0, none⟩ = some (.int .i64 a0_0) := (blk_cell BK315.out 0).trans rfl
         have hcz49_1 : w42.cell? ⟨gb315, 1, none⟩ = some (.int .i64 a0_1) := (blk_cell BK315.out 1).trans rfl
         have hcz49_2 : w42.cell? ⟨gb315, 2, none⟩ = some (.int .i64 a0_2) := (blk_cell BK315.out 2).trans rfl
         have hcz49_3 : w42.cell? ⟨gb315, 3, none⟩ = some (.int .i64 a0_3) := (blk_cell BK315.out 3).trans rfl
         have hcz49_4 : w42.cell? ⟨gb315, 4, none⟩ = some (.int .i64 a0_4) := (blk_cell BK315.out 4).trans rfl
         have hcz49_5 : w42.cell? ⟨gb315, 5, none⟩ = some (.int .i64 a0_5) := (blk_cell BK315.out 5).trans rfl
         have hcz49_6 : w42.cell? ⟨gb315, 6, none⟩ = some (.int .i64 a0_6) := (blk_cell BK315.out 6).trans rfl
         have hcz49_7 : w42.cell? ⟨gb315, 7, none⟩ = some (.bool true) := (blk_cell BK315.out 7).trans rfl
         have hcz49_8 : w42.cell? ⟨gb315, 8, none⟩ = some (.slice A0_8 l0_8.length c0_8) := (blk_cell BK315.out 8).trans rfl
         go_wp2
         repeat (go_quiet (fail); try go_wp2)
         go_ret
         exact ⟨by first | rfl | (simp [errW_none, errW_some] <;> rfl) | (simp [*, errW_none, errW_some] <;> rfl), u16_0⟩
       replace c48 := Bool.eq_false_iff.mpr c48
       subst c48
       rw [if_neg (show ¬ (false = true) by decide)] at H
       obtain rfl := Option.some.inj H
       have hcz50_0 : w42.cell? ⟨gb315, 0, none⟩ = some (.int .i64 a0_0) := (blk_cell BK315.out 0).trans rfl
       have hcz50_1 : w42.cell? ⟨gb315, 1, none⟩ = some (.int .i64 a0_1) := (blk_cell BK315.out 1).trans rfl
       have hcz50_2 : w42.cell? ⟨gb315, 2, none⟩ = some (.int .i64 a0_2) := (blk_cell BK315.out 2).trans rfl
       have hcz50_3 : w42.cell? ⟨gb315, 3, none⟩ = some (.int .i64 a0_3) := (blk_cell BK315.out 3).trans rfl
       have hcz50_4 : w42.cell? ⟨gb315, 4, none⟩ = some (.int .i64 a0_4) := (blk_cell BK315.out 4).trans rfl
       have hcz50_5 : w42.cell? ⟨gb315, 5, none⟩ = some (.int .i64 a0_5) := (blk_cell BK315.out 5).trans rfl
       have hcz50_6 : w42.cell? ⟨gb315, 6, none⟩ = some (.int .i64 a0_6) := (blk_cell BK315.out 6).trans rfl
       have hcz50_7 : w42.cell? ⟨gb315, 7, none⟩ = some (.bool false) := (blk_cell BK315.out 7).trans rfl
       have hcz50_8 : w42.cell? ⟨gb315, 8, none⟩ = some (.slice A0_8 l0_8.length c0_8) := (blk_cell BK315.out 8).trans rfl
       go_wp2
       repeat (go_quiet (fail); try go_wp2)
       go_ret
       exact ⟨by first | rfl | (simp [errW_none, errW_some] <;> rfl) | (simp [*, errW_none, errW_some] <;> rfl), u16_0⟩
     rw [if_neg c44] at H
     have c44b0 : (a0_0 == 2) = false := beq_eq_false_iff_ne.mpr c44
     have c44b1 : (a0_0 != 2) = true := bne_iff_ne.mpr c44
     (first | rw [c44b0] | (simp only [i64_w, i32_w]; rw [c44b0]) | skip)
     by_cases c64 : a0_6 = 0
     rotate_left
     · rw [if_neg c64] at H
       have c64b0 : (a0_6 == 0) = false := beq_eq_false_iff_ne.mpr c64
       have c64b1 : (a0_6 != 0) = true := bne_iff_ne.mpr c64
       obtain rfl := Option.some.inj H
       have hcz88_0 : w42.cell? ⟨gb315, 0, none⟩ = some (.int .i64 a0_0) := (blk_cell BK315.out 0).trans rfl
       have hcz88_1 : w42.cell? ⟨gb315, 1, none⟩ = some (.int .i64 a0_1) := (blk_cell BK315.out 1).trans rfl
       have hcz88_2 : w42.cell? ⟨gb315, 2, none⟩ = some (.int .i64 a0_2) := (blk_cell BK315.out 2).trans rfl
       have hcz88_3 : w42.cell? ⟨gb315, 3, none⟩ = some (.int .i64 a0_3) := (blk_cell BK315.out 3).trans rfl
       have hcz88_4 : w42.cell? ⟨gb315, 4, none⟩ = some (.int .i64 a0_4) := (blk_cell BK315.out 4).trans rfl
       have hcz88_5 : w42.cell? ⟨gb315, 5, none⟩ = some (.int .i64 a0_5) := (blk_cell BK315.out 5).trans rfl
       have hcz88_6 : w42.cell? ⟨gb315, 6, none⟩ = some (.int .i64 a0_6) := (blk_cell BK315.out 6).trans rfl
       have hcz88_7 : w42.cell? ⟨gb315, 7, none⟩ = some (.bool a0_7) := (blk_cell BK315.out 7).trans rfl
       have hcz88_8 : w42.cell? ⟨gb315, 8, none⟩ = some (.slice A0_8 l0_8.length c0_8) := (blk_cell BK315.out 8).trans rfl
       go_wp2
       repeat (go_quiet (fail); try go_wp2)
       go_ret
       exact ⟨by first | rfl | (simp [errW_none, errW_some] <;> rfl) | (simp [*, errW_none, errW_some] <;> rfl), u16_0⟩
     rw [if_pos c64] at H
     have c64b0 : (a0_6 == 0) = true := beq_iff_eq.mpr c64
     have c64b1 : (a0_6 != 0) = false := bne_eq_false_iff_eq.mpr c64
     clear c64
     by_cases c65 : (l0_8.length : Int) > 0
     · rw [if_pos c65] at H
       have c65b0 : decide (0 < (l0_8.length : Int)) = true := decide_eq_true c65
       have c65b1 : decide (0 < l0_8.length) = true := decide_eq_true (by omega)
       clear c65
       obtain rfl := Option.some.inj H
       have hcz66_0 : w42.cell? ⟨gb315, 0, none⟩ = some (.int .i64 a0_0) := (blk_cell BK315.out 0).trans rfl
       have hcz66_1 : w42.cell? ⟨gb315, 1, none⟩ = some (.int .i64 a0_1) := (blk_cell BK315.out 1).trans rfl
       have hcz66_2 : w42.cell? ⟨gb315, 2, none⟩ = some (.int .i64 a0_2) := (blk_cell BK315.out 2).trans rfl
       have hcz66_3 : w42.cell? ⟨gb315, 3, none⟩ = some (.int .i64 a0_3) := (blk_cell BK315.out 3).trans rfl
       have hcz66_4 : w42.cell? ⟨gb315, 4, none⟩ = some (.int .i64 a0_4) := (blk_cell BK315.out 4).trans rfl
       have hcz66_5 : w42.cell? ⟨gb315, 5, none⟩ = some (.int .i64 a0_5) := (blk_cell BK315.out 5).trans rfl
       have hcz66_6 : w42.cell? ⟨gb315, 6, none⟩ = some (.int .i64 a0_6) := (blk_cell BK315.out 6).trans rfl
       have hcz66_7 : w42.cell? ⟨gb315, 7, none⟩ = some (.bool a0_7) := (blk_cell BK315.out 7).trans rfl
       have hcz66_8 : w42.cell? ⟨gb315, 8, none⟩ = some (.slice A0_8 l0_8.length c0_8) := (blk_cell BK315.out 8).trans rfl
       go_wp2
       repeat (go_quiet (fail); try go_wp2)
       go_ret
       exact ⟨by first | rfl | (simp [errW_none, errW_some] <;> rfl) | (simp [*, errW_none, errW_some] <;> rfl), u16_0⟩
     rw [if_neg c65] at H
     have c65b0 : decide (0 < (l0_8.length : Int)) = false := decide_eq_false c65
     have c65b1 : decide (0 < l0_8.length) = false := decide_eq_false (by omega)
     clear c65
     by_cases c67 : a0_0 = 0
     · rw [if_pos c67] at H
       have c67b0 : (a0_0 == 0) = true := beq_iff_eq.mpr c67
       have c67b1 : (a0_0 != 0) = false := bne_eq_false_iff_eq.mpr c67
       clear c67
       by_cases c68 : a0_0 = 1
       rotate_left
       · rw [if_neg c68] at H
         have c68b0 : (a0_0 == 1) = false := beq_eq_false_iff_ne.mpr c68
         have c68b1 : (a0_0 != 1) = true := bne_iff_ne.mpr c68
         by_cases c74 : a0_7 = true
         · subst c74
           rw [if_pos rfl] at H
           obtain rfl := Option.some.inj H
           have hcz75_0 : w42.cell? ⟨gb315, 0, none⟩ = some (.int .i64 a0_0) := (blk_cell BK315.out 0).trans rfl
           have hcz75_1 : w42.cell? ⟨gb315, 1, none⟩ = some (.int .i64 a0_1) := (blk_cell BK315.out 1).trans rfl
           have hcz75_2 : w42.cell? ⟨gb315, 2, none⟩ = some (.int .i64 a0_2) := (blk_cell BK315.out 2).trans rfl
           have hcz75_3 : w42.cell? ⟨gb315, 3, none⟩ = some (.int .i64 a0_3) := (blk_cell BK315.out 3).trans rfl
           have hcz75_4 : w42.cell? ⟨gb315, 4, none⟩ = some (.int .i64 a0_4) := (blk_cell BK315.out 4).trans rfl
           have hcz75_5 : w42.cell? ⟨gb315, 5, none⟩ = some (.int .i64 a0_5) := (blk_cell BK315.out 5).trans rfl
           have hcz75_6 : w42.cell? ⟨gb315, 6, none⟩ = some (.int .i64 a0_6) := (blk_cell BK315.out 6).trans rfl
           have hcz75_7 : w42.cell? ⟨gb315, 7, none⟩ = some (.bool true) := (blk_cell BK315.out 7).trans rfl
           have hcz75_8 : w42.cell? ⟨gb315, 8, none⟩ = some (.slice A0_8 l0_8.length c0_8) := (blk_cell BK315.out 8).trans rfl
           go_wp2
           repeat (go_quiet (fail); try go_wp2)
           go_ret
           exact ⟨by first | rfl | (simp [errW_none, errW_some] <;> rfl) | (simp [*, errW_none, errW_some] <;> rfl), u16_0⟩
         replace c74 := Bool.eq_false_iff.mpr c74
         subst c74
         rw [if_neg (show ¬ (false = true) by decide)] at H
         obtain rfl := Option.some.inj H
         have hcz76_0 : w42.cell? ⟨gb315, 0, none⟩ = some (.int .i64 a0_0) := (blk_cell BK315.out 0).trans rfl
         have hcz76_1 : w42.cell? ⟨gb315, 1, none⟩ = some (.int .i64 a0_1) := (blk_cell BK315.out 1).trans rfl
         have hcz76_2 : w42.cell? ⟨gb315, 2, none⟩ = some (.int .i64 a0_2) := (blk_cell BK315.out 2).trans rfl
         have hcz76_3 : w42.cell? ⟨gb315, 3, none⟩ = some (.int .i64 a0_3) := (blk_cell BK315.out 3).trans rfl
         have hcz76_4 : w42.cell? ⟨gb315, 4, none⟩ = some (.int .i64 a0_4) := (blk_cell BK315.out 4).trans rfl
         have hcz76_5 : w42.cell? ⟨gb315, 5, none⟩ = some (.int .i64 a0_5) := (blk_cell BK315.out 5).trans rfl
         have hcz76_6 : w42.cell? ⟨gb315, 6, none⟩ = some (.int .i64 a0_6) := (blk_cell BK315.out 6).trans rfl
         have hcz76_7 : w42.cell? ⟨gb315, 7, none⟩ = some (.bool false) := (blk_cell BK315.out 7).trans rfl
         have hcz76_8 : w42.cell? ⟨gb315, 8, none⟩ = some (.slice A0_8 l0_8.length c0_8) := (blk_cell BK315.out 8).trans rfl
         go_wp2
         repeat (go_quiet (fail); try go_wp2)
         go_ret
         exact ⟨by first | rfl | (simp [errW_none, errW_some] <;> rfl) | (simp [*, errW_none, errW_some] <;> rfl), u16_0⟩
       rw [if_pos c68] at H
       have c68b0 : (a0_0 == 1) = true := beq_iff_eq.mpr c68
       have c68b1 : (a0_0 != 1) = false := bne_eq_false_iff_eq.mpr c68
       clear c68
       by_cases c69 : a0_4 = 0
       rotate_left
       · rw [if_neg c69] at H
         have c69b0 : (a0_4 == 0) = false := beq_eq_false_iff_ne.mpr c69
         have c69b1 : (a0_4 != 0) = true := bne_iff_ne.mpr c69
         obtain rfl := Option.some.inj H
         have hcz73_0 : w42.cell? ⟨gb315, 0, none⟩ = some (.int .i64 a0_0) := (blk_cell BK315.out 0).trans rfl
         have hcz73_1 : w42.cell? ⟨gb315, 1, none⟩ = some (.int .i64 a0_1) := (blk_cell BK315.out 1).trans rfl
         have hcz73_2 : w42.cell? ⟨gb315, 2, none⟩ = some (.int .i64 a0_2) := (blk_cell BK315.out 2).trans rfl
         have hcz73_3 : w42.cell? ⟨gb315, 3, none⟩ = some (.int .i64 a0_3) := (blk_cell BK315.out 3).trans rfl
         have hcz73_4 : w42.cell? ⟨gb315, 4, none⟩ = some (.int .i64 a0_4) := (blk_cell BK315.out 4).trans rfl
         have hcz73_5 : w42.cell? ⟨gb315, 5, none⟩ = some (.int .i64 a0_5) := (blk_cell BK315.out 5).trans rfl
         have hcz73_6 : w42.cell? ⟨gb315, 6, none⟩ = some (.int .i64 a0_6) := (blk_cell BK315.out 6).trans rfl
         have hcz73_7 : w42.cell? ⟨gb315, 7, none⟩ = some (.bool a0_7) := (blk_cell BK315.out 7).trans rfl
         have hcz73_8 : w42.cell? ⟨gb315, 8, none⟩ = some (.slice A0_8 l0_8.length c0_8) := (blk_cell BK315.out 8).trans rfl
         go_wp2
         repeat (go_quiet (fail); try go_wp2)
         go_ret
         exact ⟨by first | rfl | (simp [errW_none, errW_some] <;> rfl) | (simp [*, errW_none, errW_some] <;> rfl), u16_0⟩
       rw [if_pos c69] at H
       have c69b0 : (a0_4 == 0) = true := beq_iff_eq.mpr c69
       have c69b1 : (a0_4 != 0) = false := bne_eq_false_iff_eq.mpr c69
       clear c69
       by_cases c70 : a0_7 = true
       · subst c70
         rw [if_pos rfl] at H
         obtain rfl := Option.some.inj H
         have hcz71_0 : w42.cell? ⟨gb315, 0, none⟩ = some (.int .i64 a0_0) := (blk_cell BK315.out 0).trans rfl
         have hcz71_1 : w42.cell? ⟨gb315, 1, none⟩ = some (.int .i64 a0_1) := (blk_cell BK315.out 1).trans rfl
         have hcz71_2 : w42.cell? ⟨gb315, 2, none⟩ = some (.int .i64 a0_2) := (blk_cell BK315.out 2).trans rfl
         have hcz71_3 : w42.cell? ⟨gb315, 3, none⟩ = some (.int .i64 a0_3) := (blk_cell BK315.out 3).trans rfl
         have hcz71_4 : w42.cell? ⟨gb315, 4, none⟩ = some (.int .i64 a0_4) := (blk_cell BK315.out 4).trans rfl
         have hcz71_5 : w42.cell? ⟨gb315, 5, none⟩ = some (.int .i64 a0_5) := (blk_cell BK315.out 5).trans rfl
         have hcz71_6 : w42.cell? ⟨gb315, 6, none⟩ = some (.int .i64 a0_6) := (blk_cell BK315.out 6).trans rfl
         have hcz71_7 : w42.cell? ⟨gb315, 7, none⟩ = some (.bool true) := (blk_cell BK315.out 7).trans rfl
         have hcz71_8 : w42.cell? ⟨gb315, 8, none⟩ = some (.slice A0_8 l0_8.length c0_8) := (blk_cell BK315.out 8).trans rfl
         go_wp2
         repeat (go_quiet (fail); try go_wp2)
         go_ret
         exact ⟨by first | rfl | (simp [errW_none, errW_some] <;> rfl) | (simp [*, errW_none, errW_some] <;> rfl), u16_0⟩
       replace c70 := Bool.eq_false_iff.mpr c70
       subst c70
       rw [if_neg (show ¬ (false = true) by decide)] at H
       obtain rfl := Option.some.inj H
       have hcz72_0 : w42.cell? ⟨gb315, 0, none⟩ = some (.int .i64 a0_0) := (blk_cell BK315.out 0).trans rfl
       have hcz72_1 : w42.cell? ⟨gb315, 1, none⟩ = some (.int .i64 a0_1) := (blk_cell BK315.out 1).trans rfl
       have hcz72_2 : w42.cell? ⟨gb315, 2, none⟩ = some (.int .i64 a0_2) := (blk_cell BK315.out 2).trans rfl
       have hcz72_3 : w42.cell? ⟨gb315, 3, none⟩ = some (.int .i64 a0_3) := (blk_cell BK315.out 3).trans rfl
       have hcz72_4 : w42.cell? ⟨gb315, 4, none⟩ = some (.int .i64 a0_4) := (blk_cell BK315.out 4).trans rfl
       have hcz72_5 : w42.cell? ⟨gb315, 5, none⟩ = some (.int .i64 a0_5) := (blk_cell BK315.out 5).trans rfl
       have hcz72_6 : w42.cell? ⟨gb315, 6, none⟩ = some (.int .i64 a0_6) := (blk_cell BK315.out 6).trans rfl
       have hcz72_7 : w42.cell? ⟨gb315, 7, none⟩ = some (.bool false) := (blk_cell BK315.out 7).trans rfl
       have hcz72_8 : w42.cell? ⟨gb315, 8, none⟩ = some (.slice A0_8 l0_8.length c0_8) := (blk_cell BK315.out 8).trans rfl
       go_wp2
       repeat (go_quiet (fail); try go_wp2)
       go_ret
       exact ⟨by first | rfl | (simp [errW_none, errW_some] <;> rfl) | (simp [*, errW_none, errW_some] <;> rfl), u16_0⟩
     rw [if_neg c67] at H
     have c67b0 : (a0_0 == 0) = false := beq_eq_false_iff_ne.mpr c67
     have c67b1 : (a0_0 != 0) = true := bne_iff_ne.mpr c67
     by_cases c77 : a0_5 = 0
     rotate_left
     · rw [if_neg c77] at H
       have c77b0 : (a0_5 == 0) = false := beq_eq_false_iff_ne.mpr c77
       have c77b1 : (a0_5 != 0) = true := bne_iff_ne.mpr c77
       obtain rfl := Option.some.inj H
       have hcz87_0 : w42.cell? ⟨gb315, 0, none⟩ = some (.int .i64 a0_0) := (blk_cell BK315.out 0).trans rfl
       have hcz87_1 : w42.cell? ⟨gb315, 1, none⟩ = some (.int .i64 a0_1) := (blk_cell BK315.out 1).trans rfl
       have hcz87_2 : w42.cell? ⟨gb315, 2, none⟩ = some (.int .i64 a0_2) := (blk_cell BK315.out 2).trans rfl
       have hcz87_3 : w42.cell? ⟨gb315, 3, none⟩ = some (.int .i64 a0_3) := (blk_cell BK315.out 3).trans rfl
       have hcz87_4 : w42.cell? ⟨gb315, 4, none⟩ = some (.int .i64 a0_4) := (blk_cell BK315.out 4).trans rfl
       have hcz87_5 : w42.cell? ⟨gb315, 5, none⟩ = some (.int .i64 a0_5) := (blk_cell BK315.out 5).trans rfl
       have hcz87_6 : w42.cell? ⟨gb315, 6, none⟩ = some (.int .i64 a0_6) := (blk_cell BK315.out 6).trans rfl
       have hcz87_7 : w42.cell? ⟨gb315, 7, none⟩ = some (.bool a0_7) := (blk_cell BK315.out 7).trans rfl
       have hcz87_8 : w42.cell? ⟨gb315, 8, none⟩ = some (.slice A0_8 l0_8.length c0_8) := (blk_cell BK315.out 8).trans rfl
       go_wp2
       repeat (go_quiet (fail); try go_wp2)
       go_ret
       exact ⟨by first | rfl | (simp [errW_none, errW_some] <;> rfl) | (simp [*, errW_none, errW_some] <;> rfl), u16_0⟩
     rw [if_pos c77] at H
     have c77b0 : (a0_5 == 0) = true := beq_iff_eq.mpr c77
     have c77b1 : (a0_5 != 0) = false := bne_eq_false_iff_eq.mpr c77
     clear c77
     by_cases c78 : a0_0 = 1
     rotate_left
     · rw [if_neg c78] at H
       have c78b0 : (a0_0 == 1) = false := beq_eq_false_iff_ne.mpr c78
       have c78b1 : (a0_0 != 1) = true := bne_iff_ne.mpr c78
       by_cases c84 : a0_7 = true
       · subst c84
         rw [if_pos rfl] at H
         obtain rfl := Option.some.inj H
         have hcz85_0 : w42.cell? ⟨gb315, 0, none⟩ = some (.int .i64 a0_0) := (blk_cell BK315.out 0).trans rfl
         have hcz85_1 : w42.cell? ⟨gb315, 1, none⟩ = some (.int .i64 a0_1) := (blk_cell BK315.out 1).trans rfl
         have hcz85_2 : w42.cell? ⟨gb315, 2, none⟩ = some (.int .i64 a0_2) := (blk_cell BK315.out 2).trans rfl
         have hcz85_3 : w42.cell? ⟨gb315, 3, none⟩ = some (.int .i64 a0_3) := (blk_cell BK315.out 3).trans rfl
         have hcz85_4 : w42.cell? ⟨gb315, 4, none⟩ = some (.int .i64 a0_4) := (blk_cell BK315.out 4).trans rfl
         have hcz85_5 : w42.cell? ⟨gb315, 5, none⟩ = some (.int .i64 a0_5) := (blk_cell BK315.out 5).trans rfl
         have hcz85_6 : w42.cell? ⟨gb315, 6, none⟩ = some (.int .i64 a0_6) := (blk_cell BK315.out 6).trans rfl
         have hcz85_7 : w42.cell? ⟨gb315, 7, none⟩ = some (.bool true) := (blk_cell BK315.out 7).trans rfl
         have hcz85_8 : w42.cell? ⟨gb315, 8, none⟩ = some (.slice A0_8 l0_8.length c0_8) := (blk_cell BK315.out 8).trans rfl
         go_wp2
         repeat (go_quiet (fail); try go_wp2)
         go_ret
         exact ⟨by first | rfl | (simp [errW_none, errW_some] <;> rfl) | (simp [*, errW_none, errW_some] <;> rfl), u16_0⟩
       replace c84 := Bool.eq_false_iff.mpr c84
       subst c84
       rw [if_neg (show ¬ (false = true) by decide)] at H
       obtain rfl := Option.some.inj H
       have hcz86_0 : w42.cell? ⟨gb315, 0, none⟩ = some (.int .i64 a0_0) := (blk_cell BK315.out 0).trans rfl
       have hcz86_1 : w42.cell? ⟨gb315, 1, none⟩ = some (.int .i64 a0_1) := (blk_cell BK315.out 1).trans rfl
       have hcz86_2 : w42.cell? ⟨gb315, 2, none⟩ = some (.int .i64 a0_2) := (blk_cell BK315.out 2).trans rfl
       have hcz86_3 : w42.cell? ⟨gb315, 3, none⟩ = some (.int .i64 a0_3) := (blk_cell BK315.out 3).trans rfl
       have hcz86_4 : w42.cell? ⟨gb315, 4, none⟩ = some (.int .i64 a0_4) := (blk_cell BK315.out 4).trans rfl
       have hcz86_5 : w42.cell? ⟨gb315, 5, none⟩ = some (.int .i64 a0_5) := (blk_cell BK315.out 5).trans rfl
       have hcz86_6 : w42.cell? ⟨gb315, 6, none⟩ = some (.int .i64 a0_6) := (blk_cell BK315.out 6).trans rfl
       have hcz86_7 : w42.cell? ⟨gb315, 7, none⟩ = some (.bool false) := (blk_cell BK315.out 7).trans rfl
       have hcz86_8 : w42.cell? ⟨gb315, 8, none⟩ = some (.slice A0_8 l0_8.length c0_8) := (blk_cell BK315.out 8).trans rfl
       go_wp2
       repeat (go_quiet (fail); try go_wp2)
       go_ret
       exact ⟨by first | rfl | (simp [errW_none, errW_some] <;> rfl) | (simp [*, errW_none, errW_some] <;> rfl), u16_0⟩
     rw [if_pos c78] at H
     have c78b0 : (a0_0 == 1) = true := beq_iff_eq.mpr c78
     have c78b1 : (a0_0 != 1) = false := bne_eq_false_iff_eq.mpr c78
     clear c78
     by_cases c79 : a0_4 = 0
     rotate_left
     · rw [if_neg c79] at H
       have c79b0 : (a0_4 == 0) = false := beq_eq_false_iff_ne.mpr c79
       have c79b1 : (a0_4 != 0) = true := bne_iff_ne.mpr c79
       obtain rfl := Option.some.inj H
       have hcz83_0 : w42.cell? ⟨gb315, 0, none⟩ = some (.int .i64 a0_0) := (blk_cell BK315.out 0).trans rfl
       have hcz83_1 : w42.cell? ⟨gb315, 1, none⟩ = some (.int .i64 a0_1) := (blk_cell BK315.out 1).trans rfl
       have hcz83_2 : w42.cell? ⟨gb315, 2, none⟩ = some (.int .i64 a0_2) := (blk_cell BK315.out 2).trans rfl
       have hcz83_3 : w42.cell? ⟨gb315, 3, none⟩ = some (.int .i64 a0_3) := (blk_cell BK315.out 3).trans rfl
       have hcz83_4 : w42.cell? ⟨gb315, 4, none⟩ = some (.int .i64 a0_4) := (blk_cell BK315.out 4).trans rfl
       have hcz83_5 : w42.cell? ⟨gb315, 5, none⟩ = some (.int .i64 a0_5) := (blk_cell BK315.out 5).trans rfl
       have hcz83_6 : w42.cell? ⟨gb315, 6, none⟩ = some (.int .i64 a0_6) := (blk_cell BK315.out 6).trans rfl
       have hcz83_7 : w42.cell? ⟨gb315, 7, none⟩ = some (.bool a0_7) := (blk_cell BK315.out 7).trans rfl
       have hcz83_8 : w42.cell? ⟨gb315, 8, none⟩ = some (.slice A0_8 l0_8.length c0_8) := (blk_cell BK315.out 8).trans rfl
       go_wp2
       repeat (go_quiet (fail); try go_wp2)
       go_ret
       exact ⟨by first | rfl | (simp [errW_none, errW_some] <;> rfl) | (simp [*, errW_none, errW_some] <;> rfl), u16_0⟩
     rw [if_pos c79] at H
     have c79b0 : (a0_4 == 0) = true := beq_iff_eq.mpr c79
     have c79b1 : (a0_4 != 0) = false := bne_eq_false_iff_eq.mpr c79
     clear c79
     by_cases c80 : a0_7 = true
     · subst c80
       rw [if_pos rfl] at H
       obtain rfl := Option.some.inj H
       have hcz81_0 : w42.cell? ⟨gb315, 0, none⟩ = some (.int .i64 a0_0) := (blk_cell BK315.out 0).trans rfl
       have hcz81_1 : w42.cell? ⟨gb315, 1, none⟩ = some (.int .i64 a0_1) := (blk_cell BK315.out 1).trans rfl
       have hcz81_2 : w42.cell? ⟨gb315, 2, none⟩ = some (.int .i64 a0_2) := (blk_cell BK315.out 2).trans rfl
       have hcz81_3 : w42.cell? ⟨gb315, 3, none⟩ = some (.int .i64 a0_3) := (blk_cell BK315.out 3).trans rfl
       have hcz81_4 : w42.cell? ⟨gb315, 4, none⟩ = some (.int .i64 a0_4) := (blk_cell BK315.out 4).trans rfl
       have hcz81_5 : w42.cell? ⟨gb315, 5, none⟩ = some (.int .i64 a0_5) := (blk_cell BK315.out 5).trans rfl
       have hcz81_6 : w42.cell? ⟨gb315, 6, none⟩ = some (.int .i64 a0_6) := (blk_cell BK315.out 6).trans rfl
       have hcz81_7 : w42.cell? ⟨gb315, 7, none⟩ = some (.bool true) := (blk_cell BK315.out 7).trans rfl
       have hcz81_8 : w42.cell? ⟨gb315, 8, none⟩ = some (.slice A0_8 l0_8.length c0_8) := (blk_cell BK315.out 8).trans rfl
       go_wp2
       repeat (go_quiet (fail); try go_wp2)
       go_ret
       exact ⟨by first | rfl | (simp [errW_none, errW_some] <;> rfl) | (simp [*, errW_none, errW_some] <;> rfl), u16_0⟩
     replace c80 := Bool.eq_false_iff.mpr c80
     subst c80
     rw [if_neg (show ¬ (false = true) by decide)] at H
     obtain rfl := Option.some.inj H
     have hcz82_0 : w42.cell? ⟨gb315, 0, none⟩ = some (.int .i64 a0_0) := (blk_cell BK315.out 0).trans rfl
     have hcz82_1 : w42.cell? ⟨gb315, 1, none⟩ = some (.int .i64 a0_1) := (blk_cell BK315.out 1).trans rfl
     have hcz82_2 : w42.cell? ⟨gb315, 2, none⟩ = some (.int .i64 a0_2) := (blk_cell BK315.out 2).trans rfl
     have hcz82_3 : w42.cell? ⟨gb315, 3, none⟩ = some (.int .i64 a0_3) := (blk_cell BK315.out 3).trans rfl
     have hcz82_4 : w42.cell? ⟨gb315, 4, none⟩ = some (.int .i64 a0_4) := (blk_cell BK315.out 4).trans rfl
     have hcz82_5 : w42.cell? ⟨gb315, 5, none⟩ = some (.int .i64 a0_5) := (blk_cell BK315.out 5).trans rfl
     have hcz82_6 : w42.cell? ⟨gb315, 6, none⟩ = some (.int .i64 a0_6) := (blk_cell BK315.out 6).trans rfl
     have hcz82_7 : w42.cell? ⟨gb315, 7, none⟩ = some (.bool false) := (blk_cell BK315.out 7).trans rfl
     have hcz82_8 : w42.cell? ⟨gb315, 8, none⟩ = some (.slice A0_8 l0_8.length c0_8) := (blk_cell BK315.out 8).trans rfl
     go_wp2
     repeat (go_quiet (fail); try go_wp2)
     go_ret
     exact ⟨by first | rfl | (simp [errW_none, errW_some] <;> rfl) | (simp [*, errW_none, errW_some] <;> rfl), u16_0⟩

end Go.Proofs.Ytkcadcoohmofcaa.QFnExactGroupOk
