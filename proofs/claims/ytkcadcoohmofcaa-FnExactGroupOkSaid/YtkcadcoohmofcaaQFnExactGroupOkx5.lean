-- Printed by the session's own program wip/prx.py.
import Derived.Test.YtkcadcoohmofcaaSqFnExactGroupOk
import Derived.Test.YtkcadcoohmofcaaQFnExactGroupOkx0
import Derived.Test.YtkcadcoohmofcaaQFnExactGroupOkx4
namespace Go.Proofs.Ytkcadcoohmofcaa.QFnExactGroupOk
open Go.RowKit Go.Proofs.YtkcadcoohmofcaaW.PrintWords Go.Proofs.YtkcadcoohmofcaaW.PrintLast Go.Proofs.YtkcadcoohmofcaaW.PrintMore Go.Proofs.Ytkcadcoohmofcaa.SqFnExactGroupOk
attribute [local go_sem] max2_int min2_int max_two min_two max_three min_three max_four min_four Go.Proofs.Ytkcadcoohmofcaa.Set.isSome_setCell
set_option linter.unusedVariables false
set_option linter.unusedSimpArgs false

-- squeezed
theorem u5_0 {P : Prop} (h : P := by repeat (first | (with_reducible first | exact HB.out | apply below_alloc | apply pw_below_drewN | apply below_drew1) | exact HB.out)) : P := h
theorem u5_1 {P : Prop} (h : P := by repeat (first | (with_reducible first | exact HB.out | apply below_alloc | apply pw_below_drewN | apply below_drew1 | refine below_set ?_ GE144.out) | exact HB.out)) : P := h
theorem u5_2 {P : Prop} (h : P := by (try simp only [List.map_toArray, List.map_cons, List.map_nil]); first | done | rfl | (simp only [List.length_drop, List.length_take]; rfl)) : P := h
theorem u5_3 {P : Prop} (h : P := by repeat (first | (with_reducible first | exact HB.out | apply below_alloc | apply pw_below_drewN | apply below_drew1 | refine below_set ?_ GE148.out) | exact HB.out)) : P := h
theorem u5_4 {P : Prop} (h : P := by (with_reducible repeat (first | refine blk_drewN ?_ _ | refine blk_drew ?_ | refine blk_alloc ?_ _)); exact BK144.out) : P := h
theorem u5_5 {P : Prop} (h : P := by repeat (first | exact Drawn0.refl _ | apply Drawn0.step)) : P := h
/-! ### laws_szGroup: function 43 -/
def laws_szGroup.f (k : Nat) (a0_0 : Int) (l0_1 : List (S45)) (l0_2 : List (S24)) (a1 : Int) : Option (Int) := (laws_szNodeS.f k l0_1 a1).bind fun t145 => (if t145 < 0 then (some (-1)) else ((laws_szMsgS.f k l0_2 t145).bind fun t146 => (if t146 < 0 then (some (-1)) else (some t146))))
theorem laws_szGroup.mono : ∀ a0 a1 a2 a3 k, LeO (laws_szGroup.f k a0 a1 a2 a3) (laws_szGroup.f (k + 1) a0 a1 a2 a3) := by
 intro a0 a1 a2 a3 k
 unfold laws_szGroup.f
 repeat' first
     | (with_reducible exact laws_szMsgS.mono _ _ _)
     | (with_reducible exact laws_szNodeS.mono _ _ _)
     | (with_reducible exact LeO.refl _)
     | (with_reducible exact LeO.none _)
     | (with_reducible refine LeO.ite ?_ ?_)
     | (with_reducible refine LeO.bind ?_ (fun _ => ?_))
     | exact laws_szMsgS.mono _ _ _
     | exact laws_szNodeS.mono _ _ _
     | exact LeO.none _
     | refine LeO.ite ?_ ?_
     | refine LeO.bind ?_ (fun _ => ?_)
set_option maxHeartbeats 8000000 in
set_option maxRecDepth 100000 in
theorem laws_szGroup.calls (k : Nat) (a0_0 : Int) (A0_1 : Option Addr) (c0_1 : Nat) (l0_1 : List (S45)) (A0_2 : Option Addr) (c0_2 : Nat) (l0_2 : List (S24)) (a1 : Int) (r : Int) (w : World) (hr0_1 : Kd.C k45 w A0_1 l0_1.length l0_1) (hc0_1 : l0_1.length ≤ c0_1) (hr0_2 : Kd.C k24 w A0_2 l0_2.length l0_2) (hc0_2 : l0_2.length ≤ c0_2) (h : laws_szGroup.f k a0_0 l0_1 l0_2 a1 = some r) :
   Calls Try.prog 43 #[.agg #[.int .i64 a0_0, .slice A0_1 l0_1.length c0_1, .slice A0_2 l0_2.length c0_2], .int .i64 a1] w fun e w' => e = .returned (.int .i64 r) ∧ Below w.heap.size w w' := by
 have hu68 := Try.underlying68
 have HR0_1 := am hr0_1
 have HC0_1 := am hc0_1
 clear hr0_1 hc0_1
 have HR0_2 := am hr0_2
 have HC0_2 := am hc0_2
 clear hr0_2 hc0_2
 have HB := am (Below.refl w.heap.size w)
 have H : ((laws_szNodeS.f k l0_1 a1).bind fun t145 => (if t145 < 0 then (some (-1)) else ((laws_szMsgS.f k l0_2 t145).bind fun t146 => (if t146 < 0 then (some (-1)) else (some t146))))) = some r := h
 clear h
 replace H := Option.bind_eq_some_iff.mp H
 obtain ⟨t145, A30, H⟩ := H
 have A3 := am A30
 clear A30
 have H9 := am H
 clear H
 go_enter Try.func43, Try.ntmps43
 go_upto_if 10 with (first | ((with_reducible refine gate_dst (N := 2) rfl ?_); refine box_event ?hg (N := 2) ?hd (cs := #[.int .i64 a0_0, .slice A0_1 l0_1.length c0_1, .slice A0_2 l0_2.length c0_2]) (t := 68) ?hr ?_; (case hd => rfl); (case hg => rfl); (case hr => first | (go_simp; done) | (go_simp; rfl)); intro gb144 hg w4 hbox hb; have n0_ := am (below_step u5_0 hb); have n1_ := am (hbox); have n2_ := am ((by rw [hg]; exact (below_size u5_0) : w.heap.size ≤ gb144)); have n3_ := am ((by rw [hg]; exact (below_size u5_0) : w.heap.size ≤ gb144)); clear HB; have HB := n0_; have BK144 := n1_; have GW144 := n2_; have GE144 := n3_; clear n0_ n1_ n2_ n3_; clear hb hbox hg; have hcz5_0 : w4.cell? ⟨gb144, 0, none⟩ = some (.int .i64 a0_0) := (blk_cell BK144.out 0).trans rfl; have hcz5_1 : w4.cell? ⟨gb144, 1, none⟩ = some (.slice A0_1 l0_1.length c0_1) := (blk_cell BK144.out 1).trans rfl; have hcz5_2 : w4.cell? ⟨gb144, 2, none⟩ = some (.slice A0_2 l0_2.length c0_2) := (blk_cell BK144.out 2).trans rfl) | ((with_reducible refine gate_callee (f := 94) rfl ?_); refine goesL_ (some 8) rfl rfl Try.func94 kr rfl #[.slice A0_1 l0_1.length c0_1, .int .i64 a1] rfl u5_2 ?_; (with_reducible refine (laws_szNodeS.calls k _ _ l0_1 a1 t145 _ ?side1 ?side2 A3.out).mono ?_); (case side1 => exact (by repeat (first | exact (Kd.C_below HR0_1.out HB.out) | (with_reducible refine Kd.C_alloc ?_ _) | (with_reducible refine Kd.C_drewN ?_ _) | (with_reducible refine Kd.C_drew ?_)))); (case side2 => exact HC0_1.out); rintro e w6 ⟨rfl, hb⟩; refine ⟨_, rfl, ?_⟩; have n0_ := am (blk_below (g := gb144) (o := .cells #[.int .i64 a0_0, .slice A0_1 l0_1.length c0_1, .slice A0_2 l0_2.length c0_2] 68 (0, 0)) u5_4 hb); have n1_ := am (below_step u5_1 hb); clear BK144; clear HB; have BK144 := n0_; have HB := n1_; clear n0_ n1_; (try clear hb); (try clear hb2); (try clear hk); (try clear hi)))
 have H := H9.out
 clear H9
 by_cases c7 : t145 < 0
 · rw [if_pos c7] at H
   have c7b0 : decide (t145 < 0) = true := decide_eq_true c7
   clear c7
   (first | rw [c7b0] | (simp only [i64_w, i32_w]; rw [c7b0]) | skip)
   obtain rfl := Option.some.inj H
   go_wp2
   go_ret
   exact ⟨by first | rfl | (simp [errW_none, errW_some] <;> rfl) | (simp [*, errW_none, errW_some] <;> rfl), u5_1⟩
 rw [if_neg c7] at H
 have c7b0 : decide (t145 < 0) = false := decide_eq_false c7
 clear c7
 (first | rw [c7b0] | (simp only [i64_w, i32_w]; rw [c7b0]) | skip)
 replace H := Option.bind_eq_some_iff.mp H
 obtain ⟨t146, A80, H⟩ := H
 replace H : (if t146 < 0 then (some (-1)) else (some t146)) = some r := H
 have A8 := am A80
 clear A80
 have H9 := am H
 clear H
 have hcz9_0 : w6.cell? ⟨gb144, 0, none⟩ = some (.int .i64 a0_0) := (blk_cell BK144.out 0).trans rfl
 have hcz9_1 : w6.cell? ⟨gb144, 1, none⟩ = some (.slice A0_1 l0_1.length c0_1) := (blk_cell BK144.out 1).trans rfl
 have hcz9_2 : w6.cell? ⟨gb144, 2, none⟩ = some (.slice A0_2 l0_2.length c0_2) := (blk_cell BK144.out 2).trans rfl
 go_upto_if 16 with (first | ((with_reducible refine gate_callee (f := 95) rfl ?_); refine goesL_ (some 14) rfl rfl Try.func95 kr rfl #[.slice A0_2 l0_2.length c0_2, .int .i64 t145] rfl u5_2 ?_; (with_reducible refine (laws_szMsgS.calls k _ _ l0_2 t145 t146 _ ?side1 ?side2 A8.out).mono ?_); (case side1 => exact (by repeat (first | exact (Kd.C_below HR0_2.out HB.out) | (with_reducible refine Kd.C_alloc ?_ _) | (with_reducible refine Kd.C_drewN ?_ _) | (with_reducible refine Kd.C_drew ?_)))); (case side2 => exact HC0_2.out); rintro e w10 ⟨rfl, hb⟩; refine ⟨_, rfl, ?_⟩; have n0_ := am (blk_below (g := gb144) (o := .cells #[.int .i64 a0_0, .slice A0_1 l0_1.length c0_1, .slice A0_2 l0_2.length c0_2] 68 (0, 0)) u5_4 hb); have n1_ := am (below_step u5_1 hb); clear BK144; clear HB; have BK144 := n0_; have HB := n1_; clear n0_ n1_; (try clear hb); (try clear hb2); (try clear hk); (try clear hi)))
 have H := H9.out
 clear H9
 by_cases c11 : t146 < 0
 · rw [if_pos c11] at H
   have c11b0 : decide (t146 < 0) = true := decide_eq_true c11
   clear c11
   (first | rw [c11b0] | (simp only [i64_w, i32_w]; rw [c11b0]) | skip)
   obtain rfl := Option.some.inj H
   go_wp2
   go_ret
   exact ⟨by first | rfl | (simp [errW_none, errW_some] <;> rfl) | (simp [*, errW_none, errW_some] <;> rfl), u5_1⟩
 rw [if_neg c11] at H
 have c11b0 : decide (t146 < 0) = false := decide_eq_false c11
 clear c11
 (first | rw [c11b0] | (simp only [i64_w, i32_w]; rw [c11b0]) | skip)
 obtain rfl := Option.some.inj H
 go_wp2
 go_ret
 exact ⟨by first | rfl | (simp [errW_none, errW_some] <;> rfl) | (simp [*, errW_none, errW_some] <;> rfl), u5_1⟩

/-! ### spec_l01In: function 63 -/
def spec_l01In.f (a0 : Int) (a1 : Int) (a2 : Int) : Option (Bool) := if a1 ≤ a0 then (some (decide (a0 ≤ a2))) else (some false)
set_option maxHeartbeats 8000000 in
set_option maxRecDepth 100000 in
theorem spec_l01In.calls (a0 : Int) (a1 : Int) (a2 : Int) (r : Bool) (w : World) (h : spec_l01In.f a0 a1 a2 = some r) :
   Calls Try.prog 63 #[.int .i64 a0, .int .i64 a1, .int .i64 a2] w fun e w' => e = .returned (.bool r) ∧ Drawn0 w w' := by
 have H : (if a1 ≤ a0 then (some (decide (a0 ≤ a2))) else (some false)) = some r := h
 clear h
 by_cases c4 : a1 ≤ a0
 · rw [if_pos c4] at H
   have c4b0 : decide (a1 ≤ a0) = true := decide_eq_true c4
   clear c4
   obtain rfl := Option.some.inj H
   go_enter Try.func63, Try.ntmps63
   go_wp2
   go_ret
   exact ⟨by first | rfl | (simp; done) | (simp [*]; done), u5_5⟩
 rw [if_neg c4] at H
 have c4b0 : decide (a1 ≤ a0) = false := decide_eq_false c4
 clear c4
 obtain rfl := Option.some.inj H
 go_enter Try.func63, Try.ntmps63
 go_wp2
 go_ret
 exact ⟨by first | rfl | (simp; done) | (simp [*]; done), u5_5⟩

/-! ### spec_l07Size: function 62 -/
def spec_l07Size.f (a0 : Int) : Option (Bool) := (spec_l01In.f a0 1 5).bind fun t147 => (some t147)
set_option maxHeartbeats 8000000 in
set_option maxRecDepth 100000 in
theorem spec_l07Size.calls (a0 : Int) (r : Bool) (w : World) (h : spec_l07Size.f a0 = some r) :
   Calls Try.prog 62 #[.int .i64 a0] w fun e w' => e = .returned (.bool r) ∧ Drawn0 w w' := by
 have H : ((spec_l01In.f a0 1 5).bind fun t147 => (some t147)) = some r := h
 clear h
 replace H := Option.bind_eq_some_iff.mp H
 obtain ⟨t147, A20, H⟩ := H
 replace H : (some t147) = some r := H
 have A2 := am A20
 clear A20
 obtain rfl := Option.some.inj H
 go_enter Try.func62, Try.ntmps62
 go_wp2_with (first | ((with_reducible refine gate_callee (f := 63) rfl ?_); refine goesL_ (some 4) rfl rfl Try.func63 kr rfl #[.int .i64 a0, .int .i64 1, .int .i64 5] rfl u5_2 ?_; (with_reducible refine (spec_l01In.calls a0 1 5 t147 _ A2.out).mono ?_); rintro e w' ⟨rfl, ⟨nd, rfl⟩⟩; refine ⟨_, rfl, ?_⟩))
 go_ret
 exact ⟨by first | rfl | (simp; done) | (simp [*]; done), u5_5⟩

/-! ### spec_l05Entry: function 64 -/
def spec_l05Entry.f (a0_0 : Int) (a0_1 : ByteArray) : Option (Bool) := (spec_l01In.f a0_0 1 1000000).bind fun t149 => (if t149 = true then (some (decide ((a0_1.size : Int) ≤ 40))) else (some false))
set_option maxHeartbeats 8000000 in
set_option maxRecDepth 100000 in
theorem spec_l05Entry.calls (a0_0 : Int) (a0_1 : ByteArray) (r : Bool) (w : World) (h : spec_l05Entry.f a0_0 a0_1 = some r) :
   Calls Try.prog 64 #[.agg #[.int .i64 a0_0, .string a0_1]] w fun e w' => e = .returned (.bool r) ∧ Below w.heap.size w w' := by
 have hu85 := Try.underlying85
 have HB := am (Below.refl w.heap.size w)
 have H : ((spec_l01In.f a0_0 1 1000000).bind fun t149 => (if t149 = true then (some (decide ((a0_1.size : Int) ≤ 40))) else (some false))) = some r := h
 clear h
 replace H := Option.bind_eq_some_iff.mp H
 obtain ⟨t149, A20, H⟩ := H
 replace H : (if t149 = true then (some (decide ((a0_1.size : Int) ≤ 40))) else (some false)) = some r := H
 have A2 := am A20
 clear A20
 by_cases c3 : t149 = true
 · subst c3
   rw [if_pos rfl] at H
   obtain rfl := Option.some.inj H
   go_enter Try.func64, Try.ntmps64
   go_wp2_with (first | ((with_reducible refine gate_dst (N := 1) rfl ?_); (try (refine gate_guard (by rfl) ?_; dsimp only)); refine box_event ?hg (N := 1) ?hd (cs := #[.int .i64 a0_0, .string a0_1]) (t := 85) ?hr ?_; (case hd => rfl); (case hg => rfl); (case hr => first | (go_simp; done) | (go_simp; rfl)); intro gb148 hg w4 hbox hb; have n0_ := am (below_step u5_0 hb); have n1_ := am (hbox); have n2_ := am ((by rw [hg]; exact (below_size u5_0) : w.heap.size ≤ gb148)); have n3_ := am ((by rw [hg]; exact (below_size u5_0) : w.heap.size ≤ gb148)); clear HB; have HB := n0_; have BK148 := n1_; have GW148 := n2_; have GE148 := n3_; clear n0_ n1_ n2_ n3_; clear hb hbox hg; have hcz5_0 : w4.cell? ⟨gb148, 0, none⟩ = some (.int .i64 a0_0) := (blk_cell BK148.out 0).trans rfl; have hcz5_1 : w4.cell? ⟨gb148, 1, none⟩ = some (.string a0_1) := (blk_cell BK148.out 1).trans rfl; have hfz5_0 := blk_frozen BK148.out 0; have hfz5_1 := blk_frozen BK148.out 1) | ((with_reducible refine gate_callee (f := 63) rfl ?_); refine goesL_ (some 5) rfl rfl Try.func63 kr rfl #[.int .i64 a0_0, .int .i64 1, .int .i64 1000000] rfl u5_2 ?_; (with_reducible refine (spec_l01In.calls a0_0 1 1000000 true _ A2.out).mono ?_); rintro e w' ⟨rfl, ⟨nd, rfl⟩⟩; refine ⟨_, rfl, ?_⟩))
   go_ret
   exact ⟨by first | rfl | (simp [errW_none, errW_some] <;> rfl) | (simp [*, errW_none, errW_some] <;> rfl), u5_3⟩
 replace c3 := Bool.eq_false_iff.mpr c3
 subst c3
 rw [if_neg (show ¬ (false = true) by decide)] at H
 obtain rfl := Option.some.inj H
 go_enter Try.func64, Try.ntmps64
 go_wp2_with (first | ((with_reducible refine gate_dst (N := 1) rfl ?_); (try (refine gate_guard (by rfl) ?_; dsimp only)); refine box_event ?hg (N := 1) ?hd (cs := #[.int .i64 a0_0, .string a0_1]) (t := 85) ?hr ?_; (case hd => rfl); (case hg => rfl); (case hr => first | (go_simp; done) | (go_simp; rfl)); intro gb148 hg w6 hbox hb; have n0_ := am (below_step u5_0 hb); have n1_ := am (hbox); have n2_ := am ((by rw [hg]; exact (below_size u5_0) : w.heap.size ≤ gb148)); have n3_ := am ((by rw [hg]; exact (below_size u5_0) : w.heap.size ≤ gb148)); clear HB; have HB := n0_; have BK148 := n1_; have GW148 := n2_; have GE148 := n3_; clear n0_ n1_ n2_ n3_; clear hb hbox hg; have hcz7_0 : w6.cell? ⟨gb148, 0, none⟩ = some (.int .i64 a0_0) := (blk_cell BK148.out 0).trans rfl; have hcz7_1 : w6.cell? ⟨gb148, 1, none⟩ = some (.string a0_1) := (blk_cell BK148.out 1).trans rfl; have hfz7_0 := blk_frozen BK148.out 0; have hfz7_1 := blk_frozen BK148.out 1) | ((with_reducible refine gate_callee (f := 63) rfl ?_); refine goesL_ (some 5) rfl rfl Try.func63 kr rfl #[.int .i64 a0_0, .int .i64 1, .int .i64 1000000] rfl u5_2 ?_; (with_reducible refine (spec_l01In.calls a0_0 1 1000000 false _ A2.out).mono ?_); rintro e w' ⟨rfl, ⟨nd, rfl⟩⟩; refine ⟨_, rfl, ?_⟩))
 go_ret
 exact ⟨by first | rfl | (simp [errW_none, errW_some] <;> rfl) | (simp [*, errW_none, errW_some] <;> rfl), u5_3⟩

end Go.Proofs.Ytkcadcoohmofcaa.QFnExactGroupOk
