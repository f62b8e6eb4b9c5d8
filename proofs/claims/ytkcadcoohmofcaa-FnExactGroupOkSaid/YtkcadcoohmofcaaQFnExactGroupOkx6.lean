-- Printed by the session's own program wip/prx.py.
import Derived.Test.YtkcadcoohmofcaaSqFnExactGroupOk
import Derived.Test.YtkcadcoohmofcaaQFnExactGroupOkx0
import Derived.Test.YtkcadcoohmofcaaQFnExactGroupOkx5
namespace Go.Proofs.Ytkcadcoohmofcaa.QFnExactGroupOk
open Go.RowKit Go.Proofs.YtkcadcoohmofcaaW.PrintWords Go.Proofs.YtkcadcoohmofcaaW.PrintLast Go.Proofs.YtkcadcoohmofcaaW.PrintMore Go.Proofs.Ytkcadcoohmofcaa.SqFnExactGroupOk
attribute [local go_sem] max2_int min2_int max_two min_two max_three min_three max_four min_four Go.Proofs.Ytkcadcoohmofcaa.Set.isSome_setCell
set_option linter.unusedVariables false
set_option linter.unusedSimpArgs false

-- squeezed
theorem u6_0 {P : Prop} (h : P := by repeat (first | (with_reducible first | exact HB.out | apply below_alloc | apply pw_below_drewN | apply below_drew1 | refine below_set ?_ GE150.out) | exact HB.out)) : P := h
theorem u6_1 {P : Prop} (h : P := by (try simp only [List.map_toArray, List.map_cons, List.map_nil]); first | done | rfl | (simp only [List.length_drop, List.length_take]; rfl)) : P := h
theorem u6_2 {P : Prop} (h : P := by (with_reducible repeat (first | refine blk_drewN ?_ _ | refine blk_drew ?_ | refine blk_alloc ?_ _)); exact BK150.out) : P := h
theorem u6_3 {P : Prop} (h : P := by first | rfl | (simp; done) | (simp [*]; done)) : P := h
theorem u6_4 {P : Prop} (h : P := by repeat (first | (with_reducible first | exact HB.out | apply below_alloc | apply pw_below_drewN | apply below_drew1) | exact HB.out)) : P := h
theorem u6_5 {P : Prop} (h : P := by first | (with_reducible assumption) | assumption) : P := h
theorem u6_6 {P : Prop} (h : P := by have := HJ2.out; first | omega | exact Nat.le_refl _) : P := h
/-! ### spec_MsgOk: function 16 -/
mutual
def spec_MsgOk.j0 : Nat → Bool → Int → Int → Int → Int → Int → Int → Int → Bool → List (S85) → Option (Bool)
 | 0, _, _, _, _, _, _, _, _, _, _ => none
 | k + 1, x43, x151000, x151001, x151002, x151003, x151004, x151005, x151006, x151007, x151008 => if x43 = true then (some false) else ((spec_l01In.f x151004 0 60).bind fun t156 => (if t156 = true then ((spec_l01In.f x151005 0 1000000).bind fun t157 => (if t157 = true then ((spec_l01In.f x151006 0 1000000).bind fun t158 => (if t158 = true then (spec_MsgOk.j1 k (decide ((x151008.length : Int) > 10)) x151000 x151001 x151002 x151003 x151004 x151005 x151006 x151007 x151008) else (spec_MsgOk.j1 k true x151000 x151001 x151002 x151003 x151004 x151005 x151006 x151007 x151008))) else (spec_MsgOk.j1 k true x151000 x151001 x151002 x151003 x151004 x151005 x151006 x151007 x151008))) else (spec_MsgOk.j1 k true x151000 x151001 x151002 x151003 x151004 x151005 x151006 x151007 x151008)))
def spec_MsgOk.j1 : Nat → Bool → Int → Int → Int → Int → Int → Int → Int → Bool → List (S85) → Option (Bool)
 | 0, _, _, _, _, _, _, _, _, _, _ => none
 | k + 1, x65, x151000, x151001, x151002, x151003, x151004, x151005, x151006, x151007, x151008 => if x65 = true then (some false) else (spec_MsgOk.l0 k 0 x151000 x151001 x151002 x151003 x151004 x151005 x151006 x151007 x151008)
def spec_MsgOk.l0 : Nat → Int → Int → Int → Int → Int → Int → Int → Int → Bool → List (S85) → Option (Bool)
 | 0, _, _, _, _, _, _, _, _, _, _ => none
 | k + 1, x5, x151000, x151001, x151002, x151003, x151004, x151005, x151006, x151007, x151008 => if x5 < (x151008.length : Int) then (if 0 ≤ x5 then ((spec_l05Entry.f ((rd_T85 x151008 x5).f0) ((rd_T85 x151008 x5).f1)).bind fun t160 => (if t160 = true then (if ((rd_T85 x151008 x5).f0) > x151003 then (some false) else (spec_MsgOk.l0 k (wrap64 (x5 + 1)) x151000 x151001 x151002 x151003 x151004 x151005 x151006 x151007 x151008)) else (some false))) else (none)) else (if x151000 = 0 then (if x151006 = 0 then (if x151007 = true then (some false) else (some ((x151008.length : Int) == 0))) else (some false)) else (if x151000 = 1 then (if x151004 = 0 then (if x151005 = 0 then (if x151006 = 0 then (some ((x151008.length : Int) == 0)) else (some false)) else (some false)) else (some false)) else (if x151000 = 2 then (some (!x151007)) else (if x151005 = 0 then (if x151006 = 0 then (some ((x151008.length : Int) == 0)) else (some false)) else (some false)))))
end
def spec_MsgOk.f (k : Nat) (a0_0 : Int) (a0_1 : Int) (a0_2 : Int) (a0_3 : Int) (a0_4 : Int) (a0_5 : Int) (a0_6 : Int) (a0_7 : Bool) (l0_8 : List (S85)) (a1 : Int) : Option (Bool) := (spec_l07Size.f a1).bind fun t151 => (if t151 = true then ((spec_l01In.f a0_0 0 3).bind fun t152 => (if t152 = true then ((spec_l01In.f a0_1 0 (wrap64 (a1 - 1))).bind fun t153 => (if t153 = true then ((spec_l01In.f a0_2 0 (wrap64 (a1 - 1))).bind fun t154 => (if t154 = true then (if a0_1 = a0_2 then (spec_MsgOk.j0 k true a0_0 a0_1 a0_2 a0_3 a0_4 a0_5 a0_6 a0_7 l0_8) else ((spec_l01In.f a0_3 1 1000000).bind fun t155 => (spec_MsgOk.j0 k (!t155) a0_0 a0_1 a0_2 a0_3 a0_4 a0_5 a0_6 a0_7 l0_8))) else (spec_MsgOk.j0 k true a0_0 a0_1 a0_2 a0_3 a0_4 a0_5 a0_6 a0_7 l0_8))) else (spec_MsgOk.j0 k true a0_0 a0_1 a0_2 a0_3 a0_4 a0_5 a0_6 a0_7 l0_8))) else (spec_MsgOk.j0 k true a0_0 a0_1 a0_2 a0_3 a0_4 a0_5 a0_6 a0_7 l0_8))) else (spec_MsgOk.j0 k true a0_0 a0_1 a0_2 a0_3 a0_4 a0_5 a0_6 a0_7 l0_8))
theorem spec_MsgOk.mono_l : ∀ k, (∀ y0 y1 y2 y3 y4 y5 y6 y7 y8 y9, LeO (spec_MsgOk.j0 k y0 y1 y2 y3 y4 y5 y6 y7 y8 y9) (spec_MsgOk.j0 (k + 1) y0 y1 y2 y3 y4 y5 y6 y7 y8 y9)) ∧ (∀ y0 y1 y2 y3 y4 y5 y6 y7 y8 y9, LeO (spec_MsgOk.j1 k y0 y1 y2 y3 y4 y5 y6 y7 y8 y9) (spec_MsgOk.j1 (k + 1) y0 y1 y2 y3 y4 y5 y6 y7 y8 y9)) ∧ (∀ y0 y1 y2 y3 y4 y5 y6 y7 y8 y9, LeO (spec_MsgOk.l0 k y0 y1 y2 y3 y4 y5 y6 y7 y8 y9) (spec_MsgOk.l0 (k + 1) y0 y1 y2 y3 y4 y5 y6 y7 y8 y9))
 | 0 => ⟨fun _ _ _ _ _ _ _ _ _ _ r h => by simp [spec_MsgOk.j0] at h, fun _ _ _ _ _ _ _ _ _ _ r h => by simp [spec_MsgOk.j1] at h, fun _ _ _ _ _ _ _ _ _ _ r h => by simp [spec_MsgOk.l0] at h⟩
 | k + 1 => by
   obtain ⟨ih0, ih1, ih2⟩ := spec_MsgOk.mono_l k
   refine ⟨?_, ?_, ?_⟩
   · intro y0 y1 y2 y3 y4 y5 y6 y7 y8 y9
     unfold spec_MsgOk.j0
     repeat' first
     | (with_reducible exact ih0 _ _ _ _ _ _ _ _ _ _)
     | (with_reducible exact ih1 _ _ _ _ _ _ _ _ _ _)
     | (with_reducible exact ih2 _ _ _ _ _ _ _ _ _ _)
     | (with_reducible exact LeO.refl _)
     | (with_reducible exact LeO.none _)
     | (with_reducible refine LeO.ite ?_ ?_)
     | (with_reducible refine LeO.bind ?_ (fun _ => ?_))
     | exact ih0 _ _ _ _ _ _ _ _ _ _
     | exact ih1 _ _ _ _ _ _ _ _ _ _
     | exact ih2 _ _ _ _ _ _ _ _ _ _
     | exact LeO.none _
     | refine LeO.ite ?_ ?_
     | refine LeO.bind ?_ (fun _ => ?_)
   · intro y0 y1 y2 y3 y4 y5 y6 y7 y8 y9
     unfold spec_MsgOk.j1
     repeat' first
     | (with_reducible exact ih0 _ _ _ _ _ _ _ _ _ _)
     | (with_reducible exact ih1 _ _ _ _ _ _ _ _ _ _)
     | (with_reducible exact ih2 _ _ _ _ _ _ _ _ _ _)
     | (with_reducible exact LeO.refl _)
     | (with_reducible exact LeO.none _)
     | (with_reducible refine LeO.ite ?_ ?_)
     | (with_reducible refine LeO.bind ?_ (fun _ => ?_))
     | exact ih0 _ _ _ _ _ _ _ _ _ _
     | exact ih1 _ _ _ _ _ _ _ _ _ _
     | exact ih2 _ _ _ _ _ _ _ _ _ _
     | exact LeO.none _
     | refine LeO.ite ?_ ?_
     | refine LeO.bind ?_ (fun _ => ?_)
   · intro y0 y1 y2 y3 y4 y5 y6 y7 y8 y9
     unfold spec_MsgOk.l0
     repeat' first
     | (with_reducible exact ih0 _ _ _ _ _ _ _ _ _ _)
     | (with_reducible exact ih1 _ _ _ _ _ _ _ _ _ _)
     | (with_reducible exact ih2 _ _ _ _ _ _ _ _ _ _)
     | (with_reducible exact LeO.refl _)
     | (with_reducible exact LeO.none _)
     | (with_reducible refine LeO.ite ?_ ?_)
     | (with_reducible refine LeO.bind ?_ (fun _ => ?_))
     | exact ih0 _ _ _ _ _ _ _ _ _ _
     | exact ih1 _ _ _ _ _ _ _ _ _ _
     | exact ih2 _ _ _ _ _ _ _ _ _ _
     | exact LeO.none _
     | refine LeO.ite ?_ ?_
     | refine LeO.bind ?_ (fun _ => ?_)
theorem spec_MsgOk.mono : ∀ a0 a1 a2 a3 a4 a5 a6 a7 a8 a9 k, LeO (spec_MsgOk.f k a0 a1 a2 a3 a4 a5 a6 a7 a8 a9) (spec_MsgOk.f (k + 1) a0 a1 a2 a3 a4 a5 a6 a7 a8 a9) := by
 intro a0 a1 a2 a3 a4 a5 a6 a7 a8 a9 k
 obtain ⟨ih0, ih1, ih2⟩ := spec_MsgOk.mono_l k
 unfold spec_MsgOk.f
 repeat' first
     | (with_reducible exact ih0 _ _ _ _ _ _ _ _ _ _)
     | (with_reducible exact ih1 _ _ _ _ _ _ _ _ _ _)
     | (with_reducible exact ih2 _ _ _ _ _ _ _ _ _ _)
     | (with_reducible exact LeO.refl _)
     | (with_reducible exact LeO.none _)
     | (with_reducible refine LeO.ite ?_ ?_)
     | (with_reducible refine LeO.bind ?_ (fun _ => ?_))
     | exact ih0 _ _ _ _ _ _ _ _ _ _
     | exact ih1 _ _ _ _ _ _ _ _ _ _
     | exact ih2 _ _ _ _ _ _ _ _ _ _
     | exact LeO.none _
     | refine LeO.ite ?_ ?_
     | refine LeO.bind ?_ (fun _ => ?_)
def spec_MsgOk.T8 : Bool × List (List Nat × List Nat) := (true, [([], []), ([0], [0]), ([], []), ([1, 2], [1, 2]), ([3], [3]), ([4], [4]), ([5], [5]), ([6, 5], [6]), ([7], [7]), ([8, 7], [7, 8]), ([7], [7]), ([9, 10, 7], [7, 9, 10]), ([11, 7], [7, 11]), ([12, 7], [7, 12]), ([7], [7]), ([14, 7], [7, 14]), ([13, 15, 7], [7, 13, 15]), ([7, 16], [7, 16])])
def spec_MsgOk.B8 : List Nat := [0, 1, 0, 7, 15, 31, 63, 127, 255, 511, 255, 2047, 4095, 8191, 255, 16639, 65535, 131071]
theorem spec_MsgOk.tab8 : rtab .any (opsOf Try.f16 8) = spec_MsgOk.T8 := by kernel_rfl
theorem spec_MsgOk.bits8 : waitsOk spec_MsgOk.T8.2 spec_MsgOk.B8 = true := by kernel_rfl
set_option maxHeartbeats 8000000 in
set_option maxRecDepth 100000 in
theorem spec_MsgOk.calls (k : Nat) (a0_0 : Int) (a0_1 : Int) (a0_2 : Int) (a0_3 : Int) (a0_4 : Int) (a0_5 : Int) (a0_6 : Int) (a0_7 : Bool) (A0_8 : Option Addr) (c0_8 : Nat) (l0_8 : List (S85)) (a1 : Int) (r : Bool) (w : World) (hr0_8 : Kd.C k85 w A0_8 l0_8.length l0_8) (hc0_8 : l0_8.length ≤ c0_8) (h : spec_MsgOk.f k a0_0 a0_1 a0_2 a0_3 a0_4 a0_5 a0_6 a0_7 l0_8 a1 = some r) :
   Calls Try.prog 16 #[.agg #[.int .i64 a0_0, .int .i64 a0_1, .int .i64 a0_2, .int .i64 a0_3, .int .i64 a0_4, .int .i64 a0_5, .int .i64 a0_6, .bool a0_7, .slice A0_8 l0_8.length c0_8], .int .i64 a1] w fun e w' => e = .returned (.bool r) ∧ Below w.heap.size w w' := by
 have hu29 := Try.underlying29
 have hu85 := Try.underlying85
 have HR0_8 := am hr0_8
 have HC0_8 := am hc0_8
 clear hr0_8 hc0_8
 have HB := am (Below.refl w.heap.size w)
 have H : ((spec_l07Size.f a1).bind fun t151 => (if t151 = true then ((spec_l01In.f a0_0 0 3).bind fun t152 => (if t152 = true then ((spec_l01In.f a0_1 0 (wrap64 (a1 - 1))).bind fun t153 => (if t153 = true then ((spec_l01In.f a0_2 0 (wrap64 (a1 - 1))).bind fun t154 => (if t154 = true then (if a0_1 = a0_2 then (spec_MsgOk.j0 k true a0_0 a0_1 a0_2 a0_3 a0_4 a0_5 a0_6 a0_7 l0_8) else ((spec_l01In.f a0_3 1 1000000).bind fun t155 => (spec_MsgOk.j0 k (!t155) a0_0 a0_1 a0_2 a0_3 a0_4 a0_5 a0_6 a0_7 l0_8))) else (spec_MsgOk.j0 k true a0_0 a0_1 a0_2 a0_3 a0_4 a0_5 a0_6 a0_7 l0_8))) else (spec_MsgOk.j0 k true a0_0 a0_1 a0_2 a0_3 a0_4 a0_5 a0_6 a0_7 l0_8))) else (spec_MsgOk.j0 k true a0_0 a0_1 a0_2 a0_3 a0_4 a0_5 a0_6 a0_7 l0_8))) else (spec_MsgOk.j0 k true a0_0 a0_1 a0_2 a0_3 a0_4 a0_5 a0_6 a0_7 l0_8))) = some r := h
 clear h
 have HC3 := am H
 clear H
 go_enter Try.func16, Try.ntmps16
 go_upto_region 1 with (first | ((with_reducible refine gate_dst (N := 2) rfl ?_); (try (refine gate_guard (by rfl) ?_; dsimp only)); refine box_event ?hg (N := 2) ?hd (cs := #[.int .i64 a0_0, .int .i64 a0_1, .int .i64 a0_2, .int .i64 a0_3, .int .i64 a0_4, .int .i64 a0_5, .int .i64 a0_6, .bool a0_7, .slice A0_8 l0_8.length c0_8]) (t := 29) ?hr ?_; (case hd => rfl); (case hg => rfl); (case hr => first | (go_simp; done) | (go_simp; rfl)); intro gb150 hg w4 hbox hb; have n0_ := am (below_step u6_4 hb); have n1_ := am (hbox); have n2_ := am ((by rw [hg]; exact (below_size u6_4) : w.heap.size ≤ gb150)); have n3_ := am ((by rw [hg]; exact (below_size u6_4) : w.heap.size ≤ gb150)); clear HB; have HB := n0_; have BK150 := n1_; have GW150 := n2_; have GE150 := n3_; clear n0_ n1_ n2_ n3_; clear hb hbox hg))
 (try simp only [Act.put, la, lb, lc])
 go_cut [43] (fun v43 wc => ∃ (kq : Nat) (x43_2 : Bool), v43 = .bool x43_2 ∧ Aside0 (spec_MsgOk.j0 kq x43_2 a0_0 a0_1 a0_2 a0_3 a0_4 a0_5 a0_6 a0_7 l0_8 = some r) ∧ Aside0 (kq ≤ k) ∧ Aside0 (wc.heap[gb150]? = some (.cells #[.int .i64 a0_0, .int .i64 a0_1, .int .i64 a0_2, .int .i64 a0_3, .int .i64 a0_4, .int .i64 a0_5, .int .i64 a0_6, .bool a0_7, (.slice A0_8 l0_8.length c0_8)] 29 (0, 0))) ∧ Aside0 (Below w.heap.size w wc))
 case first =>
   have H := HC3.out
   clear HC3
   replace H := Option.bind_eq_some_iff.mp H
   obtain ⟨t151, A50, H⟩ := H
   have A5 := am A50
   clear A50
   by_cases c6 : t151 = true
   rotate_left
   · replace c6 := Bool.eq_false_iff.mpr c6
     subst c6
     rw [if_neg (show ¬ (false = true) by decide)] at H
     have H' := am H
     clear H
     go_wp2_with (first | ((with_reducible refine gate_callee (f := 62) rfl ?_); refine goesL_ (some 7) rfl rfl Try.func62 kr rfl #[.int .i64 a1] rfl u6_1 ?_; (with_reducible refine (spec_l07Size.calls a1 false _ A5.out).mono ?_); rintro e w' ⟨rfl, ⟨nd, rfl⟩⟩; refine ⟨_, rfl, ?_⟩))
     go_meet
     case rel => exact ⟨_, (true), u6_3, H', ⟨by first | omega | exact Nat.le_refl _⟩, ⟨u6_2⟩, ⟨u6_0⟩⟩
   subst c6
   rw [if_pos rfl] at H
   replace H := Option.bind_eq_some_iff.mp H
   obtain ⟨t152, A70, H⟩ := H
   have A7 := am A70
   clear A70
   by_cases c8 : t152 = true
   rotate_left
   · replace c8 := Bool.eq_false_iff.mpr c8
     subst c8
     rw [if_neg (show ¬ (false = true) by decide)] at H
     have H' := am H
     clear H
     go_wp2_with (first | ((with_reducible refine gate_callee (f := 62) rfl ?_); refine goesL_ (some 7) rfl rfl Try.func62 kr rfl #[.int .i64 a1] rfl u6_1 ?_; (with_reducible refine (spec_l07Size.calls a1 true _ A5.out).mono ?_); rintro e w' ⟨rfl, ⟨nd, rfl⟩⟩; refine ⟨_, rfl, ?_⟩; have hcz19_0 : w4.cell? ⟨gb150, 0, none⟩ = some (.int .i64 a0_0) := (blk_cell BK150.out 0).trans rfl; have hcz19_1 : w4.cell? ⟨gb150, 1, none⟩ = some (.int .i64 a0_1) := (blk_cell BK150.out 1).trans rfl; have hcz19_2 : w4.cell? ⟨gb150, 2, none⟩ = some (.int .i64 a0_2) := (blk_cell BK150.out 2).trans rfl; have hcz19_3 : w4.cell? ⟨gb150, 3, none⟩ = some (.int .i64 a0_3) := (blk_cell BK150.out 3).trans rfl; have hcz19_4 : w4.cell? ⟨gb150, 4, none⟩ = some (.int .i64 a0_4) := (blk_cell BK150.out 4).trans rfl; have hcz19_5 : w4.cell? ⟨gb150, 5, none⟩ = some (.int .i64 a0_5) := (blk_cell BK150.out 5).trans rfl; have hcz19_6 : w4.cell? ⟨gb150, 6, none⟩ = some (.int .i64 a0_6) := (blk_cell BK150.out 6).trans rfl; have hcz19_7 : w4.cell? ⟨gb150, 7, none⟩ = some (.bool a0_7) := (blk_cell BK150.out 7).trans rfl; have hcz19_8 : w4.cell? ⟨gb150, 8, none⟩ = some (.slice A0_8 l0_8.length c0_8) := (blk_cell BK150.out 8).trans rfl) | (go_at_call 63; (with_reducible refine (spec_l01In.calls a0_0 0 3 false _ A7.out).mono ?_); rintro e w' ⟨rfl, ⟨nd, rfl⟩⟩))
     go_meet
     case rel => exact ⟨_, (true), u6_3, H', ⟨by first | omega | exact Nat.le_refl _⟩, ⟨u6_2⟩, ⟨u6_0⟩⟩
   subst c8
   rw [if_pos rfl] at H
   replace H := Option.bind_eq_some_iff.mp H
   obtain ⟨t153, A90, H⟩ := H
   have A9 := am A90
   clear A90
   by_cases c10 : t153 = true
   rotate_left
   · replace c10 := Bool.eq_false_iff.mpr c10
     subst c10
     rw [if_neg (show ¬ (false = true) by decide)] at H
     have H' := am H
     clear H
     go_wp2_with (first | ((with_reducible refine gate_callee (f := 62) rfl ?_); refine goesL_ (some 7) rfl rfl Try.func62 kr rfl #[.int .i64 a1] rfl u6_1 ?_; (with_reducible refine (spec_l07Size.calls a1 true _ A5.out).mono ?_); rintro e w' ⟨rfl, ⟨nd, rfl⟩⟩; refine ⟨_, rfl, ?_⟩; have hcz18_0 : w4.cell? ⟨gb150, 0, none⟩ = some (.int .i64 a0_0) := (blk_cell BK150.out 0).trans rfl; have hcz18_1 : w4.cell? ⟨gb150, 1, none⟩ = some (.int .i64 a0_1) := (blk_cell BK150.out 1).trans rfl; have hcz18_2 : w4.cell? ⟨gb150, 2, none⟩ = some (.int .i64 a0_2) := (blk_cell BK150.out 2).trans rfl; have hcz18_3 : w4.cell? ⟨gb150, 3, none⟩ = some (.int .i64 a0_3) := (blk_cell BK150.out 3).trans rfl; have hcz18_4 : w4.cell? ⟨gb150, 4, none⟩ = some (.int .i64 a0_4) := (blk_cell BK150.out 4).trans rfl; have hcz18_5 : w4.cell? ⟨gb150, 5, none⟩ = some (.int .i64 a0_5) := (blk_cell BK150.out 5).trans rfl; have hcz18_6 : w4.cell? ⟨gb150, 6, none⟩ = some (.int .i64 a0_6) := (blk_cell BK150.out 6).trans rfl; have hcz18_7 : w4.cell? ⟨gb150, 7, none⟩ = some (.bool a0_7) := (blk_cell BK150.out 7).trans rfl; have hcz18_8 : w4.cell? ⟨gb150, 8, none⟩ = some (.slice A0_8 l0_8.length c0_8) := (blk_cell BK150.out 8).trans rfl) | (go_at_call 63; (with_reducible refine (spec_l01In.calls a0_0 0 3 true _ A7.out).mono ?_); rintro e w' ⟨rfl, ⟨nd, rfl⟩⟩) | (go_at_call 63; (with_reducible refine (spec_l01In.calls a0_1 0 (wrap64 (a1 - 1)) false _ A9.out).mono ?_); rintro e w' ⟨rfl, ⟨nd, rfl⟩⟩))
     go_meet
     case rel => exact ⟨_, (true), u6_3, H', ⟨by first | omega | exact Nat.le_refl _⟩, ⟨u6_2⟩, ⟨u6_0⟩⟩
   subst c10
   rw [if_pos rfl] at H
   replace H := Option.bind_eq_some_iff.mp H
   obtain ⟨t154, A110, H⟩ := H
   have A11 := am A110
   clear A110
   by_cases c12 : t154 = true
   rotate_left
   · replace c12 := Bool.eq_false_iff.mpr c12
     subst c12
     rw [if_neg (show ¬ (false = true) by decide)] at H
     have H' := am H
     clear H
     go_wp2_with (first | ((with_reducible refine gate_callee (f := 62) rfl ?_); refine goesL_ (some 7) rfl rfl Try.func62 kr rfl #[.int .i64 a1] rfl u6_1 ?_; (with_reducible refine (spec_l07Size.calls a1 true _ A5.out).mono ?_); rintro e w' ⟨rfl, ⟨nd, rfl⟩⟩; refine ⟨_, rfl, ?_⟩; have hcz17_0 : w4.cell? ⟨gb150, 0, none⟩ = some (.int .i64 a0_0) := (blk_cell BK150.out 0).trans rfl; have hcz17_1 : w4.cell? ⟨gb150, 1, none⟩ = some (.int .i64 a0_1) := (blk_cell BK150.out 1).trans rfl; have hcz17_2 : w4.cell? ⟨gb150, 2, none⟩ = some (.int .i64 a0_2) := (blk_cell BK150.out 2).trans rfl; have hcz17_3 : w4.cell? ⟨gb150, 3, none⟩ = some (.int .i64 a0_3) := (blk_cell BK150.out 3).trans rfl; have hcz17_4 : w4.cell? ⟨gb150, 4, none⟩ = some (.int .i64 a0_4) := (blk_cell BK150.out 4).trans rfl; have hcz17_5 : w4.cell? ⟨gb150, 5, none⟩ = some (.int .i64 a0_5) := (blk_cell BK150.out 5).trans rfl; have hcz17_6 : w4.cell? ⟨gb150, 6, none⟩ = some (.int .i64 a0_6) := (blk_cell BK150.out 6).trans rfl; have hcz17_7 : w4.cell? ⟨gb150, 7, none⟩ = some (.bool a0_7) := (blk_cell BK150.out 7).trans rfl; have hcz17_8 : w4.cell? ⟨gb150, 8, none⟩ = some (.slice A0_8 l0_8.length c0_8) := (blk_cell BK150.out 8).trans rfl) | (go_at_call 63; (with_reducible refine (spec_l01In.calls a0_0 0 3 true _ A7.out).mono ?_); rintro e w' ⟨rfl, ⟨nd, rfl⟩⟩) | (go_at_call 63; (with_reducible refine (spec_l01In.calls a0_1 0 (wrap64 (a1 - 1)) true _ A9.out).mono ?_); rintro e w' ⟨rfl, ⟨nd, rfl⟩⟩) | (go_at_call 63; (with_reducible refine (spec_l01In.calls a0_2 0 (wrap64 (a1 - 1)) false _ A11.out).mono ?_); rintro e w' ⟨rfl, ⟨nd, rfl⟩⟩))
     go_meet
     case rel => exact ⟨_, (true), u6_3, H', ⟨by first | omega | exact Nat.le_refl _⟩, ⟨u6_2⟩, ⟨u6_0⟩⟩
   subst c12
   rw [if_pos rfl] at H
   by_cases c13 : a0_1 = a0_2
   · rw [if_pos c13] at H
     have c13b0 : (a0_1 == a0_2) = true := beq_iff_eq.mpr c13
     have c13b1 : (a0_1 != a0_2) = false := bne_eq_false_iff_eq.mpr c13
     clear c13
     (first | rw [c13b0] | (simp only [i64_w, i32_w]; rw [c13b0]) | skip)
     have H' := am H
     clear H
     go_wp2_with (first | ((with_reducible refine gate_callee (f := 62) rfl ?_); refine goesL_ (some 7) rfl rfl Try.func62 kr rfl #[.int .i64 a1] rfl u6_1 ?_; (with_reducible refine (spec_l07Size.calls a1 true _ A5.out).mono ?_); rintro e w' ⟨rfl, ⟨nd, rfl⟩⟩; refine ⟨_, rfl, ?_⟩; have hcz14_0 : w4.cell? ⟨gb150, 0, none⟩ = some (.int .i64 a0_0) := (blk_cell BK150.out 0).trans rfl; have hcz14_1 : w4.cell? ⟨gb150, 1, none⟩ = some (.int .i64 a0_1) := (blk_cell BK150.out 1).trans rfl; have hcz14_2 : w4.cell? ⟨gb150, 2, none⟩ = some (.int .i64 a0_2) := (blk_cell BK150.out 2).trans rfl; have hcz14_3 : w4.cell? ⟨gb150, 3, none⟩ = some (.int .i64 a0_3) := (blk_cell BK150.out 3).trans rfl; have hcz14_4 : w4.cell? ⟨gb150, 4, none⟩ = some (.int .i64 a0_4) := (blk_cell BK150.out 4).trans rfl; have hcz14_5 : w4.cell? ⟨gb150, 5, none⟩ = some (.int .i64 a0_5) := (blk_cell BK150.out 5).trans rfl; have hcz14_6 : w4.cell? ⟨gb150, 6, none⟩ = some (.int .i64 a0_6) := (blk_cell BK150.out 6).trans rfl; have hcz14_7 : w4.cell? ⟨gb150, 7, none⟩ = some (.bool a0_7) := (blk_cell BK150.out 7).trans rfl; have hcz14_8 : w4.cell? ⟨gb150, 8, none⟩ = some (.slice A0_8 l0_8.length c0_8) := (blk_cell BK150.out 8).trans rfl) | (go_at_call 63; (with_reducible refine (spec_l01In.calls a0_0 0 3 true _ A7.out).mono ?_); rintro e w' ⟨rfl, ⟨nd, rfl⟩⟩) | (go_at_call 63; (with_reducible refine (spec_l01In.calls a0_1 0 (wrap64 (a1 - 1)) true _ A9.out).mono ?_); rintro e w' ⟨rfl, ⟨nd, rfl⟩⟩) | (go_at_call 63; (with_reducible refine (spec_l01In.calls a0_2 0 (wrap64 (a1 - 1)) true _ A11.out).mono ?_); rintro e w' ⟨rfl, ⟨nd, rfl⟩⟩))
     go_meet
     case rel => exact ⟨_, (true), u6_3, H', ⟨by first | omega | exact Nat.le_refl _⟩, ⟨u6_2⟩, ⟨u6_0⟩⟩
   rw [if_neg c13] at H
   have c13b0 : (a0_1 == a0_2) = false := beq_eq_false_iff_ne.mpr c13
   have c13b1 : (a0_1 != a0_2) = true := bne_iff_ne.mpr c13
   (first | rw [c13b0] | (simp only [i64_w, i32_w]; rw [c13b0]) | skip)
   replace H := Option.bind_eq_some_iff.mp H
   obtain ⟨t155, A150, H⟩ := H
   replace H : (spec_MsgOk.j0 k (!t155) a0_0 a0_1 a0_2 a0_3 a0_4 a0_5 a0_6 a0_7 l0_8) = some r := H
   have A15 := am A150
   clear A150
   have H' := am H
   clear H
   go_wp2_with (first | ((with_reducible refine gate_callee (f := 62) rfl ?_); refine goesL_ (some 7) rfl rfl Try.func62 kr rfl #[.int .i64 a1] rfl u6_1 ?_; (with_reducible refine (spec_l07Size.calls a1 true _ A5.out).mono ?_); rintro e w' ⟨rfl, ⟨nd, rfl⟩⟩; refine ⟨_, rfl, ?_⟩; have hcz16_0 : w4.cell? ⟨gb150, 0, none⟩ = some (.int .i64 a0_0) := (blk_cell BK150.out 0).trans rfl; have hcz16_1 : w4.cell? ⟨gb150, 1, none⟩ = some (.int .i64 a0_1) := (blk_cell BK150.out 1).trans rfl; have hcz16_2 : w4.cell? ⟨gb150, 2, none⟩ = some (.int .i64 a0_2) := (blk_cell BK150.out 2).trans rfl; have hcz16_3 : w4.cell? ⟨gb150, 3, none⟩ = some (.int .i64 a0_3) := (blk_cell BK150.out 3).trans rfl; have hcz16_4 : w4.cell? ⟨gb150, 4, none⟩ = some (.int .i64 a0_4) := (blk_cell BK150.out 4).trans rfl; have hcz16_5 : w4.cell? ⟨gb150, 5, none⟩ = some (.int .i64 a0_5) := (blk_cell BK150.out 5).trans rfl; have hcz16_6 : w4.cell? ⟨gb150, 6, none⟩ = some (.int .i64 a0_6) := (blk_cell BK150.out 6).trans rfl; have hcz16_7 : w4.cell? ⟨gb150, 7, none⟩ = some (.bool a0_7) := (blk_cell BK150.out 7).trans rfl; have hcz16_8 : w4.cell? ⟨gb150, 8, none⟩ = some (.slice A0_8 l0_8.length c0_8) := (blk_cell BK150.out 8).trans rfl) | (go_at_call 63; (with_reducible refine (spec_l01In.calls a0_0 0 3 true _ A7.out).mono ?_); rintro e w' ⟨rfl, ⟨nd, rfl⟩⟩) | (go_at_call 63; (with_reducible refine (spec_l01In.calls a0_1 0 (wrap64 (a1 - 1)) true _ A9.out).mono ?_); rintro e w' ⟨rfl, ⟨nd, rfl⟩⟩) | (go_at_call 63; (with_reducible refine (spec_l01In.calls a0_2 0 (wrap64 (a1 - 1)) true _ A11.out).mono ?_); rintro e w' ⟨rfl, ⟨nd, rfl⟩⟩) | (go_at_call 63; (with_reducible refine (spec_l01In.calls a0_3 1 1000000 t155 _ A15.out).mono ?_); rintro e w' ⟨rfl, ⟨nd, rfl⟩⟩))
   go_meet
   case rel => exact ⟨_, (!t155), u6_3, H', ⟨by first | omega | exact Nat.le_refl _⟩, ⟨u6_2⟩, ⟨u6_0⟩⟩
 clear HC3
 try clear c1
 try clear p2
 try clear c6
 try clear p6
 try clear c8
 try clear c10
 try clear c12
 try clear c13
 try clear c13b0
 try clear c13b1
 try clear c16
 try clear hcz14_0
 try clear hcz14_1
 try clear hcz14_2
 try clear hcz14_3
 try clear hcz14_4
 try clear hcz14_5
 try clear hcz14_6
 try clear hcz14_7
 try clear hcz14_8
 try clear hcz16_0
 try clear hcz16_1
 try clear hcz16_2
 try clear hcz16_3
 try clear hcz16_4
 try clear hcz16_5
 try clear hcz16_6
 try clear hcz16_7
 try clear hcz16_8
 try clear hcz17_0
 try clear hcz17_1
 try clear hcz17_2
 try clear hcz17_3
 try clear hcz17_4
 try clear hcz17_5
 try clear hcz17_6
 try clear hcz17_7
 try clear hcz17_8
 try clear hcz18_0
 try clear hcz18_1
 try clear hcz18_2
 try clear hcz18_3
 try clear hcz18_4
 try clear hcz18_5
 try clear hcz18_6
 try clear hcz18_7
 try clear hcz18_8
 try clear hcz19_0
 try clear hcz19_1
 try clear hcz19_2
 try clear hcz19_3
 try clear hcz19_4
 try clear hcz19_5
 try clear hcz19_6
 try clear hcz19_7
 try clear hcz19_8
 obtain ⟨kq, x43_2, rfl, HA, HJ2, BK150, HB⟩ := hcut
 cases kq with
 | zero => exact absurd HA.out (by simp [spec_MsgOk.j0])
 | succ kj2 =>
   have H := HA.out
   clear HA
   simp only [spec_MsgOk.j0] at H
   by_cases c20 : x43_2 = true
   · subst c20
     rw [if_pos rfl] at H
     obtain rfl := Option.some.inj H
     go_wp2
     go_ret
     exact ⟨by first | rfl | (simp [errW_none, errW_some] <;> rfl) | (simp [*, errW_none, errW_some] <;> rfl), u6_0⟩
   replace c20 := Bool.eq_false_iff.mpr c20
   subst c20
   rw [if_neg (show ¬ (false = true) by decide)] at H
   have HC21 := am H
   clear H
   go_upto_region 3 with (fail)
   go_cut [65] (fun v65 wc => ∃ (kq : Nat) (x65_20 : Bool), v65 = .bool x65_20 ∧ Aside0 (spec_MsgOk.j1 kq x65_20 a0_0 a0_1 a0_2 a0_3 a0_4 a0_5 a0_6 a0_7 l0_8 = some r) ∧ Aside0 (kq ≤ kj2) ∧ Aside0 (wc.heap[gb150]? = some (.cells #[.int .i64 a0_0, .int .i64 a0_1, .int .i64 a0_2, .int .i64 a0_3, .int .i64 a0_4, .int .i64 a0_5, .int .i64 a0_6, .bool a0_7, (.slice A0_8 l0_8.length c0_8)] 29 (0, 0))) ∧ Aside0 (Below w.heap.size w wc))
   case first =>
     have H := HC21.out
     clear HC21
     replace H := Option.bind_eq_some_iff.mp H
     obtain ⟨t156, A220, H⟩ := H
     have A22 := am A220
     clear A220
     by_cases c23 : t156 = true
     rotate_left
     · replace c23 := Bool.eq_false_iff.mpr c23
       subst c23
       rw [if_neg (show ¬ (false = true) by decide)] at H
       have H' := am H
       clear H
       have hcz31_0 : wc.cell? ⟨gb150, 0, none⟩ = some (.int .i64 a0_0) := (blk_cell BK150.out 0).trans rfl
       have hcz31_1 : wc.cell? ⟨gb150, 1, none⟩ = some (.int .i64 a0_1) := (blk_cell BK150.out 1).trans rfl
       have hcz31_2 : wc.cell? ⟨gb150, 2, none⟩ = some (.int .i64 a0_2) := (blk_cell BK150.out 2).trans rfl
       have hcz31_3 : wc.cell? ⟨gb150, 3, none⟩ = some (.int .i64 a0_3) := (blk_cell BK150.out 3).trans rfl
       have hcz31_4 : wc.cell? ⟨gb150, 4, none⟩ = some (.int .i64 a0_4) := (blk_cell BK150.out 4).trans rfl
       have hcz31_5 : wc.cell? ⟨gb150, 5, none⟩ = some (.int .i64 a0_5) := (blk_cell BK150.out 5).trans rfl
       have hcz31_6 : wc.cell? ⟨gb150, 6, none⟩ = some (.int .i64 a0_6) := (blk_cell BK150.out 6).trans rfl
       have hcz31_7 : wc.cell? ⟨gb150, 7, none⟩ = some (.bool a0_7) := (blk_cell BK150.out 7).trans rfl
       have hcz31_8 : wc.cell? ⟨gb150, 8, none⟩ = some (.slice A0_8 l0_8.length c0_8) := (blk_cell BK150.out 8).trans rfl
       go_wp2_with (first | ((with_reducible refine gate_callee (f := 63) rfl ?_); refine goesL_ (some 46) rfl rfl Try.func63 kr rfl #[.int .i64 a0_4, .int .i64 0, .int .i64 60] rfl u6_1 ?_; (with_reducible refine (spec_l01In.calls a0_4 0 60 false _ A22.out).mono ?_); rintro e w' ⟨rfl, ⟨nd, rfl⟩⟩; refine ⟨_, rfl, ?_⟩))
       go_meet
       case rel => exact ⟨_, (true), u6_3, H', ⟨u6_6⟩, ⟨u6_2⟩, ⟨u6_0⟩⟩
     subst c23
     rw [if_pos rfl] at H
     replace H := Option.bind_eq_some_iff.mp H
     obtain ⟨t157, A240, H⟩ := H
     have A24 := am A240
     clear A240
     by_cases c25 : t157 = true
     rotate_left
     · replace c25 := Bool.eq_false_iff.mpr c25
       subst c25
       rw [if_neg (show ¬ (false = true) by decide)] at H
       have H' := am H
       clear H
       have hcz30_0 : wc.cell? ⟨gb150, 0, none⟩ = some (.int .i64 a0_0) := (blk_cell BK150.out 0).trans rfl
       have hcz30_1 : wc.cell? ⟨gb150, 1, none⟩ = some (.int .i64 a0_1) := (blk_cell BK150.out 1).trans rfl
       have hcz30_2 : wc.cell? ⟨gb150, 2, none⟩ = some (.int .i64 a0_2) := (blk_cell BK150.out 2).trans rfl
       have hcz30_3 : wc.cell? ⟨gb150, 3, none⟩ = some (.int .i64 a0_3) := (blk_cell BK150.out 3).trans rfl
       have hcz30_4 : wc.cell? ⟨gb150, 4, none⟩ = some (.int .i64 a0_4) := (blk_cell BK150.out 4).trans rfl
       have hcz30_5 : wc.cell? ⟨gb150, 5, none⟩ = some (.int .i64 a0_5) := (blk_cell BK150.out 5).trans rfl
       have hcz30_6 : wc.cell? ⟨gb150, 6, none⟩ = some (.int .i64 a0_6) := (blk_cell BK150.out 6).trans rfl
       have hcz30_7 : wc.cell? ⟨gb150, 7, none⟩ = some (.bool a0_7) := (blk_cell BK150.out 7).trans rfl
       have hcz30_8 : wc.cell? ⟨gb150, 8, none⟩ = some (.slice A0_8 l0_8.length c0_8) := (blk_cell BK150.out 8).trans rfl
       go_wp2_with (first | ((with_reducible refine gate_callee (f := 63) rfl ?_); refine goesL_ (some 46) rfl rfl Try.func63 kr rfl #[.int .i64 a0_4, .int .i64 0, .int .i64 60] rfl u6_1 ?_; (with_reducible refine (spec_l01In.calls a0_4 0 60 true _ A22.out).mono ?_); rintro e w' ⟨rfl, ⟨nd, rfl⟩⟩; refine ⟨_, rfl, ?_⟩) | (go_at_call 63; (with_reducible refine (spec_l01In.calls a0_5 0 1000000 false _ A24.out).mono ?_); rintro e w' ⟨rfl, ⟨nd, rfl⟩⟩))
       go_meet
       case rel => exact ⟨_, (true), u6_3, H', ⟨u6_6⟩, ⟨u6_2⟩, ⟨u6_0⟩⟩
     subst c25
     rw [if_pos rfl] at H
     replace H := Option.bind_eq_some_iff.mp H
     obtain ⟨t158, A260, H⟩ := H
     have A26 := am A260
     clear A260
     by_cases c27 : t158 = true
     · subst c27
       rw [if_pos rfl] at H
       have H' := am H
       clear H
       have hcz28_0 : wc.cell? ⟨gb150, 0, none⟩ = some (.int .i64 a0_0) := (blk_cell BK150.out 0).trans rfl
       have hcz28_1 : wc.cell? ⟨gb150, 1, none⟩ = some (.int .i64 a0_1) := (blk_cell BK150.out 1).trans rfl
       have hcz28_2 : wc.cell? ⟨gb150, 2, none⟩ = some (.int .i64 a0_2) := (blk_cell BK150.out 2).trans rfl
       have hcz28_3 : wc.cell? ⟨gb150, 3, none⟩ = some (.int .i64 a0_3) := (blk_cell BK150.out 3).trans rfl
       have hcz28_4 : wc.cell? ⟨gb150, 4, none⟩ = some (.int .i64 a0_4) := (blk_cell BK150.out 4).trans rfl
       have hcz28_5 : wc.cell? ⟨gb150, 5, none⟩ = some (.int .i64 a0_5) := (blk_cell BK150.out 5).trans rfl
       have hcz28_6 : wc.cell? ⟨gb150, 6, none⟩ = some (.int .i64 a0_6) := (blk_cell BK150.out 6).trans rfl
       have hcz28_7 : wc.cell? ⟨gb150, 7, none⟩ = some (.bool a0_7) := (blk_cell BK150.out 7).trans rfl
       have hcz28_8 : wc.cell? ⟨gb150, 8, none⟩ = some (.slice A0_8 l0_8.length c0_8) := (blk_cell BK150.out 8).trans rfl
       go_wp2_with (first | ((with_reducible refine gate_callee (f := 63) rfl ?_); refine goesL_ (some 46) rfl rfl Try.func63 kr rfl #[.int .i64 a0_4, .int .i64 0, .int .i64 60] rfl u6_1 ?_; (with_reducible refine (spec_l01In.calls a0_4 0 60 true _ A22.out).mono ?_); rintro e w' ⟨rfl, ⟨nd, rfl⟩⟩; refine ⟨_, rfl, ?_⟩) | (go_at_call 63; (with_reducible refine (spec_l01In.calls a0_5 0 1000000 true _ A24.out).mono ?_); rintro e w' ⟨rfl, ⟨nd, rfl⟩⟩) | (go_at_call 63; (with_reducible refine (spec_l01In.calls a0_6 0 1000000 true _ A26.out).mono ?_); rintro e w' ⟨rfl, ⟨nd, rfl⟩⟩))
       go_meet
       case rel => exact ⟨_, (decide ((l0_8.length : Int) > 10)), u6_3, H', ⟨u6_6⟩, ⟨u6_2⟩, ⟨u6_0⟩⟩
     replace c27 := Bool.eq_false_iff.mpr c27
     subst c27
     rw [if_neg (show ¬ (false = true) by decide)] at H
     have H' := am H
     clear H
     have hcz29_0 : wc.cell? ⟨gb150, 0, none⟩ = some (.int .i64 a0_0) := (blk_cell BK150.out 0).trans rfl
     have hcz29_1 : wc.cell? ⟨gb150, 1, none⟩ = some (.int .i64 a0_1) := (blk_cell BK150.out 1).trans rfl
     have hcz29_2 : wc.cell? ⟨gb150, 2, none⟩ = some (.int .i64 a0_2) := (blk_cell BK150.out 2).trans rfl
     have hcz29_3 : wc.cell? ⟨gb150, 3, none⟩ = some (.int .i64 a0_3) := (blk_cell BK150.out 3).trans rfl
     have hcz29_4 : wc.cell? ⟨gb150, 4, none⟩ = some (.int .i64 a0_4) := (blk_cell BK150.out 4).trans rfl
     have hcz29_5 : wc.cell? ⟨gb150, 5, none⟩ = some (.int .i64 a0_5) := (blk_cell BK150.out 5).trans rfl
     have hcz29_6 : wc.cell? ⟨gb150, 6, none⟩ = some (.int .i64 a0_6) := (blk_cell BK150.out 6).trans rfl
     have hcz29_7 : wc.cell? ⟨gb150, 7, none⟩ = some (.bool a0_7) := (blk_cell BK150.out 7).trans rfl
     have hcz29_8 : wc.cell? ⟨gb150, 8, none⟩ = some (.slice A0_8 l0_8.length c0_8) := (blk_cell BK150.out 8).trans rfl
     go_wp2_with (first | ((with_reducible refine gate_callee (f := 63) rfl ?_); refine goesL_ (some 46) rfl rfl Try.func63 kr rfl #[.int .i64 a0_4, .int .i64 0, .int .i64 60] rfl u6_1 ?_; (with_reducible refine (spec_l01In.calls a0_4 0 60 true _ A22.out).mono ?_); rintro e w' ⟨rfl, ⟨nd, rfl⟩⟩; refine ⟨_, rfl, ?_⟩) | (go_at_call 63; (with_reducible refine (spec_l01In.calls a0_5 0 1000000 true _ A24.out).mono ?_); rintro e w' ⟨rfl, ⟨nd, rfl⟩⟩) | (go_at_call 63; (with_reducible refine (spec_l01In.calls a0_6 0 1000000 false _ A26.out).mono ?_); rintro e w' ⟨rfl, ⟨nd, rfl⟩⟩))
     go_meet
     case rel => exact ⟨_, (true), u6_3, H', ⟨u6_6⟩, ⟨u6_2⟩, ⟨u6_0⟩⟩
   clear HC21
   try clear c1
   try clear c2
   try clear p2
   try clear c6
   try clear p6
   try clear c8
   try clear c10
   try clear c12
   try clear c13
   try clear c13b0
   try clear c13b1
   try clear c16
   try clear c20
   try clear c23
   try clear c25
   try clear c27
   try clear hcz14_0
   try clear hcz14_1
   try clear hcz14_2
   try clear hcz14_3
   try clear hcz14_4
   try clear hcz14_5
   try clear hcz14_6
   try clear hcz14_7
   try clear hcz14_8
   try clear hcz16_0
   try clear hcz16_1
   try clear hcz16_2
   try clear hcz16_3
   try clear hcz16_4
   try clear hcz16_5
   try clear hcz16_6
   try clear hcz16_7
   try clear hcz16_8
   try clear hcz17_0
   try clear hcz17_1
   try clear hcz17_2
   try clear hcz17_3
   try clear hcz17_4
   try clear hcz17_5
   try clear hcz17_6
   try clear hcz17_7
   try clear hcz17_8
   try clear hcz18_0
   try clear hcz18_1
   try clear hcz18_2
   try clear hcz18_3
   try clear hcz18_4
   try clear hcz18_5
   try clear hcz18_6
   try clear hcz18_7
   try clear hcz18_8
   try clear hcz19_0
   try clear hcz19_1
   try clear hcz19_2
   try clear hcz19_3
   try clear hcz19_4
   try clear hcz19_5
   try clear hcz19_6
   try clear hcz19_7
   try clear hcz19_8
   try clear hcz28_0
   try clear hcz28_1
   try clear hcz28_2
   try clear hcz28_3
   try clear hcz28_4
   try clear hcz28_5
   try clear hcz28_6
   try clear hcz28_7
   try clear hcz28_8
   try clear hcz29_0
   try clear hcz29_1
   try clear hcz29_2
   try clear hcz29_3
   try clear hcz29_4
   try clear hcz29_5
   try clear hcz29_6
   try clear hcz29_7
   try clear hcz29_8
   try clear hcz30_0
   try clear hcz30_1
   try clear hcz30_2
   try clear hcz30_3
   try clear hcz30_4
   try clear hcz30_5
   try clear hcz30_6
   try clear hcz30_7
   try clear hcz30_8
   try clear hcz31_0
   try clear hcz31_1
   try clear hcz31_2
   try clear hcz31_3
   try clear hcz31_4
   try clear hcz31_5
   try clear hcz31_6
   try clear hcz31_7
   try clear hcz31_8
   try clear p2
   try clear p6
   obtain ⟨kq, x65_20, rfl, HA, HJ20, BK150, HB⟩ := hcut
   cases kq with
   | zero => exact absurd HA.out (by simp [spec_MsgOk.j1])
   | succ kj20 =>
     have H := HA.out
     clear HA
     simp only [spec_MsgOk.j1] at H
     by_cases c32 : x65_20 = true
     · subst c32
       rw [if_pos rfl] at H
       obtain rfl := Option.some.inj H
       go_wp2
       go_ret
       exact ⟨by first | rfl | (simp [errW_none, errW_some] <;> rfl) | (simp [*, errW_none, errW_some] <;> rfl), u6_0⟩
     replace c32 := Bool.eq_false_iff.mpr c32
     subst c32
     rw [if_neg (show ¬ (false = true) by decide)] at H
     have H' := am H
     clear H
     go_wp2
     go_loopg [5] kj20 (fun kq v5 w' => ∃ (x5_3 : Int), v5 = .int .i64 x5_3 ∧ Aside0 (spec_MsgOk.l0 kq x5_3 a0_0 a0_1 a0_2 a0_3 a0_4 a0_5 a0_6 a0_7 l0_8 = some r) ∧ Aside0 (kq ≤ kj20) ∧ Aside0 (w'.heap[gb150]? = some (.cells #[.int .i64 a0_0, .int .i64 a0_1, .int .i64 a0_2, .int .i64 a0_3, .int .i64 a0_4, .int .i64 a0_5, .int .i64 a0_6, .bool a0_7, (.slice A0_8 l0_8.length c0_8)] 29 (0, 0))) ∧ Aside0 (Below w.heap.size w w'))
     case atStart => exact ⟨(0), u6_3, H', ⟨Nat.le_refl _⟩, ⟨u6_2⟩, ⟨u6_0⟩⟩
     clear H'
     try clear c1
     try clear c2
     try clear p2
     try clear c3
     try clear c6
     try clear p6
     try clear c8
     try clear c10
     try clear c12
     try clear c13
     try clear c13b0
     try clear c13b1
     try clear c16
     try clear c20
     try clear c23
     try clear c25
     try clear c27
     try clear c32
     try clear hcz14_0
     try clear hcz14_1
     try clear hcz14_2
     try clear hcz14_3
     try clear hcz14_4
     try clear hcz14_5
     try clear hcz14_6
     try clear hcz14_7
     try clear hcz14_8
     try clear hcz16_0
     try clear hcz16_1
     try clear hcz16_2
     try clear hcz16_3
     try clear hcz16_4
     try clear hcz16_5
     try clear hcz16_6
     try clear hcz16_7
     try clear hcz16_8
     try clear hcz17_0
     try clear hcz17_1
     try clear hcz17_2
     try clear hcz17_3
     try clear hcz17_4
     try clear hcz17_5
     try clear hcz17_6
     try clear hcz17_7
     try clear hcz17_8
     try clear hcz18_0
     try clear hcz18_1
     try clear hcz18_2
     try clear hcz18_3
     try clear hcz18_4
     try clear hcz18_5
     try clear hcz18_6
     try clear hcz18_7
     try clear hcz18_8
     try clear hcz19_0
     try clear hcz19_1
     try clear hcz19_2
     try clear hcz19_3
     try clear hcz19_4
     try clear hcz19_5
     try clear hcz19_6
     try clear hcz19_7
     try clear hcz19_8
     try clear hcz28_0
     try clear hcz28_1
     try clear hcz28_2
     try clear hcz28_3
     try clear hcz28_4
     try clear hcz28_5
     try clear hcz28_6
     try clear hcz28_7
     try clear hcz28_8
     try clear hcz29_0
     try clear hcz29_1
     try clear hcz29_2
     try clear hcz29_3
     try clear hcz29_4
     try clear hcz29_5
     try clear hcz29_6
     try clear hcz29_7
     try clear hcz29_8
     try clear hcz30_0
     try clear hcz30_1
     try clear hcz30_2
     try clear hcz30_3
     try clear hcz30_4
     try clear hcz30_5
     try clear hcz30_6
     try clear hcz30_7
     try clear hcz30_8
     try clear hcz31_0
     try clear hcz31_1
     try clear hcz31_2
     try clear hcz31_3
     try clear hcz31_4
     try clear hcz31_5
     try clear hcz31_6
     try clear hcz31_7
     try clear hcz31_8
     try clear p2
     try clear p6
     obtain ⟨x5_3, rfl, HA, HK3, BK150, HB⟩ := hrel
     cases gk with
     | zero => exact absurd HA.out (by simp [spec_MsgOk.l0])
     | succ k3 =>
       have H := HA.out
       clear HA
       simp only [spec_MsgOk.l0] at H
       by_cases c33 : x5_3 < (l0_8.length : Int)
       rotate_left
       · rw [if_neg c33] at H
         have c33b0 : decide (x5_3 < (l0_8.length : Int)) = false := decide_eq_false c33
         clear c33
         by_cases c44 : a0_0 = 0
         · rw [if_pos c44] at H
           have c44b0 : (a0_0 == 0) = true := beq_iff_eq.mpr c44
           have c44b1 : (a0_0 != 0) = false := bne_eq_false_iff_eq.mpr c44
           clear c44
           by_cases c45 : a0_6 = 0
           rotate_left
           · rw [if_neg c45] at H
             have c45b0 : (a0_6 == 0) = false := beq_eq_false_iff_ne.mpr c45
             have c45b1 : (a0_6 != 0) = true := bne_iff_ne.mpr c45
             obtain rfl := Option.some.inj H
             have hcz49_0 : wr.cell? ⟨gb150, 0, none⟩ = some (.int .i64 a0_0) := (blk_cell BK150.out 0).trans rfl
             have hcz49_1 : wr.cell? ⟨gb150, 1, none⟩ = some (.int .i64 a0_1) := (blk_cell BK150.out 1).trans rfl
             have hcz49_2 : wr.cell? ⟨gb150, 2, none⟩ = some (.int .i64 a0_2) := (blk_cell BK150.out 2).trans rfl
             have hcz49_3 : wr.cell? ⟨gb150, 3, none⟩ = some (.int .i64 a0_3) := (blk_cell BK150.out 3).trans rfl
             have hcz49_4 : wr.cell? ⟨gb150, 4, none⟩ = some (.int .i64 a0_4) := (blk_cell BK150.out 4).trans rfl
             have hcz49_5 : wr.cell? ⟨gb150, 5, none⟩ = some (.int .i64 a0_5) := (blk_cell BK150.out 5).trans rfl
             have hcz49_6 : wr.cell? ⟨gb150, 6, none⟩ = some (.int .i64 a0_6) := (blk_cell BK150.out 6).trans rfl
             have hcz49_7 : wr.cell? ⟨gb150, 7, none⟩ = some (.bool a0_7) := (blk_cell BK150.out 7).trans rfl
             have hcz49_8 : wr.cell? ⟨gb150, 8, none⟩ = some (.slice A0_8 l0_8.length c0_8) := (blk_cell BK150.out 8).trans rfl
             go_wp2
             go_ret
             exact ⟨by first | rfl | (simp [errW_none, errW_some] <;> rfl) | (simp [*, errW_none, errW_some] <;> rfl), u6_0⟩
           rw [if_pos c45] at H
           have c45b0 : (a0_6 == 0) = true := beq_iff_eq.mpr c45
           have c45b1 : (a0_6 != 0) = false := bne_eq_false_iff_eq.mpr c45
           clear c45
           by_cases c46 : a0_7 = true
           · subst c46
             rw [if_pos rfl] at H
             obtain rfl := Option.some.inj H
             have hcz47_0 : wr.cell? ⟨gb150, 0, none⟩ = some (.int .i64 a0_0) := (blk_cell BK150.out 0).trans rfl
             have hcz47_1 : wr.cell? ⟨gb150, 1, none⟩ = some (.int .i64 a0_1) := (blk_cell BK150.out 1).trans rfl
             have hcz47_2 : wr.cell? ⟨gb150, 2, none⟩ = some (.int .i64 a0_2) := (blk_cell BK150.out 2).trans rfl
             have hcz47_3 : wr.cell? ⟨gb150, 3, none⟩ = some (.int .i64 a0_3) := (blk_cell BK150.out 3).trans rfl
             have hcz47_4 : wr.cell? ⟨gb150, 4, none⟩ = some (.int .i64 a0_4) := (blk_cell BK150.out 4).trans rfl
             have hcz47_5 : wr.cell? ⟨gb150, 5, none⟩ = some (.int .i64 a0_5) := (blk_cell BK150.out 5).trans rfl
             have hcz47_6 : wr.cell? ⟨gb150, 6, none⟩ = some (.int .i64 a0_6) := (blk_cell BK150.out 6).trans rfl
             have hcz47_7 : wr.cell? ⟨gb150, 7, none⟩ = some (.bool true) := (blk_cell BK150.out 7).trans rfl
             have hcz47_8 : wr.cell? ⟨gb150, 8, none⟩ = some (.slice A0_8 l0_8.length c0_8) := (blk_cell BK150.out 8).trans rfl
             go_wp2
             go_ret
             exact ⟨by first | rfl | (simp [errW_none, errW_some] <;> rfl) | (simp [*, errW_none, errW_some] <;> rfl), u6_0⟩
           replace c46 := Bool.eq_false_iff.mpr c46
           subst c46
           rw [if_neg (show ¬ (false = true) by decide)] at H
           obtain rfl := Option.some.inj H
           have hcz48_0 : wr.cell? ⟨gb150, 0, none⟩ = some (.int .i64 a0_0) := (blk_cell BK150.out 0).trans rfl
           have hcz48_1 : wr.cell? ⟨gb150, 1, none⟩ = some (.int .i64 a0_1) := (blk_cell BK150.out 1).trans rfl
           have hcz48_2 : wr.cell? ⟨gb150, 2, none⟩ = some (.int .i64 a0_2) := (blk_cell BK150.out 2).trans rfl
           have hcz48_3 : wr.cell? ⟨gb150, 3, none⟩ = some (.int .i64 a0_3) := (blk_cell BK150.out 3).trans rfl
           have hcz48_4 : wr.cell? ⟨gb150, 4, none⟩ = some (.int .i64 a0_4) := (blk_cell BK150.out 4).trans rfl
           have hcz48_5 : wr.cell? ⟨gb150, 5, none⟩ = some (.int .i64 a0_5) := (blk_cell BK150.out 5).trans rfl
           have hcz48_6 : wr.cell? ⟨gb150, 6, none⟩ = some (.int .i64 a0_6) := (blk_cell BK150.out 6).trans rfl
           have hcz48_7 : wr.cell? ⟨gb150, 7, none⟩ = some (.bool false) := (blk_cell BK150.out 7).trans rfl
           have hcz48_8 : wr.cell? ⟨gb150, 8, none⟩ = some (.slice A0_8 l0_8.length c0_8) := (blk_cell BK150.out 8).trans rfl
           go_wp2
           go_ret
           exact ⟨by first | rfl | (simp [errW_none, errW_some] <;> rfl) | (simp [*, errW_none, errW_some] <;> rfl), u6_0⟩
         rw [if_neg c44] at H
         have c44b0 : (a0_0 == 0) = false := beq_eq_false_iff_ne.mpr c44
         have c44b1 : (a0_0 != 0) = true := bne_iff_ne.mpr c44
         by_cases c50 : a0_0 = 1
         rotate_left
         · rw [if_neg c50] at H
           have c50b0 : (a0_0 == 1) = false := beq_eq_false_iff_ne.mpr c50
           have c50b1 : (a0_0 != 1) = true := bne_iff_ne.mpr c50
           by_cases c58 : a0_0 = 2
           · rw [if_pos c58] at H
             have c58b0 : (a0_0 == 2) = true := beq_iff_eq.mpr c58
             have c58b1 : (a0_0 != 2) = false := bne_eq_false_iff_eq.mpr c58
             clear c58
             obtain rfl := Option.some.inj H
             have hcz59_0 : wr.cell? ⟨gb150, 0, none⟩ = some (.int .i64 a0_0) := (blk_cell BK150.out 0).trans rfl
             have hcz59_1 : wr.cell? ⟨gb150, 1, none⟩ = some (.int .i64 a0_1) := (blk_cell BK150.out 1).trans rfl
             have hcz59_2 : wr.cell? ⟨gb150, 2, none⟩ = some (.int .i64 a0_2) := (blk_cell BK150.out 2).trans rfl
             have hcz59_3 : wr.cell? ⟨gb150, 3, none⟩ = some (.int .i64 a0_3) := (blk_cell BK150.out 3).trans rfl
             have hcz59_4 : wr.cell? ⟨gb150, 4, none⟩ = some (.int .i64 a0_4) := (blk_cell BK150.out 4).trans rfl
             have hcz59_5 : wr.cell? ⟨gb150, 5, none⟩ = some (.int .i64 a0_5) := (blk_cell BK150.out 5).trans rfl
             have hcz59_6 : wr.cell? ⟨gb150, 6, none⟩ = some (.int .i64 a0_6) := (blk_cell BK150.out 6).trans rfl
             have hcz59_7 : wr.cell? ⟨gb150, 7, none⟩ = some (.bool a0_7) := (blk_cell BK150.out 7).trans rfl
             have hcz59_8 : wr.cell? ⟨gb150, 8, none⟩ = some (.slice A0_8 l0_8.length c0_8) := (blk_cell BK150.out 8).trans rfl
             go_wp2
             go_ret
             exact ⟨by first | rfl | (simp [errW_none, errW_some] <;> rfl) | (simp [*, errW_none, errW_some] <;> rfl), u6_0⟩
           rw [if_neg c58] at H
           have c58b0 : (a0_0 == 2) = false := beq_eq_false_iff_ne.mpr c58
           have c58b1 : (a0_0 != 2) = true := bne_iff_ne.mpr c58
           by_cases c60 : a0_5 = 0
           rotate_left
           · rw [if_neg c60] at H
             have c60b0 : (a0_5 == 0) = false := beq_eq_false_iff_ne.mpr c60
             have c60b1 : (a0_5 != 0) = true := bne_iff_ne.mpr c60
             obtain rfl := Option.some.inj H
             have hcz64_0 : wr.cell? ⟨gb150, 0, none⟩ = some (.int .i64 a0_0) := (blk_cell BK150.out 0).trans rfl
             have hcz64_1 : wr.cell? ⟨gb150, 1, none⟩ = some (.int .i64 a0_1) := (blk_cell BK150.out 1).trans rfl
             have hcz64_2 : wr.cell? ⟨gb150, 2, none⟩ = some (.int .i64 a0_2) := (blk_cell BK150.out 2).trans rfl
             have hcz64_3 : wr.cell? ⟨gb150, 3, none⟩ = some (.int .i64 a0_3) := (blk_cell BK150.out 3).trans rfl
             have hcz64_4 : wr.cell? ⟨gb150, 4, none⟩ = some (.int .i64 a0_4) := (blk_cell BK150.out 4).trans rfl
             have hcz64_5 : wr.cell? ⟨gb150, 5, none⟩ = some (.int .i64 a0_5) := (blk_cell BK150.out 5).trans rfl
             have hcz64_6 : wr.cell? ⟨gb150, 6, none⟩ = some (.int .i64 a0_6) := (blk_cell BK150.out 6).trans rfl
             have hcz64_7 : wr.cell? ⟨gb150, 7, none⟩ = some (.bool a0_7) := (blk_cell BK150.out 7).trans rfl
             have hcz64_8 : wr.cell? ⟨gb150, 8, none⟩ = some (.slice A0_8 l0_8.length c0_8) := (blk_cell BK150.out 8).trans rfl
             go_wp2
             go_ret
             exact ⟨by first | rfl | (simp [errW_none, errW_some] <;> rfl) | (simp [*, errW_none, errW_some] <;> rfl), u6_0⟩
           rw [if_pos c60] at H
           have c60b0 : (a0_5 == 0) = true := beq_iff_eq.mpr c60
           have c60b1 : (a0_5 != 0) = false := bne_eq_false_iff_eq.mpr c60
           clear c60
           by_cases c61 : a0_6 = 0
           rotate_left
           · rw [if_neg c61] at H
             have c61b0 : (a0_6 == 0) = false := beq_eq_false_iff_ne.mpr c61
             have c61b1 : (a0_6 != 0) = true := bne_iff_ne.mpr c61
             obtain rfl := Option.some.inj H
             have hcz63_0 : wr.cell? ⟨gb150, 0, none⟩ = some (.int .i64 a0_0) := (blk_cell BK150.out 0).trans rfl
             have hcz63_1 : wr.cell? ⟨gb150, 1, none⟩ = some (.int .i64 a0_1) := (blk_cell BK150.out 1).trans rfl
             have hcz63_2 : wr.cell? ⟨gb150, 2, none⟩ = some (.int .i64 a0_2) := (blk_cell BK150.out 2).trans rfl
             have hcz63_3 : wr.cell? ⟨gb150, 3, none⟩ = some (.int .i64 a0_3) := (blk_cell BK150.out 3).trans rfl
             have hcz63_4 : wr.cell? ⟨gb150, 4, none⟩ = some (.int .i64 a0_4) := (blk_cell BK150.out 4).trans rfl
             have hcz63_5 : wr.cell? ⟨gb150, 5, none⟩ = some (.int .i64 a0_5) := (blk_cell BK150.out 5).trans rfl
             have hcz63_6 : wr.cell? ⟨gb150, 6, none⟩ = some (.int .i64 a0_6) := (blk_cell BK150.out 6).trans rfl
             have hcz63_7 : wr.cell? ⟨gb150, 7, none⟩ = some (.bool a0_7) := (blk_cell BK150.out 7).trans rfl
             have hcz63_8 : wr.cell? ⟨gb150, 8, none⟩ = some (.slice A0_8 l0_8.length c0_8) := (blk_cell BK150.out 8).trans rfl
             go_wp2
             go_ret
             exact ⟨by first | rfl | (simp [errW_none, errW_some] <;> rfl) | (simp [*, errW_none, errW_some] <;> rfl), u6_0⟩
           rw [if_pos c61] at H
           have c61b0 : (a0_6 == 0) = true := beq_iff_eq.mpr c61
           have c61b1 : (a0_6 != 0) = false := bne_eq_false_iff_eq.mpr c61
           clear c61
           obtain rfl := Option.some.inj H
           have hcz62_0 : wr.cell? ⟨gb150, 0, none⟩ = some (.int .i64 a0_0) := (blk_cell BK150.out 0).trans rfl
           have hcz62_1 : wr.cell? ⟨gb150, 1, none⟩ = some (.int .i64 a0_1) := (blk_cell BK150.out 1).trans rfl
           have hcz62_2 : wr.cell? ⟨gb150, 2, none⟩ = some (.int .i64 a0_2) := (blk_cell BK150.out 2).trans rfl
           have hcz62_3 : wr.cell? ⟨gb150, 3, none⟩ = some (.int .i64 a0_3) := (blk_cell BK150.out 3).trans rfl
           have hcz62_4 : wr.cell? ⟨gb150, 4, none⟩ = some (.int .i64 a0_4) := (blk_cell BK150.out 4).trans rfl
           have hcz62_5 : wr.cell? ⟨gb150, 5, none⟩ = some (.int .i64 a0_5) := (blk_cell BK150.out 5).trans rfl
           have hcz62_6 : wr.cell? ⟨gb150, 6, none⟩ = some (.int .i64 a0_6) := (blk_cell BK150.out 6).trans rfl
           have hcz62_7 : wr.cell? ⟨gb150, 7, none⟩ = some (.bool a0_7) := (blk_cell BK150.out 7).trans rfl
           have hcz62_8 : wr.cell? ⟨gb150, 8, none⟩ = some (.slice A0_8 l0_8.length c0_8) := (blk_cell BK150.out 8).trans rfl
           go_wp2
           go_ret
           exact ⟨by first | rfl | (simp [errW_none, errW_some] <;> rfl) | (simp [*, errW_none, errW_some] <;> rfl), u6_0⟩
         rw [if_pos c50] at H
         have c50b0 : (a0_0 == 1) = true := beq_iff_eq.mpr c50
         have c50b1 : (a0_0 != 1) = false := bne_eq_false_iff_eq.mpr c50
         clear c50
         by_cases c51 : a0_4 = 0
         rotate_left
         · rw [if_neg c51] at H
           have c51b0 : (a0_4 == 0) = false := beq_eq_false_iff_ne.mpr c51
           have c51b1 : (a0_4 != 0) = true := bne_iff_ne.mpr c51
           obtain rfl := Option.some.inj H
           have hcz57_0 : wr.cell? ⟨gb150, 0, none⟩ = some (.int .i64 a0_0) := (blk_cell BK150.out 0).trans rfl
           have hcz57_1 : wr.cell? ⟨gb150, 1, none⟩ = some (.int .i64 a0_1) := (blk_cell BK150.out 1).trans rfl
           have hcz57_2 : wr.cell? ⟨gb150, 2, none⟩ = some (.int .i64 a0_2) := (blk_cell BK150.out 2).trans rfl
           have hcz57_3 : wr.cell? ⟨gb150, 3, none⟩ = some (.int .i64 a0_3) := (blk_cell BK150.out 3).trans rfl
           have hcz57_4 : wr.cell? ⟨gb150, 4, none⟩ = some (.int .i64 a0_4) := (blk_cell BK150.out 4).trans rfl
           have hcz57_5 : wr.cell? ⟨gb150, 5, none⟩ = some (.int .i64 a0_5) := (blk_cell BK150.out 5).trans rfl
           have hcz57_6 : wr.cell? ⟨gb150, 6, none⟩ = some (.int .i64 a0_6) := (blk_cell BK150.out 6).trans rfl
           have hcz57_7 : wr.cell? ⟨gb150, 7, none⟩ = some (.bool a0_7) := (blk_cell BK150.out 7).trans rfl
           have hcz57_8 : wr.cell? ⟨gb150, 8, none⟩ = some (.slice A0_8 l0_8.length c0_8) := (blk_cell BK150.out 8).trans rfl
           go_wp2
           go_ret
           exact ⟨by first | rfl | (simp [errW_none, errW_some] <;> rfl) | (simp [*, errW_none, errW_some] <;> rfl), u6_0⟩
         rw [if_pos c51] at H
         have c51b0 : (a0_4 == 0) = true := beq_iff_eq.mpr c51
         have c51b1 : (a0_4 != 0) = false := bne_eq_false_iff_eq.mpr c51
         clear c51
         by_cases c52 : a0_5 = 0
         rotate_left
         · rw [if_neg c52] at H
           have c52b0 : (a0_5 == 0) = false := beq_eq_false_iff_ne.mpr c52
           have c52b1 : (a0_5 != 0) = true := bne_iff_ne.mpr c52
           obtain rfl := Option.some.inj H
           have hcz56_0 : wr.cell? ⟨gb150, 0, none⟩ = some (.int .i64 a0_0) := (blk_cell BK150.out 0).trans rfl
           have hcz56_1 : wr.cell? ⟨gb150, 1, none⟩ = some (.int .i64 a0_1) := (blk_cell BK150.out 1).trans rfl
           have hcz56_2 : wr.cell? ⟨gb150, 2, none⟩ = some (.int .i64 a0_2) := (blk_cell BK150.out 2).trans rfl
           have hcz56_3 : wr.cell? ⟨gb150, 3, none⟩ = some (.int .i64 a0_3) := (blk_cell BK150.out 3).trans rfl
           have hcz56_4 : wr.cell? ⟨gb150, 4, none⟩ = some (.int .i64 a0_4) := (blk_cell BK150.out 4).trans rfl
           have hcz56_5 : wr.cell? ⟨gb150, 5, none⟩ = some (.int .i64 a0_5) := (blk_cell BK150.out 5).trans rfl
           have hcz56_6 : wr.cell? ⟨gb150, 6, none⟩ = some (.int .i64 a0_6) := (blk_cell BK150.out 6).trans rfl
           have hcz56_7 : wr.cell? ⟨gb150, 7, none⟩ = some (.bool a0_7) := (blk_cell BK150.out 7).trans rfl
           have hcz56_8 : wr.cell? ⟨gb150, 8, none⟩ = some (.slice A0_8 l0_8.length c0_8) := (blk_cell BK150.out 8).trans rfl
           go_wp2
           go_ret
           exact ⟨by first | rfl | (simp [errW_none, errW_some] <;> rfl) | (simp [*, errW_none, errW_some] <;> rfl), u6_0⟩
         rw [if_pos c52] at H
         have c52b0 : (a0_5 == 0) = true := beq_iff_eq.mpr c52
         have c52b1 : (a0_5 != 0) = false := bne_eq_false_iff_eq.mpr c52
         clear c52
         by_cases c53 : a0_6 = 0
         rotate_left
         · rw [if_neg c53] at H
           have c53b0 : (a0_6 == 0) = false := beq_eq_false_iff_ne.mpr c53
           have c53b1 : (a0_6 != 0) = true := bne_iff_ne.mpr c53
           obtain rfl := Option.some.inj H
           have hcz55_0 : wr.cell? ⟨gb150, 0, none⟩ = some (.int .i64 a0_0) := (blk_cell BK150.out 0).trans rfl
           have hcz55_1 : wr.cell? ⟨gb150, 1, none⟩ = some (.int .i64 a0_1) := (blk_cell BK150.out 1).trans rfl
           have hcz55_2 : wr.cell? ⟨gb150, 2, none⟩ = some (.int .i64 a0_2) := (blk_cell BK150.out 2).trans rfl
           have hcz55_3 : wr.cell? ⟨gb150, 3, none⟩ = some (.int .i64 a0_3) := (blk_cell BK150.out 3).trans rfl
           have hcz55_4 : wr.cell? ⟨gb150, 4, none⟩ = some (.int .i64 a0_4) := (blk_cell BK150.out 4).trans rfl
           have hcz55_5 : wr.cell? ⟨gb150, 5, none⟩ = some (.int .i64 a0_5) := (blk_cell BK150.out 5).trans rfl
           have hcz55_6 : wr.cell? ⟨gb150, 6, none⟩ = some (.int .i64 a0_6) := (blk_cell BK150.out 6).trans rfl
           have hcz55_7 : wr.cell? ⟨gb150, 7, none⟩ = some (.bool a0_7) := (blk_cell BK150.out 7).trans rfl
           have hcz55_8 : wr.cell? ⟨gb150, 8, none⟩ = some (.slice A0_8 l0_8.length c0_8) := (blk_cell BK150.out 8).trans rfl
           go_wp2
           go_ret
           exact ⟨by first | rfl | (simp [errW_none, errW_some] <;> rfl) | (simp [*, errW_none, errW_some] <;> rfl), u6_0⟩
         rw [if_pos c53] at H
         have c53b0 : (a0_6 == 0) = true := beq_iff_eq.mpr c53
         have c53b1 : (a0_6 != 0) = false := bne_eq_false_iff_eq.mpr c53
         clear c53
         obtain rfl := Option.some.inj H
         have hcz54_0 : wr.cell? ⟨gb150, 0, none⟩ = some (.int .i64 a0_0) := (blk_cell BK150.out 0).trans rfl
         have hcz54_1 : wr.cell? ⟨gb150, 1, none⟩ = some (.int .i64 a0_1) := (blk_cell BK150.out 1).trans rfl
         have hcz54_2 : wr.cell? ⟨gb150, 2, none⟩ = some (.int .i64 a0_2) := (blk_cell BK150.out 2).trans rfl
         have hcz54_3 : wr.cell? ⟨gb150, 3, none⟩ = some (.int .i64 a0_3) := (blk_cell BK150.out 3).trans rfl
         have hcz54_4 : wr.cell? ⟨gb150, 4, none⟩ = some (.int .i64 a0_4) := (blk_cell BK150.out 4).trans rfl
         have hcz54_5 : wr.cell? ⟨gb150, 5, none⟩ = some (.int .i64 a0_5) := (blk_cell BK150.out 5).trans rfl
         have hcz54_6 : wr.cell? ⟨gb150, 6, none⟩ = some (.int .i64 a0_6) := (blk_cell BK150.out 6).trans rfl
         have hcz54_7 : wr.cell? ⟨gb150, 7, none⟩ = some (.bool a0_7) := (blk_cell BK150.out 7).trans rfl
         have hcz54_8 : wr.cell? ⟨gb150, 8, none⟩ = some (.slice A0_8 l0_8.length c0_8) := (blk_cell BK150.out 8).trans rfl
         go_wp2
         go_ret
         exact ⟨by first | rfl | (simp [errW_none, errW_some] <;> rfl) | (simp [*, errW_none, errW_some] <;> rfl), u6_0⟩
       rw [if_pos c33] at H
       have c33b0 : decide (x5_3 < (l0_8.length : Int)) = true := decide_eq_true c33
       clear c33
       by_cases c34 : 0 ≤ x5_3
       rotate_left
       · rw [if_neg c34] at H
         exact absurd H (by simp)
       rw [if_pos c34] at H
       have c34b0 : decide (0 ≤ x5_3) = true := decide_eq_true c34
       clear c34
       replace H := Option.bind_eq_some_iff.mp H
       obtain ⟨t160, A350, H⟩ := H
       have A35 := am A350
       clear A350
       by_cases c36 : t160 = true
       rotate_left
       · replace c36 := Bool.eq_false_iff.mpr c36
         subst c36
         rw [if_neg (show ¬ (false = true) by decide)] at H
         obtain rfl := Option.some.inj H
         have hcz41_0 : wr.cell? ⟨gb150, 0, none⟩ = some (.int .i64 a0_0) := (blk_cell BK150.out 0).trans rfl
         have hcz41_1 : wr.cell? ⟨gb150, 1, none⟩ = some (.int .i64 a0_1) := (blk_cell BK150.out 1).trans rfl
         have hcz41_2 : wr.cell? ⟨gb150, 2, none⟩ = some (.int .i64 a0_2) := (blk_cell BK150.out 2).trans rfl
         have hcz41_3 : wr.cell? ⟨gb150, 3, none⟩ = some (.int .i64 a0_3) := (blk_cell BK150.out 3).trans rfl
         have hcz41_4 : wr.cell? ⟨gb150, 4, none⟩ = some (.int .i64 a0_4) := (blk_cell BK150.out 4).trans rfl
         have hcz41_5 : wr.cell? ⟨gb150, 5, none⟩ = some (.int .i64 a0_5) := (blk_cell BK150.out 5).trans rfl
         have hcz41_6 : wr.cell? ⟨gb150, 6, none⟩ = some (.int .i64 a0_6) := (blk_cell BK150.out 6).trans rfl
         have hcz41_7 : wr.cell? ⟨gb150, 7, none⟩ = some (.bool a0_7) := (blk_cell BK150.out 7).trans rfl
         have hcz41_8 : wr.cell? ⟨gb150, 8, none⟩ = some (.slice A0_8 l0_8.length c0_8) := (blk_cell BK150.out 8).trans rfl
         try go_wp2
         have n0_ := am (blk_drew BK150.out)
         have n1_ := am (below_drew1 HB.out)
         clear BK150
         clear HB
         have BK150 := n0_
         have HB := n1_
         clear n0_ n1_
         have p159 : 0 ≤ (x5_3 : Int) := of_decide_eq_true u6_5
         have q159 : x5_3 < (l0_8.length : Int) := of_decide_eq_true u6_5
         obtain ⟨ad159, e159, hx159_0, hx159_1⟩ := at_T85 HR0_8.out x5_3 p159 q159
         have hw159_1 := hx159_1
         have hw159_0 := hx159_0
         cases e159
         replace hx159_0 := (HB.out.cell (World.block_lt_of_cell? w _ hx159_0)).trans hx159_0
         replace hx159_1 := (HB.out.cell (World.block_lt_of_cell? w _ hx159_1)).trans hx159_1
         replace p159 := eq_true p159
         replace q159 := eq_true q159
         refine start_ (n := 18) (S := fun w' => w'.cell? ⟨gb150, 0, none⟩ = some (.int .i64 a0_0) ∧ w'.cell? ⟨gb150, 1, none⟩ = some (.int .i64 a0_1) ∧ w'.cell? ⟨gb150, 2, none⟩ = some (.int .i64 a0_2) ∧ w'.cell? ⟨gb150, 3, none⟩ = some (.int .i64 a0_3) ∧ w'.cell? ⟨gb150, 4, none⟩ = some (.int .i64 a0_4) ∧ w'.cell? ⟨gb150, 5, none⟩ = some (.int .i64 a0_5) ∧ w'.cell? ⟨gb150, 6, none⟩ = some (.int .i64 a0_6) ∧ w'.cell? ⟨gb150, 7, none⟩ = some (.bool a0_7) ∧ w'.cell? ⟨gb150, 8, none⟩ = some (.slice (some ad159) l0_8.length c0_8) ∧ w'.cell? (ad159.add ((x5_3).toNat * 2)) = some (.int .i64 ((rd_T85 l0_8 x5_3).f0)) ∧ w'.cell? ⟨(ad159.add ((x5_3).toNat * 2)).block, (ad159.add ((x5_3).toNat * 2)).off + 1, none⟩ = some (.string ((rd_T85 l0_8 x5_3).f1))) (ds := []) #[false, false, false, false, false, false, false, false, false, false, false, false, false, false, false, false, false, false] kr rfl rfl ⟨(blk_cell BK150.out 0).trans rfl, (blk_cell BK150.out 1).trans rfl, (blk_cell BK150.out 2).trans rfl, (blk_cell BK150.out 3).trans rfl, (blk_cell BK150.out 4).trans rfl, (blk_cell BK150.out 5).trans rfl, (blk_cell BK150.out 6).trans rfl, (blk_cell BK150.out 7).trans rfl, (blk_cell BK150.out 8).trans rfl, ((HB.out.cell (World.block_lt_of_cell? w _ hw159_0)).trans hw159_0), ((HB.out.cell (World.block_lt_of_cell? w _ hw159_1)).trans hw159_1)⟩ (fun hHeld => ?_); refine with_tabW spec_MsgOk.tab8 spec_MsgOk.bits8 (fun HT_ HW_ => ?_)
         generalize wr.drew = w42 at BK150 HB hx159_0 hx159_1 hHeld ⊢
         refine pure_ (i := 0) (N := some 73) (v := ?_) (a' := ?_) #[true, false, false, false, false, false, false, false, false, false, false, false, false, false, false, false, false, false] rfl rfl (any_of HT_.out kr) (fun _ _ _ h => h) (Or.inl ⟨by rfl, ?_⟩) ?_ ?_
         rotate_left; (intro w'; go_simp; with_reducible rfl); rotate_left; (simp only [Act.put, la, lb, lc, i64_w, i32_w]; rfl)
         refine pure_ (i := 2) (N := some 75) (v := ?_) (a' := ?_) #[true, false, true, false, false, false, false, false, false, false, false, false, false, false, false, false, false, false] rfl rfl (any_of HT_.out kr) (fun _ _ _ h => h) (Or.inl ⟨by rfl, ?_⟩) ?_ ?_
         rotate_left; (intro w'; go_simp; with_reducible rfl); rotate_left; (simp only [Act.put, la, lb, lc, i64_w, i32_w]; rfl)
         refine take_ (i := 1) (N := some 74) (v := ?_) (a' := ?_) #[true, true, true, false, false, false, false, false, false, false, false, false, false, false, false, false, false, false] rfl rfl (take_ofW HT_.out HW_.out kr) (fun _ _ _ h => h) (Or.inl ⟨by rfl, ?_⟩) hHeld ?_ ?_
         rotate_left
         · rintro w' ⟨s0, s1, s2, s3, s4, s5, s6, s7, s8, s9, s10⟩
           go_simp
           with_reducible rfl
         rotate_left
         · simp only [Act.put, la, lb, lc, i64_w, i32_w]
           rfl
         refine pure_ (i := 3) (N := some 76) (v := ?_) (a' := ?_) #[true, true, true, true, false, false, false, false, false, false, false, false, false, false, false, false, false, false] rfl rfl (any_of HT_.out kr) (fun _ _ _ h => h) (Or.inl ⟨by rfl, ?_⟩) ?_ ?_
         rotate_left; (intro w'; go_simp; with_reducible rfl); rotate_left; (simp only [Act.put, la, lb, lc, i64_w, i32_w]; rfl)
         refine take_ (i := 4) (N := some 77) (v := ?_) (a' := ?_) #[true, true, true, true, true, false, false, false, false, false, false, false, false, false, false, false, false, false] rfl rfl (take_ofW HT_.out HW_.out kr) (fun _ _ _ h => h) (Or.inl ⟨by rfl, ?_⟩) hHeld ?_ ?_
         rotate_left
         · rintro w' ⟨s0, s1, s2, s3, s4, s5, s6, s7, s8, s9, s10⟩
           go_simp
           with_reducible rfl
         rotate_left
         · simp only [Act.put, la, lb, lc, i64_w, i32_w]
           rfl
         refine one_ (i := 5) (N := some 78) #[true, true, true, true, true, true, false, false, false, false, false, false, false, false, false, false, false, false] rfl rfl (one_of HT_.out kr) (by decide) (fun K hK => ?_)
         refine goes_ Try.func64 kr rfl #[.agg #[.int .i64 ((rd_T85 l0_8 x5_3).f0), .string ((rd_T85 l0_8 x5_3).f1)]] (by rfl) rfl rfl u6_1 ?_
         with_reducible refine (spec_l05Entry.calls ((rd_T85 l0_8 x5_3).f0) ((rd_T85 l0_8 x5_3).f1) false _ A35.out).mono ?_
         rintro e w43 ⟨rfl, hb⟩
         refine ⟨_, rfl, ?_⟩
         have n0_ := am (blk_below (g := gb150) (o := .cells #[.int .i64 a0_0, .int .i64 a0_1, .int .i64 a0_2, .int .i64 a0_3, .int .i64 a0_4, .int .i64 a0_5, .int .i64 a0_6, .bool a0_7, .slice (some ad159) l0_8.length c0_8] 29 (0, 0)) u6_2 hb)
         have n1_ := am (below_step u6_0 hb)
         clear BK150
         clear HB
         have BK150 := n0_
         have HB := n1_
         clear n0_ n1_
         (try clear hb)
         (try clear hb2)
         (try clear hk)
         (try clear hi)
         refine hK.out _ _ ⟨(blk_cell BK150.out 0).trans rfl, (blk_cell BK150.out 1).trans rfl, (blk_cell BK150.out 2).trans rfl, (blk_cell BK150.out 3).trans rfl, (blk_cell BK150.out 4).trans rfl, (blk_cell BK150.out 5).trans rfl, (blk_cell BK150.out 6).trans rfl, (blk_cell BK150.out 7).trans rfl, (blk_cell BK150.out 8).trans rfl, ((HB.out.cell (World.block_lt_of_cell? w _ hw159_0)).trans hw159_0), ((HB.out.cell (World.block_lt_of_cell? w _ hw159_1)).trans hw159_1)⟩ (fun hHeld => ?_)
         clear hK K
         refine norm_ (a' := ?_) ?_ ?_
         rotate_left
         · show Act.put _ (some 78) _ = _
           simp only [Act.put, la, lb, lc, i64_w, i32_w]
           rfl
         refine pure_ (i := 6) (N := some 79) (v := ?_) (a' := ?_) #[true, true, true, true, true, true, true, false, false, false, false, false, false, false, false, false, false, false] rfl rfl (any_of HT_.out kr) (fun _ _ _ h => h) (Or.inl ⟨by rfl, ?_⟩) ?_ ?_
         rotate_left; (intro w'; go_simp; with_reducible rfl); rotate_left; (simp only [Act.put, la, lb, lc, i64_w, i32_w]; rfl)
         refine pure_ (i := 7) (N := some 80) (v := ?_) (a' := ?_) #[true, true, true, true, true, true, true, true, false, false, false, false, false, false, false, false, false, false] rfl rfl (any_of HT_.out kr) (fun _ _ _ h => h) (Or.inl ⟨by rfl, ?_⟩) ?_ ?_
         rotate_left; (intro w'; go_simp; with_reducible rfl); rotate_left; (simp only [Act.put, la, lb, lc, i64_w, i32_w]; rfl)
         refine pure_ (i := 8) (N := some 81) (v := undef) (a' := ?_) #[true, true, true, true, true, true, true, true, true, false, false, false, false, false, false, false, false, false] rfl rfl (any_of HT_.out kr) (fun _ _ _ h => h) (Or.inr ⟨by rfl, rfl⟩) ?_ ?_
         rotate_left
         · simp only [Act.put, la, lb, lc, i64_w, i32_w]
           rfl
         refine pure_ (i := 9) (N := some 82) (v := undef) (a' := ?_) #[true, true, true, true, true, true, true, true, true, true, false, false, false, false, false, false, false, false] rfl rfl (any_of HT_.out kr) (fun _ _ _ h => h) (Or.inr ⟨by rfl, rfl⟩) ?_ ?_
         rotate_left
         · simp only [Act.put, la, lb, lc, i64_w, i32_w]
           rfl
         refine pure_ (i := 10) (N := some 83) (v := undef) (a' := ?_) #[true, true, true, true, true, true, true, true, true, true, true, false, false, false, false, false, false, false] rfl rfl (any_of HT_.out kr) (fun _ _ _ h => h) (Or.inr ⟨by rfl, rfl⟩) ?_ ?_
         rotate_left
         · simp only [Act.put, la, lb, lc, i64_w, i32_w]
           rfl
         refine pure_ (i := 11) (N := some 84) (v := undef) (a' := ?_) #[true, true, true, true, true, true, true, true, true, true, true, true, false, false, false, false, false, false] rfl rfl (any_of HT_.out kr) (fun _ _ _ h => h) (Or.inr ⟨by rfl, rfl⟩) ?_ ?_
         rotate_left
         · simp only [Act.put, la, lb, lc, i64_w, i32_w]
           rfl
         refine pure_ (i := 12) (N := some 85) (v := undef) (a' := ?_) #[true, true, true, true, true, true, true, true, true, true, true, true, true, false, false, false, false, false] rfl rfl (any_of HT_.out kr) (fun _ _ _ h => h) (Or.inr ⟨by rfl, rfl⟩) ?_ ?_
         rotate_left
         · simp only [Act.put, la, lb, lc, i64_w, i32_w]
           rfl
         refine pure_ (i := 13) (N := some 86) (v := undef) (a' := ?_) #[true, true, true, true, true, true, true, true, true, true, true, true, true, true, false, false, false, false] rfl rfl (any_of HT_.out kr) (fun _ _ _ h => h) (Or.inr ⟨by rfl, rfl⟩) ?_ ?_
         rotate_left
         · simp only [Act.put, la, lb, lc, i64_w, i32_w]
           rfl
         refine pure_ (i := 14) (N := some 87) (v := undef) (a' := ?_) #[true, true, true, true, true, true, true, true, true, true, true, true, true, true, true, false, false, false] rfl rfl (any_of HT_.out kr) (fun _ _ _ h => h) (Or.inr ⟨by rfl, rfl⟩) ?_ ?_
         rotate_left
         · simp only [Act.put, la, lb, lc, i64_w, i32_w]
           rfl
         refine pure_ (i := 15) (N := some 88) (v := undef) (a' := ?_) #[true, true, true, true, true, true, true, true, true, true, true, true, true, true, true, true, false, false] rfl rfl (any_of HT_.out kr) (fun _ _ _ h => h) (Or.inr ⟨by rfl, rfl⟩) ?_ ?_
         rotate_left
         · simp only [Act.put, la, lb, lc, i64_w, i32_w]
           rfl
         refine pure_ (i := 16) (N := some 89) (v := undef) (a' := ?_) #[true, true, true, true, true, true, true, true, true, true, true, true, true, true, true, true, true, false] rfl rfl (any_of HT_.out kr) (fun _ _ _ h => h) (Or.inr ⟨by rfl, rfl⟩) ?_ ?_
         rotate_left
         · simp only [Act.put, la, lb, lc, i64_w, i32_w]
           rfl
         refine pure_ (i := 17) (N := some 90) (v := ?_) (a' := ?_) #[true, true, true, true, true, true, true, true, true, true, true, true, true, true, true, true, true, true] rfl rfl (any_of HT_.out kr) (fun _ _ _ h => h) (Or.inl ⟨by rfl, ?_⟩) ?_ ?_
         rotate_left; (intro w'; go_simp; with_reducible rfl); rotate_left; (simp only [Act.put, la, lb, lc, i64_w, i32_w]; rfl)
         refine done_ (done_of HT_.out kr) ?_
         try go_wp2
         go_ret
         exact ⟨by first | rfl | (simp [errW_none, errW_some] <;> rfl) | (simp [*, errW_none, errW_some] <;> rfl), u6_0⟩
       subst c36
       rw [if_pos rfl] at H
       have H9 := am H
       clear H
       have hcz37_0 : wr.cell? ⟨gb150, 0, none⟩ = some (.int .i64 a0_0) := (blk_cell BK150.out 0).trans rfl
       have hcz37_1 : wr.cell? ⟨gb150, 1, none⟩ = some (.int .i64 a0_1) := (blk_cell BK150.out 1).trans rfl
       have hcz37_2 : wr.cell? ⟨gb150, 2, none⟩ = some (.int .i64 a0_2) := (blk_cell BK150.out 2).trans rfl
       have hcz37_3 : wr.cell? ⟨gb150, 3, none⟩ = some (.int .i64 a0_3) := (blk_cell BK150.out 3).trans rfl
       have hcz37_4 : wr.cell? ⟨gb150, 4, none⟩ = some (.int .i64 a0_4) := (blk_cell BK150.out 4).trans rfl
       have hcz37_5 : wr.cell? ⟨gb150, 5, none⟩ = some (.int .i64 a0_5) := (blk_cell BK150.out 5).trans rfl
       have hcz37_6 : wr.cell? ⟨gb150, 6, none⟩ = some (.int .i64 a0_6) := (blk_cell BK150.out 6).trans rfl
       have hcz37_7 : wr.cell? ⟨gb150, 7, none⟩ = some (.bool a0_7) := (blk_cell BK150.out 7).trans rfl
       have hcz37_8 : wr.cell? ⟨gb150, 8, none⟩ = some (.slice A0_8 l0_8.length c0_8) := (blk_cell BK150.out 8).trans rfl
       try go_wp2
       have n0_ := am (blk_drew BK150.out)
       have n1_ := am (below_drew1 HB.out)
       clear BK150
       clear HB
       have BK150 := n0_
       have HB := n1_
       clear n0_ n1_
       have p159 : 0 ≤ (x5_3 : Int) := of_decide_eq_true u6_5
       have q159 : x5_3 < (l0_8.length : Int) := of_decide_eq_true u6_5
       obtain ⟨ad159, e159, hx159_0, hx159_1⟩ := at_T85 HR0_8.out x5_3 p159 q159
       have hw159_1 := hx159_1
       have hw159_0 := hx159_0
       cases e159
       replace hx159_0 := (HB.out.cell (World.block_lt_of_cell? w _ hx159_0)).trans hx159_0
       replace hx159_1 := (HB.out.cell (World.block_lt_of_cell? w _ hx159_1)).trans hx159_1
       replace p159 := eq_true p159
       replace q159 := eq_true q159
       have p161 : 0 ≤ (x5_3 : Int) := of_decide_eq_true u6_5
       have q161 : x5_3 < (l0_8.length : Int) := of_decide_eq_true u6_5
       obtain ⟨ad161, e161, hx161_0, hx161_1⟩ := at_T85 HR0_8.out x5_3 p161 q161
       have hw161_1 := hx161_1
       have hw161_0 := hx161_0
       obtain rfl : ad159 = ad161 := (by injection e161)
       replace hx161_0 := (HB.out.cell (World.block_lt_of_cell? w _ hx161_0)).trans hx161_0
       replace hx161_1 := (HB.out.cell (World.block_lt_of_cell? w _ hx161_1)).trans hx161_1
       replace p161 := eq_true p161
       replace q161 := eq_true q161
       refine start_ (n := 18) (S := fun w' => w'.cell? ⟨gb150, 0, none⟩ = some (.int .i64 a0_0) ∧ w'.cell? ⟨gb150, 1, none⟩ = some (.int .i64 a0_1) ∧ w'.cell? ⟨gb150, 2, none⟩ = some (.int .i64 a0_2) ∧ w'.cell? ⟨gb150, 3, none⟩ = some (.int .i64 a0_3) ∧ w'.cell? ⟨gb150, 4, none⟩ = some (.int .i64 a0_4) ∧ w'.cell? ⟨gb150, 5, none⟩ = some (.int .i64 a0_5) ∧ w'.cell? ⟨gb150, 6, none⟩ = some (.int .i64 a0_6) ∧ w'.cell? ⟨gb150, 7, none⟩ = some (.bool a0_7) ∧ w'.cell? ⟨gb150, 8, none⟩ = some (.slice (some ad159) l0_8.length c0_8) ∧ w'.cell? (ad159.add ((x5_3).toNat * 2)) = some (.int .i64 ((rd_T85 l0_8 x5_3).f0)) ∧ w'.cell? ⟨(ad159.add ((x5_3).toNat * 2)).block, (ad159.add ((x5_3).toNat * 2)).off + 1, none⟩ = some (.string ((rd_T85 l0_8 x5_3).f1)) ∧ w'.cell? (ad159.add ((x5_3).toNat * 2)) = some (.int .i64 ((rd_T85 l0_8 x5_3).f0)) ∧ w'.cell? ⟨(ad159.add ((x5_3).toNat * 2)).block, (ad159.add ((x5_3).toNat * 2)).off + 1, none⟩ = some (.string ((rd_T85 l0_8 x5_3).f1))) (ds := []) #[false, false, false, false, false, false, false, false, false, false, false, false, false, false, false, false, false, false] kr rfl rfl ⟨(blk_cell BK150.out 0).trans rfl, (blk_cell BK150.out 1).trans rfl, (blk_cell BK150.out 2).trans rfl, (blk_cell BK150.out 3).trans rfl, (blk_cell BK150.out 4).trans rfl, (blk_cell BK150.out 5).trans rfl, (blk_cell BK150.out 6).trans rfl, (blk_cell BK150.out 7).trans rfl, (blk_cell BK150.out 8).trans rfl, ((HB.out.cell (World.block_lt_of_cell? w _ hw159_0)).trans hw159_0), ((HB.out.cell (World.block_lt_of_cell? w _ hw159_1)).trans hw159_1), ((HB.out.cell (World.block_lt_of_cell? w _ hw161_0)).trans hw161_0), ((HB.out.cell (World.block_lt_of_cell? w _ hw161_1)).trans hw161_1)⟩ (fun hHeld => ?_); refine with_tabW spec_MsgOk.tab8 spec_MsgOk.bits8 (fun HT_ HW_ => ?_)
       generalize wr.drew = w38 at BK150 HB hx159_0 hx159_1 hx161_0 hx161_1 hHeld ⊢
       refine pure_ (i := 0) (N := some 73) (v := ?_) (a' := ?_) #[true, false, false, false, false, false, false, false, false, false, false, false, false, false, false, false, false, false] rfl rfl (any_of HT_.out kr) (fun _ _ _ h => h) (Or.inl ⟨by rfl, ?_⟩) ?_ ?_
       rotate_left; (intro w'; go_simp; with_reducible rfl); rotate_left; (simp only [Act.put, la, lb, lc, i64_w, i32_w]; rfl)
       refine pure_ (i := 2) (N := some 75) (v := ?_) (a' := ?_) #[true, false, true, false, false, false, false, false, false, false, false, false, false, false, false, false, false, false] rfl rfl (any_of HT_.out kr) (fun _ _ _ h => h) (Or.inl ⟨by rfl, ?_⟩) ?_ ?_
       rotate_left; (intro w'; go_simp; with_reducible rfl); rotate_left; (simp only [Act.put, la, lb, lc, i64_w, i32_w]; rfl)
       refine take_ (i := 1) (N := some 74) (v := ?_) (a' := ?_) #[true, true, true, false, false, false, false, false, false, false, false, false, false, false, false, false, false, false] rfl rfl (take_ofW HT_.out HW_.out kr) (fun _ _ _ h => h) (Or.inl ⟨by rfl, ?_⟩) hHeld ?_ ?_
       rotate_left
       · rintro w' ⟨s0, s1, s2, s3, s4, s5, s6, s7, s8, s9, s10, s11, s12⟩
         go_simp
         with_reducible rfl
       rotate_left
       · simp only [Act.put, la, lb, lc, i64_w, i32_w]
         rfl
       refine pure_ (i := 3) (N := some 76) (v := ?_) (a' := ?_) #[true, true, true, true, false, false, false, false, false, false, false, false, false, false, false, false, false, false] rfl rfl (any_of HT_.out kr) (fun _ _ _ h => h) (Or.inl ⟨by rfl, ?_⟩) ?_ ?_
       rotate_left; (intro w'; go_simp; with_reducible rfl); rotate_left; (simp only [Act.put, la, lb, lc, i64_w, i32_w]; rfl)
       refine take_ (i := 4) (N := some 77) (v := ?_) (a' := ?_) #[true, true, true, true, true, false, false, false, false, false, false, false, false, false, false, false, false, false] rfl rfl (take_ofW HT_.out HW_.out kr) (fun _ _ _ h => h) (Or.inl ⟨by rfl, ?_⟩) hHeld ?_ ?_
       rotate_left
       · rintro w' ⟨s0, s1, s2, s3, s4, s5, s6, s7, s8, s9, s10, s11, s12⟩
         go_simp
         with_reducible rfl
       rotate_left
       · simp only [Act.put, la, lb, lc, i64_w, i32_w]
         rfl
       refine one_ (i := 5) (N := some 78) #[true, true, true, true, true, true, false, false, false, false, false, false, false, false, false, false, false, false] rfl rfl (one_of HT_.out kr) (by decide) (fun K hK => ?_)
       refine goes_ Try.func64 kr rfl #[.agg #[.int .i64 ((rd_T85 l0_8 x5_3).f0), .string ((rd_T85 l0_8 x5_3).f1)]] (by rfl) rfl rfl u6_1 ?_
       with_reducible refine (spec_l05Entry.calls ((rd_T85 l0_8 x5_3).f0) ((rd_T85 l0_8 x5_3).f1) true _ A35.out).mono ?_
       rintro e w39 ⟨rfl, hb⟩
       refine ⟨_, rfl, ?_⟩
       have n0_ := am (blk_below (g := gb150) (o := .cells #[.int .i64 a0_0, .int .i64 a0_1, .int .i64 a0_2, .int .i64 a0_3, .int .i64 a0_4, .int .i64 a0_5, .int .i64 a0_6, .bool a0_7, .slice (some ad159) l0_8.length c0_8] 29 (0, 0)) u6_2 hb)
       have n1_ := am (below_step u6_0 hb)
       clear BK150
       clear HB
       have BK150 := n0_
       have HB := n1_
       clear n0_ n1_
       (try clear hb)
       (try clear hb2)
       (try clear hk)
       (try clear hi)
       refine hK.out _ _ ⟨(blk_cell BK150.out 0).trans rfl, (blk_cell BK150.out 1).trans rfl, (blk_cell BK150.out 2).trans rfl, (blk_cell BK150.out 3).trans rfl, (blk_cell BK150.out 4).trans rfl, (blk_cell BK150.out 5).trans rfl, (blk_cell BK150.out 6).trans rfl, (blk_cell BK150.out 7).trans rfl, (blk_cell BK150.out 8).trans rfl, ((HB.out.cell (World.block_lt_of_cell? w _ hw159_0)).trans hw159_0), ((HB.out.cell (World.block_lt_of_cell? w _ hw159_1)).trans hw159_1), ((HB.out.cell (World.block_lt_of_cell? w _ hw161_0)).trans hw161_0), ((HB.out.cell (World.block_lt_of_cell? w _ hw161_1)).trans hw161_1)⟩ (fun hHeld => ?_)
       clear hK K
       refine norm_ (a' := ?_) ?_ ?_
       rotate_left
       · show Act.put _ (some 78) _ = _
         simp only [Act.put, la, lb, lc, i64_w, i32_w]
         rfl
       refine pure_ (i := 6) (N := some 79) (v := ?_) (a' := ?_) #[true, true, true, true, true, true, true, false, false, false, false, false, false, false, false, false, false, false] rfl rfl (any_of HT_.out kr) (fun _ _ _ h => h) (Or.inl ⟨by rfl, ?_⟩) ?_ ?_
       rotate_left; (intro w'; go_simp; with_reducible rfl); rotate_left; (simp only [Act.put, la, lb, lc, i64_w, i32_w]; rfl)
       refine pure_ (i := 7) (N := some 80) (v := ?_) (a' := ?_) #[true, true, true, true, true, true, true, true, false, false, false, false, false, false, false, false, false, false] rfl rfl (any_of HT_.out kr) (fun _ _ _ h => h) (Or.inl ⟨by rfl, ?_⟩) ?_ ?_
       rotate_left; (intro w'; go_simp; with_reducible rfl); rotate_left; (simp only [Act.put, la, lb, lc, i64_w, i32_w]; rfl)
       refine pure_ (i := 8) (N := some 81) (v := ?_) (a' := ?_) #[true, true, true, true, true, true, true, true, true, false, false, false, false, false, false, false, false, false] rfl rfl (any_of HT_.out kr) (fun _ _ _ h => h) (Or.inl ⟨by rfl, ?_⟩) ?_ ?_
       rotate_left; (intro w'; go_simp; with_reducible rfl); rotate_left; (simp only [Act.put, la, lb, lc, i64_w, i32_w]; rfl)
       refine pure_ (i := 10) (N := some 83) (v := ?_) (a' := ?_) #[true, true, true, true, true, true, true, true, true, false, true, false, false, false, false, false, false, false] rfl rfl (any_of HT_.out kr) (fun _ _ _ h => h) (Or.inl ⟨by rfl, ?_⟩) ?_ ?_
       rotate_left; (intro w'; go_simp; with_reducible rfl); rotate_left; (simp only [Act.put, la, lb, lc, i64_w, i32_w]; rfl)
       refine pure_ (i := 14) (N := some 87) (v := ?_) (a' := ?_) #[true, true, true, true, true, true, true, true, true, false, true, false, false, false, true, false, false, false] rfl rfl (any_of HT_.out kr) (fun _ _ _ h => h) (Or.inl ⟨by rfl, ?_⟩) ?_ ?_
       rotate_left; (intro w'; go_simp; with_reducible rfl); rotate_left; (simp only [Act.put, la, lb, lc, i64_w, i32_w]; rfl)
       refine take_ (i := 9) (N := some 82) (v := ?_) (a' := ?_) #[true, true, true, true, true, true, true, true, true, true, true, false, false, false, true, false, false, false] rfl rfl (take_ofW HT_.out HW_.out kr) (fun _ _ _ h => h) (Or.inl ⟨by rfl, ?_⟩) hHeld ?_ ?_
       rotate_left
       · rintro w' ⟨s0, s1, s2, s3, s4, s5, s6, s7, s8, s9, s10, s11, s12⟩
         go_simp
         with_reducible rfl
       rotate_left
       · simp only [Act.put, la, lb, lc, i64_w, i32_w]
         rfl
       refine pure_ (i := 11) (N := some 84) (v := ?_) (a' := ?_) #[true, true, true, true, true, true, true, true, true, true, true, true, false, false, true, false, false, false] rfl rfl (any_of HT_.out kr) (fun _ _ _ h => h) (Or.inl ⟨by rfl, ?_⟩) ?_ ?_
       rotate_left; (intro w'; go_simp; with_reducible rfl); rotate_left; (simp only [Act.put, la, lb, lc, i64_w, i32_w]; rfl)
       refine pure_ (i := 12) (N := some 85) (v := ?_) (a' := ?_) #[true, true, true, true, true, true, true, true, true, true, true, true, true, false, true, false, false, false] rfl rfl (any_of HT_.out kr) (fun _ _ _ h => h) (Or.inl ⟨by rfl, ?_⟩) ?_ ?_
       rotate_left; (intro w'; go_simp; with_reducible rfl); rotate_left; (simp only [Act.put, la, lb, lc, i64_w, i32_w]; rfl)
       refine take_ (i := 13) (N := some 86) (v := ?_) (a' := ?_) #[true, true, true, true, true, true, true, true, true, true, true, true, true, true, true, false, false, false] rfl rfl (take_ofW HT_.out HW_.out kr) (fun _ _ _ h => h) (Or.inl ⟨by rfl, ?_⟩) hHeld ?_ ?_
       rotate_left
       · rintro w' ⟨s0, s1, s2, s3, s4, s5, s6, s7, s8, s9, s10, s11, s12⟩
         go_simp
         with_reducible rfl
       rotate_left
       · simp only [Act.put, la, lb, lc, i64_w, i32_w]
         rfl
       refine take_ (i := 15) (N := some 88) (v := ?_) (a' := ?_) #[true, true, true, true, true, true, true, true, true, true, true, true, true, true, true, true, false, false] rfl rfl (take_ofW HT_.out HW_.out kr) (fun _ _ _ h => h) (Or.inl ⟨by rfl, ?_⟩) hHeld ?_ ?_
       rotate_left
       · rintro w' ⟨s0, s1, s2, s3, s4, s5, s6, s7, s8, s9, s10, s11, s12⟩
         go_simp
         with_reducible rfl
       rotate_left
       · simp only [Act.put, la, lb, lc, i64_w, i32_w]
         rfl
       refine pure_ (i := 16) (N := some 89) (v := ?_) (a' := ?_) #[true, true, true, true, true, true, true, true, true, true, true, true, true, true, true, true, true, false] rfl rfl (any_of HT_.out kr) (fun _ _ _ h => h) (Or.inl ⟨by rfl, ?_⟩) ?_ ?_
       rotate_left; (intro w'; go_simp; with_reducible rfl); rotate_left; (simp only [Act.put, la, lb, lc, i64_w, i32_w]; rfl)
       refine pure_ (i := 17) (N := some 90) (v := ?_) (a' := ?_) #[true, true, true, true, true, true, true, true, true, true, true, true, true, true, true, true, true, true] rfl rfl (any_of HT_.out kr) (fun _ _ _ h => h) (Or.inl ⟨by rfl, ?_⟩) ?_ ?_
       rotate_left; (intro w'; go_simp; with_reducible rfl); rotate_left; (simp only [Act.put, la, lb, lc, i64_w, i32_w]; rfl)
       refine done_ (done_of HT_.out kr) ?_
       go_upto_if 90 with (fail)
       have H := H9.out
       clear H9
       by_cases c40 : ((rd_T85 l0_8 x5_3).f0) > a0_3
       · rw [if_pos c40] at H
         have c40b0 : decide (a0_3 < ((rd_T85 l0_8 x5_3).f0)) = true := decide_eq_true c40
         clear c40
         (first | rw [c40b0] | (simp only [i64_w, i32_w]; rw [c40b0]) | skip)
         obtain rfl := Option.some.inj H
         go_wp2
         go_ret
         exact ⟨by first | rfl | (simp [errW_none, errW_some] <;> rfl) | (simp [*, errW_none, errW_some] <;> rfl), u6_0⟩
       rw [if_neg c40] at H
       have c40b0 : decide (a0_3 < ((rd_T85 l0_8 x5_3).f0)) = false := decide_eq_false c40
       clear c40
       (first | rw [c40b0] | (simp only [i64_w, i32_w]; rw [c40b0]) | skip)
       have H' := am H
       clear H
       go_wp2
       go_roundg k3
       case measure => have := HJ2.out; have := HJ20.out; have := HK3.out; omega
       case rel => exact ⟨(wrap64 (x5_3 + 1)), u6_3, H', ⟨(by have := HJ2.out; have := HJ20.out; have := HK3.out; omega)⟩, ⟨u6_2⟩, ⟨u6_0⟩⟩

end Go.Proofs.Ytkcadcoohmofcaa.QFnExactGroupOk
