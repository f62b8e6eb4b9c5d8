-- Printed by the session's own program wip/prx.py.
import Derived.Test.YtkcadcoohmofcaaSqFnExactPropose
import Derived.Test.YtkcadcoohmofcaaQFnExactProposex0
import Derived.Test.YtkcadcoohmofcaaQFnExactProposex4
import Derived.Test.YtkcadcoohmofcaaQFnExactProposex5
import Derived.Test.YtkcadcoohmofcaaQFnExactProposex6
namespace Go.Proofs.Ytkcadcoohmofcaa.QFnExactPropose
open Go.RowKit Go.Proofs.YtkcadcoohmofcaaW.PrintWords Go.Proofs.YtkcadcoohmofcaaW.PrintLast Go.Proofs.YtkcadcoohmofcaaW.PrintMore Go.Proofs.Ytkcadcoohmofcaa.SqFnExactPropose
attribute [local go_sem] max2_int min2_int max_two min_two max_three min_three max_four min_four Go.Proofs.Ytkcadcoohmofcaa.Set.isSome_setCell
set_option linter.unusedVariables false
set_option linter.unusedSimpArgs false

-- squeezed
theorem u7_1 {P : Prop} (h : P := by (with_reducible repeat (first | refine blk_drewN ?_ _ | refine blk_drew ?_ | refine blk_alloc ?_ _)); exact BK209.out) : P := h
theorem u7_8 {P : Prop} (h : P := by repeat (first | exact (Kd.C_below HR0_8.out Q1) | (with_reducible refine Kd.C_alloc ?_ _) | (with_reducible refine Kd.C_drewN ?_ _) | (with_reducible refine Kd.C_drew ?_))) : P := h
theorem u7_10 {P : Prop} (h : P := by have := HJ2.out; have := HJ19.out; first | omega | exact Nat.le_refl _) : P := h
theorem u7_11 {P : Prop} (h : P := by have := HJ2.out; have := HJ19.out; have := HJ34.out; first | omega | exact Nat.le_refl _) : P := h
/-! ### spec_NodeOk: function 26 -/
mutual
def spec_NodeOk.j0 : Nat → Int → Bool → Int → Int → Int → Int → Int → Int → Int → List (S85) → List Int → List Int → Option (Bool)
 | 0, _, _, _, _, _, _, _, _, _, _, _, _ => none
 | k + 1, x1, x37, x210000, x210001, x210002, x210003, x210004, x210005, x210006, x210007, x210008, x210009 => if x37 = true then (some false) else ((spec_LastIndex.f k x210005 x210006 x210007).bind fun t215 => (if t215 < 0 then (spec_NodeOk.j1 k x1 t215 true x210000 x210001 x210002 x210003 x210004 x210005 x210006 x210007 x210008 x210009) else (if x210005 = 0 then ((spec_TermAt.f k x210005 x210006 x210007 t215).bind fun t216 => (if t216 > x210001 then (spec_NodeOk.j1 k x1 t215 true x210000 x210001 x210002 x210003 x210004 x210005 x210006 x210007 x210008 x210009) else ((spec_l01In.f x210004 0 t215).bind fun t217 => (spec_NodeOk.j1 k x1 t215 (!t217) x210000 x210001 x210002 x210003 x210004 x210005 x210006 x210007 x210008 x210009)))) else (spec_NodeOk.j1 k x1 t215 true x210000 x210001 x210002 x210003 x210004 x210005 x210006 x210007 x210008 x210009))))
def spec_NodeOk.j1 : Nat → Int → Int → Bool → Int → Int → Int → Int → Int → Int → Int → List (S85) → List Int → List Int → Option (Bool)
 | 0, _, _, _, _, _, _, _, _, _, _, _, _, _ => none
 | k + 1, x1, x5, x64, x210000, x210001, x210002, x210003, x210004, x210005, x210006, x210007, x210008, x210009 => if x64 = true then (some false) else (if x210003 = 0 then (spec_NodeOk.j2 k x1 x5 false x210000 x210001 x210002 x210003 x210004 x210005 x210006 x210007 x210008 x210009) else (if x210002 = x210000 then (spec_NodeOk.j2 k x1 x5 (x210001 == 0) x210000 x210001 x210002 x210003 x210004 x210005 x210006 x210007 x210008 x210009) else (spec_NodeOk.j2 k x1 x5 true x210000 x210001 x210002 x210003 x210004 x210005 x210006 x210007 x210008 x210009)))
def spec_NodeOk.j2 : Nat → Int → Int → Bool → Int → Int → Int → Int → Int → Int → Int → List (S85) → List Int → List Int → Option (Bool)
 | 0, _, _, _, _, _, _, _, _, _, _, _, _, _ => none
 | k + 1, x1, x5, x79, x210000, x210001, x210002, x210003, x210004, x210005, x210006, x210007, x210008, x210009 => if x79 = true then (some false) else (if x210003 = 1 then ((spec_l06Set.f k x210008).bind fun t218 => (if t218 = true then ((spec_l01Has.f k x210008 x210000).bind fun t219 => (if t219 = true then (if 0 ≤ (wrap64 ((x210008.length : Int) - 1)) then (if (wrap64 ((x210008.length : Int) - 1)) < (x210008.length : Int) then (if (rd x210008 (wrap64 ((x210008.length : Int) - 1))) ≥ x1 then (some false) else (spec_NodeOk.j3 k x1 x5 x210000 x210001 x210002 x210003 x210004 x210005 x210006 x210007 x210008 x210009)) else (none)) else (none)) else (some false))) else (some false))) else (if (x210008.length : Int) > 0 then (some false) else (spec_NodeOk.j3 k x1 x5 x210000 x210001 x210002 x210003 x210004 x210005 x210006 x210007 x210008 x210009)))
def spec_NodeOk.j3 : Nat → Int → Int → Int → Int → Int → Int → Int → Int → Int → List (S85) → List Int → List Int → Option (Bool)
 | 0, _, _, _, _, _, _, _, _, _, _, _, _ => none
 | k + 1, x1, x5, x210000, x210001, x210002, x210003, x210004, x210005, x210006, x210007, x210008, x210009 => if x210003 = 2 then (spec_NodeOk.l0 k x1 x5 0 x210000 x210001 x210002 x210003 x210004 x210005 x210006 x210007 x210008 x210009) else (some ((x210009.length : Int) == 0))
def spec_NodeOk.l0 : Nat → Int → Int → Int → Int → Int → Int → Int → Int → Int → Int → List (S85) → List Int → List Int → Option (Bool)
 | 0, _, _, _, _, _, _, _, _, _, _, _, _, _ => none
 | k + 1, x1, x5, x6, x210000, x210001, x210002, x210003, x210004, x210005, x210006, x210007, x210008, x210009 => if x6 < (x210009.length : Int) then (if 0 ≤ x6 then ((spec_l01In.f (rd x210009 x6) 0 x5).bind fun t222 => (if t222 = true then (spec_NodeOk.l0 k x1 x5 (wrap64 (x6 + 1)) x210000 x210001 x210002 x210003 x210004 x210005 x210006 x210007 x210008 x210009) else (some false))) else (none)) else (if (x210009.length : Int) = x1 then (if 0 ≤ x210000 then (if x210000 < (x210009.length : Int) then (some ((rd x210009 x210000) == x5)) else (none)) else (none)) else (some false))
end
def spec_NodeOk.f (k : Nat) (a0_0 : Int) (a0_1 : Int) (a0_2 : Int) (a0_3 : Int) (a0_4 : Int) (a0_5 : Int) (a0_6 : Int) (l0_7 : List (S85)) (l0_8 : List Int) (l0_9 : List Int) (a1 : Int) : Option (Bool) := (spec_l07Size.f a1).bind fun t210 => (if t210 = true then ((spec_l01In.f a0_0 0 (wrap64 (a1 - 1))).bind fun t211 => (if t211 = true then ((spec_l01In.f a0_1 0 1000000).bind fun t212 => (if t212 = true then ((spec_l01In.f a0_2 (-1) (wrap64 (a1 - 1))).bind fun t213 => (if t213 = true then ((spec_l01In.f a0_3 0 2).bind fun t214 => (spec_NodeOk.j0 k a1 (!t214) a0_0 a0_1 a0_2 a0_3 a0_4 a0_5 a0_6 l0_7 l0_8 l0_9)) else (spec_NodeOk.j0 k a1 true a0_0 a0_1 a0_2 a0_3 a0_4 a0_5 a0_6 l0_7 l0_8 l0_9))) else (spec_NodeOk.j0 k a1 true a0_0 a0_1 a0_2 a0_3 a0_4 a0_5 a0_6 l0_7 l0_8 l0_9))) else (spec_NodeOk.j0 k a1 true a0_0 a0_1 a0_2 a0_3 a0_4 a0_5 a0_6 l0_7 l0_8 l0_9))) else (spec_NodeOk.j0 k a1 true a0_0 a0_1 a0_2 a0_3 a0_4 a0_5 a0_6 l0_7 l0_8 l0_9))
theorem spec_NodeOk.mono_l : ∀ k, (∀ y0 y1 y2 y3 y4 y5 y6 y7 y8 y9 y10 y11, LeO (spec_NodeOk.j0 k y0 y1 y2 y3 y4 y5 y6 y7 y8 y9 y10 y11) (spec_NodeOk.j0 (k + 1) y0 y1 y2 y3 y4 y5 y6 y7 y8 y9 y10 y11)) ∧ (∀ y0 y1 y2 y3 y4 y5 y6 y7 y8 y9 y10 y11 y12, LeO (spec_NodeOk.j1 k y0 y1 y2 y3 y4 y5 y6 y7 y8 y9 y10 y11 y12) (spec_NodeOk.j1 (k + 1) y0 y1 y2 y3 y4 y5 y6 y7 y8 y9 y10 y11 y12)) ∧ (∀ y0 y1 y2 y3 y4 y5 y6 y7 y8 y9 y10 y11 y12, LeO (spec_NodeOk.j2 k y0 y1 y2 y3 y4 y5 y6 y7 y8 y9 y10 y11 y12) (spec_NodeOk.j2 (k + 1) y0 y1 y2 y3 y4 y5 y6 y7 y8 y9 y10 y11 y12)) ∧ (∀ y0 y1 y2 y3 y4 y5 y6 y7 y8 y9 y10 y11, LeO (spec_NodeOk.j3 k y0 y1 y2 y3 y4 y5 y6 y7 y8 y9 y10 y11) (spec_NodeOk.j3 (k + 1) y0 y1 y2 y3 y4 y5 y6 y7 y8 y9 y10 y11)) ∧ (∀ y0 y1 y2 y3 y4 y5 y6 y7 y8 y9 y10 y11 y12, LeO (spec_NodeOk.l0 k y0 y1 y2 y3 y4 y5 y6 y7 y8 y9 y10 y11 y12) (spec_NodeOk.l0 (k + 1) y0 y1 y2 y3 y4 y5 y6 y7 y8 y9 y10 y11 y12))
 | 0 => ⟨fun _ _ _ _ _ _ _ _ _ _ _ _ r h => by simp [spec_NodeOk.j0] at h, fun _ _ _ _ _ _ _ _ _ _ _ _ _ r h => by simp [spec_NodeOk.j1] at h, fun _ _ _ _ _ _ _ _ _ _ _ _ _ r h => by simp [spec_NodeOk.j2] at h, fun _ _ _ _ _ _ _ _ _ _ _ _ r h => by simp [spec_NodeOk.j3] at h, fun _ _ _ _ _ _ _ _ _ _ _ _ _ r h => by simp [spec_NodeOk.l0] at h⟩
 | k + 1 => by
   obtain ⟨ih0, ih1, ih2, ih3, ih4⟩ := spec_NodeOk.mono_l k
   refine ⟨?_, ?_, ?_, ?_, ?_⟩ <;> intros <;> (first | unfold spec_NodeOk.j0 | unfold spec_NodeOk.j1 | unfold spec_NodeOk.j2 | unfold spec_NodeOk.j3 | unfold spec_NodeOk.l0) <;> repeat' first
   | (with_reducible exact ih0 _ _ _ _ _ _ _ _ _ _ _ _)
   | (with_reducible exact ih1 _ _ _ _ _ _ _ _ _ _ _ _ _)
   | (with_reducible exact ih2 _ _ _ _ _ _ _ _ _ _ _ _ _)
   | (with_reducible exact ih3 _ _ _ _ _ _ _ _ _ _ _ _)
   | (with_reducible exact ih4 _ _ _ _ _ _ _ _ _ _ _ _ _)
   | (with_reducible exact spec_LastIndex.mono _ _ _ _)
   | (with_reducible exact spec_TermAt.mono _ _ _ _ _)
   | (with_reducible exact spec_l01Has.mono _ _ _)
   | (with_reducible exact spec_l06Set.mono _ _)
   | (with_reducible exact LeO.refl _)
   | (with_reducible exact LeO.none _)
   | (with_reducible refine LeO.ite ?_ ?_)
   | (with_reducible refine LeO.bind ?_ (fun _ => ?_))
   | exact ih0 _ _ _ _ _ _ _ _ _ _ _ _
   | exact ih1 _ _ _ _ _ _ _ _ _ _ _ _ _
   | exact ih2 _ _ _ _ _ _ _ _ _ _ _ _ _
   | exact ih3 _ _ _ _ _ _ _ _ _ _ _ _
   | exact ih4 _ _ _ _ _ _ _ _ _ _ _ _ _
   | exact spec_LastIndex.mono _ _ _ _
   | exact spec_TermAt.mono _ _ _ _ _
   | exact spec_l01Has.mono _ _ _
   | exact spec_l06Set.mono _ _
   | exact LeO.none _
   | refine LeO.ite ?_ ?_
   | refine LeO.bind ?_ (fun _ => ?_)
theorem spec_NodeOk.mono : ∀ a0 a1 a2 a3 a4 a5 a6 a7 a8 a9 a10 k, LeO (spec_NodeOk.f k a0 a1 a2 a3 a4 a5 a6 a7 a8 a9 a10) (spec_NodeOk.f (k + 1) a0 a1 a2 a3 a4 a5 a6 a7 a8 a9 a10) := by
 intro a0 a1 a2 a3 a4 a5 a6 a7 a8 a9 a10 k
 obtain ⟨ih0, ih1, ih2, ih3, ih4⟩ := spec_NodeOk.mono_l k
 unfold spec_NodeOk.f
 repeat' first
     | (with_reducible exact ih0 _ _ _ _ _ _ _ _ _ _ _ _)
     | (with_reducible exact ih1 _ _ _ _ _ _ _ _ _ _ _ _ _)
     | (with_reducible exact ih2 _ _ _ _ _ _ _ _ _ _ _ _ _)
     | (with_reducible exact ih3 _ _ _ _ _ _ _ _ _ _ _ _)
     | (with_reducible exact ih4 _ _ _ _ _ _ _ _ _ _ _ _ _)
     | (with_reducible exact spec_LastIndex.mono _ _ _ _)
     | (with_reducible exact spec_TermAt.mono _ _ _ _ _)
     | (with_reducible exact spec_l01Has.mono _ _ _)
     | (with_reducible exact spec_l06Set.mono _ _)
     | (with_reducible exact LeO.refl _)
     | (with_reducible exact LeO.none _)
     | (with_reducible refine LeO.ite ?_ ?_)
     | (with_reducible refine LeO.bind ?_ (fun _ => ?_))
     | exact ih0 _ _ _ _ _ _ _ _ _ _ _ _
     | exact ih1 _ _ _ _ _ _ _ _ _ _ _ _ _
     | exact ih2 _ _ _ _ _ _ _ _ _ _ _ _ _
     | exact ih3 _ _ _ _ _ _ _ _ _ _ _ _
     | exact ih4 _ _ _ _ _ _ _ _ _ _ _ _ _
     | exact spec_LastIndex.mono _ _ _ _
     | exact spec_TermAt.mono _ _ _ _ _
     | exact spec_l01Has.mono _ _ _
     | exact spec_l06Set.mono _ _
     | exact LeO.none _
     | refine LeO.ite ?_ ?_
     | refine LeO.bind ?_ (fun _ => ?_)
def spec_NodeOk.T4 : Bool × List (List Nat × List Nat) := (true, [([], []), ([0], [0]), ([1], [1]), ([2], [2]), ([3, 2], [2, 3]), ([4, 2], [2, 4]), ([5, 2], [2, 5]), ([2, 6], [2, 6]), ([7, 2], [7]), ([8], [8]), ([9, 8], [8, 9]), ([8], [8]), ([10, 11, 8, 8], [8, 10, 11]), ([8], [8]), ([13, 8], [8, 13]), ([12, 14, 8], [8, 12, 14]), ([8, 15], [8, 15]), ([16, 12], [16]), ([17], [17]), ([18, 17], [17, 18]), ([17], [17]), ([19, 20, 17, 17], [17, 19, 20]), ([21, 17], [17, 21]), ([17, 22], [17, 22])])
def spec_NodeOk.B4 : List Nat := [0, 1, 3, 7, 15, 31, 63, 127, 255, 511, 1023, 511, 4095, 511, 8703, 32767, 65535, 131071, 262143, 524287, 262143, 2097151, 4194303, 8388607]
theorem spec_NodeOk.tab4 : rtab .any (opsOf Try.f26 4) = spec_NodeOk.T4 := by kernel_rfl
theorem spec_NodeOk.bits4 : waitsOk spec_NodeOk.T4.2 spec_NodeOk.B4 = true := by kernel_rfl
set_option maxHeartbeats 8000000 in
set_option maxRecDepth 100000 in
theorem spec_NodeOk.calls (k : Nat) (a0_0 : Int) (a0_1 : Int) (a0_2 : Int) (a0_3 : Int) (a0_4 : Int) (a0_5 : Int) (a0_6 : Int) (A0_7 : Option Addr) (c0_7 : Nat) (l0_7 : List (S85)) (A0_8 : Option Addr) (c0_8 : Nat) (l0_8 : List Int) (A0_9 : Option Addr) (c0_9 : Nat) (l0_9 : List Int) (a1 : Int) (r : Bool) (w : World) (hr0_7 : Kd.C k85 w A0_7 l0_7.length l0_7) (hc0_7 : l0_7.length ≤ c0_7) (hr0_8 : Kd.C (Kd.int .i64) w A0_8 l0_8.length l0_8) (hc0_8 : l0_8.length ≤ c0_8) (hr0_9 : Kd.C (Kd.int .i64) w A0_9 l0_9.length l0_9) (hc0_9 : l0_9.length ≤ c0_9) (h : spec_NodeOk.f k a0_0 a0_1 a0_2 a0_3 a0_4 a0_5 a0_6 l0_7 l0_8 l0_9 a1 = some r) :
   Calls Try.prog 26 #[.agg #[.int .i64 a0_0, .int .i64 a0_1, .int .i64 a0_2, .int .i64 a0_3, .int .i64 a0_4, .int .i64 a0_5, .int .i64 a0_6, .slice A0_7 l0_7.length c0_7, .slice A0_8 l0_8.length c0_8, .slice A0_9 l0_9.length c0_9], .int .i64 a1] w fun e w' => e = .returned (.bool r) ∧ Below w.heap.size w w' := by
 have hu37 := Try.underlying37
 have hu34 := Try.underlying34
 have HR0_7 := am hr0_7
 have HC0_7 := am hc0_7
 clear hr0_7 hc0_7
 have HR0_8 := am hr0_8
 have HC0_8 := am hc0_8
 clear hr0_8 hc0_8
 have HR0_9 := am hr0_9
 have HC0_9 := am hc0_9
 clear hr0_9 hc0_9
 have HB := am (Below.refl w.heap.size w)
 have H : ((spec_l07Size.f a1).bind fun t210 => (if t210 = true then ((spec_l01In.f a0_0 0 (wrap64 (a1 - 1))).bind fun t211 => (if t211 = true then ((spec_l01In.f a0_1 0 1000000).bind fun t212 => (if t212 = true then ((spec_l01In.f a0_2 (-1) (wrap64 (a1 - 1))).bind fun t213 => (if t213 = true then ((spec_l01In.f a0_3 0 2).bind fun t214 => (spec_NodeOk.j0 k a1 (!t214) a0_0 a0_1 a0_2 a0_3 a0_4 a0_5 a0_6 l0_7 l0_8 l0_9)) else (spec_NodeOk.j0 k a1 true a0_0 a0_1 a0_2 a0_3 a0_4 a0_5 a0_6 l0_7 l0_8 l0_9))) else (spec_NodeOk.j0 k a1 true a0_0 a0_1 a0_2 a0_3 a0_4 a0_5 a0_6 l0_7 l0_8 l0_9))) else (spec_NodeOk.j0 k a1 true a0_0 a0_1 a0_2 a0_3 a0_4 a0_5 a0_6 l0_7 l0_8 l0_9))) else (spec_NodeOk.j0 k a1 true a0_0 a0_1 a0_2 a0_3 a0_4 a0_5 a0_6 l0_7 l0_8 l0_9))) = some r := h
 clear h
 have HC3 := am H
 clear H
 go_enter Try.func26, Try.ntmps26
 go_upto_region 1 with (first | ((with_reducible refine gate_dst (N := 2) rfl ?_); (try (refine gate_guard (by rfl) ?_; dsimp only)); refine box_event ?hg (N := 2) ?hd (cs := #[.int .i64 a0_0, .int .i64 a0_1, .int .i64 a0_2, .int .i64 a0_3, .int .i64 a0_4, .int .i64 a0_5, .int .i64 a0_6, .slice A0_7 l0_7.length c0_7, .slice A0_8 l0_8.length c0_8, .slice A0_9 l0_9.length c0_9]) (t := 37) ?hr ?_; (case hd => rfl); (case hg => rfl); (case hr => first | (go_simp; done) | (go_simp; rfl)); intro gb209 hg w4 hbox hb; have BK209 := am (hbox); have GW209 := am ((by rw [hg]; exact (below_size Q1) : w.heap.size ≤ gb209)); have GE209 := am ((by rw [hg]; exact (below_size Q1) : w.heap.size ≤ gb209)); replace HB := am (below_step Q1 hb); clear hb hbox hg))
 (try simp only [Act.put, la, lb, lc])
 go_cut [37] (fun v37 wc => ∃ (kq : Nat) (x37_2 : Bool), v37 = .bool x37_2 ∧ Aside0 (spec_NodeOk.j0 kq a1 x37_2 a0_0 a0_1 a0_2 a0_3 a0_4 a0_5 a0_6 l0_7 l0_8 l0_9 = some r) ∧ Aside0 (kq ≤ k) ∧ Aside0 (wc.heap[gb209]? = some (.cells #[.int .i64 a0_0, .int .i64 a0_1, .int .i64 a0_2, .int .i64 a0_3, .int .i64 a0_4, .int .i64 a0_5, .int .i64 a0_6, (.slice A0_7 l0_7.length c0_7), (.slice A0_8 l0_8.length c0_8), (.slice A0_9 l0_9.length c0_9)] 37 (0, 0))) ∧ Aside0 (Below w.heap.size w wc))
 case first =>
   have H := HC3.out
   clear HC3
   replace H := Option.bind_eq_some_iff.mp H
   obtain ⟨t210, A50, H⟩ := H
   have A5 := am A50
   clear A50
   by_cases c6 : t210 = true
   rotate_left
   · replace c6 := Bool.eq_false_iff.mpr c6
     subst c6
     rw [nf] at H
     have H' := am H
     clear H
     go_wp2_with (first | ((with_reducible refine gate_callee (f := 62) rfl ?_); refine goesL_ (some 8) rfl rfl Try.func62 kr rfl #[.int .i64 a1] rfl Q3 ?_; (with_reducible refine (spec_l07Size.calls a1 false _ A5.out).mono ?_); rintro e w' ⟨rfl, ⟨nd, rfl⟩⟩; refine ⟨_, rfl, ?_⟩))
     go_meet
     case rel => exact ⟨_, (true), Q2, H', ⟨by first | omega | exact Nat.le_refl _⟩, ⟨u7_1⟩, ⟨Q1⟩⟩
   subst c6
   rw [if_pos rfl] at H
   replace H := Option.bind_eq_some_iff.mp H
   obtain ⟨t211, A70, H⟩ := H
   have A7 := am A70
   clear A70
   by_cases c8 : t211 = true
   rotate_left
   · replace c8 := Bool.eq_false_iff.mpr c8
     subst c8
     rw [nf] at H
     have H' := am H
     clear H
     go_wp2_with (first | ((with_reducible refine gate_callee (f := 62) rfl ?_); refine goesL_ (some 8) rfl rfl Try.func62 kr rfl #[.int .i64 a1] rfl Q3 ?_; (with_reducible refine (spec_l07Size.calls a1 true _ A5.out).mono ?_); rintro e w' ⟨rfl, ⟨nd, rfl⟩⟩; refine ⟨_, rfl, ?_⟩; obtain ⟨hcz17_0, hcz17_1, hcz17_2, hcz17_3, hcz17_4, hcz17_5, hcz17_6, hcz17_7, hcz17_8, hcz17_9⟩ := bc10 w4 BK209.out) | (go_at_call 63; (with_reducible refine (spec_l01In.calls a0_0 0 (wrap64 (a1 - 1)) false _ A7.out).mono ?_); rintro e w' ⟨rfl, ⟨nd, rfl⟩⟩))
     go_meet
     case rel => exact ⟨_, (true), Q2, H', ⟨by first | omega | exact Nat.le_refl _⟩, ⟨u7_1⟩, ⟨Q1⟩⟩
   subst c8
   rw [if_pos rfl] at H
   replace H := Option.bind_eq_some_iff.mp H
   obtain ⟨t212, A90, H⟩ := H
   have A9 := am A90
   clear A90
   by_cases c10 : t212 = true
   rotate_left
   · replace c10 := Bool.eq_false_iff.mpr c10
     subst c10
     rw [nf] at H
     have H' := am H
     clear H
     go_wp2_with (first | ((with_reducible refine gate_callee (f := 62) rfl ?_); refine goesL_ (some 8) rfl rfl Try.func62 kr rfl #[.int .i64 a1] rfl Q3 ?_; (with_reducible refine (spec_l07Size.calls a1 true _ A5.out).mono ?_); rintro e w' ⟨rfl, ⟨nd, rfl⟩⟩; refine ⟨_, rfl, ?_⟩; obtain ⟨hcz16_0, hcz16_1, hcz16_2, hcz16_3, hcz16_4, hcz16_5, hcz16_6, hcz16_7, hcz16_8, hcz16_9⟩ := bc10 w4 BK209.out) | (go_at_call 63; (with_reducible refine (spec_l01In.calls a0_0 0 (wrap64 (a1 - 1)) true _ A7.out).mono ?_); rintro e w' ⟨rfl, ⟨nd, rfl⟩⟩) | (go_at_call 63; (with_reducible refine (spec_l01In.calls a0_1 0 1000000 false _ A9.out).mono ?_); rintro e w' ⟨rfl, ⟨nd, rfl⟩⟩))
     go_meet
     case rel => exact ⟨_, (true), Q2, H', ⟨by first | omega | exact Nat.le_refl _⟩, ⟨u7_1⟩, ⟨Q1⟩⟩
   subst c10
   rw [if_pos rfl] at H
   replace H := Option.bind_eq_some_iff.mp H
   obtain ⟨t213, A110, H⟩ := H
   have A11 := am A110
   clear A110
   by_cases c12 : t213 = true
   rotate_left
   · replace c12 := Bool.eq_false_iff.mpr c12
     subst c12
     rw [nf] at H
     have H' := am H
     clear H
     go_wp2_with (first | ((with_reducible refine gate_callee (f := 62) rfl ?_); refine goesL_ (some 8) rfl rfl Try.func62 kr rfl #[.int .i64 a1] rfl Q3 ?_; (with_reducible refine (spec_l07Size.calls a1 true _ A5.out).mono ?_); rintro e w' ⟨rfl, ⟨nd, rfl⟩⟩; refine ⟨_, rfl, ?_⟩; obtain ⟨hcz15_0, hcz15_1, hcz15_2, hcz15_3, hcz15_4, hcz15_5, hcz15_6, hcz15_7, hcz15_8, hcz15_9⟩ := bc10 w4 BK209.out) | (go_at_call 63; (with_reducible refine (spec_l01In.calls a0_0 0 (wrap64 (a1 - 1)) true _ A7.out).mono ?_); rintro e w' ⟨rfl, ⟨nd, rfl⟩⟩) | (go_at_call 63; (with_reducible refine (spec_l01In.calls a0_1 0 1000000 true _ A9.out).mono ?_); rintro e w' ⟨rfl, ⟨nd, rfl⟩⟩) | (go_at_call 63; (with_reducible refine (spec_l01In.calls a0_2 (-1) (wrap64 (a1 - 1)) false _ A11.out).mono ?_); rintro e w' ⟨rfl, ⟨nd, rfl⟩⟩))
     go_meet
     case rel => exact ⟨_, (true), Q2, H', ⟨by first | omega | exact Nat.le_refl _⟩, ⟨u7_1⟩, ⟨Q1⟩⟩
   subst c12
   rw [if_pos rfl] at H
   replace H := Option.bind_eq_some_iff.mp H
   obtain ⟨t214, A130, H⟩ := H
   replace H : (spec_NodeOk.j0 k a1 (!t214) a0_0 a0_1 a0_2 a0_3 a0_4 a0_5 a0_6 l0_7 l0_8 l0_9) = some r := H
   have A13 := am A130
   clear A130
   have H' := am H
   clear H
   go_wp2_with (first | ((with_reducible refine gate_callee (f := 62) rfl ?_); refine goesL_ (some 8) rfl rfl Try.func62 kr rfl #[.int .i64 a1] rfl Q3 ?_; (with_reducible refine (spec_l07Size.calls a1 true _ A5.out).mono ?_); rintro e w' ⟨rfl, ⟨nd, rfl⟩⟩; refine ⟨_, rfl, ?_⟩; obtain ⟨hcz14_0, hcz14_1, hcz14_2, hcz14_3, hcz14_4, hcz14_5, hcz14_6, hcz14_7, hcz14_8, hcz14_9⟩ := bc10 w4 BK209.out) | (go_at_call 63; (with_reducible refine (spec_l01In.calls a0_0 0 (wrap64 (a1 - 1)) true _ A7.out).mono ?_); rintro e w' ⟨rfl, ⟨nd, rfl⟩⟩) | (go_at_call 63; (with_reducible refine (spec_l01In.calls a0_1 0 1000000 true _ A9.out).mono ?_); rintro e w' ⟨rfl, ⟨nd, rfl⟩⟩) | (go_at_call 63; (with_reducible refine (spec_l01In.calls a0_2 (-1) (wrap64 (a1 - 1)) true _ A11.out).mono ?_); rintro e w' ⟨rfl, ⟨nd, rfl⟩⟩) | (go_at_call 63; (with_reducible refine (spec_l01In.calls a0_3 0 2 t214 _ A13.out).mono ?_); rintro e w' ⟨rfl, ⟨nd, rfl⟩⟩))
   go_meet
   case rel => exact ⟨_, (!t214), Q2, H', ⟨by first | omega | exact Nat.le_refl _⟩, ⟨u7_1⟩, ⟨Q1⟩⟩
 clear HC3
 obtain ⟨kq, x37_2, rfl, HA, HJ2, BK209, HB⟩ := hcut
 cases kq with
 | zero => exact absurd HA.out (by simp [spec_NodeOk.j0])
 | succ kj2 =>
   have H := HA.out
   clear HA
   simp only [spec_NodeOk.j0] at H
   by_cases c18 : x37_2 = true
   · subst c18
     rw [if_pos rfl] at H
     obtain rfl := sj H
     go_wp2
     go_ret
     exact ⟨er, Q1⟩
   replace c18 := Bool.eq_false_iff.mpr c18
   subst c18
   rw [nf] at H
   replace H := Option.bind_eq_some_iff.mp H
   obtain ⟨t215, A190, H⟩ := H
   have A19 := am A190
   clear A190
   have HC20 := am H
   clear H
   obtain ⟨hcz21_0, hcz21_1, hcz21_2, hcz21_3, hcz21_4, hcz21_5, hcz21_6, hcz21_7, hcz21_8, hcz21_9⟩ := bc10 wc BK209.out
   go_upto_region 4 with (first | ((with_reducible refine gate_callee (f := 72) rfl ?_); refine goesL_ (some 40) rfl rfl Try.func72 kr rfl #[.agg #[.int .i64 a0_5, .int .i64 a0_6, .slice A0_7 l0_7.length c0_7]] rfl Q3 ?_; (with_reducible refine (spec_LastIndex.calls kj2 a0_5 a0_6 _ _ l0_7 t215 _ ?side1 ?side2 A19.out).mono ?_); (case side1 => exact Q8); (case side2 => exact HC0_7.out); rintro e w22 ⟨rfl, hb⟩; refine ⟨_, rfl, ?_⟩; replace BK209 := am (blk_below (g := gb209) (o := .cells #[.int .i64 a0_0, .int .i64 a0_1, .int .i64 a0_2, .int .i64 a0_3, .int .i64 a0_4, .int .i64 a0_5, .int .i64 a0_6, .slice A0_7 l0_7.length c0_7, .slice A0_8 l0_8.length c0_8, .slice A0_9 l0_9.length c0_9] 37 (0, 0)) u7_1 hb); replace HB := am (below_step Q1 hb); (try clear hb); (try clear hb2); (try clear hk); (try clear hi)))
   (try simp only [Act.put, la, lb, lc])
   go_cut [64] (fun v64 wc => ∃ (kq : Nat) (x64_19 : Bool), v64 = .bool x64_19 ∧ Aside0 (spec_NodeOk.j1 kq a1 t215 x64_19 a0_0 a0_1 a0_2 a0_3 a0_4 a0_5 a0_6 l0_7 l0_8 l0_9 = some r) ∧ Aside0 (kq ≤ kj2) ∧ Aside0 (wc.heap[gb209]? = some (.cells #[.int .i64 a0_0, .int .i64 a0_1, .int .i64 a0_2, .int .i64 a0_3, .int .i64 a0_4, .int .i64 a0_5, .int .i64 a0_6, (.slice A0_7 l0_7.length c0_7), (.slice A0_8 l0_8.length c0_8), (.slice A0_9 l0_9.length c0_9)] 37 (0, 0))) ∧ Aside0 (Below w.heap.size w wc))
   case first =>
     have H := HC20.out
     clear HC20
     by_cases c23 : t215 < 0
     · rw [if_pos c23] at H
       have c23b0 : decide (t215 < 0) = true := decide_eq_true c23
       clear c23
       (first | rw [c23b0] | (simp only [i64_w, i32_w]; rw [c23b0]) | skip)
       have H' := am H
       clear H
       try go_wp2
       replace BK209 := am (blk_drew BK209.out)
       replace HB := am (below_drew1 HB.out)
       refine start_ (n := 24) (S := fun w' => True) (ds := []) b0_24 kr rfl rfl trivial (fun hHeld => ?_); refine with_tabW spec_NodeOk.tab4 spec_NodeOk.bits4 (fun HT_ HW_ => ?_)
       generalize w22.drew = w24 at BK209 HB hHeld ⊢
       refine pV 0 41 (bt 1 24) ?_
       refine pV 1 42 (bt 2 24) ?_
       refine pV 2 43 (bt 3 24) ?_
       refine pU 3 44 (bt 4 24) ?_
       refine pU 4 45 (bt 5 24) ?_
       refine pU 5 46 (bt 6 24) ?_
       refine pU 6 47 (bt 7 24) ?_
       refine pV 7 48 (bt 8 24) ?_
       refine pV 8 49 (bt 9 24) ?_
       refine pU 9 50 (bt 10 24) ?_
       refine pU 10 51 (bt 11 24) ?_
       refine pU 11 52 (bt 12 24) ?_
       refine pU 12 53 (bt 13 24) ?_
       refine pU 13 54 (bt 14 24) ?_
       refine pU 14 55 (bt 15 24) ?_
       refine pU 15 56 (bt 16 24) ?_
       refine pV 16 57 (bt 17 24) ?_
       refine pV 17 58 (bt 18 24) ?_
       refine pU 18 59 (bt 19 24) ?_
       refine pU 19 60 (bt 20 24) ?_
       refine pU 20 61 (bt 21 24) ?_
       refine pU 21 62 (bt 22 24) ?_
       refine pU 22 63 (bt 23 24) ?_
       refine pV 23 64 (bt 24 24) ?_
       refine done_ (done_of HT_.out kr) ?_
       try go_wp2
       go_meet
       case rel => exact ⟨_, (true), Q2, H', ⟨Q9⟩, ⟨u7_1⟩, ⟨Q1⟩⟩
     rw [if_neg c23] at H
     have c23b0 : decide (t215 < 0) = false := decide_eq_false c23
     clear c23
     (first | rw [c23b0] | (simp only [i64_w, i32_w]; rw [c23b0]) | skip)
     by_cases c25 : a0_5 = 0
     rotate_left
     · rw [if_neg c25] at H
       have c25b0 : (a0_5 == 0) = false := beq_eq_false_iff_ne.mpr c25
       have c25b1 : (a0_5 != 0) = true := bne_iff_ne.mpr c25
       have H' := am H
       clear H
       try go_wp2
       replace BK209 := am (blk_drew BK209.out)
       replace HB := am (below_drew1 HB.out)
       refine start_ (n := 24) (S := fun w' => w'.cell? ⟨gb209, 0, none⟩ = some (.int .i64 a0_0) ∧ w'.cell? ⟨gb209, 1, none⟩ = some (.int .i64 a0_1) ∧ w'.cell? ⟨gb209, 2, none⟩ = some (.int .i64 a0_2) ∧ w'.cell? ⟨gb209, 3, none⟩ = some (.int .i64 a0_3) ∧ w'.cell? ⟨gb209, 4, none⟩ = some (.int .i64 a0_4) ∧ w'.cell? ⟨gb209, 5, none⟩ = some (.int .i64 a0_5) ∧ w'.cell? ⟨gb209, 6, none⟩ = some (.int .i64 a0_6) ∧ w'.cell? ⟨gb209, 7, none⟩ = some (.slice A0_7 l0_7.length c0_7) ∧ w'.cell? ⟨gb209, 8, none⟩ = some (.slice A0_8 l0_8.length c0_8) ∧ w'.cell? ⟨gb209, 9, none⟩ = some (.slice A0_9 l0_9.length c0_9)) (ds := []) b0_24 kr rfl rfl ⟨(blk_cell BK209.out 0).trans rfl, (blk_cell BK209.out 1).trans rfl, (blk_cell BK209.out 2).trans rfl, (blk_cell BK209.out 3).trans rfl, (blk_cell BK209.out 4).trans rfl, (blk_cell BK209.out 5).trans rfl, (blk_cell BK209.out 6).trans rfl, (blk_cell BK209.out 7).trans rfl, (blk_cell BK209.out 8).trans rfl, (blk_cell BK209.out 9).trans rfl⟩ (fun hHeld => ?_); refine with_tabW spec_NodeOk.tab4 spec_NodeOk.bits4 (fun HT_ HW_ => ?_)
       generalize w22.drew = w33 at BK209 HB hHeld ⊢
       refine pV 0 41 (bt 1 24) ?_
       refine pV 1 42 (bt 2 24) ?_
       refine pV 2 43 (bt 3 24) ?_
       refine pV 3 44 (bt 4 24) ?_
       refine pV 4 45 (bt 5 24) ?_
       refine tV 5 46 (bt 6 24) ?_
       refine pV 6 47 (bt 7 24) ?_
       refine pV 7 48 (bt 8 24) ?_
       refine pV 8 49 (bt 9 24) ?_
       refine pU 9 50 (bt 10 24) ?_
       refine pU 10 51 (bt 11 24) ?_
       refine pU 11 52 (bt 12 24) ?_
       refine pU 12 53 (bt 13 24) ?_
       refine pU 13 54 (bt 14 24) ?_
       refine pU 14 55 (bt 15 24) ?_
       refine pU 15 56 (bt 16 24) ?_
       refine pV 16 57 (bt 17 24) ?_
       refine pV 17 58 (bt 18 24) ?_
       refine pU 18 59 (bt 19 24) ?_
       refine pU 19 60 (bt 20 24) ?_
       refine pU 20 61 (bt 21 24) ?_
       refine pU 21 62 (bt 22 24) ?_
       refine pU 22 63 (bt 23 24) ?_
       refine pV 23 64 (bt 24 24) ?_
       refine done_ (done_of HT_.out kr) ?_
       try go_wp2
       go_meet
       case rel => exact ⟨_, (true), Q2, H', ⟨Q9⟩, ⟨u7_1⟩, ⟨Q1⟩⟩
     rw [if_pos c25] at H
     have c25b0 : (a0_5 == 0) = true := beq_iff_eq.mpr c25
     have c25b1 : (a0_5 != 0) = false := bne_eq_false_iff_eq.mpr c25
     clear c25
     replace H := Option.bind_eq_some_iff.mp H
     obtain ⟨t216, A260, H⟩ := H
     have A26 := am A260
     clear A260
     by_cases c27 : t216 > a0_1
     · rw [if_pos c27] at H
       have c27b0 : decide (a0_1 < t216) = true := decide_eq_true c27
       clear c27
       have H' := am H
       clear H
       try go_wp2
       replace BK209 := am (blk_drew BK209.out)
       replace HB := am (below_drew1 HB.out)
       refine start_ (n := 24) (S := fun w' => w'.cell? ⟨gb209, 0, none⟩ = some (.int .i64 a0_0) ∧ w'.cell? ⟨gb209, 1, none⟩ = some (.int .i64 a0_1) ∧ w'.cell? ⟨gb209, 2, none⟩ = some (.int .i64 a0_2) ∧ w'.cell? ⟨gb209, 3, none⟩ = some (.int .i64 a0_3) ∧ w'.cell? ⟨gb209, 4, none⟩ = some (.int .i64 a0_4) ∧ w'.cell? ⟨gb209, 5, none⟩ = some (.int .i64 a0_5) ∧ w'.cell? ⟨gb209, 6, none⟩ = some (.int .i64 a0_6) ∧ w'.cell? ⟨gb209, 7, none⟩ = some (.slice A0_7 l0_7.length c0_7) ∧ w'.cell? ⟨gb209, 8, none⟩ = some (.slice A0_8 l0_8.length c0_8) ∧ w'.cell? ⟨gb209, 9, none⟩ = some (.slice A0_9 l0_9.length c0_9)) (ds := []) b0_24 kr rfl rfl ⟨(blk_cell BK209.out 0).trans rfl, (blk_cell BK209.out 1).trans rfl, (blk_cell BK209.out 2).trans rfl, (blk_cell BK209.out 3).trans rfl, (blk_cell BK209.out 4).trans rfl, (blk_cell BK209.out 5).trans rfl, (blk_cell BK209.out 6).trans rfl, (blk_cell BK209.out 7).trans rfl, (blk_cell BK209.out 8).trans rfl, (blk_cell BK209.out 9).trans rfl⟩ (fun hHeld => ?_); refine with_tabW spec_NodeOk.tab4 spec_NodeOk.bits4 (fun HT_ HW_ => ?_)
       generalize w22.drew = w28 at BK209 HB hHeld ⊢
       refine pV 0 41 (bt 1 24) ?_
       refine pV 1 42 (bt 2 24) ?_
       refine pV 2 43 (bt 3 24) ?_
       refine pV 3 44 (bt 4 24) ?_
       refine pV 4 45 (bt 5 24) ?_
       refine tV 5 46 (bt 6 24) ?_
       refine pV 6 47 (bt 7 24) ?_
       refine pV 7 48 (bt 8 24) ?_
       refine pV 8 49 (bt 9 24) ?_
       refine pV 9 50 (bt 10 24) ?_
       refine pV 11 52 #[true, true, true, true, true, true, true, true, true, true, false, true, false, false, false, false, false, false, false, false, false, false, false, false] ?_
       refine pV 13 54 #[true, true, true, true, true, true, true, true, true, true, false, true, false, true, false, false, false, false, false, false, false, false, false, false] ?_
       refine tV 10 51 #[true, true, true, true, true, true, true, true, true, true, true, true, false, true, false, false, false, false, false, false, false, false, false, false] ?_
       refine tV 14 55 #[true, true, true, true, true, true, true, true, true, true, true, true, false, true, true, false, false, false, false, false, false, false, false, false] ?_
       refine one_ (i := 12) (N := some 53) b15_24 rfl rfl (one_of HT_.out kr) (by decide) (fun K hK => ?_)
       refine goes_ Try.func73 kr rfl #[.agg #[.int .i64 a0_5, .int .i64 a0_6, .slice A0_7 l0_7.length c0_7], .int .i64 t215] (by rfl) rfl rfl Q3 ?_
       with_reducible refine (spec_TermAt.calls kj2 a0_5 a0_6 _ _ l0_7 t215 t216 _ ?side1 ?side2 A26.out).mono ?_
       (case side1 => exact Q8)
       (case side2 => exact HC0_7.out)
       rintro e w29 ⟨rfl, hb⟩
       refine ⟨_, rfl, ?_⟩
       replace BK209 := am (blk_below (g := gb209) (o := .cells #[.int .i64 a0_0, .int .i64 a0_1, .int .i64 a0_2, .int .i64 a0_3, .int .i64 a0_4, .int .i64 a0_5, .int .i64 a0_6, .slice A0_7 l0_7.length c0_7, .slice A0_8 l0_8.length c0_8, .slice A0_9 l0_9.length c0_9] 37 (0, 0)) u7_1 hb)
       replace HB := am (below_step Q1 hb)
       (try clear hb)
       (try clear hb2)
       (try clear hk)
       (try clear hi)
       refine hK.out _ _ ⟨(blk_cell BK209.out 0).trans rfl, (blk_cell BK209.out 1).trans rfl, (blk_cell BK209.out 2).trans rfl, (blk_cell BK209.out 3).trans rfl, (blk_cell BK209.out 4).trans rfl, (blk_cell BK209.out 5).trans rfl, (blk_cell BK209.out 6).trans rfl, (blk_cell BK209.out 7).trans rfl, (blk_cell BK209.out 8).trans rfl, (blk_cell BK209.out 9).trans rfl⟩ (fun hHeld => ?_)
       clear hK K
       refine norm_ (a' := ?_) ?_ ?_
       rotate_left
       · show Act.put _ (some 53) _ = _
         simp only [Act.put, la, lb, lc, i64_w, i32_w]
         rfl
       refine pV 15 56 (bt 16 24) ?_
       refine pV 16 57 (bt 17 24) ?_
       refine pV 17 58 (bt 18 24) ?_
       refine pU 18 59 (bt 19 24) ?_
       refine pU 19 60 (bt 20 24) ?_
       refine pU 20 61 (bt 21 24) ?_
       refine pU 21 62 (bt 22 24) ?_
       refine pU 22 63 (bt 23 24) ?_
       refine pV 23 64 (bt 24 24) ?_
       refine done_ (done_of HT_.out kr) ?_
       try go_wp2
       go_meet
       case rel => exact ⟨_, (true), Q2, H', ⟨Q9⟩, ⟨u7_1⟩, ⟨Q1⟩⟩
     rw [if_neg c27] at H
     have c27b0 : decide (a0_1 < t216) = false := decide_eq_false c27
     clear c27
     replace H := Option.bind_eq_some_iff.mp H
     obtain ⟨t217, A300, H⟩ := H
     replace H : (spec_NodeOk.j1 kj2 a1 t215 (!t217) a0_0 a0_1 a0_2 a0_3 a0_4 a0_5 a0_6 l0_7 l0_8 l0_9) = some r := H
     have A30 := am A300
     clear A300
     have H' := am H
     clear H
     try go_wp2
     replace BK209 := am (blk_drew BK209.out)
     replace HB := am (below_drew1 HB.out)
     refine start_ (n := 24) (S := fun w' => w'.cell? ⟨gb209, 0, none⟩ = some (.int .i64 a0_0) ∧ w'.cell? ⟨gb209, 1, none⟩ = some (.int .i64 a0_1) ∧ w'.cell? ⟨gb209, 2, none⟩ = some (.int .i64 a0_2) ∧ w'.cell? ⟨gb209, 3, none⟩ = some (.int .i64 a0_3) ∧ w'.cell? ⟨gb209, 4, none⟩ = some (.int .i64 a0_4) ∧ w'.cell? ⟨gb209, 5, none⟩ = some (.int .i64 a0_5) ∧ w'.cell? ⟨gb209, 6, none⟩ = some (.int .i64 a0_6) ∧ w'.cell? ⟨gb209, 7, none⟩ = some (.slice A0_7 l0_7.length c0_7) ∧ w'.cell? ⟨gb209, 8, none⟩ = some (.slice A0_8 l0_8.length c0_8) ∧ w'.cell? ⟨gb209, 9, none⟩ = some (.slice A0_9 l0_9.length c0_9)) (ds := []) b0_24 kr rfl rfl ⟨(blk_cell BK209.out 0).trans rfl, (blk_cell BK209.out 1).trans rfl, (blk_cell BK209.out 2).trans rfl, (blk_cell BK209.out 3).trans rfl, (blk_cell BK209.out 4).trans rfl, (blk_cell BK209.out 5).trans rfl, (blk_cell BK209.out 6).trans rfl, (blk_cell BK209.out 7).trans rfl, (blk_cell BK209.out 8).trans rfl, (blk_cell BK209.out 9).trans rfl⟩ (fun hHeld => ?_); refine with_tabW spec_NodeOk.tab4 spec_NodeOk.bits4 (fun HT_ HW_ => ?_)
     generalize w22.drew = w31 at BK209 HB hHeld ⊢
     refine pV 0 41 (bt 1 24) ?_
     refine pV 1 42 (bt 2 24) ?_
     refine pV 2 43 (bt 3 24) ?_
     refine pV 3 44 (bt 4 24) ?_
     refine pV 4 45 (bt 5 24) ?_
     refine tV 5 46 (bt 6 24) ?_
     refine pV 6 47 (bt 7 24) ?_
     refine pV 7 48 (bt 8 24) ?_
     refine pV 8 49 (bt 9 24) ?_
     refine pV 9 50 (bt 10 24) ?_
     refine pV 11 52 #[true, true, true, true, true, true, true, true, true, true, false, true, false, false, false, false, false, false, false, false, false, false, false, false] ?_
     refine pV 13 54 #[true, true, true, true, true, true, true, true, true, true, false, true, false, true, false, false, false, false, false, false, false, false, false, false] ?_
     refine tV 10 51 #[true, true, true, true, true, true, true, true, true, true, true, true, false, true, false, false, false, false, false, false, false, false, false, false] ?_
     refine tV 14 55 #[true, true, true, true, true, true, true, true, true, true, true, true, false, true, true, false, false, false, false, false, false, false, false, false] ?_
     refine one_ (i := 12) (N := some 53) b15_24 rfl rfl (one_of HT_.out kr) (by decide) (fun K hK => ?_)
     refine goes_ Try.func73 kr rfl #[.agg #[.int .i64 a0_5, .int .i64 a0_6, .slice A0_7 l0_7.length c0_7], .int .i64 t215] (by rfl) rfl rfl Q3 ?_
     with_reducible refine (spec_TermAt.calls kj2 a0_5 a0_6 _ _ l0_7 t215 t216 _ ?side1 ?side2 A26.out).mono ?_
     (case side1 => exact Q8)
     (case side2 => exact HC0_7.out)
     rintro e w32 ⟨rfl, hb⟩
     refine ⟨_, rfl, ?_⟩
     replace BK209 := am (blk_below (g := gb209) (o := .cells #[.int .i64 a0_0, .int .i64 a0_1, .int .i64 a0_2, .int .i64 a0_3, .int .i64 a0_4, .int .i64 a0_5, .int .i64 a0_6, .slice A0_7 l0_7.length c0_7, .slice A0_8 l0_8.length c0_8, .slice A0_9 l0_9.length c0_9] 37 (0, 0)) u7_1 hb)
     replace HB := am (below_step Q1 hb)
     (try clear hb)
     (try clear hb2)
     (try clear hk)
     (try clear hi)
     refine hK.out _ _ ⟨(blk_cell BK209.out 0).trans rfl, (blk_cell BK209.out 1).trans rfl, (blk_cell BK209.out 2).trans rfl, (blk_cell BK209.out 3).trans rfl, (blk_cell BK209.out 4).trans rfl, (blk_cell BK209.out 5).trans rfl, (blk_cell BK209.out 6).trans rfl, (blk_cell BK209.out 7).trans rfl, (blk_cell BK209.out 8).trans rfl, (blk_cell BK209.out 9).trans rfl⟩ (fun hHeld => ?_)
     clear hK K
     refine norm_ (a' := ?_) ?_ ?_
     rotate_left
     · show Act.put _ (some 53) _ = _
       simp only [Act.put, la, lb, lc, i64_w, i32_w]
       rfl
     refine pV 15 56 (bt 16 24) ?_
     refine pV 16 57 (bt 17 24) ?_
     refine pV 17 58 (bt 18 24) ?_
     refine pV 18 59 (bt 19 24) ?_
     refine pV 20 61 #[true, true, true, true, true, true, true, true, true, true, true, true, true, true, true, true, true, true, true, false, true, false, false, false] ?_
     refine tV 19 60 (bt 21 24) ?_
     refine one_ (i := 21) (N := some 62) b22_24 rfl rfl (one_of HT_.out kr) (by decide) (fun K hK => ?_)
     refine goes_ Try.func63 kr rfl #[.int .i64 a0_4, .int .i64 0, .int .i64 t215] (by rfl) rfl rfl Q3 ?_
     with_reducible refine (spec_l01In.calls a0_4 0 t215 t217 _ A30.out).mono ?_
     rintro e w' ⟨rfl, ⟨nd, rfl⟩⟩
     refine ⟨_, rfl, ?_⟩
     refine hK.out _ _ ⟨(blk_cell BK209.out 0).trans rfl, (blk_cell BK209.out 1).trans rfl, (blk_cell BK209.out 2).trans rfl, (blk_cell BK209.out 3).trans rfl, (blk_cell BK209.out 4).trans rfl, (blk_cell BK209.out 5).trans rfl, (blk_cell BK209.out 6).trans rfl, (blk_cell BK209.out 7).trans rfl, (blk_cell BK209.out 8).trans rfl, (blk_cell BK209.out 9).trans rfl⟩ (fun hHeld => ?_)
     clear hK K
     refine norm_ (a' := ?_) ?_ ?_
     rotate_left
     · show Act.put _ (some 62) _ = _
       simp only [Act.put, la, lb, lc, i64_w, i32_w]
       rfl
     refine pV 22 63 (bt 23 24) ?_
     refine pV 23 64 (bt 24 24) ?_
     refine done_ (done_of HT_.out kr) ?_
     try go_wp2
     go_meet
     case rel => exact ⟨_, (!t217), Q2, H', ⟨Q9⟩, ⟨u7_1⟩, ⟨Q1⟩⟩
   clear HC20
   obtain ⟨kq, x64_19, rfl, HA, HJ19, BK209, HB⟩ := hcut
   cases kq with
   | zero => exact absurd HA.out (by simp [spec_NodeOk.j1])
   | succ kj19 =>
     have H := HA.out
     clear HA
     simp only [spec_NodeOk.j1] at H
     by_cases c34 : x64_19 = true
     · subst c34
       rw [if_pos rfl] at H
       obtain rfl := sj H
       go_wp2
       go_ret
       exact ⟨er, Q1⟩
     replace c34 := Bool.eq_false_iff.mpr c34
     subst c34
     rw [nf] at H
     have HC35 := am H
     clear H
     go_upto_region 6 with (fail)
     go_cut [79] (fun v79 wc => ∃ (kq : Nat) (x79_34 : Bool), v79 = .bool x79_34 ∧ Aside0 (spec_NodeOk.j2 kq a1 t215 x79_34 a0_0 a0_1 a0_2 a0_3 a0_4 a0_5 a0_6 l0_7 l0_8 l0_9 = some r) ∧ Aside0 (kq ≤ kj19) ∧ Aside0 (wc.heap[gb209]? = some (.cells #[.int .i64 a0_0, .int .i64 a0_1, .int .i64 a0_2, .int .i64 a0_3, .int .i64 a0_4, .int .i64 a0_5, .int .i64 a0_6, (.slice A0_7 l0_7.length c0_7), (.slice A0_8 l0_8.length c0_8), (.slice A0_9 l0_9.length c0_9)] 37 (0, 0))) ∧ Aside0 (Below w.heap.size w wc))
     case first =>
       have H := HC35.out
       clear HC35
       by_cases c36 : a0_3 = 0
       · rw [if_pos c36] at H
         have c36b0 : (a0_3 == 0) = true := beq_iff_eq.mpr c36
         have c36b1 : (a0_3 != 0) = false := bne_eq_false_iff_eq.mpr c36
         clear c36
         (first | rw [c36b0] | (simp only [i64_w, i32_w]; rw [c36b0]) | skip)
         have H' := am H
         clear H
         obtain ⟨hcz37_0, hcz37_1, hcz37_2, hcz37_3, hcz37_4, hcz37_5, hcz37_6, hcz37_7, hcz37_8, hcz37_9⟩ := bc10 wc BK209.out
         go_wp2
         go_meet
         case rel => exact ⟨_, (false), Q2, H', ⟨u7_10⟩, ⟨u7_1⟩, ⟨Q1⟩⟩
       rw [if_neg c36] at H
       have c36b0 : (a0_3 == 0) = false := beq_eq_false_iff_ne.mpr c36
       have c36b1 : (a0_3 != 0) = true := bne_iff_ne.mpr c36
       (first | rw [c36b0] | (simp only [i64_w, i32_w]; rw [c36b0]) | skip)
       by_cases c38 : a0_2 = a0_0
       rotate_left
       · rw [if_neg c38] at H
         have c38b0 : (a0_2 == a0_0) = false := beq_eq_false_iff_ne.mpr c38
         have c38b1 : (a0_2 != a0_0) = true := bne_iff_ne.mpr c38
         have H' := am H
         clear H
         obtain ⟨hcz40_0, hcz40_1, hcz40_2, hcz40_3, hcz40_4, hcz40_5, hcz40_6, hcz40_7, hcz40_8, hcz40_9⟩ := bc10 wc BK209.out
         go_wp2
         go_meet
         case rel => exact ⟨_, (true), Q2, H', ⟨u7_10⟩, ⟨u7_1⟩, ⟨Q1⟩⟩
       rw [if_pos c38] at H
       have c38b0 : (a0_2 == a0_0) = true := beq_iff_eq.mpr c38
       have c38b1 : (a0_2 != a0_0) = false := bne_eq_false_iff_eq.mpr c38
       clear c38
       have H' := am H
       clear H
       obtain ⟨hcz39_0, hcz39_1, hcz39_2, hcz39_3, hcz39_4, hcz39_5, hcz39_6, hcz39_7, hcz39_8, hcz39_9⟩ := bc10 wc BK209.out
       go_wp2
       go_meet
       case rel => exact ⟨_, ((a0_1 == 0)), Q2, H', ⟨u7_10⟩, ⟨u7_1⟩, ⟨Q1⟩⟩
     clear HC35
     try clear c34
     obtain ⟨kq, x79_34, rfl, HA, HJ34, BK209, HB⟩ := hcut
     cases kq with
     | zero => exact absurd HA.out (by simp [spec_NodeOk.j2])
     | succ kj34 =>
       have H := HA.out
       clear HA
       simp only [spec_NodeOk.j2] at H
       by_cases c41 : x79_34 = true
       · subst c41
         rw [if_pos rfl] at H
         obtain rfl := sj H
         go_wp2
         go_ret
         exact ⟨er, Q1⟩
       replace c41 := Bool.eq_false_iff.mpr c41
       subst c41
       rw [nf] at H
       have HC42 := am H
       clear H
       obtain ⟨hcz43_0, hcz43_1, hcz43_2, hcz43_3, hcz43_4, hcz43_5, hcz43_6, hcz43_7, hcz43_8, hcz43_9⟩ := bc10 wc BK209.out
       go_upto_if 82 with (fail)
       go_cut [] (fun wc => ∃ (kq : Nat), Aside0 (spec_NodeOk.j3 kq a1 t215 a0_0 a0_1 a0_2 a0_3 a0_4 a0_5 a0_6 l0_7 l0_8 l0_9 = some r) ∧ Aside0 (kq ≤ kj34) ∧ Aside0 (wc.heap[gb209]? = some (.cells #[.int .i64 a0_0, .int .i64 a0_1, .int .i64 a0_2, .int .i64 a0_3, .int .i64 a0_4, .int .i64 a0_5, .int .i64 a0_6, (.slice A0_7 l0_7.length c0_7), (.slice A0_8 l0_8.length c0_8), (.slice A0_9 l0_9.length c0_9)] 37 (0, 0))) ∧ Aside0 (Below w.heap.size w wc))
       case first =>
         have H := HC42.out
         clear HC42
         by_cases c44 : a0_3 = 1
         rotate_left
         · rw [if_neg c44] at H
           have c44b0 : (a0_3 == 1) = false := beq_eq_false_iff_ne.mpr c44
           have c44b1 : (a0_3 != 1) = true := bne_iff_ne.mpr c44
           (first | rw [c44b0] | (simp only [i64_w, i32_w]; rw [c44b0]) | skip)
           by_cases c56 : (l0_8.length : Int) > 0
           · rw [if_pos c56] at H
             have c56b0 : decide (0 < (l0_8.length : Int)) = true := decide_eq_true c56
             have c56b1 : decide (0 < l0_8.length) = true := decide_eq_true (by omega)
             clear c56
             obtain rfl := sj H
             obtain ⟨hcz57_0, hcz57_1, hcz57_2, hcz57_3, hcz57_4, hcz57_5, hcz57_6, hcz57_7, hcz57_8, hcz57_9⟩ := bc10 wc BK209.out
             go_wp2
             go_ret
             exact ⟨er, Q1⟩
           rw [if_neg c56] at H
           have c56b0 : decide (0 < (l0_8.length : Int)) = false := decide_eq_false c56
           have c56b1 : decide (0 < l0_8.length) = false := decide_eq_false (by omega)
           clear c56
           have H' := am H
           clear H
           obtain ⟨hcz58_0, hcz58_1, hcz58_2, hcz58_3, hcz58_4, hcz58_5, hcz58_6, hcz58_7, hcz58_8, hcz58_9⟩ := bc10 wc BK209.out
           go_wp2
           go_meet
           case rel => exact ⟨_, H', ⟨u7_11⟩, ⟨u7_1⟩, ⟨Q1⟩⟩
         rw [if_pos c44] at H
         have c44b0 : (a0_3 == 1) = true := beq_iff_eq.mpr c44
         have c44b1 : (a0_3 != 1) = false := bne_eq_false_iff_eq.mpr c44
         clear c44
         (first | rw [c44b0] | (simp only [i64_w, i32_w]; rw [c44b0]) | skip)
         replace H := Option.bind_eq_some_iff.mp H
         obtain ⟨t218, A450, H⟩ := H
         have A45 := am A450
         clear A450
         by_cases c46 : t218 = true
         rotate_left
         · replace c46 := Bool.eq_false_iff.mpr c46
           subst c46
           rw [nf] at H
           obtain rfl := sj H
           obtain ⟨hcz55_0, hcz55_1, hcz55_2, hcz55_3, hcz55_4, hcz55_5, hcz55_6, hcz55_7, hcz55_8, hcz55_9⟩ := bc10 wc BK209.out
           go_wp2_with (first | ((with_reducible refine gate_callee (f := 74) rfl ?_); refine goesL_ (some 85) rfl rfl Try.func74 kr rfl #[.slice A0_8 l0_8.length c0_8] rfl Q3 ?_; (with_reducible refine (spec_l06Set.calls kj34 _ _ l0_8 false _ ?side1 ?side2 A45.out).mono ?_); (case side1 => exact Q10); (case side2 => exact HC0_8.out); rintro e w' ⟨rfl, ⟨nd, rfl⟩⟩; refine ⟨_, rfl, ?_⟩))
           go_ret
           exact ⟨er, Q1⟩
         subst c46
         rw [if_pos rfl] at H
         replace H := Option.bind_eq_some_iff.mp H
         obtain ⟨t219, A470, H⟩ := H
         have A47 := am A470
         clear A470
         by_cases c48 : t219 = true
         rotate_left
         · replace c48 := Bool.eq_false_iff.mpr c48
           subst c48
           rw [nf] at H
           obtain rfl := sj H
           obtain ⟨hcz54_0, hcz54_1, hcz54_2, hcz54_3, hcz54_4, hcz54_5, hcz54_6, hcz54_7, hcz54_8, hcz54_9⟩ := bc10 wc BK209.out
           go_wp2_with (first | ((with_reducible refine gate_callee (f := 74) rfl ?_); refine goesL_ (some 85) rfl rfl Try.func74 kr rfl #[.slice A0_8 l0_8.length c0_8] rfl Q3 ?_; (with_reducible refine (spec_l06Set.calls kj34 _ _ l0_8 true _ ?side1 ?side2 A45.out).mono ?_); (case side1 => exact Q10); (case side2 => exact HC0_8.out); rintro e w' ⟨rfl, ⟨nd, rfl⟩⟩; refine ⟨_, rfl, ?_⟩) | (go_at_call 75; (with_reducible refine (spec_l01Has.calls kj34 _ _ l0_8 a0_0 false _ ?side1 ?side2 A47.out).mono ?_); (case side1 => exact u7_8); (case side2 => exact HC0_8.out); rintro e w' ⟨rfl, ⟨nd, rfl⟩⟩))
           go_ret
           exact ⟨er, Q1⟩
         subst c48
         rw [if_pos rfl] at H
         obtain ⟨ji49, hji49⟩ : ∃ j_ : Int, (wrap64 ((l0_8.length : Int) - 1)) = j_ := ⟨_, rfl⟩
         replace H : (if 0 ≤ (ji49) then (if (ji49) < (l0_8.length : Int) then (if (rd l0_8 (ji49)) ≥ a1 then (some false) else (spec_NodeOk.j3 kj34 a1 t215 a0_0 a0_1 a0_2 a0_3 a0_4 a0_5 a0_6 l0_7 l0_8 l0_9)) else (none)) else (none)) = some r := by first | (rw [hji49] at H; exact H) | (simp only [hji49] at H ⊢; exact H)
         (try rw [hji49] at A45)
         (try rw [hji49] at A47)
         have hji49w : (IntKind.i64.wrap ((l0_8.length : Int) - 1)) = ji49 := (i64_w _).trans hji49
         by_cases c50 : 0 ≤ (ji49)
         rotate_left
         · rw [if_neg c50] at H
           exact absurd H (by simp)
         rw [if_pos c50] at H
         have c50b0 : decide (0 ≤ (ji49)) = true := decide_eq_true c50
         clear c50
         by_cases c51 : (ji49) < (l0_8.length : Int)
         rotate_left
         · rw [if_neg c51] at H
           exact absurd H (by simp)
         rw [if_pos c51] at H
         have c51b0 : decide ((ji49) < (l0_8.length : Int)) = true := decide_eq_true c51
         clear c51
         have H9 := am H
         clear H
         obtain ⟨hcz52_0, hcz52_1, hcz52_2, hcz52_3, hcz52_4, hcz52_5, hcz52_6, hcz52_7, hcz52_8, hcz52_9⟩ := bc10 wc BK209.out
         go_upto_if 106 with (first | ((with_reducible refine gate_callee (f := 74) rfl ?_); refine goesL_ (some 85) rfl rfl Try.func74 kr rfl #[.slice A0_8 l0_8.length c0_8] rfl Q3 ?_; (with_reducible refine (spec_l06Set.calls kj34 _ _ l0_8 true _ ?side1 ?side2 A45.out).mono ?_); (case side1 => exact Q10); (case side2 => exact HC0_8.out); rintro e w' ⟨rfl, ⟨nd, rfl⟩⟩; refine ⟨_, rfl, ?_⟩) | (go_at_call 75; (with_reducible refine (spec_l01Has.calls kj34 _ _ l0_8 a0_0 true _ ?side1 ?side2 A47.out).mono ?_); (case side1 => exact u7_8); (case side2 => exact HC0_8.out); rintro e w' ⟨rfl, ⟨nd, rfl⟩⟩; have p220 : 0 ≤ ((ji49) : Int) := of_decide_eq_true Q0; have q220 : (ji49) < (l0_8.length : Int) := of_decide_eq_true Q0; obtain ⟨ad220, e220, hx220_0⟩ := Kd.at_int HR0_8.out (ji49) p220 q220; cases e220; replace hx220_0 := cm HB.out hx220_0; replace p220 := eq_true p220; replace q220 := eq_true q220))
         have H := H9.out
         clear H9
         by_cases c53 : (rd l0_8 (ji49)) ≥ a1
         · rw [if_pos c53] at H
           have c53b0 : decide (a1 ≤ (rd l0_8 (ji49))) = true := decide_eq_true c53
           clear c53
           (first | rw [c53b0] | (simp only [i64_w, i32_w]; rw [c53b0]) | skip)
           obtain rfl := sj H
           go_wp2
           go_ret
           exact ⟨by first | rfl | (simp [errW_none, errW_some] <;> rfl) | (simp only [← hji49]; first | rfl | (simp [errW_none, errW_some] <;> rfl)) | (simp [*, errW_none, errW_some] <;> rfl), Q1⟩
         rw [if_neg c53] at H
         have c53b0 : decide (a1 ≤ (rd l0_8 (ji49))) = false := decide_eq_false c53
         clear c53
         (first | rw [c53b0] | (simp only [i64_w, i32_w]; rw [c53b0]) | skip)
         have H' := am H
         clear H
         go_wp2
         go_meet
         case rel => exact ⟨_, H', ⟨u7_11⟩, ⟨u7_1⟩, ⟨Q1⟩⟩
       clear HC42
       try clear c34
       try clear c41
       try clear hcz43_0
       try clear hcz43_1
       try clear hcz43_2
       try clear hcz43_3
       try clear hcz43_4
       try clear hcz43_5
       try clear hcz43_6
       try clear hcz43_7
       try clear hcz43_8
       try clear hcz43_9
       obtain ⟨kq, HA, HJ41, BK209, HB⟩ := hcut
       cases kq with
       | zero => exact absurd HA.out (by simp [spec_NodeOk.j3])
       | succ kj41 =>
         have H := HA.out
         clear HA
         simp only [spec_NodeOk.j3] at H
         by_cases c59 : a0_3 = 2
         rotate_left
         · rw [if_neg c59] at H
           have c59b0 : (a0_3 == 2) = false := beq_eq_false_iff_ne.mpr c59
           have c59b1 : (a0_3 != 2) = true := bne_iff_ne.mpr c59
           obtain rfl := sj H
           obtain ⟨hcz71_0, hcz71_1, hcz71_2, hcz71_3, hcz71_4, hcz71_5, hcz71_6, hcz71_7, hcz71_8, hcz71_9⟩ := bc10 wc BK209.out
           go_wp2
           go_ret
           exact ⟨er, Q1⟩
         rw [if_pos c59] at H
         have c59b0 : (a0_3 == 2) = true := beq_iff_eq.mpr c59
         have c59b1 : (a0_3 != 2) = false := bne_eq_false_iff_eq.mpr c59
         clear c59
         have H' := am H
         clear H
         obtain ⟨hcz60_0, hcz60_1, hcz60_2, hcz60_3, hcz60_4, hcz60_5, hcz60_6, hcz60_7, hcz60_8, hcz60_9⟩ := bc10 wc BK209.out
         go_wp2
         go_loopg [6] kj41 (fun kq v6 w' => ∃ (x6_5 : Int), v6 = .int .i64 x6_5 ∧ Aside0 (spec_NodeOk.l0 kq a1 t215 x6_5 a0_0 a0_1 a0_2 a0_3 a0_4 a0_5 a0_6 l0_7 l0_8 l0_9 = some r) ∧ Aside0 (kq ≤ kj41) ∧ Aside0 (w'.heap[gb209]? = some (.cells #[.int .i64 a0_0, .int .i64 a0_1, .int .i64 a0_2, .int .i64 a0_3, .int .i64 a0_4, .int .i64 a0_5, .int .i64 a0_6, (.slice A0_7 l0_7.length c0_7), (.slice A0_8 l0_8.length c0_8), (.slice A0_9 l0_9.length c0_9)] 37 (0, 0))) ∧ Aside0 (Below w.heap.size w w'))
         case atStart => exact ⟨(0), Q2, H', ⟨Nat.le_refl _⟩, ⟨u7_1⟩, ⟨Q1⟩⟩
         clear H'
         try clear c34
         try clear c41
         try clear c59
         try clear c59b0
         try clear c59b1
         try clear hcz43_0
         try clear hcz43_1
         try clear hcz43_2
         try clear hcz43_3
         try clear hcz43_4
         try clear hcz43_5
         try clear hcz43_6
         try clear hcz43_7
         try clear hcz43_8
         try clear hcz43_9
         try clear hcz60_0
         try clear hcz60_1
         try clear hcz60_2
         try clear hcz60_3
         try clear hcz60_4
         try clear hcz60_5
         try clear hcz60_6
         try clear hcz60_7
         try clear hcz60_8
         try clear hcz60_9
         obtain ⟨x6_5, rfl, HA, HK5, BK209, HB⟩ := hrel
         cases gk with
         | zero => exact absurd HA.out (by simp [spec_NodeOk.l0])
         | succ k5 =>
           have H := HA.out
           clear HA
           simp only [spec_NodeOk.l0] at H
           by_cases c61 : x6_5 < (l0_9.length : Int)
           · rw [if_pos c61] at H
             have c61b0 : decide (x6_5 < (l0_9.length : Int)) = true := decide_eq_true c61
             clear c61
             by_cases c62 : 0 ≤ x6_5
             rotate_left
             · rw [if_neg c62] at H
               exact absurd H (by simp)
             rw [if_pos c62] at H
             have c62b0 : decide (0 ≤ x6_5) = true := decide_eq_true c62
             clear c62
             replace H := Option.bind_eq_some_iff.mp H
             obtain ⟨t222, A630, H⟩ := H
             have A63 := am A630
             clear A630
             have H9 := am H
             clear H
             obtain ⟨hcz64_0, hcz64_1, hcz64_2, hcz64_3, hcz64_4, hcz64_5, hcz64_6, hcz64_7, hcz64_8, hcz64_9⟩ := bc10 wr BK209.out
             have p221 : 0 ≤ (x6_5 : Int) := of_decide_eq_true Q0
             have q221 : x6_5 < (l0_9.length : Int) := of_decide_eq_true Q0
             obtain ⟨ad221, e221, hx221_0⟩ := Kd.at_int HR0_9.out x6_5 p221 q221
             cases e221
             replace hx221_0 := cm HB.out hx221_0
             replace p221 := eq_true p221
             replace q221 := eq_true q221
             go_upto_if 132 with (first | ((with_reducible refine gate_callee (f := 63) rfl ?_); refine goesL_ (some 131) rfl rfl Try.func63 kr rfl #[.int .i64 (rd l0_9 x6_5), .int .i64 0, .int .i64 t215] rfl Q3 ?_; (with_reducible refine (spec_l01In.calls (rd l0_9 x6_5) 0 t215 t222 _ A63.out).mono ?_); rintro e w' ⟨rfl, ⟨nd, rfl⟩⟩; refine ⟨_, rfl, ?_⟩))
             have H := H9.out
             clear H9
             by_cases c65 : t222 = true
             rotate_left
             · replace c65 := Bool.eq_false_iff.mpr c65
               subst c65
               rw [nf] at H
               obtain rfl := sj H
               go_wp2
               go_ret
               exact ⟨er, Q1⟩
             subst c65
             rw [if_pos rfl] at H
             have H' := am H
             clear H
             go_wp2
             go_roundg k5
             case measure => have := HJ2.out; have := HJ19.out; have := HJ34.out; have := HJ41.out; have := HK5.out; omega
             case rel => exact ⟨(wrap64 (x6_5 + 1)), Q2, H', ⟨(by have := HJ2.out; have := HJ19.out; have := HJ34.out; have := HJ41.out; have := HK5.out; omega)⟩, ⟨u7_1⟩, ⟨Q1⟩⟩
           rw [if_neg c61] at H
           have c61b0 : decide (x6_5 < (l0_9.length : Int)) = false := decide_eq_false c61
           clear c61
           by_cases c66 : (l0_9.length : Int) = a1
           rotate_left
           · rw [if_neg c66] at H
             have c66b0 : ((l0_9.length : Int) == a1) = false := beq_eq_false_iff_ne.mpr c66
             have c66b1 : ((l0_9.length : Int) != a1) = true := bne_iff_ne.mpr c66
             obtain rfl := sj H
             obtain ⟨hcz70_0, hcz70_1, hcz70_2, hcz70_3, hcz70_4, hcz70_5, hcz70_6, hcz70_7, hcz70_8, hcz70_9⟩ := bc10 wr BK209.out
             go_wp2
             go_ret
             exact ⟨er, Q1⟩
           rw [if_pos c66] at H
           have c66b0 : ((l0_9.length : Int) == a1) = true := beq_iff_eq.mpr c66
           have c66b1 : ((l0_9.length : Int) != a1) = false := bne_eq_false_iff_eq.mpr c66
           clear c66
           by_cases c67 : 0 ≤ a0_0
           rotate_left
           · rw [if_neg c67] at H
             exact absurd H (by simp)
           rw [if_pos c67] at H
           have c67b0 : decide (0 ≤ a0_0) = true := decide_eq_true c67
           clear c67
           by_cases c68 : a0_0 < (l0_9.length : Int)
           rotate_left
           · rw [if_neg c68] at H
             exact absurd H (by simp)
           rw [if_pos c68] at H
           have c68b0 : decide (a0_0 < (l0_9.length : Int)) = true := decide_eq_true c68
           clear c68
           obtain rfl := sj H
           obtain ⟨hcz69_0, hcz69_1, hcz69_2, hcz69_3, hcz69_4, hcz69_5, hcz69_6, hcz69_7, hcz69_8, hcz69_9⟩ := bc10 wr BK209.out
           have p223 : 0 ≤ (a0_0 : Int) := of_decide_eq_true Q0
           have q223 : a0_0 < (l0_9.length : Int) := of_decide_eq_true Q0
           obtain ⟨ad223, e223, hx223_0⟩ := Kd.at_int HR0_9.out a0_0 p223 q223
           cases e223
           replace hx223_0 := cm HB.out hx223_0
           replace p223 := eq_true p223
           replace q223 := eq_true q223
           go_wp2
           go_ret
           exact ⟨er, Q1⟩

end Go.Proofs.Ytkcadcoohmofcaa.QFnExactPropose
