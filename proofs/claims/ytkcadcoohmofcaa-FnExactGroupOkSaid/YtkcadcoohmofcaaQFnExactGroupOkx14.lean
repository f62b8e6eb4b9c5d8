-- Printed by the session's own program wip/prx.py.
import Derived.Test.YtkcadcoohmofcaaSqFnExactGroupOk
import Derived.Test.YtkcadcoohmofcaaQFnExactGroupOkx0
import Derived.Test.YtkcadcoohmofcaaQFnExactGroupOkx12
import Derived.Test.YtkcadcoohmofcaaQFnExactGroupOkx13
namespace Go.Proofs.Ytkcadcoohmofcaa.QFnExactGroupOk
open Go.RowKit Go.Proofs.YtkcadcoohmofcaaW.PrintWords Go.Proofs.YtkcadcoohmofcaaW.PrintLast Go.Proofs.YtkcadcoohmofcaaW.PrintMore Go.Proofs.Ytkcadcoohmofcaa.SqFnExactGroupOk
attribute [local go_sem] max2_int min2_int max_two min_two max_three min_three max_four min_four Go.Proofs.Ytkcadcoohmofcaa.Set.isSome_setCell
set_option linter.unusedVariables false
set_option linter.unusedSimpArgs false

-- squeezed
theorem u14_0 {P : Prop} (h : P := by repeat (first | (with_reducible first | exact HB.out | apply below_alloc | apply pw_below_drewN | apply below_drew1 | refine below_set ?_ GE302.out) | exact HB.out)) : P := h
theorem u14_1 {P : Prop} (h : P := by (with_reducible repeat (first | refine blk_drewN ?_ _ | refine blk_drew ?_ | refine blk_alloc ?_ _)); exact BK302.out) : P := h
theorem u14_2 {P : Prop} (h : P := by (try simp only [List.map_toArray, List.map_cons, List.map_nil]); first | done | rfl | (simp only [List.length_drop, List.length_take]; rfl)) : P := h
theorem u14_3 {P : Prop} (h : P := by repeat (first | exact (Kd.C_below HR0_7.out HB.out) | (with_reducible refine Kd.C_alloc ?_ _) | (with_reducible refine Kd.C_drewN ?_ _) | (with_reducible refine Kd.C_drew ?_))) : P := h
theorem u14_4 {P : Prop} (h : P := by first | rfl | (simp; done) | (simp [*]; done)) : P := h
theorem u14_5 {P : Prop} (h : P := by repeat (first | exact (Kd.C_below HR0_8.out HB.out) | (with_reducible refine Kd.C_alloc ?_ _) | (with_reducible refine Kd.C_drewN ?_ _) | (with_reducible refine Kd.C_drew ?_))) : P := h
theorem u14_6 {P : Prop} (h : P := by repeat (first | exact (Kd.C_below HR0_8.out u14_0) | (with_reducible refine Kd.C_alloc ?_ _) | (with_reducible refine Kd.C_drewN ?_ _) | (with_reducible refine Kd.C_drew ?_))) : P := h
theorem u14_7 {P : Prop} (h : P := by repeat (first | (with_reducible first | exact HB.out | apply below_alloc | apply pw_below_drewN | apply below_drew1) | exact HB.out)) : P := h
theorem u14_8 {P : Prop} (h : P := by have := HJ2.out; first | omega | exact Nat.le_refl _) : P := h
theorem u14_9 {P : Prop} (h : P := by repeat (first | exact (Kd.C_below HR0_9.out HB.out) | (with_reducible refine Kd.C_alloc ?_ _) | (with_reducible refine Kd.C_drewN ?_ _) | (with_reducible refine Kd.C_drew ?_))) : P := h
theorem u14_10 {P : Prop} (h : P := by have := HJ2.out; have := HJ22.out; first | omega | exact Nat.le_refl _) : P := h
theorem u14_11 {P : Prop} (h : P := by have := HJ2.out; have := HJ22.out; have := HJ49.out; have := HJ56.out; first | omega | exact Nat.le_refl _) : P := h
theorem u14_12 {P : Prop} (h : P := by have := HJ2.out; have := HJ22.out; have := HJ49.out; first | omega | exact Nat.le_refl _) : P := h
/-! ### impl_isNode: function 78 -/
mutual
def impl_isNode.j0 : Nat → Int → Bool → Int → Int → Int → Int → Int → Int → Int → List (S85) → List Int → List Int → Option (Bool)
 | 0, _, _, _, _, _, _, _, _, _, _, _, _ => none
 | k + 1, x1, x52, x303000, x303001, x303002, x303003, x303004, x303005, x303006, x303007, x303008, x303009 => if x52 = true then (some false) else ((impl_isRLog.f k x303005 x303006 x303007).bind fun t303 => (if t303 = true then (if x303005 = 0 then ((impl_RLog_last.f x303005 x303006 x303007).bind fun t304 => ((impl_RLog_term.f x303005 x303006 x303007 t304).bind fun t305 => (if t305 > x303001 then (impl_isNode.j1 k x1 true x303000 x303001 x303002 x303003 x303004 x303005 x303006 x303007 x303008 x303009) else (if x303004 < 0 then (impl_isNode.j1 k x1 true x303000 x303001 x303002 x303003 x303004 x303005 x303006 x303007 x303008 x303009) else ((impl_RLog_last.f x303005 x303006 x303007).bind fun t306 => (impl_isNode.j1 k x1 (decide (x303004 > t306)) x303000 x303001 x303002 x303003 x303004 x303005 x303006 x303007 x303008 x303009)))))) else (impl_isNode.j1 k x1 true x303000 x303001 x303002 x303003 x303004 x303005 x303006 x303007 x303008 x303009)) else (impl_isNode.j1 k x1 true x303000 x303001 x303002 x303003 x303004 x303005 x303006 x303007 x303008 x303009)))
def impl_isNode.j1 : Nat → Int → Bool → Int → Int → Int → Int → Int → Int → Int → List (S85) → List Int → List Int → Option (Bool)
 | 0, _, _, _, _, _, _, _, _, _, _, _, _ => none
 | k + 1, x1, x86, x303000, x303001, x303002, x303003, x303004, x303005, x303006, x303007, x303008, x303009 => if x86 = true then (some false) else (if x303003 = 0 then (impl_isNode.j2 k x1 false x303000 x303001 x303002 x303003 x303004 x303005 x303006 x303007 x303008 x303009) else (if x303002 = x303000 then (impl_isNode.j2 k x1 (x303001 == 0) x303000 x303001 x303002 x303003 x303004 x303005 x303006 x303007 x303008 x303009) else (impl_isNode.j2 k x1 true x303000 x303001 x303002 x303003 x303004 x303005 x303006 x303007 x303008 x303009)))
def impl_isNode.j2 : Nat → Int → Bool → Int → Int → Int → Int → Int → Int → Int → List (S85) → List Int → List Int → Option (Bool)
 | 0, _, _, _, _, _, _, _, _, _, _, _, _ => none
 | k + 1, x1, x101, x303000, x303001, x303002, x303003, x303004, x303005, x303006, x303007, x303008, x303009 => if x101 = true then (some false) else (if x303003 = 1 then ((impl_areIds.f k x303008).bind fun t307 => (if t307 = true then ((slices_Contains_int_int.f k x303008 x303000).bind fun t308 => (if t308 = true then ((slices_Max_int_int.f x303008).bind fun t309 => (if t309 ≥ x1 then (some false) else (impl_isNode.j3 k x1 x303000 x303001 x303002 x303003 x303004 x303005 x303006 x303007 x303008 x303009))) else (some false))) else (some false))) else (if (x303008.length : Int) > 0 then (some false) else (impl_isNode.j3 k x1 x303000 x303001 x303002 x303003 x303004 x303005 x303006 x303007 x303008 x303009)))
def impl_isNode.j3 : Nat → Int → Int → Int → Int → Int → Int → Int → Int → List (S85) → List Int → List Int → Option (Bool)
 | 0, _, _, _, _, _, _, _, _, _, _, _ => none
 | k + 1, x1, x303000, x303001, x303002, x303003, x303004, x303005, x303006, x303007, x303008, x303009 => if x303003 = 2 then (if (x303009.length : Int) = x1 then (if 0 ≤ x303000 then (if x303000 < (x303009.length : Int) then ((impl_RLog_last.f x303005 x303006 x303007).bind fun t311 => (impl_isNode.j4 k ((rd x303009 x303000) != t311) x303000 x303001 x303002 x303003 x303004 x303005 x303006 x303007 x303008 x303009)) else (none)) else (none)) else (impl_isNode.j4 k true x303000 x303001 x303002 x303003 x303004 x303005 x303006 x303007 x303008 x303009)) else (some ((x303009.length : Int) == 0))
def impl_isNode.j4 : Nat → Bool → Int → Int → Int → Int → Int → Int → Int → List (S85) → List Int → List Int → Option (Bool)
 | 0, _, _, _, _, _, _, _, _, _, _, _ => none
 | k + 1, x151, x303000, x303001, x303002, x303003, x303004, x303005, x303006, x303007, x303008, x303009 => if x151 = true then (some false) else ((slices_Min_int_int.f x303009).bind fun t312 => (if t312 ≥ 0 then ((slices_Max_int_int.f x303009).bind fun t313 => ((impl_RLog_last.f x303005 x303006 x303007).bind fun t314 => (some (decide (t313 ≤ t314))))) else (some false)))
end
def impl_isNode.f (k : Nat) (a0_0 : Int) (a0_1 : Int) (a0_2 : Int) (a0_3 : Int) (a0_4 : Int) (a0_5 : Int) (a0_6 : Int) (l0_7 : List (S85)) (l0_8 : List Int) (l0_9 : List Int) (a1 : Int) : Option (Bool) := if a1 < 1 then (impl_isNode.j0 k a1 true a0_0 a0_1 a0_2 a0_3 a0_4 a0_5 a0_6 l0_7 l0_8 l0_9) else (if a1 > 5 then (impl_isNode.j0 k a1 true a0_0 a0_1 a0_2 a0_3 a0_4 a0_5 a0_6 l0_7 l0_8 l0_9) else (if a0_0 < 0 then (impl_isNode.j0 k a1 true a0_0 a0_1 a0_2 a0_3 a0_4 a0_5 a0_6 l0_7 l0_8 l0_9) else (if a0_0 ≥ a1 then (impl_isNode.j0 k a1 true a0_0 a0_1 a0_2 a0_3 a0_4 a0_5 a0_6 l0_7 l0_8 l0_9) else (if a0_1 < 0 then (impl_isNode.j0 k a1 true a0_0 a0_1 a0_2 a0_3 a0_4 a0_5 a0_6 l0_7 l0_8 l0_9) else (if a0_1 > 1000000 then (impl_isNode.j0 k a1 true a0_0 a0_1 a0_2 a0_3 a0_4 a0_5 a0_6 l0_7 l0_8 l0_9) else (if a0_2 < (-1) then (impl_isNode.j0 k a1 true a0_0 a0_1 a0_2 a0_3 a0_4 a0_5 a0_6 l0_7 l0_8 l0_9) else (if a0_2 ≥ a1 then (impl_isNode.j0 k a1 true a0_0 a0_1 a0_2 a0_3 a0_4 a0_5 a0_6 l0_7 l0_8 l0_9) else (if a0_3 < 0 then (impl_isNode.j0 k a1 true a0_0 a0_1 a0_2 a0_3 a0_4 a0_5 a0_6 l0_7 l0_8 l0_9) else (impl_isNode.j0 k a1 (decide (a0_3 > 2)) a0_0 a0_1 a0_2 a0_3 a0_4 a0_5 a0_6 l0_7 l0_8 l0_9)))))))))
theorem impl_isNode.mono_l : ∀ k, (∀ y0 y1 y2 y3 y4 y5 y6 y7 y8 y9 y10 y11, LeO (impl_isNode.j0 k y0 y1 y2 y3 y4 y5 y6 y7 y8 y9 y10 y11) (impl_isNode.j0 (k + 1) y0 y1 y2 y3 y4 y5 y6 y7 y8 y9 y10 y11)) ∧ (∀ y0 y1 y2 y3 y4 y5 y6 y7 y8 y9 y10 y11, LeO (impl_isNode.j1 k y0 y1 y2 y3 y4 y5 y6 y7 y8 y9 y10 y11) (impl_isNode.j1 (k + 1) y0 y1 y2 y3 y4 y5 y6 y7 y8 y9 y10 y11)) ∧ (∀ y0 y1 y2 y3 y4 y5 y6 y7 y8 y9 y10 y11, LeO (impl_isNode.j2 k y0 y1 y2 y3 y4 y5 y6 y7 y8 y9 y10 y11) (impl_isNode.j2 (k + 1) y0 y1 y2 y3 y4 y5 y6 y7 y8 y9 y10 y11)) ∧ (∀ y0 y1 y2 y3 y4 y5 y6 y7 y8 y9 y10, LeO (impl_isNode.j3 k y0 y1 y2 y3 y4 y5 y6 y7 y8 y9 y10) (impl_isNode.j3 (k + 1) y0 y1 y2 y3 y4 y5 y6 y7 y8 y9 y10)) ∧ (∀ y0 y1 y2 y3 y4 y5 y6 y7 y8 y9 y10, LeO (impl_isNode.j4 k y0 y1 y2 y3 y4 y5 y6 y7 y8 y9 y10) (impl_isNode.j4 (k + 1) y0 y1 y2 y3 y4 y5 y6 y7 y8 y9 y10))
 | 0 => ⟨fun _ _ _ _ _ _ _ _ _ _ _ _ r h => by simp [impl_isNode.j0] at h, fun _ _ _ _ _ _ _ _ _ _ _ _ r h => by simp [impl_isNode.j1] at h, fun _ _ _ _ _ _ _ _ _ _ _ _ r h => by simp [impl_isNode.j2] at h, fun _ _ _ _ _ _ _ _ _ _ _ r h => by simp [impl_isNode.j3] at h, fun _ _ _ _ _ _ _ _ _ _ _ r h => by simp [impl_isNode.j4] at h⟩
 | k + 1 => by
   obtain ⟨ih0, ih1, ih2, ih3, ih4⟩ := impl_isNode.mono_l k
   refine ⟨?_, ?_, ?_, ?_, ?_⟩
   · intro y0 y1 y2 y3 y4 y5 y6 y7 y8 y9 y10 y11
     unfold impl_isNode.j0
     repeat' first
     | (with_reducible exact ih0 _ _ _ _ _ _ _ _ _ _ _ _)
     | (with_reducible exact ih1 _ _ _ _ _ _ _ _ _ _ _ _)
     | (with_reducible exact ih2 _ _ _ _ _ _ _ _ _ _ _ _)
     | (with_reducible exact ih3 _ _ _ _ _ _ _ _ _ _ _)
     | (with_reducible exact ih4 _ _ _ _ _ _ _ _ _ _ _)
     | (with_reducible exact impl_areIds.mono _ _)
     | (with_reducible exact impl_isRLog.mono _ _ _ _)
     | (with_reducible exact slices_Contains_int_int.mono _ _ _)
     | (with_reducible exact LeO.refl _)
     | (with_reducible exact LeO.none _)
     | (with_reducible refine LeO.ite ?_ ?_)
     | (with_reducible refine LeO.bind ?_ (fun _ => ?_))
     | exact ih0 _ _ _ _ _ _ _ _ _ _ _ _
     | exact ih1 _ _ _ _ _ _ _ _ _ _ _ _
     | exact ih2 _ _ _ _ _ _ _ _ _ _ _ _
     | exact ih3 _ _ _ _ _ _ _ _ _ _ _
     | exact ih4 _ _ _ _ _ _ _ _ _ _ _
     | exact impl_areIds.mono _ _
     | exact impl_isRLog.mono _ _ _ _
     | exact slices_Contains_int_int.mono _ _ _
     | exact LeO.none _
     | refine LeO.ite ?_ ?_
     | refine LeO.bind ?_ (fun _ => ?_)
   · intro y0 y1 y2 y3 y4 y5 y6 y7 y8 y9 y10 y11
     unfold impl_isNode.j1
     repeat' first
     | (with_reducible exact ih0 _ _ _ _ _ _ _ _ _ _ _ _)
     | (with_reducible exact ih1 _ _ _ _ _ _ _ _ _ _ _ _)
     | (with_reducible exact ih2 _ _ _ _ _ _ _ _ _ _ _ _)
     | (with_reducible exact ih3 _ _ _ _ _ _ _ _ _ _ _)
     | (with_reducible exact ih4 _ _ _ _ _ _ _ _ _ _ _)
     | (with_reducible exact impl_areIds.mono _ _)
     | (with_reducible exact impl_isRLog.mono _ _ _ _)
     | (with_reducible exact slices_Contains_int_int.mono _ _ _)
     | (with_reducible exact LeO.refl _)
     | (with_reducible exact LeO.none _)
     | (with_reducible refine LeO.ite ?_ ?_)
     | (with_reducible refine LeO.bind ?_ (fun _ => ?_))
     | exact ih0 _ _ _ _ _ _ _ _ _ _ _ _
     | exact ih1 _ _ _ _ _ _ _ _ _ _ _ _
     | exact ih2 _ _ _ _ _ _ _ _ _ _ _ _
     | exact ih3 _ _ _ _ _ _ _ _ _ _ _
     | exact ih4 _ _ _ _ _ _ _ _ _ _ _
     | exact impl_areIds.mono _ _
     | exact impl_isRLog.mono _ _ _ _
     | exact slices_Contains_int_int.mono _ _ _
     | exact LeO.none _
     | refine LeO.ite ?_ ?_
     | refine LeO.bind ?_ (fun _ => ?_)
   · intro y0 y1 y2 y3 y4 y5 y6 y7 y8 y9 y10 y11
     unfold impl_isNode.j2
     repeat' first
     | (with_reducible exact ih0 _ _ _ _ _ _ _ _ _ _ _ _)
     | (with_reducible exact ih1 _ _ _ _ _ _ _ _ _ _ _ _)
     | (with_reducible exact ih2 _ _ _ _ _ _ _ _ _ _ _ _)
     | (with_reducible exact ih3 _ _ _ _ _ _ _ _ _ _ _)
     | (with_reducible exact ih4 _ _ _ _ _ _ _ _ _ _ _)
     | (with_reducible exact impl_areIds.mono _ _)
     | (with_reducible exact impl_isRLog.mono _ _ _ _)
     | (with_reducible exact slices_Contains_int_int.mono _ _ _)
     | (with_reducible exact LeO.refl _)
     | (with_reducible exact LeO.none _)
     | (with_reducible refine LeO.ite ?_ ?_)
     | (with_reducible refine LeO.bind ?_ (fun _ => ?_))
     | exact ih0 _ _ _ _ _ _ _ _ _ _ _ _
     | exact ih1 _ _ _ _ _ _ _ _ _ _ _ _
     | exact ih2 _ _ _ _ _ _ _ _ _ _ _ _
     | exact ih3 _ _ _ _ _ _ _ _ _ _ _
     | exact ih4 _ _ _ _ _ _ _ _ _ _ _
     | exact impl_areIds.mono _ _
     | exact impl_isRLog.mono _ _ _ _
     | exact slices_Contains_int_int.mono _ _ _
     | exact LeO.none _
     | refine LeO.ite ?_ ?_
     | refine LeO.bind ?_ (fun _ => ?_)
   · intro y0 y1 y2 y3 y4 y5 y6 y7 y8 y9 y10
     unfold impl_isNode.j3
     repeat' first
     | (with_reducible exact ih0 _ _ _ _ _ _ _ _ _ _ _ _)
     | (with_reducible exact ih1 _ _ _ _ _ _ _ _ _ _ _ _)
     | (with_reducible exact ih2 _ _ _ _ _ _ _ _ _ _ _ _)
     | (with_reducible exact ih3 _ _ _ _ _ _ _ _ _ _ _)
     | (with_reducible exact ih4 _ _ _ _ _ _ _ _ _ _ _)
     | (with_reducible exact impl_areIds.mono _ _)
     | (with_reducible exact impl_isRLog.mono _ _ _ _)
     | (with_reducible exact slices_Contains_int_int.mono _ _ _)
     | (with_reducible exact LeO.refl _)
     | (with_reducible exact LeO.none _)
     | (with_reducible refine LeO.ite ?_ ?_)
     | (with_reducible refine LeO.bind ?_ (fun _ => ?_))
     | exact ih0 _ _ _ _ _ _ _ _ _ _ _ _
     | exact ih1 _ _ _ _ _ _ _ _ _ _ _ _
     | exact ih2 _ _ _ _ _ _ _ _ _ _ _ _
     | exact ih3 _ _ _ _ _ _ _ _ _ _ _
     | exact ih4 _ _ _ _ _ _ _ _ _ _ _
     | exact impl_areIds.mono _ _
     | exact impl_isRLog.mono _ _ _ _
     | exact slices_Contains_int_int.mono _ _ _
     | exact LeO.none _
     | refine LeO.ite ?_ ?_
     | refine LeO.bind ?_ (fun _ => ?_)
   · intro y0 y1 y2 y3 y4 y5 y6 y7 y8 y9 y10
     unfold impl_isNode.j4
     repeat' first
     | (with_reducible exact ih0 _ _ _ _ _ _ _ _ _ _ _ _)
     | (with_reducible exact ih1 _ _ _ _ _ _ _ _ _ _ _ _)
     | (with_reducible exact ih2 _ _ _ _ _ _ _ _ _ _ _ _)
     | (with_reducible exact ih3 _ _ _ _ _ _ _ _ _ _ _)
     | (with_reducible exact ih4 _ _ _ _ _ _ _ _ _ _ _)
     | (with_reducible exact impl_areIds.mono _ _)
     | (with_reducible exact impl_isRLog.mono _ _ _ _)
     | (with_reducible exact slices_Contains_int_int.mono _ _ _)
     | (with_reducible exact LeO.refl _)
     | (with_reducible exact LeO.none _)
     | (with_reducible refine LeO.ite ?_ ?_)
     | (with_reducible refine LeO.bind ?_ (fun _ => ?_))
     | exact ih0 _ _ _ _ _ _ _ _ _ _ _ _
     | exact ih1 _ _ _ _ _ _ _ _ _ _ _ _
     | exact ih2 _ _ _ _ _ _ _ _ _ _ _ _
     | exact ih3 _ _ _ _ _ _ _ _ _ _ _
     | exact ih4 _ _ _ _ _ _ _ _ _ _ _
     | exact impl_areIds.mono _ _
     | exact impl_isRLog.mono _ _ _ _
     | exact slices_Contains_int_int.mono _ _ _
     | exact LeO.none _
     | refine LeO.ite ?_ ?_
     | refine LeO.bind ?_ (fun _ => ?_)
theorem impl_isNode.mono : ∀ a0 a1 a2 a3 a4 a5 a6 a7 a8 a9 a10 k, LeO (impl_isNode.f k a0 a1 a2 a3 a4 a5 a6 a7 a8 a9 a10) (impl_isNode.f (k + 1) a0 a1 a2 a3 a4 a5 a6 a7 a8 a9 a10) := by
 intro a0 a1 a2 a3 a4 a5 a6 a7 a8 a9 a10 k
 obtain ⟨ih0, ih1, ih2, ih3, ih4⟩ := impl_isNode.mono_l k
 unfold impl_isNode.f
 repeat' first
     | (with_reducible exact ih0 _ _ _ _ _ _ _ _ _ _ _ _)
     | (with_reducible exact ih1 _ _ _ _ _ _ _ _ _ _ _ _)
     | (with_reducible exact ih2 _ _ _ _ _ _ _ _ _ _ _ _)
     | (with_reducible exact ih3 _ _ _ _ _ _ _ _ _ _ _)
     | (with_reducible exact ih4 _ _ _ _ _ _ _ _ _ _ _)
     | (with_reducible exact impl_areIds.mono _ _)
     | (with_reducible exact impl_isRLog.mono _ _ _ _)
     | (with_reducible exact slices_Contains_int_int.mono _ _ _)
     | (with_reducible exact LeO.refl _)
     | (with_reducible exact LeO.none _)
     | (with_reducible refine LeO.ite ?_ ?_)
     | (with_reducible refine LeO.bind ?_ (fun _ => ?_))
     | exact ih0 _ _ _ _ _ _ _ _ _ _ _ _
     | exact ih1 _ _ _ _ _ _ _ _ _ _ _ _
     | exact ih2 _ _ _ _ _ _ _ _ _ _ _ _
     | exact ih3 _ _ _ _ _ _ _ _ _ _ _
     | exact ih4 _ _ _ _ _ _ _ _ _ _ _
     | exact impl_areIds.mono _ _
     | exact impl_isRLog.mono _ _ _ _
     | exact slices_Contains_int_int.mono _ _ _
     | exact LeO.none _
     | refine LeO.ite ?_ ?_
     | refine LeO.bind ?_ (fun _ => ?_)
def impl_isNode.T3 : Bool × List (List Nat × List Nat) := (true, [([], []), ([0], [0]), ([1], [1]), ([2], [2]), ([3, 2], [3]), ([4], [4]), ([5, 4], [4, 5]), ([6, 4], [4, 6]), ([7, 4], [4, 7]), ([4, 8], [4, 8]), ([9, 4], [9]), ([10], [10]), ([11, 10], [10, 11]), ([10], [10]), ([13, 10], [10, 13]), ([14, 10, 10], [10, 14]), ([12, 15, 15, 10], [10, 12, 15]), ([10], [10]), ([17, 10], [10, 17]), ([16, 18, 10], [10, 16, 18]), ([10, 19], [10, 19]), ([20, 16], [20]), ([21], [21]), ([22, 21], [21, 22]), ([23, 21], [21, 23]), ([21, 24], [21, 24]), ([25, 21], [25]), ([26], [26]), ([27, 26], [26, 27]), ([26], [26]), ([29, 26], [26, 29]), ([30, 26, 26], [26, 30]), ([28, 31, 26], [26, 28, 31]), ([26, 32], [26, 32])])
def impl_isNode.B3 : List Nat := [0, 1, 3, 7, 15, 31, 63, 127, 255, 511, 1023, 2047, 4095, 2047, 10239, 26623, 65535, 2047, 133119, 524287, 1048575, 2097151, 4194303, 8388607, 16777215, 33554431, 67108863, 134217727, 268435455, 134217727, 671088639, 1744830463, 4294967295, 8589934591]
theorem impl_isNode.tab3 : rtab .any (opsOf Try.f78 3) = impl_isNode.T3 := by kernel_rfl
theorem impl_isNode.bits3 : waitsOk impl_isNode.T3.2 impl_isNode.B3 = true := by kernel_rfl
def impl_isNode.T14 : Bool × List (List Nat × List Nat) := (true, [([], []), ([0], [0]), ([1], [1]), ([], []), ([2, 3], [2, 3]), ([4], [4]), ([5], [5]), ([6, 5], [5, 6]), ([5], [5]), ([8, 5], [5, 8]), ([7, 9, 5], [5, 7, 9]), ([10, 5], [5, 10]), ([5], [5]), ([12, 5], [5, 12]), ([13, 5, 5], [5, 13]), ([11, 14, 5], [5, 11, 14]), ([5, 15], [5, 15])])
def impl_isNode.B14 : List Nat := [0, 1, 3, 0, 15, 31, 63, 127, 63, 319, 1023, 2047, 63, 4159, 12351, 32767, 65535]
theorem impl_isNode.tab14 : rtab .any (opsOf Try.f78 14) = impl_isNode.T14 := by kernel_rfl
theorem impl_isNode.bits14 : waitsOk impl_isNode.T14.2 impl_isNode.B14 = true := by kernel_rfl
def impl_isNode.T16 : Bool × List (List Nat × List Nat) := (true, [([], []), ([0], [0]), ([1], [1]), ([2], [2]), ([3, 2], [3]), ([4], [4]), ([5, 4], [4, 5]), ([6, 4, 4], [4, 6]), ([4], [4]), ([8, 4], [4, 8]), ([9, 7, 4], [4, 9]), ([7, 10, 4], [4, 7, 10]), ([4, 11], [4, 11]), ([12, 10, 0, 1, 2, 3, 4, 5, 6, 7, 8, 9, 10, 11, 12], [12])])
def impl_isNode.B16 : List Nat := [0, 1, 3, 7, 15, 31, 63, 127, 31, 287, 1023, 2047, 4095, 8191]
theorem impl_isNode.tab16 : rtab .any (opsOf Try.f78 16) = impl_isNode.T16 := by kernel_rfl
theorem impl_isNode.bits16 : waitsOk impl_isNode.T16.2 impl_isNode.B16 = true := by kernel_rfl
set_option maxHeartbeats 8000000 in
set_option maxRecDepth 100000 in
theorem impl_isNode.calls (k : Nat) (a0_0 : Int) (a0_1 : Int) (a0_2 : Int) (a0_3 : Int) (a0_4 : Int) (a0_5 : Int) (a0_6 : Int) (A0_7 : Option Addr) (c0_7 : Nat) (l0_7 : List (S85)) (A0_8 : Option Addr) (c0_8 : Nat) (l0_8 : List Int) (A0_9 : Option Addr) (c0_9 : Nat) (l0_9 : List Int) (a1 : Int) (r : Bool) (w : World) (hr0_7 : Kd.C k85 w A0_7 l0_7.length l0_7) (hc0_7 : l0_7.length ≤ c0_7) (hr0_8 : Kd.C (Kd.int .i64) w A0_8 l0_8.length l0_8) (hc0_8 : l0_8.length ≤ c0_8) (hr0_9 : Kd.C (Kd.int .i64) w A0_9 l0_9.length l0_9) (hc0_9 : l0_9.length ≤ c0_9) (h : impl_isNode.f k a0_0 a0_1 a0_2 a0_3 a0_4 a0_5 a0_6 l0_7 l0_8 l0_9 a1 = some r) :
   Calls Try.prog 78 #[.agg #[.int .i64 a0_0, .int .i64 a0_1, .int .i64 a0_2, .int .i64 a0_3, .int .i64 a0_4, .int .i64 a0_5, .int .i64 a0_6, .slice A0_7 l0_7.length c0_7, .slice A0_8 l0_8.length c0_8, .slice A0_9 l0_9.length c0_9], .int .i64 a1] w fun e w' => e = .returned (.bool r) ∧ Below w.heap.size w w' := by
 have hu37 := Try.underlying37
 have hu34 := Try.underlying34
 have HR0_7 := am hr0_7
 have HC0_7 := am hc0_7
 clear hr0_7 hc0_7
 have HR0_8 := am hr0_8
 have HC0_8 := am hc0_8
 clear hr0_8 hc0_8
 have HR0_9 := am hr0_9
 have HC0_9 := am hc0_9
 clear hr0_9 hc0_9
 have HB := am (Below.refl w.heap.size w)
 have H : (if a1 < 1 then (impl_isNode.j0 k a1 true a0_0 a0_1 a0_2 a0_3 a0_4 a0_5 a0_6 l0_7 l0_8 l0_9) else (if a1 > 5 then (impl_isNode.j0 k a1 true a0_0 a0_1 a0_2 a0_3 a0_4 a0_5 a0_6 l0_7 l0_8 l0_9) else (if a0_0 < 0 then (impl_isNode.j0 k a1 true a0_0 a0_1 a0_2 a0_3 a0_4 a0_5 a0_6 l0_7 l0_8 l0_9) else (if a0_0 ≥ a1 then (impl_isNode.j0 k a1 true a0_0 a0_1 a0_2 a0_3 a0_4 a0_5 a0_6 l0_7 l0_8 l0_9) else (if a0_1 < 0 then (impl_isNode.j0 k a1 true a0_0 a0_1 a0_2 a0_3 a0_4 a0_5 a0_6 l0_7 l0_8 l0_9) else (if a0_1 > 1000000 then (impl_isNode.j0 k a1 true a0_0 a0_1 a0_2 a0_3 a0_4 a0_5 a0_6 l0_7 l0_8 l0_9) else (if a0_2 < (-1) then (impl_isNode.j0 k a1 true a0_0 a0_1 a0_2 a0_3 a0_4 a0_5 a0_6 l0_7 l0_8 l0_9) else (if a0_2 ≥ a1 then (impl_isNode.j0 k a1 true a0_0 a0_1 a0_2 a0_3 a0_4 a0_5 a0_6 l0_7 l0_8 l0_9) else (if a0_3 < 0 then (impl_isNode.j0 k a1 true a0_0 a0_1 a0_2 a0_3 a0_4 a0_5 a0_6 l0_7 l0_8 l0_9) else (impl_isNode.j0 k a1 (decide (a0_3 > 2)) a0_0 a0_1 a0_2 a0_3 a0_4 a0_5 a0_6 l0_7 l0_8 l0_9)))))))))) = some r := h
 clear h
 have HC3 := am H
 clear H
 go_enter Try.func78, Try.ntmps78
 go_upto_region 1 with (first | ((with_reducible refine gate_dst (N := 2) rfl ?_); refine box_event ?hg (N := 2) ?hd (cs := #[.int .i64 a0_0, .int .i64 a0_1, .int .i64 a0_2, .int .i64 a0_3, .int .i64 a0_4, .int .i64 a0_5, .int .i64 a0_6, .slice A0_7 l0_7.length c0_7, .slice A0_8 l0_8.length c0_8, .slice A0_9 l0_9.length c0_9]) (t := 37) ?hr ?_; (case hd => rfl); (case hg => rfl); (case hr => first | (go_simp; done) | (go_simp; rfl)); intro gb302 hg w4 hbox hb; have n0_ := am (below_step u14_7 hb); have n1_ := am (hbox); have n2_ := am ((by rw [hg]; exact (below_size u14_7) : w.heap.size ≤ gb302)); have n3_ := am ((by rw [hg]; exact (below_size u14_7) : w.heap.size ≤ gb302)); clear HB; have HB := n0_; have BK302 := n1_; have GW302 := n2_; have GE302 := n3_; clear n0_ n1_ n2_ n3_; clear hb hbox hg))
 (try simp only [Act.put, la, lb, lc])
 go_cut [52] (fun v52 wc => ∃ (kq : Nat) (x52_2 : Bool), v52 = .bool x52_2 ∧ Aside0 (impl_isNode.j0 kq a1 x52_2 a0_0 a0_1 a0_2 a0_3 a0_4 a0_5 a0_6 l0_7 l0_8 l0_9 = some r) ∧ Aside0 (kq ≤ k) ∧ Aside0 (wc.heap[gb302]? = some (.cells #[.int .i64 a0_0, .int .i64 a0_1, .int .i64 a0_2, .int .i64 a0_3, .int .i64 a0_4, .int .i64 a0_5, .int .i64 a0_6, (.slice A0_7 l0_7.length c0_7), (.slice A0_8 l0_8.length c0_8), (.slice A0_9 l0_9.length c0_9)] 37 (0, 0))) ∧ Aside0 (Below w.heap.size w wc))
 case first =>
   have H := HC3.out
   clear HC3
   by_cases c5 : a1 < 1
   · rw [if_pos c5] at H
     have c5b0 : decide (a1 < 1) = true := decide_eq_true c5
     clear c5
     (first | rw [c5b0] | (simp only [i64_w, i32_w]; rw [c5b0]) | skip)
     have H' := am H
     clear H
     go_wp2
     go_meet
     case rel => exact ⟨_, (true), u14_4, H', ⟨by first | omega | exact Nat.le_refl _⟩, ⟨u14_1⟩, ⟨u14_0⟩⟩
   rw [if_neg c5] at H
   have c5b0 : decide (a1 < 1) = false := decide_eq_false c5
   clear c5
   (first | rw [c5b0] | (simp only [i64_w, i32_w]; rw [c5b0]) | skip)
   by_cases c6 : a1 > 5
   · rw [if_pos c6] at H
     have c6b0 : decide (5 < a1) = true := decide_eq_true c6
     clear c6
     have H' := am H
     clear H
     go_wp2
     go_meet
     case rel => exact ⟨_, (true), u14_4, H', ⟨by first | omega | exact Nat.le_refl _⟩, ⟨u14_1⟩, ⟨u14_0⟩⟩
   rw [if_neg c6] at H
   have c6b0 : decide (5 < a1) = false := decide_eq_false c6
   clear c6
   by_cases c7 : a0_0 < 0
   · rw [if_pos c7] at H
     have c7b0 : decide (a0_0 < 0) = true := decide_eq_true c7
     clear c7
     have H' := am H
     clear H
     have hcz8_0 : w4.cell? ⟨gb302, 0, none⟩ = some (.int .i64 a0_0) := (blk_cell BK302.out 0).trans rfl
     have hcz8_1 : w4.cell? ⟨gb302, 1, none⟩ = some (.int .i64 a0_1) := (blk_cell BK302.out 1).trans rfl
     have hcz8_2 : w4.cell? ⟨gb302, 2, none⟩ = some (.int .i64 a0_2) := (blk_cell BK302.out 2).trans rfl
     have hcz8_3 : w4.cell? ⟨gb302, 3, none⟩ = some (.int .i64 a0_3) := (blk_cell BK302.out 3).trans rfl
     have hcz8_4 : w4.cell? ⟨gb302, 4, none⟩ = some (.int .i64 a0_4) := (blk_cell BK302.out 4).trans rfl
     have hcz8_5 : w4.cell? ⟨gb302, 5, none⟩ = some (.int .i64 a0_5) := (blk_cell BK302.out 5).trans rfl
     have hcz8_6 : w4.cell? ⟨gb302, 6, none⟩ = some (.int .i64 a0_6) := (blk_cell BK302.out 6).trans rfl
     have hcz8_7 : w4.cell? ⟨gb302, 7, none⟩ = some (.slice A0_7 l0_7.length c0_7) := (blk_cell BK302.out 7).trans rfl
     have hcz8_8 : w4.cell? ⟨gb302, 8, none⟩ = some (.slice A0_8 l0_8.length c0_8) := (blk_cell BK302.out 8).trans rfl
     have hcz8_9 : w4.cell? ⟨gb302, 9, none⟩ = some (.slice A0_9 l0_9.length c0_9) := (blk_cell BK302.out 9).trans rfl
     go_wp2
     go_meet
     case rel => exact ⟨_, (true), u14_4, H', ⟨by first | omega | exact Nat.le_refl _⟩, ⟨u14_1⟩, ⟨u14_0⟩⟩
   rw [if_neg c7] at H
   have c7b0 : decide (a0_0 < 0) = false := decide_eq_false c7
   clear c7
   by_cases c9 : a0_0 ≥ a1
   · rw [if_pos c9] at H
     have c9b0 : decide (a1 ≤ a0_0) = true := decide_eq_true c9
     clear c9
     have H' := am H
     clear H
     have hcz10_0 : w4.cell? ⟨gb302, 0, none⟩ = some (.int .i64 a0_0) := (blk_cell BK302.out 0).trans rfl
     have hcz10_1 : w4.cell? ⟨gb302, 1, none⟩ = some (.int .i64 a0_1) := (blk_cell BK302.out 1).trans rfl
     have hcz10_2 : w4.cell? ⟨gb302, 2, none⟩ = some (.int .i64 a0_2) := (blk_cell BK302.out 2).trans rfl
     have hcz10_3 : w4.cell? ⟨gb302, 3, none⟩ = some (.int .i64 a0_3) := (blk_cell BK302.out 3).trans rfl
     have hcz10_4 : w4.cell? ⟨gb302, 4, none⟩ = some (.int .i64 a0_4) := (blk_cell BK302.out 4).trans rfl
     have hcz10_5 : w4.cell? ⟨gb302, 5, none⟩ = some (.int .i64 a0_5) := (blk_cell BK302.out 5).trans rfl
     have hcz10_6 : w4.cell? ⟨gb302, 6, none⟩ = some (.int .i64 a0_6) := (blk_cell BK302.out 6).trans rfl
     have hcz10_7 : w4.cell? ⟨gb302, 7, none⟩ = some (.slice A0_7 l0_7.length c0_7) := (blk_cell BK302.out 7).trans rfl
     have hcz10_8 : w4.cell? ⟨gb302, 8, none⟩ = some (.slice A0_8 l0_8.length c0_8) := (blk_cell BK302.out 8).trans rfl
     have hcz10_9 : w4.cell? ⟨gb302, 9, none⟩ = some (.slice A0_9 l0_9.length c0_9) := (blk_cell BK302.out 9).trans rfl
     go_wp2
     go_meet
     case rel => exact ⟨_, (true), u14_4, H', ⟨by first | omega | exact Nat.le_refl _⟩, ⟨u14_1⟩, ⟨u14_0⟩⟩
   rw [if_neg c9] at H
   have c9b0 : decide (a1 ≤ a0_0) = false := decide_eq_false c9
   clear c9
   by_cases c11 : a0_1 < 0
   · rw [if_pos c11] at H
     have c11b0 : decide (a0_1 < 0) = true := decide_eq_true c11
     clear c11
     have H' := am H
     clear H
     have hcz12_0 : w4.cell? ⟨gb302, 0, none⟩ = some (.int .i64 a0_0) := (blk_cell BK302.out 0).trans rfl
     have hcz12_1 : w4.cell? ⟨gb302, 1, none⟩ = some (.int .i64 a0_1) := (blk_cell BK302.out 1).trans rfl
     have hcz12_2 : w4.cell? ⟨gb302, 2, none⟩ = some (.int .i64 a0_2) := (blk_cell BK302.out 2).trans rfl
     have hcz12_3 : w4.cell? ⟨gb302, 3, none⟩ = some (.int .i64 a0_3) := (blk_cell BK302.out 3).trans rfl
     have hcz12_4 : w4.cell? ⟨gb302, 4, none⟩ = some (.int .i64 a0_4) := (blk_cell BK302.out 4).trans rfl
     have hcz12_5 : w4.cell? ⟨gb302, 5, none⟩ = some (.int .i64 a0_5) := (blk_cell BK302.out 5).trans rfl
     have hcz12_6 : w4.cell? ⟨gb302, 6, none⟩ = some (.int .i64 a0_6) := (blk_cell BK302.out 6).trans rfl
     have hcz12_7 : w4.cell? ⟨gb302, 7, none⟩ = some (.slice A0_7 l0_7.length c0_7) := (blk_cell BK302.out 7).trans rfl
     have hcz12_8 : w4.cell? ⟨gb302, 8, none⟩ = some (.slice A0_8 l0_8.length c0_8) := (blk_cell BK302.out 8).trans rfl
     have hcz12_9 : w4.cell? ⟨gb302, 9, none⟩ = some (.slice A0_9 l0_9.length c0_9) := (blk_cell BK302.out 9).trans rfl
     go_wp2
     go_meet
     case rel => exact ⟨_, (true), u14_4, H', ⟨by first | omega | exact Nat.le_refl _⟩, ⟨u14_1⟩, ⟨u14_0⟩⟩
   rw [if_neg c11] at H
   have c11b0 : decide (a0_1 < 0) = false := decide_eq_false c11
   clear c11
   by_cases c13 : a0_1 > 1000000
   · rw [if_pos c13] at H
     have c13b0 : decide (1000000 < a0_1) = true := decide_eq_true c13
     clear c13
     have H' := am H
     clear H
     have hcz14_0 : w4.cell? ⟨gb302, 0, none⟩ = some (.int .i64 a0_0) := (blk_cell BK302.out 0).trans rfl
     have hcz14_1 : w4.cell? ⟨gb302, 1, none⟩ = some (.int .i64 a0_1) := (blk_cell BK302.out 1).trans rfl
     have hcz14_2 : w4.cell? ⟨gb302, 2, none⟩ = some (.int .i64 a0_2) := (blk_cell BK302.out 2).trans rfl
     have hcz14_3 : w4.cell? ⟨gb302, 3, none⟩ = some (.int .i64 a0_3) := (blk_cell BK302.out 3).trans rfl
     have hcz14_4 : w4.cell? ⟨gb302, 4, none⟩ = some (.int .i64 a0_4) := (blk_cell BK302.out 4).trans rfl
     have hcz14_5 : w4.cell? ⟨gb302, 5, none⟩ = some (.int .i64 a0_5) := (blk_cell BK302.out 5).trans rfl
     have hcz14_6 : w4.cell? ⟨gb302, 6, none⟩ = some (.int .i64 a0_6) := (blk_cell BK302.out 6).trans rfl
     have hcz14_7 : w4.cell? ⟨gb302, 7, none⟩ = some (.slice A0_7 l0_7.length c0_7) := (blk_cell BK302.out 7).trans rfl
     have hcz14_8 : w4.cell? ⟨gb302, 8, none⟩ = some (.slice A0_8 l0_8.length c0_8) := (blk_cell BK302.out 8).trans rfl
     have hcz14_9 : w4.cell? ⟨gb302, 9, none⟩ = some (.slice A0_9 l0_9.length c0_9) := (blk_cell BK302.out 9).trans rfl
     go_wp2
     go_meet
     case rel => exact ⟨_, (true), u14_4, H', ⟨by first | omega | exact Nat.le_refl _⟩, ⟨u14_1⟩, ⟨u14_0⟩⟩
   rw [if_neg c13] at H
   have c13b0 : decide (1000000 < a0_1) = false := decide_eq_false c13
   clear c13
   by_cases c15 : a0_2 < (-1)
   · rw [if_pos c15] at H
     have c15b0 : decide (a0_2 < (-1)) = true := decide_eq_true c15
     clear c15
     have H' := am H
     clear H
     have hcz16_0 : w4.cell? ⟨gb302, 0, none⟩ = some (.int .i64 a0_0) := (blk_cell BK302.out 0).trans rfl
     have hcz16_1 : w4.cell? ⟨gb302, 1, none⟩ = some (.int .i64 a0_1) := (blk_cell BK302.out 1).trans rfl
     have hcz16_2 : w4.cell? ⟨gb302, 2, none⟩ = some (.int .i64 a0_2) := (blk_cell BK302.out 2).trans rfl
     have hcz16_3 : w4.cell? ⟨gb302, 3, none⟩ = some (.int .i64 a0_3) := (blk_cell BK302.out 3).trans rfl
     have hcz16_4 : w4.cell? ⟨gb302, 4, none⟩ = some (.int .i64 a0_4) := (blk_cell BK302.out 4).trans rfl
     have hcz16_5 : w4.cell? ⟨gb302, 5, none⟩ = some (.int .i64 a0_5) := (blk_cell BK302.out 5).trans rfl
     have hcz16_6 : w4.cell? ⟨gb302, 6, none⟩ = some (.int .i64 a0_6) := (blk_cell BK302.out 6).trans rfl
     have hcz16_7 : w4.cell? ⟨gb302, 7, none⟩ = some (.slice A0_7 l0_7.length c0_7) := (blk_cell BK302.out 7).trans rfl
     have hcz16_8 : w4.cell? ⟨gb302, 8, none⟩ = some (.slice A0_8 l0_8.length c0_8) := (blk_cell BK302.out 8).trans rfl
     have hcz16_9 : w4.cell? ⟨gb302, 9, none⟩ = some (.slice A0_9 l0_9.length c0_9) := (blk_cell BK302.out 9).trans rfl
     go_wp2
     go_meet
     case rel => exact ⟨_, (true), u14_4, H', ⟨by first | omega | exact Nat.le_refl _⟩, ⟨u14_1⟩, ⟨u14_0⟩⟩
   rw [if_neg c15] at H
   have c15b0 : decide (a0_2 < (-1)) = false := decide_eq_false c15
   clear c15
   by_cases c17 : a0_2 ≥ a1
   · rw [if_pos c17] at H
     have c17b0 : decide (a1 ≤ a0_2) = true := decide_eq_true c17
     clear c17
     have H' := am H
     clear H
     have hcz18_0 : w4.cell? ⟨gb302, 0, none⟩ = some (.int .i64 a0_0) := (blk_cell BK302.out 0).trans rfl
     have hcz18_1 : w4.cell? ⟨gb302, 1, none⟩ = some (.int .i64 a0_1) := (blk_cell BK302.out 1).trans rfl
     have hcz18_2 : w4.cell? ⟨gb302, 2, none⟩ = some (.int .i64 a0_2) := (blk_cell BK302.out 2).trans rfl
     have hcz18_3 : w4.cell? ⟨gb302, 3, none⟩ = some (.int .i64 a0_3) := (blk_cell BK302.out 3).trans rfl
     have hcz18_4 : w4.cell? ⟨gb302, 4, none⟩ = some (.int .i64 a0_4) := (blk_cell BK302.out 4).trans rfl
     have hcz18_5 : w4.cell? ⟨gb302, 5, none⟩ = some (.int .i64 a0_5) := (blk_cell BK302.out 5).trans rfl
     have hcz18_6 : w4.cell? ⟨gb302, 6, none⟩ = some (.int .i64 a0_6) := (blk_cell BK302.out 6).trans rfl
     have hcz18_7 : w4.cell? ⟨gb302, 7, none⟩ = some (.slice A0_7 l0_7.length c0_7) := (blk_cell BK302.out 7).trans rfl
     have hcz18_8 : w4.cell? ⟨gb302, 8, none⟩ = some (.slice A0_8 l0_8.length c0_8) := (blk_cell BK302.out 8).trans rfl
     have hcz18_9 : w4.cell? ⟨gb302, 9, none⟩ = some (.slice A0_9 l0_9.length c0_9) := (blk_cell BK302.out 9).trans rfl
     go_wp2
     go_meet
     case rel => exact ⟨_, (true), u14_4, H', ⟨by first | omega | exact Nat.le_refl _⟩, ⟨u14_1⟩, ⟨u14_0⟩⟩
   rw [if_neg c17] at H
   have c17b0 : decide (a1 ≤ a0_2) = false := decide_eq_false c17
   clear c17
   by_cases c19 : a0_3 < 0
   · rw [if_pos c19] at H
     have c19b0 : decide (a0_3 < 0) = true := decide_eq_true c19
     clear c19
     have H' := am H
     clear H
     have hcz20_0 : w4.cell? ⟨gb302, 0, none⟩ = some (.int .i64 a0_0) := (blk_cell BK302.out 0).trans rfl
     have hcz20_1 : w4.cell? ⟨gb302, 1, none⟩ = some (.int .i64 a0_1) := (blk_cell BK302.out 1).trans rfl
     have hcz20_2 : w4.cell? ⟨gb302, 2, none⟩ = some (.int .i64 a0_2) := (blk_cell BK302.out 2).trans rfl
     have hcz20_3 : w4.cell? ⟨gb302, 3, none⟩ = some (.int .i64 a0_3) := (blk_cell BK302.out 3).trans rfl
     have hcz20_4 : w4.cell? ⟨gb302, 4, none⟩ = some (.int .i64 a0_4) := (blk_cell BK302.out 4).trans rfl
     have hcz20_5 : w4.cell? ⟨gb302, 5, none⟩ = some (.int .i64 a0_5) := (blk_cell BK302.out 5).trans rfl
     have hcz20_6 : w4.cell? ⟨gb302, 6, none⟩ = some (.int .i64 a0_6) := (blk_cell BK302.out 6).trans rfl
     have hcz20_7 : w4.cell? ⟨gb302, 7, none⟩ = some (.slice A0_7 l0_7.length c0_7) := (blk_cell BK302.out 7).trans rfl
     have hcz20_8 : w4.cell? ⟨gb302, 8, none⟩ = some (.slice A0_8 l0_8.length c0_8) := (blk_cell BK302.out 8).trans rfl
     have hcz20_9 : w4.cell? ⟨gb302, 9, none⟩ = some (.slice A0_9 l0_9.length c0_9) := (blk_cell BK302.out 9).trans rfl
     go_wp2
     go_meet
     case rel => exact ⟨_, (true), u14_4, H', ⟨by first | omega | exact Nat.le_refl _⟩, ⟨u14_1⟩, ⟨u14_0⟩⟩
   rw [if_neg c19] at H
   have c19b0 : decide (a0_3 < 0) = false := decide_eq_false c19
   clear c19
   have H' := am H
   clear H
   have hcz21_0 : w4.cell? ⟨gb302, 0, none⟩ = some (.int .i64 a0_0) := (blk_cell BK302.out 0).trans rfl
   have hcz21_1 : w4.cell? ⟨gb302, 1, none⟩ = some (.int .i64 a0_1) := (blk_cell BK302.out 1).trans rfl
   have hcz21_2 : w4.cell? ⟨gb302, 2, none⟩ = some (.int .i64 a0_2) := (blk_cell BK302.out 2).trans rfl
   have hcz21_3 : w4.cell? ⟨gb302, 3, none⟩ = some (.int .i64 a0_3) := (blk_cell BK302.out 3).trans rfl
   have hcz21_4 : w4.cell? ⟨gb302, 4, none⟩ = some (.int .i64 a0_4) := (blk_cell BK302.out 4).trans rfl
   have hcz21_5 : w4.cell? ⟨gb302, 5, none⟩ = some (.int .i64 a0_5) := (blk_cell BK302.out 5).trans rfl
   have hcz21_6 : w4.cell? ⟨gb302, 6, none⟩ = some (.int .i64 a0_6) := (blk_cell BK302.out 6).trans rfl
   have hcz21_7 : w4.cell? ⟨gb302, 7, none⟩ = some (.slice A0_7 l0_7.length c0_7) := (blk_cell BK302.out 7).trans rfl
   have hcz21_8 : w4.cell? ⟨gb302, 8, none⟩ = some (.slice A0_8 l0_8.length c0_8) := (blk_cell BK302.out 8).trans rfl
   have hcz21_9 : w4.cell? ⟨gb302, 9, none⟩ = some (.slice A0_9 l0_9.length c0_9) := (blk_cell BK302.out 9).trans rfl
   go_wp2
   go_meet
   case rel => exact ⟨_, (decide (a0_3 > 2)), u14_4, H', ⟨by first | omega | exact Nat.le_refl _⟩, ⟨u14_1⟩, ⟨u14_0⟩⟩
 clear HC3
 try clear c1
 try clear p2
 try clear c5
 try clear c5b0
 try clear c6
 try clear c6b0
 try clear c7
 try clear c7b0
 try clear c9
 try clear c9b0
 try clear c11
 try clear c11b0
 try clear c13
 try clear c13b0
 try clear c15
 try clear c15b0
 try clear c17
 try clear c17b0
 try clear c19
 try clear c19b0
 try clear hcz10_0
 try clear hcz10_1
 try clear hcz10_2
 try clear hcz10_3
 try clear hcz10_4
 try clear hcz10_5
 try clear hcz10_6
 try clear hcz10_7
 try clear hcz10_8
 try clear hcz10_9
 try clear hcz12_0
 try clear hcz12_1
 try clear hcz12_2
 try clear hcz12_3
 try clear hcz12_4
 try clear hcz12_5
 try clear hcz12_6
 try clear hcz12_7
 try clear hcz12_8
 try clear hcz12_9
 try clear hcz14_0
 try clear hcz14_1
 try clear hcz14_2
 try clear hcz14_3
 try clear hcz14_4
 try clear hcz14_5
 try clear hcz14_6
 try clear hcz14_7
 try clear hcz14_8
 try clear hcz14_9
 try clear hcz16_0
 try clear hcz16_1
 try clear hcz16_2
 try clear hcz16_3
 try clear hcz16_4
 try clear hcz16_5
 try clear hcz16_6
 try clear hcz16_7
 try clear hcz16_8
 try clear hcz16_9
 try clear hcz18_0
 try clear hcz18_1
 try clear hcz18_2
 try clear hcz18_3
 try clear hcz18_4
 try clear hcz18_5
 try clear hcz18_6
 try clear hcz18_7
 try clear hcz18_8
 try clear hcz18_9
 try clear hcz20_0
 try clear hcz20_1
 try clear hcz20_2
 try clear hcz20_3
 try clear hcz20_4
 try clear hcz20_5
 try clear hcz20_6
 try clear hcz20_7
 try clear hcz20_8
 try clear hcz20_9
 try clear hcz21_0
 try clear hcz21_1
 try clear hcz21_2
 try clear hcz21_3
 try clear hcz21_4
 try clear hcz21_5
 try clear hcz21_6
 try clear hcz21_7
 try clear hcz21_8
 try clear hcz21_9
 try clear hcz8_0
 try clear hcz8_1
 try clear hcz8_2
 try clear hcz8_3
 try clear hcz8_4
 try clear hcz8_5
 try clear hcz8_6
 try clear hcz8_7
 try clear hcz8_8
 try clear hcz8_9
 obtain ⟨kq, x52_2, rfl, HA, HJ2, BK302, HB⟩ := hcut
 cases kq with
 | zero => exact absurd HA.out (by simp [impl_isNode.j0])
 | succ kj2 =>
   have H := HA.out
   clear HA
   simp only [impl_isNode.j0] at H
   by_cases c22 : x52_2 = true
   · subst c22
     rw [if_pos rfl] at H
     obtain rfl := Option.some.inj H
     go_wp2
     go_ret
     exact ⟨by first | rfl | (simp [errW_none, errW_some] <;> rfl) | (simp [*, errW_none, errW_some] <;> rfl), u14_0⟩
   replace c22 := Bool.eq_false_iff.mpr c22
   subst c22
   rw [if_neg (show ¬ (false = true) by decide)] at H
   have HC23 := am H
   clear H
   go_upto_region 3 with (fail)
   go_cut [86] (fun v86 wc => ∃ (kq : Nat) (x86_22 : Bool), v86 = .bool x86_22 ∧ Aside0 (impl_isNode.j1 kq a1 x86_22 a0_0 a0_1 a0_2 a0_3 a0_4 a0_5 a0_6 l0_7 l0_8 l0_9 = some r) ∧ Aside0 (kq ≤ kj2) ∧ Aside0 (wc.heap[gb302]? = some (.cells #[.int .i64 a0_0, .int .i64 a0_1, .int .i64 a0_2, .int .i64 a0_3, .int .i64 a0_4, .int .i64 a0_5, .int .i64 a0_6, (.slice A0_7 l0_7.length c0_7), (.slice A0_8 l0_8.length c0_8), (.slice A0_9 l0_9.length c0_9)] 37 (0, 0))) ∧ Aside0 (Below w.heap.size w wc))
   case first =>
     have H := HC23.out
     clear HC23
     replace H := Option.bind_eq_some_iff.mp H
     obtain ⟨t303, A240, H⟩ := H
     have A24 := am A240
     clear A240
     by_cases c25 : t303 = true
     rotate_left
     · replace c25 := Bool.eq_false_iff.mpr c25
       subst c25
       rw [if_neg (show ¬ (false = true) by decide)] at H
       have H' := am H
       clear H
       try go_wp2
       have n0_ := am (blk_drew BK302.out)
       have n1_ := am (below_drew1 HB.out)
       clear BK302
       clear HB
       have BK302 := n0_
       have HB := n1_
       clear n0_ n1_
       refine start_ (n := 34) (S := fun w' => w'.cell? ⟨gb302, 0, none⟩ = some (.int .i64 a0_0) ∧ w'.cell? ⟨gb302, 1, none⟩ = some (.int .i64 a0_1) ∧ w'.cell? ⟨gb302, 2, none⟩ = some (.int .i64 a0_2) ∧ w'.cell? ⟨gb302, 3, none⟩ = some (.int .i64 a0_3) ∧ w'.cell? ⟨gb302, 4, none⟩ = some (.int .i64 a0_4) ∧ w'.cell? ⟨gb302, 5, none⟩ = some (.int .i64 a0_5) ∧ w'.cell? ⟨gb302, 6, none⟩ = some (.int .i64 a0_6) ∧ w'.cell? ⟨gb302, 7, none⟩ = some (.slice A0_7 l0_7.length c0_7) ∧ w'.cell? ⟨gb302, 8, none⟩ = some (.slice A0_8 l0_8.length c0_8) ∧ w'.cell? ⟨gb302, 9, none⟩ = some (.slice A0_9 l0_9.length c0_9)) (ds := []) b0_34 kr rfl rfl ⟨(blk_cell BK302.out 0).trans rfl, (blk_cell BK302.out 1).trans rfl, (blk_cell BK302.out 2).trans rfl, (blk_cell BK302.out 3).trans rfl, (blk_cell BK302.out 4).trans rfl, (blk_cell BK302.out 5).trans rfl, (blk_cell BK302.out 6).trans rfl, (blk_cell BK302.out 7).trans rfl, (blk_cell BK302.out 8).trans rfl, (blk_cell BK302.out 9).trans rfl⟩ (fun hHeld => ?_); refine with_tabW impl_isNode.tab3 impl_isNode.bits3 (fun HT_ HW_ => ?_)
       generalize wc.drew = w47 at BK302 HB hHeld ⊢
       refine pure_ (i := 0) (N := some 53) (v := ?_) (a' := ?_) b1_34 rfl rfl (any_of HT_.out kr) (fun _ _ _ h => h) (Or.inl ⟨by rfl, ?_⟩) ?_ ?_
       rotate_left; (intro w'; go_simp; with_reducible rfl); rotate_left; (simp only [Act.put, la, lb, lc, i64_w, i32_w]; rfl)
       refine take_ (i := 1) (N := some 54) (v := ?_) (a' := ?_) b2_34 rfl rfl (take_ofW HT_.out HW_.out kr) (fun _ _ _ h => h) (Or.inl ⟨by rfl, ?_⟩) hHeld ?_ ?_
       rotate_left
       · rintro w' ⟨s0, s1, s2, s3, s4, s5, s6, s7, s8, s9⟩
         go_simp
         with_reducible rfl
       rotate_left
       · simp only [Act.put, la, lb, lc, i64_w, i32_w]
         rfl
       refine one_ (i := 2) (N := some 55) b3_34 rfl rfl (one_of HT_.out kr) (by decide) (fun K hK => ?_)
       refine goes_ Try.func88 kr rfl #[.agg #[.int .i64 a0_5, .int .i64 a0_6, .slice A0_7 l0_7.length c0_7]] (by rfl) rfl rfl u14_2 ?_
       with_reducible refine (impl_isRLog.calls kj2 a0_5 a0_6 _ _ l0_7 false _ ?side1 ?side2 A24.out).mono ?_
       (case side1 => exact u14_3)
       (case side2 => exact HC0_7.out)
       rintro e w48 ⟨rfl, hb⟩
       refine ⟨_, rfl, ?_⟩
       have n0_ := am (blk_below (g := gb302) (o := .cells #[.int .i64 a0_0, .int .i64 a0_1, .int .i64 a0_2, .int .i64 a0_3, .int .i64 a0_4, .int .i64 a0_5, .int .i64 a0_6, .slice A0_7 l0_7.length c0_7, .slice A0_8 l0_8.length c0_8, .slice A0_9 l0_9.length c0_9] 37 (0, 0)) u14_1 hb)
       have n1_ := am (below_step u14_0 hb)
       clear BK302
       clear HB
       have BK302 := n0_
       have HB := n1_
       clear n0_ n1_
       (try clear hb)
       (try clear hb2)
       (try clear hk)
       (try clear hi)
       refine hK.out _ _ ⟨(blk_cell BK302.out 0).trans rfl, (blk_cell BK302.out 1).trans rfl, (blk_cell BK302.out 2).trans rfl, (blk_cell BK302.out 3).trans rfl, (blk_cell BK302.out 4).trans rfl, (blk_cell BK302.out 5).trans rfl, (blk_cell BK302.out 6).trans rfl, (blk_cell BK302.out 7).trans rfl, (blk_cell BK302.out 8).trans rfl, (blk_cell BK302.out 9).trans rfl⟩ (fun hHeld => ?_)
       clear hK K
       refine norm_ (a' := ?_) ?_ ?_
       rotate_left
       · show Act.put _ (some 55) _ = _
         simp only [Act.put, la, lb, lc, i64_w, i32_w]
         rfl
       refine pure_ (i := 3) (N := some 56) (v := ?_) (a' := ?_) b4_34 rfl rfl (any_of HT_.out kr) (fun _ _ _ h => h) (Or.inl ⟨by rfl, ?_⟩) ?_ ?_
       rotate_left; (intro w'; go_simp; with_reducible rfl); rotate_left; (simp only [Act.put, la, lb, lc, i64_w, i32_w]; rfl)
       refine pure_ (i := 4) (N := some 57) (v := ?_) (a' := ?_) b5_34 rfl rfl (any_of HT_.out kr) (fun _ _ _ h => h) (Or.inl ⟨by rfl, ?_⟩) ?_ ?_
       rotate_left; (intro w'; go_simp; with_reducible rfl); rotate_left; (simp only [Act.put, la, lb, lc, i64_w, i32_w]; rfl)
       refine pure_ (i := 5) (N := some 58) (v := undef) (a' := ?_) b6_34 rfl rfl (any_of HT_.out kr) (fun _ _ _ h => h) (Or.inr ⟨by rfl, rfl⟩) ?_ ?_
       rotate_left
       · simp only [Act.put, la, lb, lc, i64_w, i32_w]
         rfl
       refine pure_ (i := 6) (N := some 59) (v := undef) (a' := ?_) b7_34 rfl rfl (any_of HT_.out kr) (fun _ _ _ h => h) (Or.inr ⟨by rfl, rfl⟩) ?_ ?_
       rotate_left
       · simp only [Act.put, la, lb, lc, i64_w, i32_w]
         rfl
       refine pure_ (i := 7) (N := some 60) (v := undef) (a' := ?_) b8_34 rfl rfl (any_of HT_.out kr) (fun _ _ _ h => h) (Or.inr ⟨by rfl, rfl⟩) ?_ ?_
       rotate_left
       · simp only [Act.put, la, lb, lc, i64_w, i32_w]
         rfl
       refine pure_ (i := 8) (N := some 61) (v := undef) (a' := ?_) b9_34 rfl rfl (any_of HT_.out kr) (fun _ _ _ h => h) (Or.inr ⟨by rfl, rfl⟩) ?_ ?_
       rotate_left
       · simp only [Act.put, la, lb, lc, i64_w, i32_w]
         rfl
       refine pure_ (i := 9) (N := some 62) (v := ?_) (a' := ?_) b10_34 rfl rfl (any_of HT_.out kr) (fun _ _ _ h => h) (Or.inl ⟨by rfl, ?_⟩) ?_ ?_
       rotate_left; (intro w'; go_simp; with_reducible rfl); rotate_left; (simp only [Act.put, la, lb, lc, i64_w, i32_w]; rfl)
       refine pure_ (i := 10) (N := some 63) (v := ?_) (a' := ?_) b11_34 rfl rfl (any_of HT_.out kr) (fun _ _ _ h => h) (Or.inl ⟨by rfl, ?_⟩) ?_ ?_
       rotate_left; (intro w'; go_simp; with_reducible rfl); rotate_left; (simp only [Act.put, la, lb, lc, i64_w, i32_w]; rfl)
       refine pure_ (i := 11) (N := some 64) (v := undef) (a' := ?_) b12_34 rfl rfl (any_of HT_.out kr) (fun _ _ _ h => h) (Or.inr ⟨by rfl, rfl⟩) ?_ ?_
       rotate_left
       · simp only [Act.put, la, lb, lc, i64_w, i32_w]
         rfl
       refine pure_ (i := 12) (N := some 65) (v := undef) (a' := ?_) #[true, true, true, true, true, true, true, true, true, true, true, true, true, false, false, false, false, false, false, false, false, false, false, false, false, false, false, false, false, false, false, false, false, false] rfl rfl (any_of HT_.out kr) (fun _ _ _ h => h) (Or.inr ⟨by rfl, rfl⟩) ?_ ?_
       rotate_left
       · simp only [Act.put, la, lb, lc, i64_w, i32_w]
         rfl
       refine pure_ (i := 13) (N := some 66) (v := undef) (a' := ?_) #[true, true, true, true, true, true, true, true, true, true, true, true, true, true, false, false, false, false, false, false, false, false, false, false, false, false, false, false, false, false, false, false, false, false] rfl rfl (any_of HT_.out kr) (fun _ _ _ h => h) (Or.inr ⟨by rfl, rfl⟩) ?_ ?_
       rotate_left
       · simp only [Act.put, la, lb, lc, i64_w, i32_w]
         rfl
       refine pure_ (i := 14) (N := some 67) (v := undef) (a' := ?_) #[true, true, true, true, true, true, true, true, true, true, true, true, true, true, true, false, false, false, false, false, false, false, false, false, false, false, false, false, false, false, false, false, false, false] rfl rfl (any_of HT_.out kr) (fun _ _ _ h => h) (Or.inr ⟨by rfl, rfl⟩) ?_ ?_
       rotate_left
       · simp only [Act.put, la, lb, lc, i64_w, i32_w]
         rfl
       refine pure_ (i := 15) (N := some 68) (v := undef) (a' := ?_) #[true, true, true, true, true, true, true, true, true, true, true, true, true, true, true, true, false, false, false, false, false, false, false, false, false, false, false, false, false, false, false, false, false, false] rfl rfl (any_of HT_.out kr) (fun _ _ _ h => h) (Or.inr ⟨by rfl, rfl⟩) ?_ ?_
       rotate_left
       · simp only [Act.put, la, lb, lc, i64_w, i32_w]
         rfl
       refine pure_ (i := 16) (N := some 69) (v := undef) (a' := ?_) #[true, true, true, true, true, true, true, true, true, true, true, true, true, true, true, true, true, false, false, false, false, false, false, false, false, false, false, false, false, false, false, false, false, false] rfl rfl (any_of HT_.out kr) (fun _ _ _ h => h) (Or.inr ⟨by rfl, rfl⟩) ?_ ?_
       rotate_left
       · simp only [Act.put, la, lb, lc, i64_w, i32_w]
         rfl
       refine pure_ (i := 17) (N := some 70) (v := undef) (a' := ?_) #[true, true, true, true, true, true, true, true, true, true, true, true, true, true, true, true, true, true, false, false, false, false, false, false, false, false, false, false, false, false, false, false, false, false] rfl rfl (any_of HT_.out kr) (fun _ _ _ h => h) (Or.inr ⟨by rfl, rfl⟩) ?_ ?_
       rotate_left
       · simp only [Act.put, la, lb, lc, i64_w, i32_w]
         rfl
       refine pure_ (i := 18) (N := some 71) (v := undef) (a' := ?_) b19_34 rfl rfl (any_of HT_.out kr) (fun _ _ _ h => h) (Or.inr ⟨by rfl, rfl⟩) ?_ ?_
       rotate_left
       · simp only [Act.put, la, lb, lc, i64_w, i32_w]
         rfl
       refine pure_ (i := 19) (N := some 72) (v := undef) (a' := ?_) b20_34 rfl rfl (any_of HT_.out kr) (fun _ _ _ h => h) (Or.inr ⟨by rfl, rfl⟩) ?_ ?_
       rotate_left
       · simp only [Act.put, la, lb, lc, i64_w, i32_w]
         rfl
       refine pure_ (i := 20) (N := some 73) (v := ?_) (a' := ?_) b21_34 rfl rfl (any_of HT_.out kr) (fun _ _ _ h => h) (Or.inl ⟨by rfl, ?_⟩) ?_ ?_
       rotate_left; (intro w'; go_simp; with_reducible rfl); rotate_left; (simp only [Act.put, la, lb, lc, i64_w, i32_w]; rfl)
       refine pure_ (i := 21) (N := some 74) (v := ?_) (a' := ?_) b22_34 rfl rfl (any_of HT_.out kr) (fun _ _ _ h => h) (Or.inl ⟨by rfl, ?_⟩) ?_ ?_
       rotate_left; (intro w'; go_simp; with_reducible rfl); rotate_left; (simp only [Act.put, la, lb, lc, i64_w, i32_w]; rfl)
       refine pure_ (i := 22) (N := some 75) (v := undef) (a' := ?_) b23_34 rfl rfl (any_of HT_.out kr) (fun _ _ _ h => h) (Or.inr ⟨by rfl, rfl⟩) ?_ ?_
       rotate_left
       · simp only [Act.put, la, lb, lc, i64_w, i32_w]
         rfl
       refine pure_ (i := 23) (N := some 76) (v := undef) (a' := ?_) b24_34 rfl rfl (any_of HT_.out kr) (fun _ _ _ h => h) (Or.inr ⟨by rfl, rfl⟩) ?_ ?_
       rotate_left
       · simp only [Act.put, la, lb, lc, i64_w, i32_w]
         rfl
       refine pure_ (i := 24) (N := some 77) (v := undef) (a' := ?_) b25_34 rfl rfl (any_of HT_.out kr) (fun _ _ _ h => h) (Or.inr ⟨by rfl, rfl⟩) ?_ ?_
       rotate_left
       · simp only [Act.put, la, lb, lc, i64_w, i32_w]
         rfl
       refine pure_ (i := 25) (N := some 78) (v := ?_) (a' := ?_) b26_34 rfl rfl (any_of HT_.out kr) (fun _ _ _ h => h) (Or.inl ⟨by rfl, ?_⟩) ?_ ?_
       rotate_left; (intro w'; go_simp; with_reducible rfl); rotate_left; (simp only [Act.put, la, lb, lc, i64_w, i32_w]; rfl)
       refine pure_ (i := 26) (N := some 79) (v := ?_) (a' := ?_) b27_34 rfl rfl (any_of HT_.out kr) (fun _ _ _ h => h) (Or.inl ⟨by rfl, ?_⟩) ?_ ?_
       rotate_left; (intro w'; go_simp; with_reducible rfl); rotate_left; (simp only [Act.put, la, lb, lc, i64_w, i32_w]; rfl)
       refine pure_ (i := 27) (N := some 80) (v := undef) (a' := ?_) b28_34 rfl rfl (any_of HT_.out kr) (fun _ _ _ h => h) (Or.inr ⟨by rfl, rfl⟩) ?_ ?_
       rotate_left
       · simp only [Act.put, la, lb, lc, i64_w, i32_w]
         rfl
       refine pure_ (i := 28) (N := some 81) (v := undef) (a' := ?_) b29_34 rfl rfl (any_of HT_.out kr) (fun _ _ _ h => h) (Or.inr ⟨by rfl, rfl⟩) ?_ ?_
       rotate_left
       · simp only [Act.put, la, lb, lc, i64_w, i32_w]
         rfl
       refine pure_ (i := 29) (N := some 82) (v := undef) (a' := ?_) b30_34 rfl rfl (any_of HT_.out kr) (fun _ _ _ h => h) (Or.inr ⟨by rfl, rfl⟩) ?_ ?_
       rotate_left
       · simp only [Act.put, la, lb, lc, i64_w, i32_w]
         rfl
       refine pure_ (i := 30) (N := some 83) (v := undef) (a' := ?_) b31_34 rfl rfl (any_of HT_.out kr) (fun _ _ _ h => h) (Or.inr ⟨by rfl, rfl⟩) ?_ ?_
       rotate_left
       · simp only [Act.put, la, lb, lc, i64_w, i32_w]
         rfl
       refine pure_ (i := 31) (N := some 84) (v := undef) (a' := ?_) b32_34 rfl rfl (any_of HT_.out kr) (fun _ _ _ h => h) (Or.inr ⟨by rfl, rfl⟩) ?_ ?_
       rotate_left
       · simp only [Act.put, la, lb, lc, i64_w, i32_w]
         rfl
       refine pure_ (i := 32) (N := some 85) (v := undef) (a' := ?_) b33_34 rfl rfl (any_of HT_.out kr) (fun _ _ _ h => h) (Or.inr ⟨by rfl, rfl⟩) ?_ ?_
       rotate_left
       · simp only [Act.put, la, lb, lc, i64_w, i32_w]
         rfl
       refine pure_ (i := 33) (N := some 86) (v := ?_) (a' := ?_) b34_34 rfl rfl (any_of HT_.out kr) (fun _ _ _ h => h) (Or.inl ⟨by rfl, ?_⟩) ?_ ?_
       rotate_left; (intro w'; go_simp; with_reducible rfl); rotate_left; (simp only [Act.put, la, lb, lc, i64_w, i32_w]; rfl)
       refine done_ (done_of HT_.out kr) ?_
       try go_wp2
       go_meet
       case rel => exact ⟨_, (true), u14_4, H', ⟨u14_8⟩, ⟨u14_1⟩, ⟨u14_0⟩⟩
     subst c25
     rw [if_pos rfl] at H
     by_cases c26 : a0_5 = 0
     rotate_left
     · rw [if_neg c26] at H
       have c26b0 : (a0_5 == 0) = false := beq_eq_false_iff_ne.mpr c26
       have c26b1 : (a0_5 != 0) = true := bne_iff_ne.mpr c26
       (first | rw [c26b0] | (simp only [i64_w, i32_w]; rw [c26b0]) | skip)
       have H' := am H
       clear H
       try go_wp2
       have n0_ := am (blk_drew BK302.out)
       have n1_ := am (below_drew1 HB.out)
       clear BK302
       clear HB
       have BK302 := n0_
       have HB := n1_
       clear n0_ n1_
       refine start_ (n := 34) (S := fun w' => w'.cell? ⟨gb302, 0, none⟩ = some (.int .i64 a0_0) ∧ w'.cell? ⟨gb302, 1, none⟩ = some (.int .i64 a0_1) ∧ w'.cell? ⟨gb302, 2, none⟩ = some (.int .i64 a0_2) ∧ w'.cell? ⟨gb302, 3, none⟩ = some (.int .i64 a0_3) ∧ w'.cell? ⟨gb302, 4, none⟩ = some (.int .i64 a0_4) ∧ w'.cell? ⟨gb302, 5, none⟩ = some (.int .i64 a0_5) ∧ w'.cell? ⟨gb302, 6, none⟩ = some (.int .i64 a0_6) ∧ w'.cell? ⟨gb302, 7, none⟩ = some (.slice A0_7 l0_7.length c0_7) ∧ w'.cell? ⟨gb302, 8, none⟩ = some (.slice A0_8 l0_8.length c0_8) ∧ w'.cell? ⟨gb302, 9, none⟩ = some (.slice A0_9 l0_9.length c0_9)) (ds := []) b0_34 kr rfl rfl ⟨(blk_cell BK302.out 0).trans rfl, (blk_cell BK302.out 1).trans rfl, (blk_cell BK302.out 2).trans rfl, (blk_cell BK302.out 3).trans rfl, (blk_cell BK302.out 4).trans rfl, (blk_cell BK302.out 5).trans rfl, (blk_cell BK302.out 6).trans rfl, (blk_cell BK302.out 7).trans rfl, (blk_cell BK302.out 8).trans rfl, (blk_cell BK302.out 9).trans rfl⟩ (fun hHeld => ?_); refine with_tabW impl_isNode.tab3 impl_isNode.bits3 (fun HT_ HW_ => ?_)
       generalize wc.drew = w45 at BK302 HB hHeld ⊢
       refine pure_ (i := 0) (N := some 53) (v := ?_) (a' := ?_) b1_34 rfl rfl (any_of HT_.out kr) (fun _ _ _ h => h) (Or.inl ⟨by rfl, ?_⟩) ?_ ?_
       rotate_left; (intro w'; go_simp; with_reducible rfl); rotate_left; (simp only [Act.put, la, lb, lc, i64_w, i32_w]; rfl)
       refine take_ (i := 1) (N := some 54) (v := ?_) (a' := ?_) b2_34 rfl rfl (take_ofW HT_.out HW_.out kr) (fun _ _ _ h => h) (Or.inl ⟨by rfl, ?_⟩) hHeld ?_ ?_
       rotate_left
       · rintro w' ⟨s0, s1, s2, s3, s4, s5, s6, s7, s8, s9⟩
         go_simp
         with_reducible rfl
       rotate_left
       · simp only [Act.put, la, lb, lc, i64_w, i32_w]
         rfl
       refine one_ (i := 2) (N := some 55) b3_34 rfl rfl (one_of HT_.out kr) (by decide) (fun K hK => ?_)
       refine goes_ Try.func88 kr rfl #[.agg #[.int .i64 a0_5, .int .i64 a0_6, .slice A0_7 l0_7.length c0_7]] (by rfl) rfl rfl u14_2 ?_
       with_reducible refine (impl_isRLog.calls kj2 a0_5 a0_6 _ _ l0_7 true _ ?side1 ?side2 A24.out).mono ?_
       (case side1 => exact u14_3)
       (case side2 => exact HC0_7.out)
       rintro e w46 ⟨rfl, hb⟩
       refine ⟨_, rfl, ?_⟩
       have n0_ := am (blk_below (g := gb302) (o := .cells #[.int .i64 a0_0, .int .i64 a0_1, .int .i64 a0_2, .int .i64 a0_3, .int .i64 a0_4, .int .i64 a0_5, .int .i64 a0_6, .slice A0_7 l0_7.length c0_7, .slice A0_8 l0_8.length c0_8, .slice A0_9 l0_9.length c0_9] 37 (0, 0)) u14_1 hb)
       have n1_ := am (below_step u14_0 hb)
       clear BK302
       clear HB
       have BK302 := n0_
       have HB := n1_
       clear n0_ n1_
       (try clear hb)
       (try clear hb2)
       (try clear hk)
       (try clear hi)
       refine hK.out _ _ ⟨(blk_cell BK302.out 0).trans rfl, (blk_cell BK302.out 1).trans rfl, (blk_cell BK302.out 2).trans rfl, (blk_cell BK302.out 3).trans rfl, (blk_cell BK302.out 4).trans rfl, (blk_cell BK302.out 5).trans rfl, (blk_cell BK302.out 6).trans rfl, (blk_cell BK302.out 7).trans rfl, (blk_cell BK302.out 8).trans rfl, (blk_cell BK302.out 9).trans rfl⟩ (fun hHeld => ?_)
       clear hK K
       refine norm_ (a' := ?_) ?_ ?_
       rotate_left
       · show Act.put _ (some 55) _ = _
         simp only [Act.put, la, lb, lc, i64_w, i32_w]
         rfl
       refine pure_ (i := 3) (N := some 56) (v := ?_) (a' := ?_) b4_34 rfl rfl (any_of HT_.out kr) (fun _ _ _ h => h) (Or.inl ⟨by rfl, ?_⟩) ?_ ?_
       rotate_left; (intro w'; go_simp; with_reducible rfl); rotate_left; (simp only [Act.put, la, lb, lc, i64_w, i32_w]; rfl)
       refine pure_ (i := 4) (N := some 57) (v := ?_) (a' := ?_) b5_34 rfl rfl (any_of HT_.out kr) (fun _ _ _ h => h) (Or.inl ⟨by rfl, ?_⟩) ?_ ?_
       rotate_left; (intro w'; go_simp; with_reducible rfl); rotate_left; (simp only [Act.put, la, lb, lc, i64_w, i32_w]; rfl)
       refine pure_ (i := 5) (N := some 58) (v := ?_) (a' := ?_) b6_34 rfl rfl (any_of HT_.out kr) (fun _ _ _ h => h) (Or.inl ⟨by rfl, ?_⟩) ?_ ?_
       rotate_left; (intro w'; go_simp; with_reducible rfl); rotate_left; (simp only [Act.put, la, lb, lc, i64_w, i32_w]; rfl)
       refine pure_ (i := 6) (N := some 59) (v := ?_) (a' := ?_) b7_34 rfl rfl (any_of HT_.out kr) (fun _ _ _ h => h) (Or.inl ⟨by rfl, ?_⟩) ?_ ?_
       rotate_left; (intro w'; go_simp; with_reducible rfl); rotate_left; (simp only [Act.put, la, lb, lc, i64_w, i32_w]; rfl)
       refine take_ (i := 7) (N := some 60) (v := ?_) (a' := ?_) b8_34 rfl rfl (take_ofW HT_.out HW_.out kr) (fun _ _ _ h => h) (Or.inl ⟨by rfl, ?_⟩) hHeld ?_ ?_
       rotate_left
       · rintro w' ⟨s0, s1, s2, s3, s4, s5, s6, s7, s8, s9⟩
         go_simp
         with_reducible rfl
       rotate_left
       · simp only [Act.put, la, lb, lc, i64_w, i32_w]
         rfl
       refine pure_ (i := 8) (N := some 61) (v := ?_) (a' := ?_) b9_34 rfl rfl (any_of HT_.out kr) (fun _ _ _ h => h) (Or.inl ⟨by rfl, ?_⟩) ?_ ?_
       rotate_left; (intro w'; go_simp; with_reducible rfl); rotate_left; (simp only [Act.put, la, lb, lc, i64_w, i32_w]; rfl)
       refine pure_ (i := 9) (N := some 62) (v := ?_) (a' := ?_) b10_34 rfl rfl (any_of HT_.out kr) (fun _ _ _ h => h) (Or.inl ⟨by rfl, ?_⟩) ?_ ?_
       rotate_left; (intro w'; go_simp; with_reducible rfl); rotate_left; (simp only [Act.put, la, lb, lc, i64_w, i32_w]; rfl)
       refine pure_ (i := 10) (N := some 63) (v := ?_) (a' := ?_) b11_34 rfl rfl (any_of HT_.out kr) (fun _ _ _ h => h) (Or.inl ⟨by rfl, ?_⟩) ?_ ?_
       rotate_left; (intro w'; go_simp; with_reducible rfl); rotate_left; (simp only [Act.put, la, lb, lc, i64_w, i32_w]; rfl)
       refine pure_ (i := 11) (N := some 64) (v := undef) (a' := ?_) b12_34 rfl rfl (any_of HT_.out kr) (fun _ _ _ h => h) (Or.inr ⟨by rfl, rfl⟩) ?_ ?_
       rotate_left
       · simp only [Act.put, la, lb, lc, i64_w, i32_w]
         rfl
       refine pure_ (i := 12) (N := some 65) (v := undef) (a' := ?_) #[true, true, true, true, true, true, true, true, true, true, true, true, true, false, false, false, false, false, false, false, false, false, false, false, false, false, false, false, false, false, false, false, false, false] rfl rfl (any_of HT_.out kr) (fun _ _ _ h => h) (Or.inr ⟨by rfl, rfl⟩) ?_ ?_
       rotate_left
       · simp only [Act.put, la, lb, lc, i64_w, i32_w]
         rfl
       refine pure_ (i := 13) (N := some 66) (v := undef) (a' := ?_) #[true, true, true, true, true, true, true, true, true, true, true, true, true, true, false, false, false, false, false, false, false, false, false, false, false, false, false, false, false, false, false, false, false, false] rfl rfl (any_of HT_.out kr) (fun _ _ _ h => h) (Or.inr ⟨by rfl, rfl⟩) ?_ ?_
       rotate_left
       · simp only [Act.put, la, lb, lc, i64_w, i32_w]
         rfl
       refine pure_ (i := 14) (N := some 67) (v := undef) (a' := ?_) #[true, true, true, true, true, true, true, true, true, true, true, true, true, true, true, false, false, false, false, false, false, false, false, false, false, false, false, false, false, false, false, false, false, false] rfl rfl (any_of HT_.out kr) (fun _ _ _ h => h) (Or.inr ⟨by rfl, rfl⟩) ?_ ?_
       rotate_left
       · simp only [Act.put, la, lb, lc, i64_w, i32_w]
         rfl
       refine pure_ (i := 15) (N := some 68) (v := undef) (a' := ?_) #[true, true, true, true, true, true, true, true, true, true, true, true, true, true, true, true, false, false, false, false, false, false, false, false, false, false, false, false, false, false, false, false, false, false] rfl rfl (any_of HT_.out kr) (fun _ _ _ h => h) (Or.inr ⟨by rfl, rfl⟩) ?_ ?_
       rotate_left
       · simp only [Act.put, la, lb, lc, i64_w, i32_w]
         rfl
       refine pure_ (i := 16) (N := some 69) (v := undef) (a' := ?_) #[true, true, true, true, true, true, true, true, true, true, true, true, true, true, true, true, true, false, false, false, false, false, false, false, false, false, false, false, false, false, false, false, false, false] rfl rfl (any_of HT_.out kr) (fun _ _ _ h => h) (Or.inr ⟨by rfl, rfl⟩) ?_ ?_
       rotate_left
       · simp only [Act.put, la, lb, lc, i64_w, i32_w]
         rfl
       refine pure_ (i := 17) (N := some 70) (v := undef) (a' := ?_) #[true, true, true, true, true, true, true, true, true, true, true, true, true, true, true, true, true, true, false, false, false, false, false, false, false, false, false, false, false, false, false, false, false, false] rfl rfl (any_of HT_.out kr) (fun _ _ _ h => h) (Or.inr ⟨by rfl, rfl⟩) ?_ ?_
       rotate_left
       · simp only [Act.put, la, lb, lc, i64_w, i32_w]
         rfl
       refine pure_ (i := 18) (N := some 71) (v := undef) (a' := ?_) b19_34 rfl rfl (any_of HT_.out kr) (fun _ _ _ h => h) (Or.inr ⟨by rfl, rfl⟩) ?_ ?_
       rotate_left
       · simp only [Act.put, la, lb, lc, i64_w, i32_w]
         rfl
       refine pure_ (i := 19) (N := some 72) (v := undef) (a' := ?_) b20_34 rfl rfl (any_of HT_.out kr) (fun _ _ _ h => h) (Or.inr ⟨by rfl, rfl⟩) ?_ ?_
       rotate_left
       · simp only [Act.put, la, lb, lc, i64_w, i32_w]
         rfl
       refine pure_ (i := 20) (N := some 73) (v := ?_) (a' := ?_) b21_34 rfl rfl (any_of HT_.out kr) (fun _ _ _ h => h) (Or.inl ⟨by rfl, ?_⟩) ?_ ?_
       rotate_left; (intro w'; go_simp; with_reducible rfl); rotate_left; (simp only [Act.put, la, lb, lc, i64_w, i32_w]; rfl)
       refine pure_ (i := 21) (N := some 74) (v := ?_) (a' := ?_) b22_34 rfl rfl (any_of HT_.out kr) (fun _ _ _ h => h) (Or.inl ⟨by rfl, ?_⟩) ?_ ?_
       rotate_left; (intro w'; go_simp; with_reducible rfl); rotate_left; (simp only [Act.put, la, lb, lc, i64_w, i32_w]; rfl)
       refine pure_ (i := 22) (N := some 75) (v := undef) (a' := ?_) b23_34 rfl rfl (any_of HT_.out kr) (fun _ _ _ h => h) (Or.inr ⟨by rfl, rfl⟩) ?_ ?_
       rotate_left
       · simp only [Act.put, la, lb, lc, i64_w, i32_w]
         rfl
       refine pure_ (i := 23) (N := some 76) (v := undef) (a' := ?_) b24_34 rfl rfl (any_of HT_.out kr) (fun _ _ _ h => h) (Or.inr ⟨by rfl, rfl⟩) ?_ ?_
       rotate_left
       · simp only [Act.put, la, lb, lc, i64_w, i32_w]
         rfl
       refine pure_ (i := 24) (N := some 77) (v := undef) (a' := ?_) b25_34 rfl rfl (any_of HT_.out kr) (fun _ _ _ h => h) (Or.inr ⟨by rfl, rfl⟩) ?_ ?_
       rotate_left
       · simp only [Act.put, la, lb, lc, i64_w, i32_w]
         rfl
       refine pure_ (i := 25) (N := some 78) (v := ?_) (a' := ?_) b26_34 rfl rfl (any_of HT_.out kr) (fun _ _ _ h => h) (Or.inl ⟨by rfl, ?_⟩) ?_ ?_
       rotate_left; (intro w'; go_simp; with_reducible rfl); rotate_left; (simp only [Act.put, la, lb, lc, i64_w, i32_w]; rfl)
       refine pure_ (i := 26) (N := some 79) (v := ?_) (a' := ?_) b27_34 rfl rfl (any_of HT_.out kr) (fun _ _ _ h => h) (Or.inl ⟨by rfl, ?_⟩) ?_ ?_
       rotate_left; (intro w'; go_simp; with_reducible rfl); rotate_left; (simp only [Act.put, la, lb, lc, i64_w, i32_w]; rfl)
       refine pure_ (i := 27) (N := some 80) (v := undef) (a' := ?_) b28_34 rfl rfl (any_of HT_.out kr) (fun _ _ _ h => h) (Or.inr ⟨by rfl, rfl⟩) ?_ ?_
       rotate_left
       · simp only [Act.put, la, lb, lc, i64_w, i32_w]
         rfl
       refine pure_ (i := 28) (N := some 81) (v := undef) (a' := ?_) b29_34 rfl rfl (any_of HT_.out kr) (fun _ _ _ h => h) (Or.inr ⟨by rfl, rfl⟩) ?_ ?_
       rotate_left
       · simp only [Act.put, la, lb, lc, i64_w, i32_w]
         rfl
       refine pure_ (i := 29) (N := some 82) (v := undef) (a' := ?_) b30_34 rfl rfl (any_of HT_.out kr) (fun _ _ _ h => h) (Or.inr ⟨by rfl, rfl⟩) ?_ ?_
       rotate_left
       · simp only [Act.put, la, lb, lc, i64_w, i32_w]
         rfl
       refine pure_ (i := 30) (N := some 83) (v := undef) (a' := ?_) b31_34 rfl rfl (any_of HT_.out kr) (fun _ _ _ h => h) (Or.inr ⟨by rfl, rfl⟩) ?_ ?_
       rotate_left
       · simp only [Act.put, la, lb, lc, i64_w, i32_w]
         rfl
       refine pure_ (i := 31) (N := some 84) (v := undef) (a' := ?_) b32_34 rfl rfl (any_of HT_.out kr) (fun _ _ _ h => h) (Or.inr ⟨by rfl, rfl⟩) ?_ ?_
       rotate_left
       · simp only [Act.put, la, lb, lc, i64_w, i32_w]
         rfl
       refine pure_ (i := 32) (N := some 85) (v := undef) (a' := ?_) b33_34 rfl rfl (any_of HT_.out kr) (fun _ _ _ h => h) (Or.inr ⟨by rfl, rfl⟩) ?_ ?_
       rotate_left
       · simp only [Act.put, la, lb, lc, i64_w, i32_w]
         rfl
       refine pure_ (i := 33) (N := some 86) (v := ?_) (a' := ?_) b34_34 rfl rfl (any_of HT_.out kr) (fun _ _ _ h => h) (Or.inl ⟨by rfl, ?_⟩) ?_ ?_
       rotate_left; (intro w'; go_simp; with_reducible rfl); rotate_left; (simp only [Act.put, la, lb, lc, i64_w, i32_w]; rfl)
       refine done_ (done_of HT_.out kr) ?_
       try go_wp2
       go_meet
       case rel => exact ⟨_, (true), u14_4, H', ⟨u14_8⟩, ⟨u14_1⟩, ⟨u14_0⟩⟩
     rw [if_pos c26] at H
     have c26b0 : (a0_5 == 0) = true := beq_iff_eq.mpr c26
     have c26b1 : (a0_5 != 0) = false := bne_eq_false_iff_eq.mpr c26
     clear c26
     (first | rw [c26b0] | (simp only [i64_w, i32_w]; rw [c26b0]) | skip)
     replace H := Option.bind_eq_some_iff.mp H
     obtain ⟨t304, A270, H⟩ := H
     have A27 := am A270
     clear A270
     replace H := Option.bind_eq_some_iff.mp H
     obtain ⟨t305, A280, H⟩ := H
     have A28 := am A280
     clear A280
     as_aux_lemma =>
      by_cases c29 : t305 > a0_1
      · rw [if_pos c29] at H
        have c29b0 : decide (a0_1 < t305) = true := decide_eq_true c29
        clear c29
        have H' := am H
        clear H
        try go_wp2
        have n0_ := am (blk_drew BK302.out)
        have n1_ := am (below_drew1 HB.out)
        clear BK302
        clear HB
        have BK302 := n0_
        have HB := n1_
        clear n0_ n1_
        refine start_ (n := 34) (S := fun w' => w'.cell? ⟨gb302, 0, none⟩ = some (.int .i64 a0_0) ∧ w'.cell? ⟨gb302, 1, none⟩ = some (.int .i64 a0_1) ∧ w'.cell? ⟨gb302, 2, none⟩ = some (.int .i64 a0_2) ∧ w'.cell? ⟨gb302, 3, none⟩ = some (.int .i64 a0_3) ∧ w'.cell? ⟨gb302, 4, none⟩ = some (.int .i64 a0_4) ∧ w'.cell? ⟨gb302, 5, none⟩ = some (.int .i64 a0_5) ∧ w'.cell? ⟨gb302, 6, none⟩ = some (.int .i64 a0_6) ∧ w'.cell? ⟨gb302, 7, none⟩ = some (.slice A0_7 l0_7.length c0_7) ∧ w'.cell? ⟨gb302, 8, none⟩ = some (.slice A0_8 l0_8.length c0_8) ∧ w'.cell? ⟨gb302, 9, none⟩ = some (.slice A0_9 l0_9.length c0_9)) (ds := []) b0_34 kr rfl rfl ⟨(blk_cell BK302.out 0).trans rfl, (blk_cell BK302.out 1).trans rfl, (blk_cell BK302.out 2).trans rfl, (blk_cell BK302.out 3).trans rfl, (blk_cell BK302.out 4).trans rfl, (blk_cell BK302.out 5).trans rfl, (blk_cell BK302.out 6).trans rfl, (blk_cell BK302.out 7).trans rfl, (blk_cell BK302.out 8).trans rfl, (blk_cell BK302.out 9).trans rfl⟩ (fun hHeld => ?_); refine with_tabW impl_isNode.tab3 impl_isNode.bits3 (fun HT_ HW_ => ?_)
        generalize wc.drew = w30 at BK302 HB hHeld ⊢
        refine pure_ (i := 0) (N := some 53) (v := ?_) (a' := ?_) b1_34 rfl rfl (any_of HT_.out kr) (fun _ _ _ h => h) (Or.inl ⟨by rfl, ?_⟩) ?_ ?_
        rotate_left; (intro w'; go_simp; with_reducible rfl); rotate_left; (simp only [Act.put, la, lb, lc, i64_w, i32_w]; rfl)
        refine take_ (i := 1) (N := some 54) (v := ?_) (a' := ?_) b2_34 rfl rfl (take_ofW HT_.out HW_.out kr) (fun _ _ _ h => h) (Or.inl ⟨by rfl, ?_⟩) hHeld ?_ ?_
        rotate_left
        · rintro w' ⟨s0, s1, s2, s3, s4, s5, s6, s7, s8, s9⟩
          go_simp
          with_reducible rfl
        rotate_left
        · simp only [Act.put, la, lb, lc, i64_w, i32_w]
          rfl
        refine one_ (i := 2) (N := some 55) b3_34 rfl rfl (one_of HT_.out kr) (by decide) (fun K hK => ?_)
        refine goes_ Try.func88 kr rfl #[.agg #[.int .i64 a0_5, .int .i64 a0_6, .slice A0_7 l0_7.length c0_7]] (by rfl) rfl rfl u14_2 ?_
        with_reducible refine (impl_isRLog.calls kj2 a0_5 a0_6 _ _ l0_7 true _ ?side1 ?side2 A24.out).mono ?_
        (case side1 => exact u14_3)
        (case side2 => exact HC0_7.out)
        rintro e w31 ⟨rfl, hb⟩
        refine ⟨_, rfl, ?_⟩
        have n0_ := am (blk_below (g := gb302) (o := .cells #[.int .i64 a0_0, .int .i64 a0_1, .int .i64 a0_2, .int .i64 a0_3, .int .i64 a0_4, .int .i64 a0_5, .int .i64 a0_6, .slice A0_7 l0_7.length c0_7, .slice A0_8 l0_8.length c0_8, .slice A0_9 l0_9.length c0_9] 37 (0, 0)) u14_1 hb)
        have n1_ := am (below_step u14_0 hb)
        clear BK302
        clear HB
        have BK302 := n0_
        have HB := n1_
        clear n0_ n1_
        (try clear hb)
        (try clear hb2)
        (try clear hk)
        (try clear hi)
        refine hK.out _ _ ⟨(blk_cell BK302.out 0).trans rfl, (blk_cell BK302.out 1).trans rfl, (blk_cell BK302.out 2).trans rfl, (blk_cell BK302.out 3).trans rfl, (blk_cell BK302.out 4).trans rfl, (blk_cell BK302.out 5).trans rfl, (blk_cell BK302.out 6).trans rfl, (blk_cell BK302.out 7).trans rfl, (blk_cell BK302.out 8).trans rfl, (blk_cell BK302.out 9).trans rfl⟩ (fun hHeld => ?_)
        clear hK K
        refine norm_ (a' := ?_) ?_ ?_
        rotate_left
        · show Act.put _ (some 55) _ = _
          simp only [Act.put, la, lb, lc, i64_w, i32_w]
          rfl
        refine pure_ (i := 3) (N := some 56) (v := ?_) (a' := ?_) b4_34 rfl rfl (any_of HT_.out kr) (fun _ _ _ h => h) (Or.inl ⟨by rfl, ?_⟩) ?_ ?_
        rotate_left; (intro w'; go_simp; with_reducible rfl); rotate_left; (simp only [Act.put, la, lb, lc, i64_w, i32_w]; rfl)
        refine pure_ (i := 4) (N := some 57) (v := ?_) (a' := ?_) b5_34 rfl rfl (any_of HT_.out kr) (fun _ _ _ h => h) (Or.inl ⟨by rfl, ?_⟩) ?_ ?_
        rotate_left; (intro w'; go_simp; with_reducible rfl); rotate_left; (simp only [Act.put, la, lb, lc, i64_w, i32_w]; rfl)
        refine pure_ (i := 5) (N := some 58) (v := ?_) (a' := ?_) b6_34 rfl rfl (any_of HT_.out kr) (fun _ _ _ h => h) (Or.inl ⟨by rfl, ?_⟩) ?_ ?_
        rotate_left; (intro w'; go_simp; with_reducible rfl); rotate_left; (simp only [Act.put, la, lb, lc, i64_w, i32_w]; rfl)
        refine pure_ (i := 6) (N := some 59) (v := ?_) (a' := ?_) b7_34 rfl rfl (any_of HT_.out kr) (fun _ _ _ h => h) (Or.inl ⟨by rfl, ?_⟩) ?_ ?_
        rotate_left; (intro w'; go_simp; with_reducible rfl); rotate_left; (simp only [Act.put, la, lb, lc, i64_w, i32_w]; rfl)
        refine take_ (i := 7) (N := some 60) (v := ?_) (a' := ?_) b8_34 rfl rfl (take_ofW HT_.out HW_.out kr) (fun _ _ _ h => h) (Or.inl ⟨by rfl, ?_⟩) hHeld ?_ ?_
        rotate_left
        · rintro w' ⟨s0, s1, s2, s3, s4, s5, s6, s7, s8, s9⟩
          go_simp
          with_reducible rfl
        rotate_left
        · simp only [Act.put, la, lb, lc, i64_w, i32_w]
          rfl
        refine pure_ (i := 8) (N := some 61) (v := ?_) (a' := ?_) b9_34 rfl rfl (any_of HT_.out kr) (fun _ _ _ h => h) (Or.inl ⟨by rfl, ?_⟩) ?_ ?_
        rotate_left; (intro w'; go_simp; with_reducible rfl); rotate_left; (simp only [Act.put, la, lb, lc, i64_w, i32_w]; rfl)
        refine pure_ (i := 9) (N := some 62) (v := ?_) (a' := ?_) b10_34 rfl rfl (any_of HT_.out kr) (fun _ _ _ h => h) (Or.inl ⟨by rfl, ?_⟩) ?_ ?_
        rotate_left; (intro w'; go_simp; with_reducible rfl); rotate_left; (simp only [Act.put, la, lb, lc, i64_w, i32_w]; rfl)
        refine pure_ (i := 10) (N := some 63) (v := ?_) (a' := ?_) b11_34 rfl rfl (any_of HT_.out kr) (fun _ _ _ h => h) (Or.inl ⟨by rfl, ?_⟩) ?_ ?_
        rotate_left; (intro w'; go_simp; with_reducible rfl); rotate_left; (simp only [Act.put, la, lb, lc, i64_w, i32_w]; rfl)
        refine pure_ (i := 11) (N := some 64) (v := ?_) (a' := ?_) b12_34 rfl rfl (any_of HT_.out kr) (fun _ _ _ h => h) (Or.inl ⟨by rfl, ?_⟩) ?_ ?_
        rotate_left; (intro w'; go_simp; with_reducible rfl); rotate_left; (simp only [Act.put, la, lb, lc, i64_w, i32_w]; rfl)
        refine pure_ (i := 13) (N := some 66) (v := ?_) (a' := ?_) bx40 rfl rfl (any_of HT_.out kr) (fun _ _ _ h => h) (Or.inl ⟨by rfl, ?_⟩) ?_ ?_
        rotate_left; (intro w'; go_simp; with_reducible rfl); rotate_left; (simp only [Act.put, la, lb, lc, i64_w, i32_w]; rfl)
        refine pure_ (i := 17) (N := some 70) (v := ?_) (a' := ?_) bx41 rfl rfl (any_of HT_.out kr) (fun _ _ _ h => h) (Or.inl ⟨by rfl, ?_⟩) ?_ ?_
        rotate_left; (intro w'; go_simp; with_reducible rfl); rotate_left; (simp only [Act.put, la, lb, lc, i64_w, i32_w]; rfl)
        refine take_ (i := 12) (N := some 65) (v := ?_) (a' := ?_) bx42 rfl rfl (take_ofW HT_.out HW_.out kr) (fun _ _ _ h => h) (Or.inl ⟨by rfl, ?_⟩) hHeld ?_ ?_
        rotate_left
        · rintro w' ⟨s0, s1, s2, s3, s4, s5, s6, s7, s8, s9⟩
          go_simp
          with_reducible rfl
        rotate_left
        · simp only [Act.put, la, lb, lc, i64_w, i32_w]
          rfl
        refine take_ (i := 14) (N := some 67) (v := ?_) (a' := ?_) bx43 rfl rfl (take_ofW HT_.out HW_.out kr) (fun _ _ _ h => h) (Or.inl ⟨by rfl, ?_⟩) hHeld ?_ ?_
        rotate_left
        · rintro w' ⟨s0, s1, s2, s3, s4, s5, s6, s7, s8, s9⟩
          go_simp
          with_reducible rfl
        rotate_left
        · simp only [Act.put, la, lb, lc, i64_w, i32_w]
          rfl
        refine take_ (i := 18) (N := some 71) (v := ?_) (a' := ?_) bx44 rfl rfl (take_ofW HT_.out HW_.out kr) (fun _ _ _ h => h) (Or.inl ⟨by rfl, ?_⟩) hHeld ?_ ?_
        rotate_left
        · rintro w' ⟨s0, s1, s2, s3, s4, s5, s6, s7, s8, s9⟩
          go_simp
          with_reducible rfl
        rotate_left
        · simp only [Act.put, la, lb, lc, i64_w, i32_w]
          rfl
        refine one_ (i := 15) (N := some 68) bx45 rfl rfl (one_of HT_.out kr) (by decide) (fun K hK => ?_)
        refine goes_ Try.func89 kr rfl #[.agg #[.int .i64 a0_5, .int .i64 a0_6, .slice A0_7 l0_7.length c0_7]] (by rfl) rfl rfl u14_2 ?_
        with_reducible refine (impl_RLog_last.calls a0_5 a0_6 _ _ l0_7 t304 _ ?side1 ?side2 A27.out).mono ?_
        (case side1 => exact u14_3)
        (case side2 => exact HC0_7.out)
        rintro e w32 ⟨rfl, hb⟩
        refine ⟨_, rfl, ?_⟩
        have n0_ := am (blk_below (g := gb302) (o := .cells #[.int .i64 a0_0, .int .i64 a0_1, .int .i64 a0_2, .int .i64 a0_3, .int .i64 a0_4, .int .i64 a0_5, .int .i64 a0_6, .slice A0_7 l0_7.length c0_7, .slice A0_8 l0_8.length c0_8, .slice A0_9 l0_9.length c0_9] 37 (0, 0)) u14_1 hb)
        have n1_ := am (below_step u14_0 hb)
        clear BK302
        clear HB
        have BK302 := n0_
        have HB := n1_
        clear n0_ n1_
        (try clear hb)
        (try clear hb2)
        (try clear hk)
        (try clear hi)
        refine hK.out _ _ ⟨(blk_cell BK302.out 0).trans rfl, (blk_cell BK302.out 1).trans rfl, (blk_cell BK302.out 2).trans rfl, (blk_cell BK302.out 3).trans rfl, (blk_cell BK302.out 4).trans rfl, (blk_cell BK302.out 5).trans rfl, (blk_cell BK302.out 6).trans rfl, (blk_cell BK302.out 7).trans rfl, (blk_cell BK302.out 8).trans rfl, (blk_cell BK302.out 9).trans rfl⟩ (fun hHeld => ?_)
        clear hK K
        refine norm_ (a' := ?_) ?_ ?_
        rotate_left
        · show Act.put _ (some 68) _ = _
          simp only [Act.put, la, lb, lc, i64_w, i32_w]
          rfl
        refine one_ (i := 16) (N := some 69) b19_34 rfl rfl (one_of HT_.out kr) (by decide) (fun K hK => ?_)
        refine goes_ Try.func92 kr rfl #[.agg #[.int .i64 a0_5, .int .i64 a0_6, .slice A0_7 l0_7.length c0_7], .int .i64 t304] (by rfl) rfl rfl u14_2 ?_
        with_reducible refine (impl_RLog_term.calls a0_5 a0_6 _ _ l0_7 t304 t305 _ ?side1 ?side2 A28.out).mono ?_
        (case side1 => exact u14_3)
        (case side2 => exact HC0_7.out)
        rintro e w33 ⟨rfl, hb⟩
        refine ⟨_, rfl, ?_⟩
        have n0_ := am (blk_below (g := gb302) (o := .cells #[.int .i64 a0_0, .int .i64 a0_1, .int .i64 a0_2, .int .i64 a0_3, .int .i64 a0_4, .int .i64 a0_5, .int .i64 a0_6, .slice A0_7 l0_7.length c0_7, .slice A0_8 l0_8.length c0_8, .slice A0_9 l0_9.length c0_9] 37 (0, 0)) u14_1 hb)
        have n1_ := am (below_step u14_0 hb)
        clear BK302
        clear HB
        have BK302 := n0_
        have HB := n1_
        clear n0_ n1_
        (try clear hb)
        (try clear hb2)
        (try clear hk)
        (try clear hi)
        refine hK.out _ _ ⟨(blk_cell BK302.out 0).trans rfl, (blk_cell BK302.out 1).trans rfl, (blk_cell BK302.out 2).trans rfl, (blk_cell BK302.out 3).trans rfl, (blk_cell BK302.out 4).trans rfl, (blk_cell BK302.out 5).trans rfl, (blk_cell BK302.out 6).trans rfl, (blk_cell BK302.out 7).trans rfl, (blk_cell BK302.out 8).trans rfl, (blk_cell BK302.out 9).trans rfl⟩ (fun hHeld => ?_)
        clear hK K
        refine norm_ (a' := ?_) ?_ ?_
        rotate_left
        · show Act.put _ (some 69) _ = _
          simp only [Act.put, la, lb, lc, i64_w, i32_w]
          rfl
        refine pure_ (i := 19) (N := some 72) (v := ?_) (a' := ?_) b20_34 rfl rfl (any_of HT_.out kr) (fun _ _ _ h => h) (Or.inl ⟨by rfl, ?_⟩) ?_ ?_
        rotate_left; (intro w'; go_simp; with_reducible rfl); rotate_left; (simp only [Act.put, la, lb, lc, i64_w, i32_w]; rfl)
        refine pure_ (i := 20) (N := some 73) (v := ?_) (a' := ?_) b21_34 rfl rfl (any_of HT_.out kr) (fun _ _ _ h => h) (Or.inl ⟨by rfl, ?_⟩) ?_ ?_
        rotate_left; (intro w'; go_simp; with_reducible rfl); rotate_left; (simp only [Act.put, la, lb, lc, i64_w, i32_w]; rfl)
        refine pure_ (i := 21) (N := some 74) (v := ?_) (a' := ?_) b22_34 rfl rfl (any_of HT_.out kr) (fun _ _ _ h => h) (Or.inl ⟨by rfl, ?_⟩) ?_ ?_
        rotate_left; (intro w'; go_simp; with_reducible rfl); rotate_left; (simp only [Act.put, la, lb, lc, i64_w, i32_w]; rfl)
        refine pure_ (i := 22) (N := some 75) (v := undef) (a' := ?_) b23_34 rfl rfl (any_of HT_.out kr) (fun _ _ _ h => h) (Or.inr ⟨by rfl, rfl⟩) ?_ ?_
        rotate_left
        · simp only [Act.put, la, lb, lc, i64_w, i32_w]
          rfl
        refine pure_ (i := 23) (N := some 76) (v := undef) (a' := ?_) b24_34 rfl rfl (any_of HT_.out kr) (fun _ _ _ h => h) (Or.inr ⟨by rfl, rfl⟩) ?_ ?_
        rotate_left
        · simp only [Act.put, la, lb, lc, i64_w, i32_w]
          rfl
        refine pure_ (i := 24) (N := some 77) (v := undef) (a' := ?_) b25_34 rfl rfl (any_of HT_.out kr) (fun _ _ _ h => h) (Or.inr ⟨by rfl, rfl⟩) ?_ ?_
        rotate_left
        · simp only [Act.put, la, lb, lc, i64_w, i32_w]
          rfl
        refine pure_ (i := 25) (N := some 78) (v := ?_) (a' := ?_) b26_34 rfl rfl (any_of HT_.out kr) (fun _ _ _ h => h) (Or.inl ⟨by rfl, ?_⟩) ?_ ?_
        rotate_left; (intro w'; go_simp; with_reducible rfl); rotate_left; (simp only [Act.put, la, lb, lc, i64_w, i32_w]; rfl)
        refine pure_ (i := 26) (N := some 79) (v := ?_) (a' := ?_) b27_34 rfl rfl (any_of HT_.out kr) (fun _ _ _ h => h) (Or.inl ⟨by rfl, ?_⟩) ?_ ?_
        rotate_left; (intro w'; go_simp; with_reducible rfl); rotate_left; (simp only [Act.put, la, lb, lc, i64_w, i32_w]; rfl)
        refine pure_ (i := 27) (N := some 80) (v := undef) (a' := ?_) b28_34 rfl rfl (any_of HT_.out kr) (fun _ _ _ h => h) (Or.inr ⟨by rfl, rfl⟩) ?_ ?_
        rotate_left
        · simp only [Act.put, la, lb, lc, i64_w, i32_w]
          rfl
        refine pure_ (i := 28) (N := some 81) (v := undef) (a' := ?_) b29_34 rfl rfl (any_of HT_.out kr) (fun _ _ _ h => h) (Or.inr ⟨by rfl, rfl⟩) ?_ ?_
        rotate_left
        · simp only [Act.put, la, lb, lc, i64_w, i32_w]
          rfl
        refine pure_ (i := 29) (N := some 82) (v := undef) (a' := ?_) b30_34 rfl rfl (any_of HT_.out kr) (fun _ _ _ h => h) (Or.inr ⟨by rfl, rfl⟩) ?_ ?_
        rotate_left
        · simp only [Act.put, la, lb, lc, i64_w, i32_w]
          rfl
        refine pure_ (i := 30) (N := some 83) (v := undef) (a' := ?_) b31_34 rfl rfl (any_of HT_.out kr) (fun _ _ _ h => h) (Or.inr ⟨by rfl, rfl⟩) ?_ ?_
        rotate_left
        · simp only [Act.put, la, lb, lc, i64_w, i32_w]
          rfl
        refine pure_ (i := 31) (N := some 84) (v := undef) (a' := ?_) b32_34 rfl rfl (any_of HT_.out kr) (fun _ _ _ h => h) (Or.inr ⟨by rfl, rfl⟩) ?_ ?_
        rotate_left
        · simp only [Act.put, la, lb, lc, i64_w, i32_w]
          rfl
        refine pure_ (i := 32) (N := some 85) (v := undef) (a' := ?_) b33_34 rfl rfl (any_of HT_.out kr) (fun _ _ _ h => h) (Or.inr ⟨by rfl, rfl⟩) ?_ ?_
        rotate_left
        · simp only [Act.put, la, lb, lc, i64_w, i32_w]
          rfl
        refine pure_ (i := 33) (N := some 86) (v := ?_) (a' := ?_) b34_34 rfl rfl (any_of HT_.out kr) (fun _ _ _ h => h) (Or.inl ⟨by rfl, ?_⟩) ?_ ?_
        rotate_left; (intro w'; go_simp; with_reducible rfl); rotate_left; (simp only [Act.put, la, lb, lc, i64_w, i32_w]; rfl)
        refine done_ (done_of HT_.out kr) ?_
        try go_wp2
        go_meet
        case rel => exact ⟨_, (true), u14_4, H', ⟨u14_8⟩, ⟨u14_1⟩, ⟨u14_0⟩⟩
      rw [if_neg c29] at H
      have c29b0 : decide (a0_1 < t305) = false := decide_eq_false c29
      clear c29
      by_cases c34 : a0_4 < 0
      · rw [if_pos c34] at H
        have c34b0 : decide (a0_4 < 0) = true := decide_eq_true c34
        clear c34
        have H' := am H
        clear H
        try go_wp2
        have n0_ := am (blk_drew BK302.out)
        have n1_ := am (below_drew1 HB.out)
        clear BK302
        clear HB
        have BK302 := n0_
        have HB := n1_
        clear n0_ n1_
        refine start_ (n := 34) (S := fun w' => w'.cell? ⟨gb302, 0, none⟩ = some (.int .i64 a0_0) ∧ w'.cell? ⟨gb302, 1, none⟩ = some (.int .i64 a0_1) ∧ w'.cell? ⟨gb302, 2, none⟩ = some (.int .i64 a0_2) ∧ w'.cell? ⟨gb302, 3, none⟩ = some (.int .i64 a0_3) ∧ w'.cell? ⟨gb302, 4, none⟩ = some (.int .i64 a0_4) ∧ w'.cell? ⟨gb302, 5, none⟩ = some (.int .i64 a0_5) ∧ w'.cell? ⟨gb302, 6, none⟩ = some (.int .i64 a0_6) ∧ w'.cell? ⟨gb302, 7, none⟩ = some (.slice A0_7 l0_7.length c0_7) ∧ w'.cell? ⟨gb302, 8, none⟩ = some (.slice A0_8 l0_8.length c0_8) ∧ w'.cell? ⟨gb302, 9, none⟩ = some (.slice A0_9 l0_9.length c0_9)) (ds := []) b0_34 kr rfl rfl ⟨(blk_cell BK302.out 0).trans rfl, (blk_cell BK302.out 1).trans rfl, (blk_cell BK302.out 2).trans rfl, (blk_cell BK302.out 3).trans rfl, (blk_cell BK302.out 4).trans rfl, (blk_cell BK302.out 5).trans rfl, (blk_cell BK302.out 6).trans rfl, (blk_cell BK302.out 7).trans rfl, (blk_cell BK302.out 8).trans rfl, (blk_cell BK302.out 9).trans rfl⟩ (fun hHeld => ?_); refine with_tabW impl_isNode.tab3 impl_isNode.bits3 (fun HT_ HW_ => ?_)
        generalize wc.drew = w35 at BK302 HB hHeld ⊢
        refine pure_ (i := 0) (N := some 53) (v := ?_) (a' := ?_) b1_34 rfl rfl (any_of HT_.out kr) (fun _ _ _ h => h) (Or.inl ⟨by rfl, ?_⟩) ?_ ?_
        rotate_left; (intro w'; go_simp; with_reducible rfl); rotate_left; (simp only [Act.put, la, lb, lc, i64_w, i32_w]; rfl)
        refine take_ (i := 1) (N := some 54) (v := ?_) (a' := ?_) b2_34 rfl rfl (take_ofW HT_.out HW_.out kr) (fun _ _ _ h => h) (Or.inl ⟨by rfl, ?_⟩) hHeld ?_ ?_
        rotate_left
        · rintro w' ⟨s0, s1, s2, s3, s4, s5, s6, s7, s8, s9⟩
          go_simp
          with_reducible rfl
        rotate_left
        · simp only [Act.put, la, lb, lc, i64_w, i32_w]
          rfl
        refine one_ (i := 2) (N := some 55) b3_34 rfl rfl (one_of HT_.out kr) (by decide) (fun K hK => ?_)
        refine goes_ Try.func88 kr rfl #[.agg #[.int .i64 a0_5, .int .i64 a0_6, .slice A0_7 l0_7.length c0_7]] (by rfl) rfl rfl u14_2 ?_
        with_reducible refine (impl_isRLog.calls kj2 a0_5 a0_6 _ _ l0_7 true _ ?side1 ?side2 A24.out).mono ?_
        (case side1 => exact u14_3)
        (case side2 => exact HC0_7.out)
        rintro e w36 ⟨rfl, hb⟩
        refine ⟨_, rfl, ?_⟩
        have n0_ := am (blk_below (g := gb302) (o := .cells #[.int .i64 a0_0, .int .i64 a0_1, .int .i64 a0_2, .int .i64 a0_3, .int .i64 a0_4, .int .i64 a0_5, .int .i64 a0_6, .slice A0_7 l0_7.length c0_7, .slice A0_8 l0_8.length c0_8, .slice A0_9 l0_9.length c0_9] 37 (0, 0)) u14_1 hb)
        have n1_ := am (below_step u14_0 hb)
        clear BK302
        clear HB
        have BK302 := n0_
        have HB := n1_
        clear n0_ n1_
        (try clear hb)
        (try clear hb2)
        (try clear hk)
        (try clear hi)
        refine hK.out _ _ ⟨(blk_cell BK302.out 0).trans rfl, (blk_cell BK302.out 1).trans rfl, (blk_cell BK302.out 2).trans rfl, (blk_cell BK302.out 3).trans rfl, (blk_cell BK302.out 4).trans rfl, (blk_cell BK302.out 5).trans rfl, (blk_cell BK302.out 6).trans rfl, (blk_cell BK302.out 7).trans rfl, (blk_cell BK302.out 8).trans rfl, (blk_cell BK302.out 9).trans rfl⟩ (fun hHeld => ?_)
        clear hK K
        refine norm_ (a' := ?_) ?_ ?_
        rotate_left
        · show Act.put _ (some 55) _ = _
          simp only [Act.put, la, lb, lc, i64_w, i32_w]
          rfl
        refine pure_ (i := 3) (N := some 56) (v := ?_) (a' := ?_) b4_34 rfl rfl (any_of HT_.out kr) (fun _ _ _ h => h) (Or.inl ⟨by rfl, ?_⟩) ?_ ?_
        rotate_left; (intro w'; go_simp; with_reducible rfl); rotate_left; (simp only [Act.put, la, lb, lc, i64_w, i32_w]; rfl)
        refine pure_ (i := 4) (N := some 57) (v := ?_) (a' := ?_) b5_34 rfl rfl (any_of HT_.out kr) (fun _ _ _ h => h) (Or.inl ⟨by rfl, ?_⟩) ?_ ?_
        rotate_left; (intro w'; go_simp; with_reducible rfl); rotate_left; (simp only [Act.put, la, lb, lc, i64_w, i32_w]; rfl)
        refine pure_ (i := 5) (N := some 58) (v := ?_) (a' := ?_) b6_34 rfl rfl (any_of HT_.out kr) (fun _ _ _ h => h) (Or.inl ⟨by rfl, ?_⟩) ?_ ?_
        rotate_left; (intro w'; go_simp; with_reducible rfl); rotate_left; (simp only [Act.put, la, lb, lc, i64_w, i32_w]; rfl)
        refine pure_ (i := 6) (N := some 59) (v := ?_) (a' := ?_) b7_34 rfl rfl (any_of HT_.out kr) (fun _ _ _ h => h) (Or.inl ⟨by rfl, ?_⟩) ?_ ?_
        rotate_left; (intro w'; go_simp; with_reducible rfl); rotate_left; (simp only [Act.put, la, lb, lc, i64_w, i32_w]; rfl)
        refine take_ (i := 7) (N := some 60) (v := ?_) (a' := ?_) b8_34 rfl rfl (take_ofW HT_.out HW_.out kr) (fun _ _ _ h => h) (Or.inl ⟨by rfl, ?_⟩) hHeld ?_ ?_
        rotate_left
        · rintro w' ⟨s0, s1, s2, s3, s4, s5, s6, s7, s8, s9⟩
          go_simp
          with_reducible rfl
        rotate_left
        · simp only [Act.put, la, lb, lc, i64_w, i32_w]
          rfl
        refine pure_ (i := 8) (N := some 61) (v := ?_) (a' := ?_) b9_34 rfl rfl (any_of HT_.out kr) (fun _ _ _ h => h) (Or.inl ⟨by rfl, ?_⟩) ?_ ?_
        rotate_left; (intro w'; go_simp; with_reducible rfl); rotate_left; (simp only [Act.put, la, lb, lc, i64_w, i32_w]; rfl)
        refine pure_ (i := 9) (N := some 62) (v := ?_) (a' := ?_) b10_34 rfl rfl (any_of HT_.out kr) (fun _ _ _ h => h) (Or.inl ⟨by rfl, ?_⟩) ?_ ?_
        rotate_left; (intro w'; go_simp; with_reducible rfl); rotate_left; (simp only [Act.put, la, lb, lc, i64_w, i32_w]; rfl)
        refine pure_ (i := 10) (N := some 63) (v := ?_) (a' := ?_) b11_34 rfl rfl (any_of HT_.out kr) (fun _ _ _ h => h) (Or.inl ⟨by rfl, ?_⟩) ?_ ?_
        rotate_left; (intro w'; go_simp; with_reducible rfl); rotate_left; (simp only [Act.put, la, lb, lc, i64_w, i32_w]; rfl)
        refine pure_ (i := 11) (N := some 64) (v := ?_) (a' := ?_) b12_34 rfl rfl (any_of HT_.out kr) (fun _ _ _ h => h) (Or.inl ⟨by rfl, ?_⟩) ?_ ?_
        rotate_left; (intro w'; go_simp; with_reducible rfl); rotate_left; (simp only [Act.put, la, lb, lc, i64_w, i32_w]; rfl)
        refine pure_ (i := 13) (N := some 66) (v := ?_) (a' := ?_) bx40 rfl rfl (any_of HT_.out kr) (fun _ _ _ h => h) (Or.inl ⟨by rfl, ?_⟩) ?_ ?_
        rotate_left; (intro w'; go_simp; with_reducible rfl); rotate_left; (simp only [Act.put, la, lb, lc, i64_w, i32_w]; rfl)
        refine pure_ (i := 17) (N := some 70) (v := ?_) (a' := ?_) bx41 rfl rfl (any_of HT_.out kr) (fun _ _ _ h => h) (Or.inl ⟨by rfl, ?_⟩) ?_ ?_
        rotate_left; (intro w'; go_simp; with_reducible rfl); rotate_left; (simp only [Act.put, la, lb, lc, i64_w, i32_w]; rfl)
        refine take_ (i := 12) (N := some 65) (v := ?_) (a' := ?_) bx42 rfl rfl (take_ofW HT_.out HW_.out kr) (fun _ _ _ h => h) (Or.inl ⟨by rfl, ?_⟩) hHeld ?_ ?_
        rotate_left
        · rintro w' ⟨s0, s1, s2, s3, s4, s5, s6, s7, s8, s9⟩
          go_simp
          with_reducible rfl
        rotate_left
        · simp only [Act.put, la, lb, lc, i64_w, i32_w]
          rfl
        refine take_ (i := 14) (N := some 67) (v := ?_) (a' := ?_) bx43 rfl rfl (take_ofW HT_.out HW_.out kr) (fun _ _ _ h => h) (Or.inl ⟨by rfl, ?_⟩) hHeld ?_ ?_
        rotate_left
        · rintro w' ⟨s0, s1, s2, s3, s4, s5, s6, s7, s8, s9⟩
          go_simp
          with_reducible rfl
        rotate_left
        · simp only [Act.put, la, lb, lc, i64_w, i32_w]
          rfl
        refine take_ (i := 18) (N := some 71) (v := ?_) (a' := ?_) bx44 rfl rfl (take_ofW HT_.out HW_.out kr) (fun _ _ _ h => h) (Or.inl ⟨by rfl, ?_⟩) hHeld ?_ ?_
        rotate_left
        · rintro w' ⟨s0, s1, s2, s3, s4, s5, s6, s7, s8, s9⟩
          go_simp
          with_reducible rfl
        rotate_left
        · simp only [Act.put, la, lb, lc, i64_w, i32_w]
          rfl
        refine one_ (i := 15) (N := some 68) bx45 rfl rfl (one_of HT_.out kr) (by decide) (fun K hK => ?_)
        refine goes_ Try.func89 kr rfl #[.agg #[.int .i64 a0_5, .int .i64 a0_6, .slice A0_7 l0_7.length c0_7]] (by rfl) rfl rfl u14_2 ?_
        with_reducible refine (impl_RLog_last.calls a0_5 a0_6 _ _ l0_7 t304 _ ?side1 ?side2 A27.out).mono ?_
        (case side1 => exact u14_3)
        (case side2 => exact HC0_7.out)
        rintro e w37 ⟨rfl, hb⟩
        refine ⟨_, rfl, ?_⟩
        have n0_ := am (blk_below (g := gb302) (o := .cells #[.int .i64 a0_0, .int .i64 a0_1, .int .i64 a0_2, .int .i64 a0_3, .int .i64 a0_4, .int .i64 a0_5, .int .i64 a0_6, .slice A0_7 l0_7.length c0_7, .slice A0_8 l0_8.length c0_8, .slice A0_9 l0_9.length c0_9] 37 (0, 0)) u14_1 hb)
        have n1_ := am (below_step u14_0 hb)
        clear BK302
        clear HB
        have BK302 := n0_
        have HB := n1_
        clear n0_ n1_
        (try clear hb)
        (try clear hb2)
        (try clear hk)
        (try clear hi)
        refine hK.out _ _ ⟨(blk_cell BK302.out 0).trans rfl, (blk_cell BK302.out 1).trans rfl, (blk_cell BK302.out 2).trans rfl, (blk_cell BK302.out 3).trans rfl, (blk_cell BK302.out 4).trans rfl, (blk_cell BK302.out 5).trans rfl, (blk_cell BK302.out 6).trans rfl, (blk_cell BK302.out 7).trans rfl, (blk_cell BK302.out 8).trans rfl, (blk_cell BK302.out 9).trans rfl⟩ (fun hHeld => ?_)
        clear hK K
        refine norm_ (a' := ?_) ?_ ?_
        rotate_left
        · show Act.put _ (some 68) _ = _
          simp only [Act.put, la, lb, lc, i64_w, i32_w]
          rfl
        refine one_ (i := 16) (N := some 69) b19_34 rfl rfl (one_of HT_.out kr) (by decide) (fun K hK => ?_)
        refine goes_ Try.func92 kr rfl #[.agg #[.int .i64 a0_5, .int .i64 a0_6, .slice A0_7 l0_7.length c0_7], .int .i64 t304] (by rfl) rfl rfl u14_2 ?_
        with_reducible refine (impl_RLog_term.calls a0_5 a0_6 _ _ l0_7 t304 t305 _ ?side1 ?side2 A28.out).mono ?_
        (case side1 => exact u14_3)
        (case side2 => exact HC0_7.out)
        rintro e w38 ⟨rfl, hb⟩
        refine ⟨_, rfl, ?_⟩
        have n0_ := am (blk_below (g := gb302) (o := .cells #[.int .i64 a0_0, .int .i64 a0_1, .int .i64 a0_2, .int .i64 a0_3, .int .i64 a0_4, .int .i64 a0_5, .int .i64 a0_6, .slice A0_7 l0_7.length c0_7, .slice A0_8 l0_8.length c0_8, .slice A0_9 l0_9.length c0_9] 37 (0, 0)) u14_1 hb)
        have n1_ := am (below_step u14_0 hb)
        clear BK302
        clear HB
        have BK302 := n0_
        have HB := n1_
        clear n0_ n1_
        (try clear hb)
        (try clear hb2)
        (try clear hk)
        (try clear hi)
        refine hK.out _ _ ⟨(blk_cell BK302.out 0).trans rfl, (blk_cell BK302.out 1).trans rfl, (blk_cell BK302.out 2).trans rfl, (blk_cell BK302.out 3).trans rfl, (blk_cell BK302.out 4).trans rfl, (blk_cell BK302.out 5).trans rfl, (blk_cell BK302.out 6).trans rfl, (blk_cell BK302.out 7).trans rfl, (blk_cell BK302.out 8).trans rfl, (blk_cell BK302.out 9).trans rfl⟩ (fun hHeld => ?_)
        clear hK K
        refine norm_ (a' := ?_) ?_ ?_
        rotate_left
        · show Act.put _ (some 69) _ = _
          simp only [Act.put, la, lb, lc, i64_w, i32_w]
          rfl
        refine pure_ (i := 19) (N := some 72) (v := ?_) (a' := ?_) b20_34 rfl rfl (any_of HT_.out kr) (fun _ _ _ h => h) (Or.inl ⟨by rfl, ?_⟩) ?_ ?_
        rotate_left; (intro w'; go_simp; with_reducible rfl); rotate_left; (simp only [Act.put, la, lb, lc, i64_w, i32_w]; rfl)
        refine pure_ (i := 20) (N := some 73) (v := ?_) (a' := ?_) b21_34 rfl rfl (any_of HT_.out kr) (fun _ _ _ h => h) (Or.inl ⟨by rfl, ?_⟩) ?_ ?_
        rotate_left; (intro w'; go_simp; with_reducible rfl); rotate_left; (simp only [Act.put, la, lb, lc, i64_w, i32_w]; rfl)
        refine pure_ (i := 21) (N := some 74) (v := ?_) (a' := ?_) b22_34 rfl rfl (any_of HT_.out kr) (fun _ _ _ h => h) (Or.inl ⟨by rfl, ?_⟩) ?_ ?_
        rotate_left; (intro w'; go_simp; with_reducible rfl); rotate_left; (simp only [Act.put, la, lb, lc, i64_w, i32_w]; rfl)
        refine pure_ (i := 22) (N := some 75) (v := ?_) (a' := ?_) b23_34 rfl rfl (any_of HT_.out kr) (fun _ _ _ h => h) (Or.inl ⟨by rfl, ?_⟩) ?_ ?_
        rotate_left; (intro w'; go_simp; with_reducible rfl); rotate_left; (simp only [Act.put, la, lb, lc, i64_w, i32_w]; rfl)
        refine take_ (i := 23) (N := some 76) (v := ?_) (a' := ?_) b24_34 rfl rfl (take_ofW HT_.out HW_.out kr) (fun _ _ _ h => h) (Or.inl ⟨by rfl, ?_⟩) hHeld ?_ ?_
        rotate_left
        · rintro w' ⟨s0, s1, s2, s3, s4, s5, s6, s7, s8, s9⟩
          go_simp
          with_reducible rfl
        rotate_left
        · simp only [Act.put, la, lb, lc, i64_w, i32_w]
          rfl
        refine pure_ (i := 24) (N := some 77) (v := ?_) (a' := ?_) b25_34 rfl rfl (any_of HT_.out kr) (fun _ _ _ h => h) (Or.inl ⟨by rfl, ?_⟩) ?_ ?_
        rotate_left; (intro w'; go_simp; with_reducible rfl); rotate_left; (simp only [Act.put, la, lb, lc, i64_w, i32_w]; rfl)
        refine pure_ (i := 25) (N := some 78) (v := ?_) (a' := ?_) b26_34 rfl rfl (any_of HT_.out kr) (fun _ _ _ h => h) (Or.inl ⟨by rfl, ?_⟩) ?_ ?_
        rotate_left; (intro w'; go_simp; with_reducible rfl); rotate_left; (simp only [Act.put, la, lb, lc, i64_w, i32_w]; rfl)
        refine pure_ (i := 26) (N := some 79) (v := ?_) (a' := ?_) b27_34 rfl rfl (any_of HT_.out kr) (fun _ _ _ h => h) (Or.inl ⟨by rfl, ?_⟩) ?_ ?_
        rotate_left; (intro w'; go_simp; with_reducible rfl); rotate_left; (simp only [Act.put, la, lb, lc, i64_w, i32_w]; rfl)
        refine pure_ (i := 27) (N := some 80) (v := undef) (a' := ?_) b28_34 rfl rfl (any_of HT_.out kr) (fun _ _ _ h => h) (Or.inr ⟨by rfl, rfl⟩) ?_ ?_
        rotate_left
        · simp only [Act.put, la, lb, lc, i64_w, i32_w]
          rfl
        refine pure_ (i := 28) (N := some 81) (v := undef) (a' := ?_) b29_34 rfl rfl (any_of HT_.out kr) (fun _ _ _ h => h) (Or.inr ⟨by rfl, rfl⟩) ?_ ?_
        rotate_left
        · simp only [Act.put, la, lb, lc, i64_w, i32_w]
          rfl
        refine pure_ (i := 29) (N := some 82) (v := undef) (a' := ?_) b30_34 rfl rfl (any_of HT_.out kr) (fun _ _ _ h => h) (Or.inr ⟨by rfl, rfl⟩) ?_ ?_
        rotate_left
        · simp only [Act.put, la, lb, lc, i64_w, i32_w]
          rfl
        refine pure_ (i := 30) (N := some 83) (v := undef) (a' := ?_) b31_34 rfl rfl (any_of HT_.out kr) (fun _ _ _ h => h) (Or.inr ⟨by rfl, rfl⟩) ?_ ?_
        rotate_left
        · simp only [Act.put, la, lb, lc, i64_w, i32_w]
          rfl
        refine pure_ (i := 31) (N := some 84) (v := undef) (a' := ?_) b32_34 rfl rfl (any_of HT_.out kr) (fun _ _ _ h => h) (Or.inr ⟨by rfl, rfl⟩) ?_ ?_
        rotate_left
        · simp only [Act.put, la, lb, lc, i64_w, i32_w]
          rfl
        refine pure_ (i := 32) (N := some 85) (v := undef) (a' := ?_) b33_34 rfl rfl (any_of HT_.out kr) (fun _ _ _ h => h) (Or.inr ⟨by rfl, rfl⟩) ?_ ?_
        rotate_left
        · simp only [Act.put, la, lb, lc, i64_w, i32_w]
          rfl
        refine pure_ (i := 33) (N := some 86) (v := ?_) (a' := ?_) b34_34 rfl rfl (any_of HT_.out kr) (fun _ _ _ h => h) (Or.inl ⟨by rfl, ?_⟩) ?_ ?_
        rotate_left; (intro w'; go_simp; with_reducible rfl); rotate_left; (simp only [Act.put, la, lb, lc, i64_w, i32_w]; rfl)
        refine done_ (done_of HT_.out kr) ?_
        try go_wp2
        go_meet
        case rel => exact ⟨_, (true), u14_4, H', ⟨u14_8⟩, ⟨u14_1⟩, ⟨u14_0⟩⟩
      rw [if_neg c34] at H
      have c34b0 : decide (a0_4 < 0) = false := decide_eq_false c34
      clear c34
      replace H := Option.bind_eq_some_iff.mp H
      obtain ⟨t306, A390, H⟩ := H
      have A39 := am A390
      clear A390
      have H' := am H
      clear H
      try go_wp2
      have n0_ := am (blk_drew BK302.out)
      have n1_ := am (below_drew1 HB.out)
      clear BK302
      clear HB
      have BK302 := n0_
      have HB := n1_
      clear n0_ n1_
      refine start_ (n := 34) (S := fun w' => w'.cell? ⟨gb302, 0, none⟩ = some (.int .i64 a0_0) ∧ w'.cell? ⟨gb302, 1, none⟩ = some (.int .i64 a0_1) ∧ w'.cell? ⟨gb302, 2, none⟩ = some (.int .i64 a0_2) ∧ w'.cell? ⟨gb302, 3, none⟩ = some (.int .i64 a0_3) ∧ w'.cell? ⟨gb302, 4, none⟩ = some (.int .i64 a0_4) ∧ w'.cell? ⟨gb302, 5, none⟩ = some (.int .i64 a0_5) ∧ w'.cell? ⟨gb302, 6, none⟩ = some (.int .i64 a0_6) ∧ w'.cell? ⟨gb302, 7, none⟩ = some (.slice A0_7 l0_7.length c0_7) ∧ w'.cell? ⟨gb302, 8, none⟩ = some (.slice A0_8 l0_8.length c0_8) ∧ w'.cell? ⟨gb302, 9, none⟩ = some (.slice A0_9 l0_9.length c0_9)) (ds := []) b0_34 kr rfl rfl ⟨(blk_cell BK302.out 0).trans rfl, (blk_cell BK302.out 1).trans rfl, (blk_cell BK302.out 2).trans rfl, (blk_cell BK302.out 3).trans rfl, (blk_cell BK302.out 4).trans rfl, (blk_cell BK302.out 5).trans rfl, (blk_cell BK302.out 6).trans rfl, (blk_cell BK302.out 7).trans rfl, (blk_cell BK302.out 8).trans rfl, (blk_cell BK302.out 9).trans rfl⟩ (fun hHeld => ?_); refine with_tabW impl_isNode.tab3 impl_isNode.bits3 (fun HT_ HW_ => ?_)
      generalize wc.drew = w40 at BK302 HB hHeld ⊢
      refine pure_ (i := 0) (N := some 53) (v := ?_) (a' := ?_) b1_34 rfl rfl (any_of HT_.out kr) (fun _ _ _ h => h) (Or.inl ⟨by rfl, ?_⟩) ?_ ?_
      rotate_left; (intro w'; go_simp; with_reducible rfl); rotate_left; (simp only [Act.put, la, lb, lc, i64_w, i32_w]; rfl)
      refine take_ (i := 1) (N := some 54) (v := ?_) (a' := ?_) b2_34 rfl rfl (take_ofW HT_.out HW_.out kr) (fun _ _ _ h => h) (Or.inl ⟨by rfl, ?_⟩) hHeld ?_ ?_
      rotate_left
      · rintro w' ⟨s0, s1, s2, s3, s4, s5, s6, s7, s8, s9⟩
        go_simp
        with_reducible rfl
      rotate_left
      · simp only [Act.put, la, lb, lc, i64_w, i32_w]
        rfl
      refine one_ (i := 2) (N := some 55) b3_34 rfl rfl (one_of HT_.out kr) (by decide) (fun K hK => ?_)
      refine goes_ Try.func88 kr rfl #[.agg #[.int .i64 a0_5, .int .i64 a0_6, .slice A0_7 l0_7.length c0_7]] (by rfl) rfl rfl u14_2 ?_
      with_reducible refine (impl_isRLog.calls kj2 a0_5 a0_6 _ _ l0_7 true _ ?side1 ?side2 A24.out).mono ?_
      (case side1 => exact u14_3)
      (case side2 => exact HC0_7.out)
      rintro e w41 ⟨rfl, hb⟩
      refine ⟨_, rfl, ?_⟩
      have n0_ := am (blk_below (g := gb302) (o := .cells #[.int .i64 a0_0, .int .i64 a0_1, .int .i64 a0_2, .int .i64 a0_3, .int .i64 a0_4, .int .i64 a0_5, .int .i64 a0_6, .slice A0_7 l0_7.length c0_7, .slice A0_8 l0_8.length c0_8, .slice A0_9 l0_9.length c0_9] 37 (0, 0)) u14_1 hb)
      have n1_ := am (below_step u14_0 hb)
      clear BK302
      clear HB
      have BK302 := n0_
      have HB := n1_
      clear n0_ n1_
      (try clear hb)
      (try clear hb2)
      (try clear hk)
      (try clear hi)
      refine hK.out _ _ ⟨(blk_cell BK302.out 0).trans rfl, (blk_cell BK302.out 1).trans rfl, (blk_cell BK302.out 2).trans rfl, (blk_cell BK302.out 3).trans rfl, (blk_cell BK302.out 4).trans rfl, (blk_cell BK302.out 5).trans rfl, (blk_cell BK302.out 6).trans rfl, (blk_cell BK302.out 7).trans rfl, (blk_cell BK302.out 8).trans rfl, (blk_cell BK302.out 9).trans rfl⟩ (fun hHeld => ?_)
      clear hK K
      refine norm_ (a' := ?_) ?_ ?_
      rotate_left
      · show Act.put _ (some 55) _ = _
        simp only [Act.put, la, lb, lc, i64_w, i32_w]
        rfl
      refine pure_ (i := 3) (N := some 56) (v := ?_) (a' := ?_) b4_34 rfl rfl (any_of HT_.out kr) (fun _ _ _ h => h) (Or.inl ⟨by rfl, ?_⟩) ?_ ?_
      rotate_left; (intro w'; go_simp; with_reducible rfl); rotate_left; (simp only [Act.put, la, lb, lc, i64_w, i32_w]; rfl)
      refine pure_ (i := 4) (N := some 57) (v := ?_) (a' := ?_) b5_34 rfl rfl (any_of HT_.out kr) (fun _ _ _ h => h) (Or.inl ⟨by rfl, ?_⟩) ?_ ?_
      rotate_left; (intro w'; go_simp; with_reducible rfl); rotate_left; (simp only [Act.put, la, lb, lc, i64_w, i32_w]; rfl)
      refine pure_ (i := 5) (N := some 58) (v := ?_) (a' := ?_) b6_34 rfl rfl (any_of HT_.out kr) (fun _ _ _ h => h) (Or.inl ⟨by rfl, ?_⟩) ?_ ?_
      rotate_left; (intro w'; go_simp; with_reducible rfl); rotate_left; (simp only [Act.put, la, lb, lc, i64_w, i32_w]; rfl)
      refine pure_ (i := 6) (N := some 59) (v := ?_) (a' := ?_) b7_34 rfl rfl (any_of HT_.out kr) (fun _ _ _ h => h) (Or.inl ⟨by rfl, ?_⟩) ?_ ?_
      rotate_left; (intro w'; go_simp; with_reducible rfl); rotate_left; (simp only [Act.put, la, lb, lc, i64_w, i32_w]; rfl)
      refine take_ (i := 7) (N := some 60) (v := ?_) (a' := ?_) b8_34 rfl rfl (take_ofW HT_.out HW_.out kr) (fun _ _ _ h => h) (Or.inl ⟨by rfl, ?_⟩) hHeld ?_ ?_
      rotate_left
      · rintro w' ⟨s0, s1, s2, s3, s4, s5, s6, s7, s8, s9⟩
        go_simp
        with_reducible rfl
      rotate_left
      · simp only [Act.put, la, lb, lc, i64_w, i32_w]
        rfl
      refine pure_ (i := 8) (N := some 61) (v := ?_) (a' := ?_) b9_34 rfl rfl (any_of HT_.out kr) (fun _ _ _ h => h) (Or.inl ⟨by rfl, ?_⟩) ?_ ?_
      rotate_left; (intro w'; go_simp; with_reducible rfl); rotate_left; (simp only [Act.put, la, lb, lc, i64_w, i32_w]; rfl)
      refine pure_ (i := 9) (N := some 62) (v := ?_) (a' := ?_) b10_34 rfl rfl (any_of HT_.out kr) (fun _ _ _ h => h) (Or.inl ⟨by rfl, ?_⟩) ?_ ?_
      rotate_left; (intro w'; go_simp; with_reducible rfl); rotate_left; (simp only [Act.put, la, lb, lc, i64_w, i32_w]; rfl)
      refine pure_ (i := 10) (N := some 63) (v := ?_) (a' := ?_) b11_34 rfl rfl (any_of HT_.out kr) (fun _ _ _ h => h) (Or.inl ⟨by rfl, ?_⟩) ?_ ?_
      rotate_left; (intro w'; go_simp; with_reducible rfl); rotate_left; (simp only [Act.put, la, lb, lc, i64_w, i32_w]; rfl)
      refine pure_ (i := 11) (N := some 64) (v := ?_) (a' := ?_) b12_34 rfl rfl (any_of HT_.out kr) (fun _ _ _ h => h) (Or.inl ⟨by rfl, ?_⟩) ?_ ?_
      rotate_left; (intro w'; go_simp; with_reducible rfl); rotate_left; (simp only [Act.put, la, lb, lc, i64_w, i32_w]; rfl)
      refine pure_ (i := 13) (N := some 66) (v := ?_) (a' := ?_) bx40 rfl rfl (any_of HT_.out kr) (fun _ _ _ h => h) (Or.inl ⟨by rfl, ?_⟩) ?_ ?_
      rotate_left; (intro w'; go_simp; with_reducible rfl); rotate_left; (simp only [Act.put, la, lb, lc, i64_w, i32_w]; rfl)
      refine pure_ (i := 17) (N := some 70) (v := ?_) (a' := ?_) bx41 rfl rfl (any_of HT_.out kr) (fun _ _ _ h => h) (Or.inl ⟨by rfl, ?_⟩) ?_ ?_
      rotate_left; (intro w'; go_simp; with_reducible rfl); rotate_left; (simp only [Act.put, la, lb, lc, i64_w, i32_w]; rfl)
      refine take_ (i := 12) (N := some 65) (v := ?_) (a' := ?_) bx42 rfl rfl (take_ofW HT_.out HW_.out kr) (fun _ _ _ h => h) (Or.inl ⟨by rfl, ?_⟩) hHeld ?_ ?_
      rotate_left
      · rintro w' ⟨s0, s1, s2, s3, s4, s5, s6, s7, s8, s9⟩
        go_simp
        with_reducible rfl
      rotate_left
      · simp only [Act.put, la, lb, lc, i64_w, i32_w]
        rfl
      refine take_ (i := 14) (N := some 67) (v := ?_) (a' := ?_) bx43 rfl rfl (take_ofW HT_.out HW_.out kr) (fun _ _ _ h => h) (Or.inl ⟨by rfl, ?_⟩) hHeld ?_ ?_
      rotate_left
      · rintro w' ⟨s0, s1, s2, s3, s4, s5, s6, s7, s8, s9⟩
        go_simp
        with_reducible rfl
      rotate_left
      · simp only [Act.put, la, lb, lc, i64_w, i32_w]
        rfl
      refine take_ (i := 18) (N := some 71) (v := ?_) (a' := ?_) bx44 rfl rfl (take_ofW HT_.out HW_.out kr) (fun _ _ _ h => h) (Or.inl ⟨by rfl, ?_⟩) hHeld ?_ ?_
      rotate_left
      · rintro w' ⟨s0, s1, s2, s3, s4, s5, s6, s7, s8, s9⟩
        go_simp
        with_reducible rfl
      rotate_left
      · simp only [Act.put, la, lb, lc, i64_w, i32_w]
        rfl
      refine one_ (i := 15) (N := some 68) bx45 rfl rfl (one_of HT_.out kr) (by decide) (fun K hK => ?_)
      refine goes_ Try.func89 kr rfl #[.agg #[.int .i64 a0_5, .int .i64 a0_6, .slice A0_7 l0_7.length c0_7]] (by rfl) rfl rfl u14_2 ?_
      with_reducible refine (impl_RLog_last.calls a0_5 a0_6 _ _ l0_7 t304 _ ?side1 ?side2 A27.out).mono ?_
      (case side1 => exact u14_3)
      (case side2 => exact HC0_7.out)
      rintro e w42 ⟨rfl, hb⟩
      refine ⟨_, rfl, ?_⟩
      have n0_ := am (blk_below (g := gb302) (o := .cells #[.int .i64 a0_0, .int .i64 a0_1, .int .i64 a0_2, .int .i64 a0_3, .int .i64 a0_4, .int .i64 a0_5, .int .i64 a0_6, .slice A0_7 l0_7.length c0_7, .slice A0_8 l0_8.length c0_8, .slice A0_9 l0_9.length c0_9] 37 (0, 0)) u14_1 hb)
      have n1_ := am (below_step u14_0 hb)
      clear BK302
      clear HB
      have BK302 := n0_
      have HB := n1_
      clear n0_ n1_
      (try clear hb)
      (try clear hb2)
      (try clear hk)
      (try clear hi)
      refine hK.out _ _ ⟨(blk_cell BK302.out 0).trans rfl, (blk_cell BK302.out 1).trans rfl, (blk_cell BK302.out 2).trans rfl, (blk_cell BK302.out 3).trans rfl, (blk_cell BK302.out 4).trans rfl, (blk_cell BK302.out 5).trans rfl, (blk_cell BK302.out 6).trans rfl, (blk_cell BK302.out 7).trans rfl, (blk_cell BK302.out 8).trans rfl, (blk_cell BK302.out 9).trans rfl⟩ (fun hHeld => ?_)
      clear hK K
      refine norm_ (a' := ?_) ?_ ?_
      rotate_left
      · show Act.put _ (some 68) _ = _
        simp only [Act.put, la, lb, lc, i64_w, i32_w]
        rfl
      refine one_ (i := 16) (N := some 69) b19_34 rfl rfl (one_of HT_.out kr) (by decide) (fun K hK => ?_)
      refine goes_ Try.func92 kr rfl #[.agg #[.int .i64 a0_5, .int .i64 a0_6, .slice A0_7 l0_7.length c0_7], .int .i64 t304] (by rfl) rfl rfl u14_2 ?_
      with_reducible refine (impl_RLog_term.calls a0_5 a0_6 _ _ l0_7 t304 t305 _ ?side1 ?side2 A28.out).mono ?_
      (case side1 => exact u14_3)
      (case side2 => exact HC0_7.out)
      rintro e w43 ⟨rfl, hb⟩
      refine ⟨_, rfl, ?_⟩
      have n0_ := am (blk_below (g := gb302) (o := .cells #[.int .i64 a0_0, .int .i64 a0_1, .int .i64 a0_2, .int .i64 a0_3, .int .i64 a0_4, .int .i64 a0_5, .int .i64 a0_6, .slice A0_7 l0_7.length c0_7, .slice A0_8 l0_8.length c0_8, .slice A0_9 l0_9.length c0_9] 37 (0, 0)) u14_1 hb)
      have n1_ := am (below_step u14_0 hb)
      clear BK302
      clear HB
      have BK302 := n0_
      have HB := n1_
      clear n0_ n1_
      (try clear hb)
      (try clear hb2)
      (try clear hk)
      (try clear hi)
      refine hK.out _ _ ⟨(blk_cell BK302.out 0).trans rfl, (blk_cell BK302.out 1).trans rfl, (blk_cell BK302.out 2).trans rfl, (blk_cell BK302.out 3).trans rfl, (blk_cell BK302.out 4).trans rfl, (blk_cell BK302.out 5).trans rfl, (blk_cell BK302.out 6).trans rfl, (blk_cell BK302.out 7).trans rfl, (blk_cell BK302.out 8).trans rfl, (blk_cell BK302.out 9).trans rfl⟩ (fun hHeld => ?_)
      clear hK K
      refine norm_ (a' := ?_) ?_ ?_
      rotate_left
      · show Act.put _ (some 69) _ = _
        simp only [Act.put, la, lb, lc, i64_w, i32_w]
        rfl
      refine pure_ (i := 19) (N := some 72) (v := ?_) (a' := ?_) b20_34 rfl rfl (any_of HT_.out kr) (fun _ _ _ h => h) (Or.inl ⟨by rfl, ?_⟩) ?_ ?_
      rotate_left; (intro w'; go_simp; with_reducible rfl); rotate_left; (simp only [Act.put, la, lb, lc, i64_w, i32_w]; rfl)
      refine pure_ (i := 20) (N := some 73) (v := ?_) (a' := ?_) b21_34 rfl rfl (any_of HT_.out kr) (fun _ _ _ h => h) (Or.inl ⟨by rfl, ?_⟩) ?_ ?_
      rotate_left; (intro w'; go_simp; with_reducible rfl); rotate_left; (simp only [Act.put, la, lb, lc, i64_w, i32_w]; rfl)
      refine pure_ (i := 21) (N := some 74) (v := ?_) (a' := ?_) b22_34 rfl rfl (any_of HT_.out kr) (fun _ _ _ h => h) (Or.inl ⟨by rfl, ?_⟩) ?_ ?_
      rotate_left; (intro w'; go_simp; with_reducible rfl); rotate_left; (simp only [Act.put, la, lb, lc, i64_w, i32_w]; rfl)
      refine pure_ (i := 22) (N := some 75) (v := ?_) (a' := ?_) b23_34 rfl rfl (any_of HT_.out kr) (fun _ _ _ h => h) (Or.inl ⟨by rfl, ?_⟩) ?_ ?_
      rotate_left; (intro w'; go_simp; with_reducible rfl); rotate_left; (simp only [Act.put, la, lb, lc, i64_w, i32_w]; rfl)
      refine take_ (i := 23) (N := some 76) (v := ?_) (a' := ?_) b24_34 rfl rfl (take_ofW HT_.out HW_.out kr) (fun _ _ _ h => h) (Or.inl ⟨by rfl, ?_⟩) hHeld ?_ ?_
      rotate_left
      · rintro w' ⟨s0, s1, s2, s3, s4, s5, s6, s7, s8, s9⟩
        go_simp
        with_reducible rfl
      rotate_left
      · simp only [Act.put, la, lb, lc, i64_w, i32_w]
        rfl
      refine pure_ (i := 24) (N := some 77) (v := ?_) (a' := ?_) b25_34 rfl rfl (any_of HT_.out kr) (fun _ _ _ h => h) (Or.inl ⟨by rfl, ?_⟩) ?_ ?_
      rotate_left; (intro w'; go_simp; with_reducible rfl); rotate_left; (simp only [Act.put, la, lb, lc, i64_w, i32_w]; rfl)
      refine pure_ (i := 25) (N := some 78) (v := ?_) (a' := ?_) b26_34 rfl rfl (any_of HT_.out kr) (fun _ _ _ h => h) (Or.inl ⟨by rfl, ?_⟩) ?_ ?_
      rotate_left; (intro w'; go_simp; with_reducible rfl); rotate_left; (simp only [Act.put, la, lb, lc, i64_w, i32_w]; rfl)
      refine pure_ (i := 26) (N := some 79) (v := ?_) (a' := ?_) b27_34 rfl rfl (any_of HT_.out kr) (fun _ _ _ h => h) (Or.inl ⟨by rfl, ?_⟩) ?_ ?_
      rotate_left; (intro w'; go_simp; with_reducible rfl); rotate_left; (simp only [Act.put, la, lb, lc, i64_w, i32_w]; rfl)
      refine pure_ (i := 27) (N := some 80) (v := ?_) (a' := ?_) b28_34 rfl rfl (any_of HT_.out kr) (fun _ _ _ h => h) (Or.inl ⟨by rfl, ?_⟩) ?_ ?_
      rotate_left; (intro w'; go_simp; with_reducible rfl); rotate_left; (simp only [Act.put, la, lb, lc, i64_w, i32_w]; rfl)
      refine pure_ (i := 29) (N := some 82) (v := ?_) (a' := ?_) #[true, true, true, true, true, true, true, true, true, true, true, true, true, true, true, true, true, true, true, true, true, true, true, true, true, true, true, true, false, true, false, false, false, false] rfl rfl (any_of HT_.out kr) (fun _ _ _ h => h) (Or.inl ⟨by rfl, ?_⟩) ?_ ?_
      rotate_left; (intro w'; go_simp; with_reducible rfl); rotate_left; (simp only [Act.put, la, lb, lc, i64_w, i32_w]; rfl)
      refine take_ (i := 28) (N := some 81) (v := ?_) (a' := ?_) b30_34 rfl rfl (take_ofW HT_.out HW_.out kr) (fun _ _ _ h => h) (Or.inl ⟨by rfl, ?_⟩) hHeld ?_ ?_
      rotate_left
      · rintro w' ⟨s0, s1, s2, s3, s4, s5, s6, s7, s8, s9⟩
        go_simp
        with_reducible rfl
      rotate_left
      · simp only [Act.put, la, lb, lc, i64_w, i32_w]
        rfl
      refine take_ (i := 30) (N := some 83) (v := ?_) (a' := ?_) b31_34 rfl rfl (take_ofW HT_.out HW_.out kr) (fun _ _ _ h => h) (Or.inl ⟨by rfl, ?_⟩) hHeld ?_ ?_
      rotate_left
      · rintro w' ⟨s0, s1, s2, s3, s4, s5, s6, s7, s8, s9⟩
        go_simp
        with_reducible rfl
      rotate_left
      · simp only [Act.put, la, lb, lc, i64_w, i32_w]
        rfl
      refine one_ (i := 31) (N := some 84) b32_34 rfl rfl (one_of HT_.out kr) (by decide) (fun K hK => ?_)
      refine goes_ Try.func89 kr rfl #[.agg #[.int .i64 a0_5, .int .i64 a0_6, .slice A0_7 l0_7.length c0_7]] (by rfl) rfl rfl u14_2 ?_
      with_reducible refine (impl_RLog_last.calls a0_5 a0_6 _ _ l0_7 t306 _ ?side1 ?side2 A39.out).mono ?_
      (case side1 => exact u14_3)
      (case side2 => exact HC0_7.out)
      rintro e w44 ⟨rfl, hb⟩
      refine ⟨_, rfl, ?_⟩
      have n0_ := am (blk_below (g := gb302) (o := .cells #[.int .i64 a0_0, .int .i64 a0_1, .int .i64 a0_2, .int .i64 a0_3, .int .i64 a0_4, .int .i64 a0_5, .int .i64 a0_6, .slice A0_7 l0_7.length c0_7, .slice A0_8 l0_8.length c0_8, .slice A0_9 l0_9.length c0_9] 37 (0, 0)) u14_1 hb)
      have n1_ := am (below_step u14_0 hb)
      clear BK302
      clear HB
      have BK302 := n0_
      have HB := n1_
      clear n0_ n1_
      (try clear hb)
      (try clear hb2)
      (try clear hk)
      (try clear hi)
      refine hK.out _ _ ⟨(blk_cell BK302.out 0).trans rfl, (blk_cell BK302.out 1).trans rfl, (blk_cell BK302.out 2).trans rfl, (blk_cell BK302.out 3).trans rfl, (blk_cell BK302.out 4).trans rfl, (blk_cell BK302.out 5).trans rfl, (blk_cell BK302.out 6).trans rfl, (blk_cell BK302.out 7).trans rfl, (blk_cell BK302.out 8).trans rfl, (blk_cell BK302.out 9).trans rfl⟩ (fun hHeld => ?_)
      clear hK K
      refine norm_ (a' := ?_) ?_ ?_
      rotate_left
      · show Act.put _ (some 84) _ = _
        simp only [Act.put, la, lb, lc, i64_w, i32_w]
        rfl
      refine pure_ (i := 32) (N := some 85) (v := ?_) (a' := ?_) b33_34 rfl rfl (any_of HT_.out kr) (fun _ _ _ h => h) (Or.inl ⟨by rfl, ?_⟩) ?_ ?_
      rotate_left; (intro w'; go_simp; with_reducible rfl); rotate_left; (simp only [Act.put, la, lb, lc, i64_w, i32_w]; rfl)
      refine pure_ (i := 33) (N := some 86) (v := ?_) (a' := ?_) b34_34 rfl rfl (any_of HT_.out kr) (fun _ _ _ h => h) (Or.inl ⟨by rfl, ?_⟩) ?_ ?_
      rotate_left; (intro w'; go_simp; with_reducible rfl); rotate_left; (simp only [Act.put, la, lb, lc, i64_w, i32_w]; rfl)
      refine done_ (done_of HT_.out kr) ?_
      try go_wp2
      go_meet
      case rel => exact ⟨_, (decide (a0_4 > t306)), u14_4, H', ⟨u14_8⟩, ⟨u14_1⟩, ⟨u14_0⟩⟩
   clear HC23
   try clear c2
   try clear p2
   try clear c8
   try clear c25
   try clear c26
   try clear c26b0
   try clear c26b1
   obtain ⟨kq, x86_22, rfl, HA, HJ22, BK302, HB⟩ := hcut
   cases kq with
   | zero => exact absurd HA.out (by simp [impl_isNode.j1])
   | succ kj22 =>
     have H := HA.out
     clear HA
     simp only [impl_isNode.j1] at H
     as_aux_lemma =>
      by_cases c49 : x86_22 = true
      · subst c49
        rw [if_pos rfl] at H
        obtain rfl := Option.some.inj H
        go_wp2
        go_ret
        exact ⟨by first | rfl | (simp [errW_none, errW_some] <;> rfl) | (simp [*, errW_none, errW_some] <;> rfl), u14_0⟩
      replace c49 := Bool.eq_false_iff.mpr c49
      subst c49
      rw [if_neg (show ¬ (false = true) by decide)] at H
      have HC50 := am H
      clear H
      go_upto_region 5 with (fail)
      go_cut [101] (fun v101 wc => ∃ (kq : Nat) (x101_49 : Bool), v101 = .bool x101_49 ∧ Aside0 (impl_isNode.j2 kq a1 x101_49 a0_0 a0_1 a0_2 a0_3 a0_4 a0_5 a0_6 l0_7 l0_8 l0_9 = some r) ∧ Aside0 (kq ≤ kj22) ∧ Aside0 (wc.heap[gb302]? = some (.cells #[.int .i64 a0_0, .int .i64 a0_1, .int .i64 a0_2, .int .i64 a0_3, .int .i64 a0_4, .int .i64 a0_5, .int .i64 a0_6, (.slice A0_7 l0_7.length c0_7), (.slice A0_8 l0_8.length c0_8), (.slice A0_9 l0_9.length c0_9)] 37 (0, 0))) ∧ Aside0 (Below w.heap.size w wc))
      case first =>
        have H := HC50.out
        clear HC50
        by_cases c51 : a0_3 = 0
        · rw [if_pos c51] at H
          have c51b0 : (a0_3 == 0) = true := beq_iff_eq.mpr c51
          have c51b1 : (a0_3 != 0) = false := bne_eq_false_iff_eq.mpr c51
          clear c51
          (first | rw [c51b0] | (simp only [i64_w, i32_w]; rw [c51b0]) | skip)
          have H' := am H
          clear H
          have hcz52_0 : wc.cell? ⟨gb302, 0, none⟩ = some (.int .i64 a0_0) := (blk_cell BK302.out 0).trans rfl
          have hcz52_1 : wc.cell? ⟨gb302, 1, none⟩ = some (.int .i64 a0_1) := (blk_cell BK302.out 1).trans rfl
          have hcz52_2 : wc.cell? ⟨gb302, 2, none⟩ = some (.int .i64 a0_2) := (blk_cell BK302.out 2).trans rfl
          have hcz52_3 : wc.cell? ⟨gb302, 3, none⟩ = some (.int .i64 a0_3) := (blk_cell BK302.out 3).trans rfl
          have hcz52_4 : wc.cell? ⟨gb302, 4, none⟩ = some (.int .i64 a0_4) := (blk_cell BK302.out 4).trans rfl
          have hcz52_5 : wc.cell? ⟨gb302, 5, none⟩ = some (.int .i64 a0_5) := (blk_cell BK302.out 5).trans rfl
          have hcz52_6 : wc.cell? ⟨gb302, 6, none⟩ = some (.int .i64 a0_6) := (blk_cell BK302.out 6).trans rfl
          have hcz52_7 : wc.cell? ⟨gb302, 7, none⟩ = some (.slice A0_7 l0_7.length c0_7) := (blk_cell BK302.out 7).trans rfl
          have hcz52_8 : wc.cell? ⟨gb302, 8, none⟩ = some (.slice A0_8 l0_8.length c0_8) := (blk_cell BK302.out 8).trans rfl
          have hcz52_9 : wc.cell? ⟨gb302, 9, none⟩ = some (.slice A0_9 l0_9.length c0_9) := (blk_cell BK302.out 9).trans rfl
          go_wp2
          go_meet
          case rel => exact ⟨_, (false), u14_4, H', ⟨u14_10⟩, ⟨u14_1⟩, ⟨u14_0⟩⟩
        rw [if_neg c51] at H
        have c51b0 : (a0_3 == 0) = false := beq_eq_false_iff_ne.mpr c51
        have c51b1 : (a0_3 != 0) = true := bne_iff_ne.mpr c51
        (first | rw [c51b0] | (simp only [i64_w, i32_w]; rw [c51b0]) | skip)
        by_cases c53 : a0_2 = a0_0
        rotate_left
        · rw [if_neg c53] at H
          have c53b0 : (a0_2 == a0_0) = false := beq_eq_false_iff_ne.mpr c53
          have c53b1 : (a0_2 != a0_0) = true := bne_iff_ne.mpr c53
          have H' := am H
          clear H
          have hcz55_0 : wc.cell? ⟨gb302, 0, none⟩ = some (.int .i64 a0_0) := (blk_cell BK302.out 0).trans rfl
          have hcz55_1 : wc.cell? ⟨gb302, 1, none⟩ = some (.int .i64 a0_1) := (blk_cell BK302.out 1).trans rfl
          have hcz55_2 : wc.cell? ⟨gb302, 2, none⟩ = some (.int .i64 a0_2) := (blk_cell BK302.out 2).trans rfl
          have hcz55_3 : wc.cell? ⟨gb302, 3, none⟩ = some (.int .i64 a0_3) := (blk_cell BK302.out 3).trans rfl
          have hcz55_4 : wc.cell? ⟨gb302, 4, none⟩ = some (.int .i64 a0_4) := (blk_cell BK302.out 4).trans rfl
          have hcz55_5 : wc.cell? ⟨gb302, 5, none⟩ = some (.int .i64 a0_5) := (blk_cell BK302.out 5).trans rfl
          have hcz55_6 : wc.cell? ⟨gb302, 6, none⟩ = some (.int .i64 a0_6) := (blk_cell BK302.out 6).trans rfl
          have hcz55_7 : wc.cell? ⟨gb302, 7, none⟩ = some (.slice A0_7 l0_7.length c0_7) := (blk_cell BK302.out 7).trans rfl
          have hcz55_8 : wc.cell? ⟨gb302, 8, none⟩ = some (.slice A0_8 l0_8.length c0_8) := (blk_cell BK302.out 8).trans rfl
          have hcz55_9 : wc.cell? ⟨gb302, 9, none⟩ = some (.slice A0_9 l0_9.length c0_9) := (blk_cell BK302.out 9).trans rfl
          go_wp2
          go_meet
          case rel => exact ⟨_, (true), u14_4, H', ⟨u14_10⟩, ⟨u14_1⟩, ⟨u14_0⟩⟩
        rw [if_pos c53] at H
        have c53b0 : (a0_2 == a0_0) = true := beq_iff_eq.mpr c53
        have c53b1 : (a0_2 != a0_0) = false := bne_eq_false_iff_eq.mpr c53
        clear c53
        have H' := am H
        clear H
        have hcz54_0 : wc.cell? ⟨gb302, 0, none⟩ = some (.int .i64 a0_0) := (blk_cell BK302.out 0).trans rfl
        have hcz54_1 : wc.cell? ⟨gb302, 1, none⟩ = some (.int .i64 a0_1) := (blk_cell BK302.out 1).trans rfl
        have hcz54_2 : wc.cell? ⟨gb302, 2, none⟩ = some (.int .i64 a0_2) := (blk_cell BK302.out 2).trans rfl
        have hcz54_3 : wc.cell? ⟨gb302, 3, none⟩ = some (.int .i64 a0_3) := (blk_cell BK302.out 3).trans rfl
        have hcz54_4 : wc.cell? ⟨gb302, 4, none⟩ = some (.int .i64 a0_4) := (blk_cell BK302.out 4).trans rfl
        have hcz54_5 : wc.cell? ⟨gb302, 5, none⟩ = some (.int .i64 a0_5) := (blk_cell BK302.out 5).trans rfl
        have hcz54_6 : wc.cell? ⟨gb302, 6, none⟩ = some (.int .i64 a0_6) := (blk_cell BK302.out 6).trans rfl
        have hcz54_7 : wc.cell? ⟨gb302, 7, none⟩ = some (.slice A0_7 l0_7.length c0_7) := (blk_cell BK302.out 7).trans rfl
        have hcz54_8 : wc.cell? ⟨gb302, 8, none⟩ = some (.slice A0_8 l0_8.length c0_8) := (blk_cell BK302.out 8).trans rfl
        have hcz54_9 : wc.cell? ⟨gb302, 9, none⟩ = some (.slice A0_9 l0_9.length c0_9) := (blk_cell BK302.out 9).trans rfl
        go_wp2
        go_meet
        case rel => exact ⟨_, ((a0_1 == 0)), u14_4, H', ⟨u14_10⟩, ⟨u14_1⟩, ⟨u14_0⟩⟩
      clear HC50
      try clear c2
      try clear p2
      try clear c4
      try clear c5
      try clear c8
      try clear c25
      try clear c26
      try clear c26b0
      try clear c26b1
      try clear c49
      try clear c51
      try clear c51b0
      try clear c51b1
      try clear c53
      try clear c53b0
      try clear c53b1
      try clear hcz52_0
      try clear hcz52_1
      try clear hcz52_2
      try clear hcz52_3
      try clear hcz52_4
      try clear hcz52_5
      try clear hcz52_6
      try clear hcz52_7
      try clear hcz52_8
      try clear hcz52_9
      try clear hcz54_0
      try clear hcz54_1
      try clear hcz54_2
      try clear hcz54_3
      try clear hcz54_4
      try clear hcz54_5
      try clear hcz54_6
      try clear hcz54_7
      try clear hcz54_8
      try clear hcz54_9
      try clear hcz55_0
      try clear hcz55_1
      try clear hcz55_2
      try clear hcz55_3
      try clear hcz55_4
      try clear hcz55_5
      try clear hcz55_6
      try clear hcz55_7
      try clear hcz55_8
      try clear hcz55_9
      try clear p2
      obtain ⟨kq, x101_49, rfl, HA, HJ49, BK302, HB⟩ := hcut
      cases kq with
      | zero => exact absurd HA.out (by simp [impl_isNode.j2])
      | succ kj49 =>
        have H := HA.out
        clear HA
        simp only [impl_isNode.j2] at H
        by_cases c56 : x101_49 = true
        · subst c56
          rw [if_pos rfl] at H
          obtain rfl := Option.some.inj H
          go_wp2
          go_ret
          exact ⟨by first | rfl | (simp [errW_none, errW_some] <;> rfl) | (simp [*, errW_none, errW_some] <;> rfl), u14_0⟩
        replace c56 := Bool.eq_false_iff.mpr c56
        subst c56
        rw [if_neg (show ¬ (false = true) by decide)] at H
        have HC57 := am H
        clear H
        have hcz58_0 : wc.cell? ⟨gb302, 0, none⟩ = some (.int .i64 a0_0) := (blk_cell BK302.out 0).trans rfl
        have hcz58_1 : wc.cell? ⟨gb302, 1, none⟩ = some (.int .i64 a0_1) := (blk_cell BK302.out 1).trans rfl
        have hcz58_2 : wc.cell? ⟨gb302, 2, none⟩ = some (.int .i64 a0_2) := (blk_cell BK302.out 2).trans rfl
        have hcz58_3 : wc.cell? ⟨gb302, 3, none⟩ = some (.int .i64 a0_3) := (blk_cell BK302.out 3).trans rfl
        have hcz58_4 : wc.cell? ⟨gb302, 4, none⟩ = some (.int .i64 a0_4) := (blk_cell BK302.out 4).trans rfl
        have hcz58_5 : wc.cell? ⟨gb302, 5, none⟩ = some (.int .i64 a0_5) := (blk_cell BK302.out 5).trans rfl
        have hcz58_6 : wc.cell? ⟨gb302, 6, none⟩ = some (.int .i64 a0_6) := (blk_cell BK302.out 6).trans rfl
        have hcz58_7 : wc.cell? ⟨gb302, 7, none⟩ = some (.slice A0_7 l0_7.length c0_7) := (blk_cell BK302.out 7).trans rfl
        have hcz58_8 : wc.cell? ⟨gb302, 8, none⟩ = some (.slice A0_8 l0_8.length c0_8) := (blk_cell BK302.out 8).trans rfl
        have hcz58_9 : wc.cell? ⟨gb302, 9, none⟩ = some (.slice A0_9 l0_9.length c0_9) := (blk_cell BK302.out 9).trans rfl
        go_upto_if 104 with (fail)
        go_cut [] (fun wc => ∃ (kq : Nat), Aside0 (impl_isNode.j3 kq a1 a0_0 a0_1 a0_2 a0_3 a0_4 a0_5 a0_6 l0_7 l0_8 l0_9 = some r) ∧ Aside0 (kq ≤ kj49) ∧ Aside0 (wc.heap[gb302]? = some (.cells #[.int .i64 a0_0, .int .i64 a0_1, .int .i64 a0_2, .int .i64 a0_3, .int .i64 a0_4, .int .i64 a0_5, .int .i64 a0_6, (.slice A0_7 l0_7.length c0_7), (.slice A0_8 l0_8.length c0_8), (.slice A0_9 l0_9.length c0_9)] 37 (0, 0))) ∧ Aside0 (Below w.heap.size w wc))
        case first =>
          have H := HC57.out
          clear HC57
          by_cases c59 : a0_3 = 1
          rotate_left
          · rw [if_neg c59] at H
            have c59b0 : (a0_3 == 1) = false := beq_eq_false_iff_ne.mpr c59
            have c59b1 : (a0_3 != 1) = true := bne_iff_ne.mpr c59
            (first | rw [c59b0] | (simp only [i64_w, i32_w]; rw [c59b0]) | skip)
            by_cases c69 : (l0_8.length : Int) > 0
            · rw [if_pos c69] at H
              have c69b0 : decide (0 < (l0_8.length : Int)) = true := decide_eq_true c69
              have c69b1 : decide (0 < l0_8.length) = true := decide_eq_true (by omega)
              clear c69
              obtain rfl := Option.some.inj H
              have hcz70_0 : wc.cell? ⟨gb302, 0, none⟩ = some (.int .i64 a0_0) := (blk_cell BK302.out 0).trans rfl
              have hcz70_1 : wc.cell? ⟨gb302, 1, none⟩ = some (.int .i64 a0_1) := (blk_cell BK302.out 1).trans rfl
              have hcz70_2 : wc.cell? ⟨gb302, 2, none⟩ = some (.int .i64 a0_2) := (blk_cell BK302.out 2).trans rfl
              have hcz70_3 : wc.cell? ⟨gb302, 3, none⟩ = some (.int .i64 a0_3) := (blk_cell BK302.out 3).trans rfl
              have hcz70_4 : wc.cell? ⟨gb302, 4, none⟩ = some (.int .i64 a0_4) := (blk_cell BK302.out 4).trans rfl
              have hcz70_5 : wc.cell? ⟨gb302, 5, none⟩ = some (.int .i64 a0_5) := (blk_cell BK302.out 5).trans rfl
              have hcz70_6 : wc.cell? ⟨gb302, 6, none⟩ = some (.int .i64 a0_6) := (blk_cell BK302.out 6).trans rfl
              have hcz70_7 : wc.cell? ⟨gb302, 7, none⟩ = some (.slice A0_7 l0_7.length c0_7) := (blk_cell BK302.out 7).trans rfl
              have hcz70_8 : wc.cell? ⟨gb302, 8, none⟩ = some (.slice A0_8 l0_8.length c0_8) := (blk_cell BK302.out 8).trans rfl
              have hcz70_9 : wc.cell? ⟨gb302, 9, none⟩ = some (.slice A0_9 l0_9.length c0_9) := (blk_cell BK302.out 9).trans rfl
              go_wp2
              go_ret
              exact ⟨by first | rfl | (simp [errW_none, errW_some] <;> rfl) | (simp [*, errW_none, errW_some] <;> rfl), u14_0⟩
            rw [if_neg c69] at H
            have c69b0 : decide (0 < (l0_8.length : Int)) = false := decide_eq_false c69
            have c69b1 : decide (0 < l0_8.length) = false := decide_eq_false (by omega)
            clear c69
            have H' := am H
            clear H
            have hcz71_0 : wc.cell? ⟨gb302, 0, none⟩ = some (.int .i64 a0_0) := (blk_cell BK302.out 0).trans rfl
            have hcz71_1 : wc.cell? ⟨gb302, 1, none⟩ = some (.int .i64 a0_1) := (blk_cell BK302.out 1).trans rfl
            have hcz71_2 : wc.cell? ⟨gb302, 2, none⟩ = some (.int .i64 a0_2) := (blk_cell BK302.out 2).trans rfl
            have hcz71_3 : wc.cell? ⟨gb302, 3, none⟩ = some (.int .i64 a0_3) := (blk_cell BK302.out 3).trans rfl
            have hcz71_4 : wc.cell? ⟨gb302, 4, none⟩ = some (.int .i64 a0_4) := (blk_cell BK302.out 4).trans rfl
            have hcz71_5 : wc.cell? ⟨gb302, 5, none⟩ = some (.int .i64 a0_5) := (blk_cell BK302.out 5).trans rfl
            have hcz71_6 : wc.cell? ⟨gb302, 6, none⟩ = some (.int .i64 a0_6) := (blk_cell BK302.out 6).trans rfl
            have hcz71_7 : wc.cell? ⟨gb302, 7, none⟩ = some (.slice A0_7 l0_7.length c0_7) := (blk_cell BK302.out 7).trans rfl
            have hcz71_8 : wc.cell? ⟨gb302, 8, none⟩ = some (.slice A0_8 l0_8.length c0_8) := (blk_cell BK302.out 8).trans rfl
            have hcz71_9 : wc.cell? ⟨gb302, 9, none⟩ = some (.slice A0_9 l0_9.length c0_9) := (blk_cell BK302.out 9).trans rfl
            go_wp2
            go_meet
            case rel => exact ⟨_, H', ⟨u14_12⟩, ⟨u14_1⟩, ⟨u14_0⟩⟩
          rw [if_pos c59] at H
          have c59b0 : (a0_3 == 1) = true := beq_iff_eq.mpr c59
          have c59b1 : (a0_3 != 1) = false := bne_eq_false_iff_eq.mpr c59
          clear c59
          (first | rw [c59b0] | (simp only [i64_w, i32_w]; rw [c59b0]) | skip)
          replace H := Option.bind_eq_some_iff.mp H
          obtain ⟨t307, A600, H⟩ := H
          have A60 := am A600
          clear A600
          by_cases c61 : t307 = true
          rotate_left
          · replace c61 := Bool.eq_false_iff.mpr c61
            subst c61
            rw [if_neg (show ¬ (false = true) by decide)] at H
            obtain rfl := Option.some.inj H
            have hcz68_0 : wc.cell? ⟨gb302, 0, none⟩ = some (.int .i64 a0_0) := (blk_cell BK302.out 0).trans rfl
            have hcz68_1 : wc.cell? ⟨gb302, 1, none⟩ = some (.int .i64 a0_1) := (blk_cell BK302.out 1).trans rfl
            have hcz68_2 : wc.cell? ⟨gb302, 2, none⟩ = some (.int .i64 a0_2) := (blk_cell BK302.out 2).trans rfl
            have hcz68_3 : wc.cell? ⟨gb302, 3, none⟩ = some (.int .i64 a0_3) := (blk_cell BK302.out 3).trans rfl
            have hcz68_4 : wc.cell? ⟨gb302, 4, none⟩ = some (.int .i64 a0_4) := (blk_cell BK302.out 4).trans rfl
            have hcz68_5 : wc.cell? ⟨gb302, 5, none⟩ = some (.int .i64 a0_5) := (blk_cell BK302.out 5).trans rfl
            have hcz68_6 : wc.cell? ⟨gb302, 6, none⟩ = some (.int .i64 a0_6) := (blk_cell BK302.out 6).trans rfl
            have hcz68_7 : wc.cell? ⟨gb302, 7, none⟩ = some (.slice A0_7 l0_7.length c0_7) := (blk_cell BK302.out 7).trans rfl
            have hcz68_8 : wc.cell? ⟨gb302, 8, none⟩ = some (.slice A0_8 l0_8.length c0_8) := (blk_cell BK302.out 8).trans rfl
            have hcz68_9 : wc.cell? ⟨gb302, 9, none⟩ = some (.slice A0_9 l0_9.length c0_9) := (blk_cell BK302.out 9).trans rfl
            go_wp2_with (first | ((with_reducible refine gate_callee (f := 113) rfl ?_); refine goesL_ (some 107) rfl rfl Try.func113 kr rfl #[.slice A0_8 l0_8.length c0_8] rfl u14_2 ?_; (with_reducible refine (impl_areIds.calls kj49 _ _ l0_8 false _ ?side1 ?side2 A60.out).mono ?_); (case side1 => exact u14_5); (case side2 => exact HC0_8.out); rintro e w' ⟨rfl, ⟨nd, rfl⟩⟩; refine ⟨_, rfl, ?_⟩))
            go_ret
            exact ⟨by first | rfl | (simp [errW_none, errW_some] <;> rfl) | (simp [*, errW_none, errW_some] <;> rfl), u14_0⟩
          subst c61
          rw [if_pos rfl] at H
          replace H := Option.bind_eq_some_iff.mp H
          obtain ⟨t308, A620, H⟩ := H
          have A62 := am A620
          clear A620
          by_cases c63 : t308 = true
          rotate_left
          · replace c63 := Bool.eq_false_iff.mpr c63
            subst c63
            rw [if_neg (show ¬ (false = true) by decide)] at H
            obtain rfl := Option.some.inj H
            have hcz67_0 : wc.cell? ⟨gb302, 0, none⟩ = some (.int .i64 a0_0) := (blk_cell BK302.out 0).trans rfl
            have hcz67_1 : wc.cell? ⟨gb302, 1, none⟩ = some (.int .i64 a0_1) := (blk_cell BK302.out 1).trans rfl
            have hcz67_2 : wc.cell? ⟨gb302, 2, none⟩ = some (.int .i64 a0_2) := (blk_cell BK302.out 2).trans rfl
            have hcz67_3 : wc.cell? ⟨gb302, 3, none⟩ = some (.int .i64 a0_3) := (blk_cell BK302.out 3).trans rfl
            have hcz67_4 : wc.cell? ⟨gb302, 4, none⟩ = some (.int .i64 a0_4) := (blk_cell BK302.out 4).trans rfl
            have hcz67_5 : wc.cell? ⟨gb302, 5, none⟩ = some (.int .i64 a0_5) := (blk_cell BK302.out 5).trans rfl
            have hcz67_6 : wc.cell? ⟨gb302, 6, none⟩ = some (.int .i64 a0_6) := (blk_cell BK302.out 6).trans rfl
            have hcz67_7 : wc.cell? ⟨gb302, 7, none⟩ = some (.slice A0_7 l0_7.length c0_7) := (blk_cell BK302.out 7).trans rfl
            have hcz67_8 : wc.cell? ⟨gb302, 8, none⟩ = some (.slice A0_8 l0_8.length c0_8) := (blk_cell BK302.out 8).trans rfl
            have hcz67_9 : wc.cell? ⟨gb302, 9, none⟩ = some (.slice A0_9 l0_9.length c0_9) := (blk_cell BK302.out 9).trans rfl
            go_wp2_with (first | ((with_reducible refine gate_callee (f := 113) rfl ?_); refine goesL_ (some 107) rfl rfl Try.func113 kr rfl #[.slice A0_8 l0_8.length c0_8] rfl u14_2 ?_; (with_reducible refine (impl_areIds.calls kj49 _ _ l0_8 true _ ?side1 ?side2 A60.out).mono ?_); (case side1 => exact u14_5); (case side2 => exact HC0_8.out); rintro e w' ⟨rfl, ⟨nd, rfl⟩⟩; refine ⟨_, rfl, ?_⟩) | (go_at_call 114; (with_reducible refine (slices_Contains_int_int.calls kj49 _ _ l0_8 a0_0 false _ ?side1 ?side2 A62.out).mono ?_); (case side1 => exact u14_6); (case side2 => exact HC0_8.out); rintro e w' ⟨rfl, ⟨nd, rfl⟩⟩))
            go_ret
            exact ⟨by first | rfl | (simp [errW_none, errW_some] <;> rfl) | (simp [*, errW_none, errW_some] <;> rfl), u14_0⟩
          subst c63
          rw [if_pos rfl] at H
          replace H := Option.bind_eq_some_iff.mp H
          obtain ⟨t309, A640, H⟩ := H
          have A64 := am A640
          clear A640
          have H9 := am H
          clear H
          have hcz65_0 : wc.cell? ⟨gb302, 0, none⟩ = some (.int .i64 a0_0) := (blk_cell BK302.out 0).trans rfl
          have hcz65_1 : wc.cell? ⟨gb302, 1, none⟩ = some (.int .i64 a0_1) := (blk_cell BK302.out 1).trans rfl
          have hcz65_2 : wc.cell? ⟨gb302, 2, none⟩ = some (.int .i64 a0_2) := (blk_cell BK302.out 2).trans rfl
          have hcz65_3 : wc.cell? ⟨gb302, 3, none⟩ = some (.int .i64 a0_3) := (blk_cell BK302.out 3).trans rfl
          have hcz65_4 : wc.cell? ⟨gb302, 4, none⟩ = some (.int .i64 a0_4) := (blk_cell BK302.out 4).trans rfl
          have hcz65_5 : wc.cell? ⟨gb302, 5, none⟩ = some (.int .i64 a0_5) := (blk_cell BK302.out 5).trans rfl
          have hcz65_6 : wc.cell? ⟨gb302, 6, none⟩ = some (.int .i64 a0_6) := (blk_cell BK302.out 6).trans rfl
          have hcz65_7 : wc.cell? ⟨gb302, 7, none⟩ = some (.slice A0_7 l0_7.length c0_7) := (blk_cell BK302.out 7).trans rfl
          have hcz65_8 : wc.cell? ⟨gb302, 8, none⟩ = some (.slice A0_8 l0_8.length c0_8) := (blk_cell BK302.out 8).trans rfl
          have hcz65_9 : wc.cell? ⟨gb302, 9, none⟩ = some (.slice A0_9 l0_9.length c0_9) := (blk_cell BK302.out 9).trans rfl
          go_upto_if 123 with (first | ((with_reducible refine gate_callee (f := 113) rfl ?_); refine goesL_ (some 107) rfl rfl Try.func113 kr rfl #[.slice A0_8 l0_8.length c0_8] rfl u14_2 ?_; (with_reducible refine (impl_areIds.calls kj49 _ _ l0_8 true _ ?side1 ?side2 A60.out).mono ?_); (case side1 => exact u14_5); (case side2 => exact HC0_8.out); rintro e w' ⟨rfl, ⟨nd, rfl⟩⟩; refine ⟨_, rfl, ?_⟩) | (go_at_call 114; (with_reducible refine (slices_Contains_int_int.calls kj49 _ _ l0_8 a0_0 true _ ?side1 ?side2 A62.out).mono ?_); (case side1 => exact u14_6); (case side2 => exact HC0_8.out); rintro e w' ⟨rfl, ⟨nd, rfl⟩⟩) | (go_at_call 115; (with_reducible refine (slices_Max_int_int.calls _ _ l0_8 t309 _ ?side1 ?side2 A64.out).mono ?_); (case side1 => exact u14_6); (case side2 => exact HC0_8.out); rintro e w' ⟨rfl, ⟨nd, rfl⟩⟩))
          have H := H9.out
          clear H9
          by_cases c66 : t309 ≥ a1
          · rw [if_pos c66] at H
            have c66b0 : decide (a1 ≤ t309) = true := decide_eq_true c66
            clear c66
            (first | rw [c66b0] | (simp only [i64_w, i32_w]; rw [c66b0]) | skip)
            obtain rfl := Option.some.inj H
            go_wp2
            go_ret
            exact ⟨by first | rfl | (simp [errW_none, errW_some] <;> rfl) | (simp [*, errW_none, errW_some] <;> rfl), u14_0⟩
          rw [if_neg c66] at H
          have c66b0 : decide (a1 ≤ t309) = false := decide_eq_false c66
          clear c66
          (first | rw [c66b0] | (simp only [i64_w, i32_w]; rw [c66b0]) | skip)
          have H' := am H
          clear H
          go_wp2
          go_meet
          case rel => exact ⟨_, H', ⟨u14_12⟩, ⟨u14_1⟩, ⟨u14_0⟩⟩
        clear HC57
        try clear c1
        try clear c2
        try clear p2
        try clear c4
        try clear c5
        try clear c6
        try clear c8
        try clear c11
        try clear c25
        try clear c26
        try clear c26b0
        try clear c26b1
        try clear c49
        try clear c51
        try clear c51b0
        try clear c51b1
        try clear c53
        try clear c53b0
        try clear c53b1
        try clear c56
        try clear c59
        try clear c59b0
        try clear c59b1
        try clear c61
        try clear c63
        try clear c66
        try clear c66b0
        try clear c69
        try clear c69b0
        try clear c69b1
        try clear hcz52_0
        try clear hcz52_1
        try clear hcz52_2
        try clear hcz52_3
        try clear hcz52_4
        try clear hcz52_5
        try clear hcz52_6
        try clear hcz52_7
        try clear hcz52_8
        try clear hcz52_9
        try clear hcz54_0
        try clear hcz54_1
        try clear hcz54_2
        try clear hcz54_3
        try clear hcz54_4
        try clear hcz54_5
        try clear hcz54_6
        try clear hcz54_7
        try clear hcz54_8
        try clear hcz54_9
        try clear hcz55_0
        try clear hcz55_1
        try clear hcz55_2
        try clear hcz55_3
        try clear hcz55_4
        try clear hcz55_5
        try clear hcz55_6
        try clear hcz55_7
        try clear hcz55_8
        try clear hcz55_9
        try clear hcz58_0
        try clear hcz58_1
        try clear hcz58_2
        try clear hcz58_3
        try clear hcz58_4
        try clear hcz58_5
        try clear hcz58_6
        try clear hcz58_7
        try clear hcz58_8
        try clear hcz58_9
        try clear hcz65_0
        try clear hcz65_1
        try clear hcz65_2
        try clear hcz65_3
        try clear hcz65_4
        try clear hcz65_5
        try clear hcz65_6
        try clear hcz65_7
        try clear hcz65_8
        try clear hcz65_9
        try clear hcz67_0
        try clear hcz67_1
        try clear hcz67_2
        try clear hcz67_3
        try clear hcz67_4
        try clear hcz67_5
        try clear hcz67_6
        try clear hcz67_7
        try clear hcz67_8
        try clear hcz67_9
        try clear hcz68_0
        try clear hcz68_1
        try clear hcz68_2
        try clear hcz68_3
        try clear hcz68_4
        try clear hcz68_5
        try clear hcz68_6
        try clear hcz68_7
        try clear hcz68_8
        try clear hcz68_9
        try clear hcz70_0
        try clear hcz70_1
        try clear hcz70_2
        try clear hcz70_3
        try clear hcz70_4
        try clear hcz70_5
        try clear hcz70_6
        try clear hcz70_7
        try clear hcz70_8
        try clear hcz70_9
        try clear hcz71_0
        try clear hcz71_1
        try clear hcz71_2
        try clear hcz71_3
        try clear hcz71_4
        try clear hcz71_5
        try clear hcz71_6
        try clear hcz71_7
        try clear hcz71_8
        try clear hcz71_9
        try clear p2
        obtain ⟨kq, HA, HJ56, BK302, HB⟩ := hcut
        cases kq with
        | zero => exact absurd HA.out (by simp [impl_isNode.j3])
        | succ kj56 =>
          have H := HA.out
          clear HA
          simp only [impl_isNode.j3] at H
          by_cases c72 : a0_3 = 2
          rotate_left
          · rw [if_neg c72] at H
            have c72b0 : (a0_3 == 2) = false := beq_eq_false_iff_ne.mpr c72
            have c72b1 : (a0_3 != 2) = true := bne_iff_ne.mpr c72
            obtain rfl := Option.some.inj H
            have hcz90_0 : wc.cell? ⟨gb302, 0, none⟩ = some (.int .i64 a0_0) := (blk_cell BK302.out 0).trans rfl
            have hcz90_1 : wc.cell? ⟨gb302, 1, none⟩ = some (.int .i64 a0_1) := (blk_cell BK302.out 1).trans rfl
            have hcz90_2 : wc.cell? ⟨gb302, 2, none⟩ = some (.int .i64 a0_2) := (blk_cell BK302.out 2).trans rfl
            have hcz90_3 : wc.cell? ⟨gb302, 3, none⟩ = some (.int .i64 a0_3) := (blk_cell BK302.out 3).trans rfl
            have hcz90_4 : wc.cell? ⟨gb302, 4, none⟩ = some (.int .i64 a0_4) := (blk_cell BK302.out 4).trans rfl
            have hcz90_5 : wc.cell? ⟨gb302, 5, none⟩ = some (.int .i64 a0_5) := (blk_cell BK302.out 5).trans rfl
            have hcz90_6 : wc.cell? ⟨gb302, 6, none⟩ = some (.int .i64 a0_6) := (blk_cell BK302.out 6).trans rfl
            have hcz90_7 : wc.cell? ⟨gb302, 7, none⟩ = some (.slice A0_7 l0_7.length c0_7) := (blk_cell BK302.out 7).trans rfl
            have hcz90_8 : wc.cell? ⟨gb302, 8, none⟩ = some (.slice A0_8 l0_8.length c0_8) := (blk_cell BK302.out 8).trans rfl
            have hcz90_9 : wc.cell? ⟨gb302, 9, none⟩ = some (.slice A0_9 l0_9.length c0_9) := (blk_cell BK302.out 9).trans rfl
            go_wp2
            go_ret
            exact ⟨by first | rfl | (simp [errW_none, errW_some] <;> rfl) | (simp [*, errW_none, errW_some] <;> rfl), u14_0⟩
          rw [if_pos c72] at H
          have c72b0 : (a0_3 == 2) = true := beq_iff_eq.mpr c72
          have c72b1 : (a0_3 != 2) = false := bne_eq_false_iff_eq.mpr c72
          clear c72
          have HC73 := am H
          clear H
          have hcz74_0 : wc.cell? ⟨gb302, 0, none⟩ = some (.int .i64 a0_0) := (blk_cell BK302.out 0).trans rfl
          have hcz74_1 : wc.cell? ⟨gb302, 1, none⟩ = some (.int .i64 a0_1) := (blk_cell BK302.out 1).trans rfl
          have hcz74_2 : wc.cell? ⟨gb302, 2, none⟩ = some (.int .i64 a0_2) := (blk_cell BK302.out 2).trans rfl
          have hcz74_3 : wc.cell? ⟨gb302, 3, none⟩ = some (.int .i64 a0_3) := (blk_cell BK302.out 3).trans rfl
          have hcz74_4 : wc.cell? ⟨gb302, 4, none⟩ = some (.int .i64 a0_4) := (blk_cell BK302.out 4).trans rfl
          have hcz74_5 : wc.cell? ⟨gb302, 5, none⟩ = some (.int .i64 a0_5) := (blk_cell BK302.out 5).trans rfl
          have hcz74_6 : wc.cell? ⟨gb302, 6, none⟩ = some (.int .i64 a0_6) := (blk_cell BK302.out 6).trans rfl
          have hcz74_7 : wc.cell? ⟨gb302, 7, none⟩ = some (.slice A0_7 l0_7.length c0_7) := (blk_cell BK302.out 7).trans rfl
          have hcz74_8 : wc.cell? ⟨gb302, 8, none⟩ = some (.slice A0_8 l0_8.length c0_8) := (blk_cell BK302.out 8).trans rfl
          have hcz74_9 : wc.cell? ⟨gb302, 9, none⟩ = some (.slice A0_9 l0_9.length c0_9) := (blk_cell BK302.out 9).trans rfl
          go_upto_region 14 with (fail)
          go_cut [151] (fun v151 wc => ∃ (kq : Nat) (x151_72 : Bool), v151 = .bool x151_72 ∧ Aside0 (impl_isNode.j4 kq x151_72 a0_0 a0_1 a0_2 a0_3 a0_4 a0_5 a0_6 l0_7 l0_8 l0_9 = some r) ∧ Aside0 (kq ≤ kj56) ∧ Aside0 (wc.heap[gb302]? = some (.cells #[.int .i64 a0_0, .int .i64 a0_1, .int .i64 a0_2, .int .i64 a0_3, .int .i64 a0_4, .int .i64 a0_5, .int .i64 a0_6, (.slice A0_7 l0_7.length c0_7), (.slice A0_8 l0_8.length c0_8), (.slice A0_9 l0_9.length c0_9)] 37 (0, 0))) ∧ Aside0 (Below w.heap.size w wc))
          case first =>
            have H := HC73.out
            clear HC73
            by_cases c75 : (l0_9.length : Int) = a1
            rotate_left
            · rw [if_neg c75] at H
              have c75b0 : ((l0_9.length : Int) == a1) = false := beq_eq_false_iff_ne.mpr c75
              have c75b1 : ((l0_9.length : Int) != a1) = true := bne_iff_ne.mpr c75
              (first | rw [c75b0] | (simp only [i64_w, i32_w]; rw [c75b0]) | skip)
              have H' := am H
              clear H
              try go_wp2
              have n0_ := am (blk_drew BK302.out)
              have n1_ := am (below_drew1 HB.out)
              clear BK302
              clear HB
              have BK302 := n0_
              have HB := n1_
              clear n0_ n1_
              refine start_ (n := 17) (S := fun w' => w'.cell? ⟨gb302, 0, none⟩ = some (.int .i64 a0_0) ∧ w'.cell? ⟨gb302, 1, none⟩ = some (.int .i64 a0_1) ∧ w'.cell? ⟨gb302, 2, none⟩ = some (.int .i64 a0_2) ∧ w'.cell? ⟨gb302, 3, none⟩ = some (.int .i64 a0_3) ∧ w'.cell? ⟨gb302, 4, none⟩ = some (.int .i64 a0_4) ∧ w'.cell? ⟨gb302, 5, none⟩ = some (.int .i64 a0_5) ∧ w'.cell? ⟨gb302, 6, none⟩ = some (.int .i64 a0_6) ∧ w'.cell? ⟨gb302, 7, none⟩ = some (.slice A0_7 l0_7.length c0_7) ∧ w'.cell? ⟨gb302, 8, none⟩ = some (.slice A0_8 l0_8.length c0_8) ∧ w'.cell? ⟨gb302, 9, none⟩ = some (.slice A0_9 l0_9.length c0_9)) (ds := []) #[false, false, false, false, false, false, false, false, false, false, false, false, false, false, false, false, false] kr rfl rfl ⟨(blk_cell BK302.out 0).trans rfl, (blk_cell BK302.out 1).trans rfl, (blk_cell BK302.out 2).trans rfl, (blk_cell BK302.out 3).trans rfl, (blk_cell BK302.out 4).trans rfl, (blk_cell BK302.out 5).trans rfl, (blk_cell BK302.out 6).trans rfl, (blk_cell BK302.out 7).trans rfl, (blk_cell BK302.out 8).trans rfl, (blk_cell BK302.out 9).trans rfl⟩ (fun hHeld => ?_); refine with_tabW impl_isNode.tab14 impl_isNode.bits14 (fun HT_ HW_ => ?_)
              generalize wc.drew = w81 at BK302 HB hHeld ⊢
              refine pure_ (i := 0) (N := some 135) (v := ?_) (a' := ?_) #[true, false, false, false, false, false, false, false, false, false, false, false, false, false, false, false, false] rfl rfl (any_of HT_.out kr) (fun _ _ _ h => h) (Or.inl ⟨by rfl, ?_⟩) ?_ ?_
              rotate_left; (intro w'; go_simp; with_reducible rfl); rotate_left; (simp only [Act.put, la, lb, lc, i64_w, i32_w]; rfl)
              refine pure_ (i := 3) (N := some 138) (v := ?_) (a' := ?_) #[true, false, false, true, false, false, false, false, false, false, false, false, false, false, false, false, false] rfl rfl (any_of HT_.out kr) (fun _ _ _ h => h) (Or.inl ⟨by rfl, ?_⟩) ?_ ?_
              rotate_left; (intro w'; go_simp; with_reducible rfl); rotate_left; (simp only [Act.put, la, lb, lc, i64_w, i32_w]; rfl)
              refine take_ (i := 1) (N := some 136) (v := ?_) (a' := ?_) #[true, true, false, true, false, false, false, false, false, false, false, false, false, false, false, false, false] rfl rfl (take_ofW HT_.out HW_.out kr) (fun _ _ _ h => h) (Or.inl ⟨by rfl, ?_⟩) hHeld ?_ ?_
              rotate_left
              · rintro w' ⟨s0, s1, s2, s3, s4, s5, s6, s7, s8, s9⟩
                go_simp
                with_reducible rfl
              rotate_left
              · simp only [Act.put, la, lb, lc, i64_w, i32_w]
                rfl
              refine pure_ (i := 2) (N := some 137) (v := ?_) (a' := ?_) #[true, true, true, true, false, false, false, false, false, false, false, false, false, false, false, false, false] rfl rfl (any_of HT_.out kr) (fun _ _ _ h => h) (Or.inl ⟨by rfl, ?_⟩) ?_ ?_
              rotate_left; (intro w'; go_simp; with_reducible rfl); rotate_left; (simp only [Act.put, la, lb, lc, i64_w, i32_w]; rfl)
              refine pure_ (i := 4) (N := some 139) (v := ?_) (a' := ?_) #[true, true, true, true, true, false, false, false, false, false, false, false, false, false, false, false, false] rfl rfl (any_of HT_.out kr) (fun _ _ _ h => h) (Or.inl ⟨by rfl, ?_⟩) ?_ ?_
              rotate_left; (intro w'; go_simp; with_reducible rfl); rotate_left; (simp only [Act.put, la, lb, lc, i64_w, i32_w]; rfl)
              refine pure_ (i := 5) (N := some 140) (v := ?_) (a' := ?_) #[true, true, true, true, true, true, false, false, false, false, false, false, false, false, false, false, false] rfl rfl (any_of HT_.out kr) (fun _ _ _ h => h) (Or.inl ⟨by rfl, ?_⟩) ?_ ?_
              rotate_left; (intro w'; go_simp; with_reducible rfl); rotate_left; (simp only [Act.put, la, lb, lc, i64_w, i32_w]; rfl)
              refine pure_ (i := 6) (N := some 141) (v := undef) (a' := ?_) #[true, true, true, true, true, true, true, false, false, false, false, false, false, false, false, false, false] rfl rfl (any_of HT_.out kr) (fun _ _ _ h => h) (Or.inr ⟨by rfl, rfl⟩) ?_ ?_
              rotate_left
              · simp only [Act.put, la, lb, lc, i64_w, i32_w]
                rfl
              refine pure_ (i := 7) (N := some 142) (v := undef) (a' := ?_) #[true, true, true, true, true, true, true, true, false, false, false, false, false, false, false, false, false] rfl rfl (any_of HT_.out kr) (fun _ _ _ h => h) (Or.inr ⟨by rfl, rfl⟩) ?_ ?_
              rotate_left
              · simp only [Act.put, la, lb, lc, i64_w, i32_w]
                rfl
              refine pure_ (i := 8) (N := some 143) (v := undef) (a' := ?_) #[true, true, true, true, true, true, true, true, true, false, false, false, false, false, false, false, false] rfl rfl (any_of HT_.out kr) (fun _ _ _ h => h) (Or.inr ⟨by rfl, rfl⟩) ?_ ?_
              rotate_left
              · simp only [Act.put, la, lb, lc, i64_w, i32_w]
                rfl
              refine pure_ (i := 9) (N := some 144) (v := undef) (a' := ?_) #[true, true, true, true, true, true, true, true, true, true, false, false, false, false, false, false, false] rfl rfl (any_of HT_.out kr) (fun _ _ _ h => h) (Or.inr ⟨by rfl, rfl⟩) ?_ ?_
              rotate_left
              · simp only [Act.put, la, lb, lc, i64_w, i32_w]
                rfl
              refine pure_ (i := 10) (N := some 145) (v := undef) (a' := ?_) #[true, true, true, true, true, true, true, true, true, true, true, false, false, false, false, false, false] rfl rfl (any_of HT_.out kr) (fun _ _ _ h => h) (Or.inr ⟨by rfl, rfl⟩) ?_ ?_
              rotate_left
              · simp only [Act.put, la, lb, lc, i64_w, i32_w]
                rfl
              refine pure_ (i := 11) (N := some 146) (v := undef) (a' := ?_) #[true, true, true, true, true, true, true, true, true, true, true, true, false, false, false, false, false] rfl rfl (any_of HT_.out kr) (fun _ _ _ h => h) (Or.inr ⟨by rfl, rfl⟩) ?_ ?_
              rotate_left
              · simp only [Act.put, la, lb, lc, i64_w, i32_w]
                rfl
              refine pure_ (i := 12) (N := some 147) (v := undef) (a' := ?_) #[true, true, true, true, true, true, true, true, true, true, true, true, true, false, false, false, false] rfl rfl (any_of HT_.out kr) (fun _ _ _ h => h) (Or.inr ⟨by rfl, rfl⟩) ?_ ?_
              rotate_left
              · simp only [Act.put, la, lb, lc, i64_w, i32_w]
                rfl
              refine pure_ (i := 13) (N := some 148) (v := undef) (a' := ?_) #[true, true, true, true, true, true, true, true, true, true, true, true, true, true, false, false, false] rfl rfl (any_of HT_.out kr) (fun _ _ _ h => h) (Or.inr ⟨by rfl, rfl⟩) ?_ ?_
              rotate_left
              · simp only [Act.put, la, lb, lc, i64_w, i32_w]
                rfl
              refine pure_ (i := 14) (N := some 149) (v := undef) (a' := ?_) #[true, true, true, true, true, true, true, true, true, true, true, true, true, true, true, false, false] rfl rfl (any_of HT_.out kr) (fun _ _ _ h => h) (Or.inr ⟨by rfl, rfl⟩) ?_ ?_
              rotate_left
              · simp only [Act.put, la, lb, lc, i64_w, i32_w]
                rfl
              refine pure_ (i := 15) (N := some 150) (v := undef) (a' := ?_) #[true, true, true, true, true, true, true, true, true, true, true, true, true, true, true, true, false] rfl rfl (any_of HT_.out kr) (fun _ _ _ h => h) (Or.inr ⟨by rfl, rfl⟩) ?_ ?_
              rotate_left
              · simp only [Act.put, la, lb, lc, i64_w, i32_w]
                rfl
              refine pure_ (i := 16) (N := some 151) (v := ?_) (a' := ?_) #[true, true, true, true, true, true, true, true, true, true, true, true, true, true, true, true, true] rfl rfl (any_of HT_.out kr) (fun _ _ _ h => h) (Or.inl ⟨by rfl, ?_⟩) ?_ ?_
              rotate_left; (intro w'; go_simp; with_reducible rfl); rotate_left; (simp only [Act.put, la, lb, lc, i64_w, i32_w]; rfl)
              refine done_ (done_of HT_.out kr) ?_
              try go_wp2
              go_meet
              case rel => exact ⟨_, (true), u14_4, H', ⟨u14_11⟩, ⟨u14_1⟩, ⟨u14_0⟩⟩
            rw [if_pos c75] at H
            have c75b0 : ((l0_9.length : Int) == a1) = true := beq_iff_eq.mpr c75
            have c75b1 : ((l0_9.length : Int) != a1) = false := bne_eq_false_iff_eq.mpr c75
            clear c75
            (first | rw [c75b0] | (simp only [i64_w, i32_w]; rw [c75b0]) | skip)
            by_cases c76 : 0 ≤ a0_0
            rotate_left
            · rw [if_neg c76] at H
              exact absurd H (by simp)
            rw [if_pos c76] at H
            have c76b0 : decide (0 ≤ a0_0) = true := decide_eq_true c76
            clear c76
            by_cases c77 : a0_0 < (l0_9.length : Int)
            rotate_left
            · rw [if_neg c77] at H
              exact absurd H (by simp)
            rw [if_pos c77] at H
            have c77b0 : decide (a0_0 < (l0_9.length : Int)) = true := decide_eq_true c77
            clear c77
            replace H := Option.bind_eq_some_iff.mp H
            obtain ⟨t311, A780, H⟩ := H
            have A78 := am A780
            clear A780
            have H' := am H
            clear H
            try go_wp2
            have n0_ := am (blk_drew BK302.out)
            have n1_ := am (below_drew1 HB.out)
            clear BK302
            clear HB
            have BK302 := n0_
            have HB := n1_
            clear n0_ n1_
            have p310 : 0 ≤ (a0_0 : Int) := of_decide_eq_true (by first | (with_reducible assumption) | assumption)
            have q310 : a0_0 < (l0_9.length : Int) := of_decide_eq_true (by first | (with_reducible assumption) | assumption)
            obtain ⟨ad310, e310, hx310_0⟩ := Kd.at_int HR0_9.out a0_0 p310 q310
            have hw310_0 := hx310_0
            cases e310
            replace hx310_0 := (HB.out.cell (World.block_lt_of_cell? w _ hx310_0)).trans hx310_0
            replace p310 := eq_true p310
            replace q310 := eq_true q310
            refine start_ (n := 17) (S := fun w' => w'.cell? ⟨gb302, 0, none⟩ = some (.int .i64 a0_0) ∧ w'.cell? ⟨gb302, 1, none⟩ = some (.int .i64 a0_1) ∧ w'.cell? ⟨gb302, 2, none⟩ = some (.int .i64 a0_2) ∧ w'.cell? ⟨gb302, 3, none⟩ = some (.int .i64 a0_3) ∧ w'.cell? ⟨gb302, 4, none⟩ = some (.int .i64 a0_4) ∧ w'.cell? ⟨gb302, 5, none⟩ = some (.int .i64 a0_5) ∧ w'.cell? ⟨gb302, 6, none⟩ = some (.int .i64 a0_6) ∧ w'.cell? ⟨gb302, 7, none⟩ = some (.slice A0_7 l0_7.length c0_7) ∧ w'.cell? ⟨gb302, 8, none⟩ = some (.slice A0_8 l0_8.length c0_8) ∧ w'.cell? ⟨gb302, 9, none⟩ = some (.slice (some ad310) l0_9.length c0_9) ∧ w'.cell? (ad310.add (a0_0).toNat) = some (.int .i64 (rd l0_9 a0_0))) (ds := []) #[false, false, false, false, false, false, false, false, false, false, false, false, false, false, false, false, false] kr rfl rfl ⟨(blk_cell BK302.out 0).trans rfl, (blk_cell BK302.out 1).trans rfl, (blk_cell BK302.out 2).trans rfl, (blk_cell BK302.out 3).trans rfl, (blk_cell BK302.out 4).trans rfl, (blk_cell BK302.out 5).trans rfl, (blk_cell BK302.out 6).trans rfl, (blk_cell BK302.out 7).trans rfl, (blk_cell BK302.out 8).trans rfl, (blk_cell BK302.out 9).trans rfl, ((HB.out.cell (World.block_lt_of_cell? w _ hw310_0)).trans hw310_0)⟩ (fun hHeld => ?_); refine with_tabW impl_isNode.tab14 impl_isNode.bits14 (fun HT_ HW_ => ?_)
            generalize wc.drew = w79 at BK302 HB hx310_0 hHeld ⊢
            refine pure_ (i := 0) (N := some 135) (v := ?_) (a' := ?_) #[true, false, false, false, false, false, false, false, false, false, false, false, false, false, false, false, false] rfl rfl (any_of HT_.out kr) (fun _ _ _ h => h) (Or.inl ⟨by rfl, ?_⟩) ?_ ?_
            rotate_left; (intro w'; go_simp; with_reducible rfl); rotate_left; (simp only [Act.put, la, lb, lc, i64_w, i32_w]; rfl)
            refine pure_ (i := 3) (N := some 138) (v := ?_) (a' := ?_) #[true, false, false, true, false, false, false, false, false, false, false, false, false, false, false, false, false] rfl rfl (any_of HT_.out kr) (fun _ _ _ h => h) (Or.inl ⟨by rfl, ?_⟩) ?_ ?_
            rotate_left; (intro w'; go_simp; with_reducible rfl); rotate_left; (simp only [Act.put, la, lb, lc, i64_w, i32_w]; rfl)
            refine take_ (i := 1) (N := some 136) (v := ?_) (a' := ?_) #[true, true, false, true, false, false, false, false, false, false, false, false, false, false, false, false, false] rfl rfl (take_ofW HT_.out HW_.out kr) (fun _ _ _ h => h) (Or.inl ⟨by rfl, ?_⟩) hHeld ?_ ?_
            rotate_left
            · rintro w' ⟨s0, s1, s2, s3, s4, s5, s6, s7, s8, s9, s10⟩
              go_simp
              with_reducible rfl
            rotate_left
            · simp only [Act.put, la, lb, lc, i64_w, i32_w]
              rfl
            refine pure_ (i := 2) (N := some 137) (v := ?_) (a' := ?_) #[true, true, true, true, false, false, false, false, false, false, false, false, false, false, false, false, false] rfl rfl (any_of HT_.out kr) (fun _ _ _ h => h) (Or.inl ⟨by rfl, ?_⟩) ?_ ?_
            rotate_left; (intro w'; go_simp; with_reducible rfl); rotate_left; (simp only [Act.put, la, lb, lc, i64_w, i32_w]; rfl)
            refine pure_ (i := 4) (N := some 139) (v := ?_) (a' := ?_) #[true, true, true, true, true, false, false, false, false, false, false, false, false, false, false, false, false] rfl rfl (any_of HT_.out kr) (fun _ _ _ h => h) (Or.inl ⟨by rfl, ?_⟩) ?_ ?_
            rotate_left; (intro w'; go_simp; with_reducible rfl); rotate_left; (simp only [Act.put, la, lb, lc, i64_w, i32_w]; rfl)
            refine pure_ (i := 5) (N := some 140) (v := ?_) (a' := ?_) #[true, true, true, true, true, true, false, false, false, false, false, false, false, false, false, false, false] rfl rfl (any_of HT_.out kr) (fun _ _ _ h => h) (Or.inl ⟨by rfl, ?_⟩) ?_ ?_
            rotate_left; (intro w'; go_simp; with_reducible rfl); rotate_left; (simp only [Act.put, la, lb, lc, i64_w, i32_w]; rfl)
            refine pure_ (i := 6) (N := some 141) (v := ?_) (a' := ?_) #[true, true, true, true, true, true, true, false, false, false, false, false, false, false, false, false, false] rfl rfl (any_of HT_.out kr) (fun _ _ _ h => h) (Or.inl ⟨by rfl, ?_⟩) ?_ ?_
            rotate_left; (intro w'; go_simp; with_reducible rfl); rotate_left; (simp only [Act.put, la, lb, lc, i64_w, i32_w]; rfl)
            refine pure_ (i := 8) (N := some 143) (v := ?_) (a' := ?_) #[true, true, true, true, true, true, true, false, true, false, false, false, false, false, false, false, false] rfl rfl (any_of HT_.out kr) (fun _ _ _ h => h) (Or.inl ⟨by rfl, ?_⟩) ?_ ?_
            rotate_left; (intro w'; go_simp; with_reducible rfl); rotate_left; (simp only [Act.put, la, lb, lc, i64_w, i32_w]; rfl)
            refine pure_ (i := 12) (N := some 147) (v := ?_) (a' := ?_) #[true, true, true, true, true, true, true, false, true, false, false, false, true, false, false, false, false] rfl rfl (any_of HT_.out kr) (fun _ _ _ h => h) (Or.inl ⟨by rfl, ?_⟩) ?_ ?_
            rotate_left; (intro w'; go_simp; with_reducible rfl); rotate_left; (simp only [Act.put, la, lb, lc, i64_w, i32_w]; rfl)
            refine take_ (i := 7) (N := some 142) (v := ?_) (a' := ?_) #[true, true, true, true, true, true, true, true, true, false, false, false, true, false, false, false, false] rfl rfl (take_ofW HT_.out HW_.out kr) (fun _ _ _ h => h) (Or.inl ⟨by rfl, ?_⟩) hHeld ?_ ?_
            rotate_left
            · rintro w' ⟨s0, s1, s2, s3, s4, s5, s6, s7, s8, s9, s10⟩
              go_simp
              with_reducible rfl
            rotate_left
            · simp only [Act.put, la, lb, lc, i64_w, i32_w]
              rfl
            refine take_ (i := 9) (N := some 144) (v := ?_) (a' := ?_) #[true, true, true, true, true, true, true, true, true, true, false, false, true, false, false, false, false] rfl rfl (take_ofW HT_.out HW_.out kr) (fun _ _ _ h => h) (Or.inl ⟨by rfl, ?_⟩) hHeld ?_ ?_
            rotate_left
            · rintro w' ⟨s0, s1, s2, s3, s4, s5, s6, s7, s8, s9, s10⟩
              go_simp
              with_reducible rfl
            rotate_left
            · simp only [Act.put, la, lb, lc, i64_w, i32_w]
              rfl
            refine pure_ (i := 10) (N := some 145) (v := ?_) (a' := ?_) #[true, true, true, true, true, true, true, true, true, true, true, false, true, false, false, false, false] rfl rfl (any_of HT_.out kr) (fun _ _ _ h => h) (Or.inl ⟨by rfl, ?_⟩) ?_ ?_
            rotate_left; (intro w'; go_simp; with_reducible rfl); rotate_left; (simp only [Act.put, la, lb, lc, i64_w, i32_w]; rfl)
            refine take_ (i := 11) (N := some 146) (v := ?_) (a' := ?_) #[true, true, true, true, true, true, true, true, true, true, true, true, true, false, false, false, false] rfl rfl (take_ofW HT_.out HW_.out kr) (fun _ _ _ h => h) (Or.inl ⟨by rfl, ?_⟩) hHeld ?_ ?_
            rotate_left
            · rintro w' ⟨s0, s1, s2, s3, s4, s5, s6, s7, s8, s9, s10⟩
              go_simp
              with_reducible rfl
            rotate_left
            · simp only [Act.put, la, lb, lc, i64_w, i32_w]
              rfl
            refine take_ (i := 13) (N := some 148) (v := ?_) (a' := ?_) #[true, true, true, true, true, true, true, true, true, true, true, true, true, true, false, false, false] rfl rfl (take_ofW HT_.out HW_.out kr) (fun _ _ _ h => h) (Or.inl ⟨by rfl, ?_⟩) hHeld ?_ ?_
            rotate_left
            · rintro w' ⟨s0, s1, s2, s3, s4, s5, s6, s7, s8, s9, s10⟩
              go_simp
              with_reducible rfl
            rotate_left
            · simp only [Act.put, la, lb, lc, i64_w, i32_w]
              rfl
            refine one_ (i := 14) (N := some 149) #[true, true, true, true, true, true, true, true, true, true, true, true, true, true, true, false, false] rfl rfl (one_of HT_.out kr) (by decide) (fun K hK => ?_)
            refine goes_ Try.func89 kr rfl #[.agg #[.int .i64 a0_5, .int .i64 a0_6, .slice A0_7 l0_7.length c0_7]] (by rfl) rfl rfl u14_2 ?_
            with_reducible refine (impl_RLog_last.calls a0_5 a0_6 _ _ l0_7 t311 _ ?side1 ?side2 A78.out).mono ?_
            (case side1 => exact u14_3)
            (case side2 => exact HC0_7.out)
            rintro e w80 ⟨rfl, hb⟩
            refine ⟨_, rfl, ?_⟩
            have n0_ := am (blk_below (g := gb302) (o := .cells #[.int .i64 a0_0, .int .i64 a0_1, .int .i64 a0_2, .int .i64 a0_3, .int .i64 a0_4, .int .i64 a0_5, .int .i64 a0_6, .slice A0_7 l0_7.length c0_7, .slice A0_8 l0_8.length c0_8, .slice (some ad310) l0_9.length c0_9] 37 (0, 0)) u14_1 hb)
            have n1_ := am (below_step u14_0 hb)
            clear BK302
            clear HB
            have BK302 := n0_
            have HB := n1_
            clear n0_ n1_
            (try clear hb)
            (try clear hb2)
            (try clear hk)
            (try clear hi)
            refine hK.out _ _ ⟨(blk_cell BK302.out 0).trans rfl, (blk_cell BK302.out 1).trans rfl, (blk_cell BK302.out 2).trans rfl, (blk_cell BK302.out 3).trans rfl, (blk_cell BK302.out 4).trans rfl, (blk_cell BK302.out 5).trans rfl, (blk_cell BK302.out 6).trans rfl, (blk_cell BK302.out 7).trans rfl, (blk_cell BK302.out 8).trans rfl, (blk_cell BK302.out 9).trans rfl, ((HB.out.cell (World.block_lt_of_cell? w _ hw310_0)).trans hw310_0)⟩ (fun hHeld => ?_)
            clear hK K
            refine norm_ (a' := ?_) ?_ ?_
            rotate_left
            · show Act.put _ (some 149) _ = _
              simp only [Act.put, la, lb, lc, i64_w, i32_w]
              rfl
            refine pure_ (i := 15) (N := some 150) (v := ?_) (a' := ?_) #[true, true, true, true, true, true, true, true, true, true, true, true, true, true, true, true, false] rfl rfl (any_of HT_.out kr) (fun _ _ _ h => h) (Or.inl ⟨by rfl, ?_⟩) ?_ ?_
            rotate_left; (intro w'; go_simp; with_reducible rfl); rotate_left; (simp only [Act.put, la, lb, lc, i64_w, i32_w]; rfl)
            refine pure_ (i := 16) (N := some 151) (v := ?_) (a' := ?_) #[true, true, true, true, true, true, true, true, true, true, true, true, true, true, true, true, true] rfl rfl (any_of HT_.out kr) (fun _ _ _ h => h) (Or.inl ⟨by rfl, ?_⟩) ?_ ?_
            rotate_left; (intro w'; go_simp; with_reducible rfl); rotate_left; (simp only [Act.put, la, lb, lc, i64_w, i32_w]; rfl)
            refine done_ (done_of HT_.out kr) ?_
            try go_wp2
            go_meet
            case rel => exact ⟨_, (((rd l0_9 a0_0) != t311)), u14_4, H', ⟨u14_11⟩, ⟨u14_1⟩, ⟨u14_0⟩⟩
          clear HC73
          try clear c1
          try clear c2
          try clear p2
          try clear p3
          try clear q3
          try clear hx3
          try clear c4
          try clear c5
          try clear c6
          try clear c7
          try clear c8
          try clear c11
          try clear c25
          try clear c26
          try clear c26b0
          try clear c26b1
          try clear p31
          try clear q31
          try clear hx31
          try clear c49
          try clear c51
          try clear c51b0
          try clear c51b1
          try clear c53
          try clear c53b0
          try clear c53b1
          try clear c56
          try clear c59
          try clear c59b0
          try clear c59b1
          try clear c61
          try clear c63
          try clear c66
          try clear c66b0
          try clear c69
          try clear c69b0
          try clear c69b1
          try clear c72
          try clear c72b0
          try clear c72b1
          try clear c75
          try clear c75b0
          try clear c75b1
          try clear c76
          try clear c76b0
          try clear c77
          try clear c77b0
          try clear hcz52_0
          try clear hcz52_1
          try clear hcz52_2
          try clear hcz52_3
          try clear hcz52_4
          try clear hcz52_5
          try clear hcz52_6
          try clear hcz52_7
          try clear hcz52_8
          try clear hcz52_9
          try clear hcz54_0
          try clear hcz54_1
          try clear hcz54_2
          try clear hcz54_3
          try clear hcz54_4
          try clear hcz54_5
          try clear hcz54_6
          try clear hcz54_7
          try clear hcz54_8
          try clear hcz54_9
          try clear hcz55_0
          try clear hcz55_1
          try clear hcz55_2
          try clear hcz55_3
          try clear hcz55_4
          try clear hcz55_5
          try clear hcz55_6
          try clear hcz55_7
          try clear hcz55_8
          try clear hcz55_9
          try clear hcz58_0
          try clear hcz58_1
          try clear hcz58_2
          try clear hcz58_3
          try clear hcz58_4
          try clear hcz58_5
          try clear hcz58_6
          try clear hcz58_7
          try clear hcz58_8
          try clear hcz58_9
          try clear hcz65_0
          try clear hcz65_1
          try clear hcz65_2
          try clear hcz65_3
          try clear hcz65_4
          try clear hcz65_5
          try clear hcz65_6
          try clear hcz65_7
          try clear hcz65_8
          try clear hcz65_9
          try clear hcz67_0
          try clear hcz67_1
          try clear hcz67_2
          try clear hcz67_3
          try clear hcz67_4
          try clear hcz67_5
          try clear hcz67_6
          try clear hcz67_7
          try clear hcz67_8
          try clear hcz67_9
          try clear hcz68_0
          try clear hcz68_1
          try clear hcz68_2
          try clear hcz68_3
          try clear hcz68_4
          try clear hcz68_5
          try clear hcz68_6
          try clear hcz68_7
          try clear hcz68_8
          try clear hcz68_9
          try clear hcz70_0
          try clear hcz70_1
          try clear hcz70_2
          try clear hcz70_3
          try clear hcz70_4
          try clear hcz70_5
          try clear hcz70_6
          try clear hcz70_7
          try clear hcz70_8
          try clear hcz70_9
          try clear hcz71_0
          try clear hcz71_1
          try clear hcz71_2
          try clear hcz71_3
          try clear hcz71_4
          try clear hcz71_5
          try clear hcz71_6
          try clear hcz71_7
          try clear hcz71_8
          try clear hcz71_9
          try clear hcz74_0
          try clear hcz74_1
          try clear hcz74_2
          try clear hcz74_3
          try clear hcz74_4
          try clear hcz74_5
          try clear hcz74_6
          try clear hcz74_7
          try clear hcz74_8
          try clear hcz74_9
          try clear hx310_0
          try clear p2
          try clear p310
          try clear q310
          obtain ⟨kq, x151_72, rfl, HA, HJ72, BK302, HB⟩ := hcut
          cases kq with
          | zero => exact absurd HA.out (by simp [impl_isNode.j4])
          | succ kj72 =>
            have H := HA.out
            clear HA
            simp only [impl_isNode.j4] at H
            by_cases c82 : x151_72 = true
            · subst c82
              rw [if_pos rfl] at H
              obtain rfl := Option.some.inj H
              go_wp2
              go_ret
              exact ⟨by first | rfl | (simp [errW_none, errW_some] <;> rfl) | (simp [*, errW_none, errW_some] <;> rfl), u14_0⟩
            replace c82 := Bool.eq_false_iff.mpr c82
            subst c82
            rw [if_neg (show ¬ (false = true) by decide)] at H
            replace H := Option.bind_eq_some_iff.mp H
            obtain ⟨t312, A830, H⟩ := H
            have A83 := am A830
            clear A830
            by_cases c84 : t312 ≥ 0
            rotate_left
            · rw [if_neg c84] at H
              have c84b0 : decide (0 ≤ t312) = false := decide_eq_false c84
              clear c84
              obtain rfl := Option.some.inj H
              try go_wp2
              have n0_ := am (blk_drew BK302.out)
              have n1_ := am (below_drew1 HB.out)
              clear BK302
              clear HB
              have BK302 := n0_
              have HB := n1_
              clear n0_ n1_
              refine start_ (n := 14) (S := fun w' => w'.cell? ⟨gb302, 0, none⟩ = some (.int .i64 a0_0) ∧ w'.cell? ⟨gb302, 1, none⟩ = some (.int .i64 a0_1) ∧ w'.cell? ⟨gb302, 2, none⟩ = some (.int .i64 a0_2) ∧ w'.cell? ⟨gb302, 3, none⟩ = some (.int .i64 a0_3) ∧ w'.cell? ⟨gb302, 4, none⟩ = some (.int .i64 a0_4) ∧ w'.cell? ⟨gb302, 5, none⟩ = some (.int .i64 a0_5) ∧ w'.cell? ⟨gb302, 6, none⟩ = some (.int .i64 a0_6) ∧ w'.cell? ⟨gb302, 7, none⟩ = some (.slice A0_7 l0_7.length c0_7) ∧ w'.cell? ⟨gb302, 8, none⟩ = some (.slice A0_8 l0_8.length c0_8) ∧ w'.cell? ⟨gb302, 9, none⟩ = some (.slice A0_9 l0_9.length c0_9)) (ds := []) #[false, false, false, false, false, false, false, false, false, false, false, false, false, false] kr rfl rfl ⟨(blk_cell BK302.out 0).trans rfl, (blk_cell BK302.out 1).trans rfl, (blk_cell BK302.out 2).trans rfl, (blk_cell BK302.out 3).trans rfl, (blk_cell BK302.out 4).trans rfl, (blk_cell BK302.out 5).trans rfl, (blk_cell BK302.out 6).trans rfl, (blk_cell BK302.out 7).trans rfl, (blk_cell BK302.out 8).trans rfl, (blk_cell BK302.out 9).trans rfl⟩ (fun hHeld => ?_); refine with_tabW impl_isNode.tab16 impl_isNode.bits16 (fun HT_ HW_ => ?_)
              generalize wc.drew = w89 at BK302 HB hHeld ⊢
              refine pure_ (i := 0) (N := some 152) (v := ?_) (a' := ?_) #[true, false, false, false, false, false, false, false, false, false, false, false, false, false] rfl rfl (any_of HT_.out kr) (fun _ _ _ h => h) (Or.inl ⟨by rfl, ?_⟩) ?_ ?_
              rotate_left; (intro w'; go_simp; with_reducible rfl); rotate_left; (simp only [Act.put, la, lb, lc, i64_w, i32_w]; rfl)
              refine take_ (i := 1) (N := some 153) (v := ?_) (a' := ?_) #[true, true, false, false, false, false, false, false, false, false, false, false, false, false] rfl rfl (take_ofW HT_.out HW_.out kr) (fun _ _ _ h => h) (Or.inl ⟨by rfl, ?_⟩) hHeld ?_ ?_
              rotate_left
              · rintro w' ⟨s0, s1, s2, s3, s4, s5, s6, s7, s8, s9⟩
                go_simp
                with_reducible rfl
              rotate_left
              · simp only [Act.put, la, lb, lc, i64_w, i32_w]
                rfl
              refine one_ (i := 2) (N := some 154) #[true, true, true, false, false, false, false, false, false, false, false, false, false, false] rfl rfl (one_of HT_.out kr) (by decide) (fun K hK => ?_)
              refine goes_ Try.func116 kr rfl #[.slice A0_9 l0_9.length c0_9] (by rfl) rfl rfl u14_2 ?_
              with_reducible refine (slices_Min_int_int.calls _ _ l0_9 t312 _ ?side1 ?side2 A83.out).mono ?_
              (case side1 => exact u14_9)
              (case side2 => exact HC0_9.out)
              rintro e w' ⟨rfl, ⟨nd, rfl⟩⟩
              refine ⟨_, rfl, ?_⟩
              refine hK.out _ _ ⟨(blk_cell BK302.out 0).trans rfl, (blk_cell BK302.out 1).trans rfl, (blk_cell BK302.out 2).trans rfl, (blk_cell BK302.out 3).trans rfl, (blk_cell BK302.out 4).trans rfl, (blk_cell BK302.out 5).trans rfl, (blk_cell BK302.out 6).trans rfl, (blk_cell BK302.out 7).trans rfl, (blk_cell BK302.out 8).trans rfl, (blk_cell BK302.out 9).trans rfl⟩ (fun hHeld => ?_)
              clear hK K
              refine norm_ (a' := ?_) ?_ ?_
              rotate_left
              · show Act.put _ (some 154) _ = _
                simp only [Act.put, la, lb, lc, i64_w, i32_w]
                rfl
              refine pure_ (i := 3) (N := some 155) (v := ?_) (a' := ?_) #[true, true, true, true, false, false, false, false, false, false, false, false, false, false] rfl rfl (any_of HT_.out kr) (fun _ _ _ h => h) (Or.inl ⟨by rfl, ?_⟩) ?_ ?_
              rotate_left; (intro w'; go_simp; with_reducible rfl); rotate_left; (simp only [Act.put, la, lb, lc, i64_w, i32_w]; rfl)
              refine pure_ (i := 4) (N := some 156) (v := ?_) (a' := ?_) #[true, true, true, true, true, false, false, false, false, false, false, false, false, false] rfl rfl (any_of HT_.out kr) (fun _ _ _ h => h) (Or.inl ⟨by rfl, ?_⟩) ?_ ?_
              rotate_left; (intro w'; go_simp; with_reducible rfl); rotate_left; (simp only [Act.put, la, lb, lc, i64_w, i32_w]; rfl)
              refine pure_ (i := 5) (N := some 157) (v := undef) (a' := ?_) #[true, true, true, true, true, true, false, false, false, false, false, false, false, false] rfl rfl (any_of HT_.out kr) (fun _ _ _ h => h) (Or.inr ⟨by rfl, rfl⟩) ?_ ?_
              rotate_left
              · simp only [Act.put, la, lb, lc, i64_w, i32_w]
                rfl
              refine pure_ (i := 6) (N := some 158) (v := undef) (a' := ?_) #[true, true, true, true, true, true, true, false, false, false, false, false, false, false] rfl rfl (any_of HT_.out kr) (fun _ _ _ h => h) (Or.inr ⟨by rfl, rfl⟩) ?_ ?_
              rotate_left
              · simp only [Act.put, la, lb, lc, i64_w, i32_w]
                rfl
              refine pure_ (i := 7) (N := some 159) (v := undef) (a' := ?_) #[true, true, true, true, true, true, true, true, false, false, false, false, false, false] rfl rfl (any_of HT_.out kr) (fun _ _ _ h => h) (Or.inr ⟨by rfl, rfl⟩) ?_ ?_
              rotate_left
              · simp only [Act.put, la, lb, lc, i64_w, i32_w]
                rfl
              refine pure_ (i := 8) (N := some 160) (v := undef) (a' := ?_) #[true, true, true, true, true, true, true, true, true, false, false, false, false, false] rfl rfl (any_of HT_.out kr) (fun _ _ _ h => h) (Or.inr ⟨by rfl, rfl⟩) ?_ ?_
              rotate_left
              · simp only [Act.put, la, lb, lc, i64_w, i32_w]
                rfl
              refine pure_ (i := 9) (N := some 161) (v := undef) (a' := ?_) #[true, true, true, true, true, true, true, true, true, true, false, false, false, false] rfl rfl (any_of HT_.out kr) (fun _ _ _ h => h) (Or.inr ⟨by rfl, rfl⟩) ?_ ?_
              rotate_left
              · simp only [Act.put, la, lb, lc, i64_w, i32_w]
                rfl
              refine pure_ (i := 10) (N := some 162) (v := undef) (a' := ?_) #[true, true, true, true, true, true, true, true, true, true, true, false, false, false] rfl rfl (any_of HT_.out kr) (fun _ _ _ h => h) (Or.inr ⟨by rfl, rfl⟩) ?_ ?_
              rotate_left
              · simp only [Act.put, la, lb, lc, i64_w, i32_w]
                rfl
              refine pure_ (i := 11) (N := some 163) (v := undef) (a' := ?_) #[true, true, true, true, true, true, true, true, true, true, true, true, false, false] rfl rfl (any_of HT_.out kr) (fun _ _ _ h => h) (Or.inr ⟨by rfl, rfl⟩) ?_ ?_
              rotate_left
              · simp only [Act.put, la, lb, lc, i64_w, i32_w]
                rfl
              refine pure_ (i := 12) (N := some 164) (v := ?_) (a' := ?_) #[true, true, true, true, true, true, true, true, true, true, true, true, true, false] rfl rfl (any_of HT_.out kr) (fun _ _ _ h => h) (Or.inl ⟨by rfl, ?_⟩) ?_ ?_
              rotate_left; (intro w'; go_simp; with_reducible rfl); rotate_left; (simp only [Act.put, la, lb, lc, i64_w, i32_w]; rfl)
              refine pure_ (i := 13) (N := some 4) (v := ?_) (a' := ?_) #[true, true, true, true, true, true, true, true, true, true, true, true, true, true] rfl rfl (any_of HT_.out kr) (fun _ _ _ h => h) (Or.inl ⟨by rfl, ?_⟩) ?_ ?_
              rotate_left; (intro w'; go_simp; with_reducible rfl); rotate_left; (simp only [Act.put, la, lb, lc, i64_w, i32_w]; rfl)
              refine done_ (done_of HT_.out kr) ?_
              try go_wp2
              go_ret
              exact ⟨by first | rfl | (simp [errW_none, errW_some] <;> rfl) | (simp [*, errW_none, errW_some] <;> rfl), u14_0⟩
            rw [if_pos c84] at H
            have c84b0 : decide (0 ≤ t312) = true := decide_eq_true c84
            clear c84
            replace H := Option.bind_eq_some_iff.mp H
            obtain ⟨t313, A850, H⟩ := H
            replace H : ((impl_RLog_last.f a0_5 a0_6 l0_7).bind fun t314 => (some (decide (t313 ≤ t314)))) = some r := H
            have A85 := am A850
            clear A850
            replace H := Option.bind_eq_some_iff.mp H
            obtain ⟨t314, A860, H⟩ := H
            replace H : (some (decide (t313 ≤ t314))) = some r := H
            have A86 := am A860
            clear A860
            obtain rfl := Option.some.inj H
            try go_wp2
            have n0_ := am (blk_drew BK302.out)
            have n1_ := am (below_drew1 HB.out)
            clear BK302
            clear HB
            have BK302 := n0_
            have HB := n1_
            clear n0_ n1_
            refine start_ (n := 14) (S := fun w' => w'.cell? ⟨gb302, 0, none⟩ = some (.int .i64 a0_0) ∧ w'.cell? ⟨gb302, 1, none⟩ = some (.int .i64 a0_1) ∧ w'.cell? ⟨gb302, 2, none⟩ = some (.int .i64 a0_2) ∧ w'.cell? ⟨gb302, 3, none⟩ = some (.int .i64 a0_3) ∧ w'.cell? ⟨gb302, 4, none⟩ = some (.int .i64 a0_4) ∧ w'.cell? ⟨gb302, 5, none⟩ = some (.int .i64 a0_5) ∧ w'.cell? ⟨gb302, 6, none⟩ = some (.int .i64 a0_6) ∧ w'.cell? ⟨gb302, 7, none⟩ = some (.slice A0_7 l0_7.length c0_7) ∧ w'.cell? ⟨gb302, 8, none⟩ = some (.slice A0_8 l0_8.length c0_8) ∧ w'.cell? ⟨gb302, 9, none⟩ = some (.slice A0_9 l0_9.length c0_9)) (ds := []) #[false, false, false, false, false, false, false, false, false, false, false, false, false, false] kr rfl rfl ⟨(blk_cell BK302.out 0).trans rfl, (blk_cell BK302.out 1).trans rfl, (blk_cell BK302.out 2).trans rfl, (blk_cell BK302.out 3).trans rfl, (blk_cell BK302.out 4).trans rfl, (blk_cell BK302.out 5).trans rfl, (blk_cell BK302.out 6).trans rfl, (blk_cell BK302.out 7).trans rfl, (blk_cell BK302.out 8).trans rfl, (blk_cell BK302.out 9).trans rfl⟩ (fun hHeld => ?_); refine with_tabW impl_isNode.tab16 impl_isNode.bits16 (fun HT_ HW_ => ?_)
            generalize wc.drew = w87 at BK302 HB hHeld ⊢
            refine pure_ (i := 0) (N := some 152) (v := ?_) (a' := ?_) #[true, false, false, false, false, false, false, false, false, false, false, false, false, false] rfl rfl (any_of HT_.out kr) (fun _ _ _ h => h) (Or.inl ⟨by rfl, ?_⟩) ?_ ?_
            rotate_left; (intro w'; go_simp; with_reducible rfl); rotate_left; (simp only [Act.put, la, lb, lc, i64_w, i32_w]; rfl)
            refine take_ (i := 1) (N := some 153) (v := ?_) (a' := ?_) #[true, true, false, false, false, false, false, false, false, false, false, false, false, false] rfl rfl (take_ofW HT_.out HW_.out kr) (fun _ _ _ h => h) (Or.inl ⟨by rfl, ?_⟩) hHeld ?_ ?_
            rotate_left
            · rintro w' ⟨s0, s1, s2, s3, s4, s5, s6, s7, s8, s9⟩
              go_simp
              with_reducible rfl
            rotate_left
            · simp only [Act.put, la, lb, lc, i64_w, i32_w]
              rfl
            refine one_ (i := 2) (N := some 154) #[true, true, true, false, false, false, false, false, false, false, false, false, false, false] rfl rfl (one_of HT_.out kr) (by decide) (fun K hK => ?_)
            refine goes_ Try.func116 kr rfl #[.slice A0_9 l0_9.length c0_9] (by rfl) rfl rfl u14_2 ?_
            with_reducible refine (slices_Min_int_int.calls _ _ l0_9 t312 _ ?side1 ?side2 A83.out).mono ?_
            (case side1 => exact u14_9)
            (case side2 => exact HC0_9.out)
            rintro e w' ⟨rfl, ⟨nd, rfl⟩⟩
            refine ⟨_, rfl, ?_⟩
            refine hK.out _ _ ⟨(blk_cell BK302.out 0).trans rfl, (blk_cell BK302.out 1).trans rfl, (blk_cell BK302.out 2).trans rfl, (blk_cell BK302.out 3).trans rfl, (blk_cell BK302.out 4).trans rfl, (blk_cell BK302.out 5).trans rfl, (blk_cell BK302.out 6).trans rfl, (blk_cell BK302.out 7).trans rfl, (blk_cell BK302.out 8).trans rfl, (blk_cell BK302.out 9).trans rfl⟩ (fun hHeld => ?_)
            clear hK K
            refine norm_ (a' := ?_) ?_ ?_
            rotate_left
            · show Act.put _ (some 154) _ = _
              simp only [Act.put, la, lb, lc, i64_w, i32_w]
              rfl
            refine pure_ (i := 3) (N := some 155) (v := ?_) (a' := ?_) #[true, true, true, true, false, false, false, false, false, false, false, false, false, false] rfl rfl (any_of HT_.out kr) (fun _ _ _ h => h) (Or.inl ⟨by rfl, ?_⟩) ?_ ?_
            rotate_left; (intro w'; go_simp; with_reducible rfl); rotate_left; (simp only [Act.put, la, lb, lc, i64_w, i32_w]; rfl)
            refine pure_ (i := 4) (N := some 156) (v := ?_) (a' := ?_) #[true, true, true, true, true, false, false, false, false, false, false, false, false, false] rfl rfl (any_of HT_.out kr) (fun _ _ _ h => h) (Or.inl ⟨by rfl, ?_⟩) ?_ ?_
            rotate_left; (intro w'; go_simp; with_reducible rfl); rotate_left; (simp only [Act.put, la, lb, lc, i64_w, i32_w]; rfl)
            refine pure_ (i := 5) (N := some 157) (v := ?_) (a' := ?_) #[true, true, true, true, true, true, false, false, false, false, false, false, false, false] rfl rfl (any_of HT_.out kr) (fun _ _ _ h => h) (Or.inl ⟨by rfl, ?_⟩) ?_ ?_
            rotate_left; (intro w'; go_simp; with_reducible rfl); rotate_left; (simp only [Act.put, la, lb, lc, i64_w, i32_w]; rfl)
            refine pure_ (i := 8) (N := some 160) (v := ?_) (a' := ?_) #[true, true, true, true, true, true, false, false, true, false, false, false, false, false] rfl rfl (any_of HT_.out kr) (fun _ _ _ h => h) (Or.inl ⟨by rfl, ?_⟩) ?_ ?_
            rotate_left; (intro w'; go_simp; with_reducible rfl); rotate_left; (simp only [Act.put, la, lb, lc, i64_w, i32_w]; rfl)
            refine take_ (i := 6) (N := some 158) (v := ?_) (a' := ?_) #[true, true, true, true, true, true, true, false, true, false, false, false, false, false] rfl rfl (take_ofW HT_.out HW_.out kr) (fun _ _ _ h => h) (Or.inl ⟨by rfl, ?_⟩) hHeld ?_ ?_
            rotate_left
            · rintro w' ⟨s0, s1, s2, s3, s4, s5, s6, s7, s8, s9⟩
              go_simp
              with_reducible rfl
            rotate_left
            · simp only [Act.put, la, lb, lc, i64_w, i32_w]
              rfl
            refine take_ (i := 9) (N := some 161) (v := ?_) (a' := ?_) #[true, true, true, true, true, true, true, false, true, true, false, false, false, false] rfl rfl (take_ofW HT_.out HW_.out kr) (fun _ _ _ h => h) (Or.inl ⟨by rfl, ?_⟩) hHeld ?_ ?_
            rotate_left
            · rintro w' ⟨s0, s1, s2, s3, s4, s5, s6, s7, s8, s9⟩
              go_simp
              with_reducible rfl
            rotate_left
            · simp only [Act.put, la, lb, lc, i64_w, i32_w]
              rfl
            refine one_ (i := 7) (N := some 159) #[true, true, true, true, true, true, true, true, true, true, false, false, false, false] rfl rfl (one_of HT_.out kr) (by decide) (fun K hK => ?_)
            refine goes_ Try.func115 kr rfl #[.slice A0_9 l0_9.length c0_9] (by rfl) rfl rfl u14_2 ?_
            with_reducible refine (slices_Max_int_int.calls _ _ l0_9 t313 _ ?side1 ?side2 A85.out).mono ?_
            (case side1 => exact (by repeat (first | exact (Kd.C_below HR0_9.out u14_0) | (with_reducible refine Kd.C_alloc ?_ _) | (with_reducible refine Kd.C_drewN ?_ _) | (with_reducible refine Kd.C_drew ?_))))
            (case side2 => exact HC0_9.out)
            rintro e w' ⟨rfl, ⟨nd, rfl⟩⟩
            refine ⟨_, rfl, ?_⟩
            refine hK.out _ _ ⟨(blk_cell BK302.out 0).trans rfl, (blk_cell BK302.out 1).trans rfl, (blk_cell BK302.out 2).trans rfl, (blk_cell BK302.out 3).trans rfl, (blk_cell BK302.out 4).trans rfl, (blk_cell BK302.out 5).trans rfl, (blk_cell BK302.out 6).trans rfl, (blk_cell BK302.out 7).trans rfl, (blk_cell BK302.out 8).trans rfl, (blk_cell BK302.out 9).trans rfl⟩ (fun hHeld => ?_)
            clear hK K
            refine norm_ (a' := ?_) ?_ ?_
            rotate_left
            · show Act.put _ (some 159) _ = _
              simp only [Act.put, la, lb, lc, i64_w, i32_w]
              rfl
            refine one_ (i := 10) (N := some 162) #[true, true, true, true, true, true, true, true, true, true, true, false, false, false] rfl rfl (one_of HT_.out kr) (by decide) (fun K hK => ?_)
            refine goes_ Try.func89 kr rfl #[.agg #[.int .i64 a0_5, .int .i64 a0_6, .slice A0_7 l0_7.length c0_7]] (by rfl) rfl rfl u14_2 ?_
            with_reducible refine (impl_RLog_last.calls a0_5 a0_6 _ _ l0_7 t314 _ ?side1 ?side2 A86.out).mono ?_
            (case side1 => exact (by repeat (first | exact (Kd.C_below HR0_7.out u14_0) | (with_reducible refine Kd.C_alloc ?_ _) | (with_reducible refine Kd.C_drewN ?_ _) | (with_reducible refine Kd.C_drew ?_))))
            (case side2 => exact HC0_7.out)
            rintro e w88 ⟨rfl, hb⟩
            refine ⟨_, rfl, ?_⟩
            have n0_ := am (blk_below (g := gb302) (o := .cells #[.int .i64 a0_0, .int .i64 a0_1, .int .i64 a0_2, .int .i64 a0_3, .int .i64 a0_4, .int .i64 a0_5, .int .i64 a0_6, .slice A0_7 l0_7.length c0_7, .slice A0_8 l0_8.length c0_8, .slice A0_9 l0_9.length c0_9] 37 (0, 0)) u14_1 hb)
            have n1_ := am (below_step u14_0 hb)
            clear BK302
            clear HB
            have BK302 := n0_
            have HB := n1_
            clear n0_ n1_
            (try clear hb)
            (try clear hb2)
            (try clear hk)
            (try clear hi)
            refine hK.out _ _ ⟨(blk_cell BK302.out 0).trans rfl, (blk_cell BK302.out 1).trans rfl, (blk_cell BK302.out 2).trans rfl, (blk_cell BK302.out 3).trans rfl, (blk_cell BK302.out 4).trans rfl, (blk_cell BK302.out 5).trans rfl, (blk_cell BK302.out 6).trans rfl, (blk_cell BK302.out 7).trans rfl, (blk_cell BK302.out 8).trans rfl, (blk_cell BK302.out 9).trans rfl⟩ (fun hHeld => ?_)
            clear hK K
            refine norm_ (a' := ?_) ?_ ?_
            rotate_left
            · show Act.put _ (some 162) _ = _
              simp only [Act.put, la, lb, lc, i64_w, i32_w]
              rfl
            refine pure_ (i := 11) (N := some 163) (v := ?_) (a' := ?_) #[true, true, true, true, true, true, true, true, true, true, true, true, false, false] rfl rfl (any_of HT_.out kr) (fun _ _ _ h => h) (Or.inl ⟨by rfl, ?_⟩) ?_ ?_
            rotate_left; (intro w'; go_simp; with_reducible rfl); rotate_left; (simp only [Act.put, la, lb, lc, i64_w, i32_w]; rfl)
            refine pure_ (i := 12) (N := some 164) (v := ?_) (a' := ?_) #[true, true, true, true, true, true, true, true, true, true, true, true, true, false] rfl rfl (any_of HT_.out kr) (fun _ _ _ h => h) (Or.inl ⟨by rfl, ?_⟩) ?_ ?_
            rotate_left; (intro w'; go_simp; with_reducible rfl); rotate_left; (simp only [Act.put, la, lb, lc, i64_w, i32_w]; rfl)
            refine pure_ (i := 13) (N := some 4) (v := ?_) (a' := ?_) #[true, true, true, true, true, true, true, true, true, true, true, true, true, true] rfl rfl (any_of HT_.out kr) (fun _ _ _ h => h) (Or.inl ⟨by rfl, ?_⟩) ?_ ?_
            rotate_left; (intro w'; go_simp; with_reducible rfl); rotate_left; (simp only [Act.put, la, lb, lc, i64_w, i32_w]; rfl)
            refine done_ (done_of HT_.out kr) ?_
            try go_wp2
            go_ret
            exact ⟨by first | rfl | (simp [errW_none, errW_some] <;> rfl) | (simp [*, errW_none, errW_some] <;> rfl), u14_0⟩

end Go.Proofs.Ytkcadcoohmofcaa.QFnExactGroupOk
