-- Printed by the session's own program wip/prx.py.
import Derived.Test.YtkcadcoohmofcaaSqFnExactGroupOk
import Derived.Test.YtkcadcoohmofcaaQFnExactGroupOkx0
import Derived.Test.YtkcadcoohmofcaaQFnExactGroupOkx5
import Derived.Test.YtkcadcoohmofcaaQFnExactGroupOkx7
import Derived.Test.YtkcadcoohmofcaaQFnExactGroupOkx8
namespace Go.Proofs.Ytkcadcoohmofcaa.QFnExactGroupOk
open Go.RowKit Go.Proofs.YtkcadcoohmofcaaW.PrintWords Go.Proofs.YtkcadcoohmofcaaW.PrintLast Go.Proofs.YtkcadcoohmofcaaW.PrintMore Go.Proofs.Ytkcadcoohmofcaa.SqFnExactGroupOk
attribute [local go_sem] max2_int min2_int max_two min_two max_three min_three max_four min_four Go.Proofs.Ytkcadcoohmofcaa.Set.isSome_setCell
set_option linter.unusedVariables false
set_option linter.unusedSimpArgs false

-- squeezed
theorem u9_0 {P : Prop} (h : P := by repeat (first | (with_reducible first | exact HB.out | apply below_alloc | apply pw_below_drewN | apply below_drew1 | refine below_set ?_ GE181.out) | exact HB.out)) : P := h
theorem u9_1 {P : Prop} (h : P := by (with_reducible repeat (first | refine blk_drewN ?_ _ | refine blk_drew ?_ | refine blk_alloc ?_ _)); exact BK181.out) : P := h
theorem u9_2 {P : Prop} (h : P := by (try simp only [List.map_toArray, List.map_cons, List.map_nil]); first | done | rfl | (simp only [List.length_drop, List.length_take]; rfl)) : P := h
theorem u9_3 {P : Prop} (h : P := by first | rfl | (simp; done) | (simp [*]; done)) : P := h
theorem u9_4 {P : Prop} (h : P := by repeat (first | exact (Kd.C_below HR0_7.out HB.out) | (with_reducible refine Kd.C_alloc ?_ _) | (with_reducible refine Kd.C_drewN ?_ _) | (with_reducible refine Kd.C_drew ?_))) : P := h
theorem u9_5 {P : Prop} (h : P := by repeat (first | exact (Kd.C_below HR0_8.out HB.out) | (with_reducible refine Kd.C_alloc ?_ _) | (with_reducible refine Kd.C_drewN ?_ _) | (with_reducible refine Kd.C_drew ?_))) : P := h
theorem u9_6 {P : Prop} (h : P := by repeat (first | (with_reducible first | exact HB.out | apply below_alloc | apply pw_below_drewN | apply below_drew1) | exact HB.out)) : P := h
theorem u9_7 {P : Prop} (h : P := by first | (with_reducible assumption) | assumption) : P := h
theorem u9_8 {P : Prop} (h : P := by repeat (first | exact (Kd.C_below HR0_8.out u9_0) | (with_reducible refine Kd.C_alloc ?_ _) | (with_reducible refine Kd.C_drewN ?_ _) | (with_reducible refine Kd.C_drew ?_))) : P := h
theorem u9_9 {P : Prop} (h : P := by have := HJ2.out; first | omega | exact Nat.le_refl _) : P := h
theorem u9_10 {P : Prop} (h : P := by have := HJ2.out; have := HJ19.out; first | omega | exact Nat.le_refl _) : P := h
theorem u9_11 {P : Prop} (h : P := by have := HJ2.out; have := HJ19.out; have := HJ34.out; first | omega | exact Nat.le_refl _) : P := h
/-! ### spec_NodeOk: function 26 -/
mutual
def spec_NodeOk.j0 : Nat → Int → Bool → Int → Int → Int → Int → Int → Int → Int → List (S85) → List Int → List Int → Option (Bool)
 | 0, _, _, _, _, _, _, _, _, _, _, _, _ => none
 | k + 1, x1, x37, x182000, x182001, x182002, x182003, x182004, x182005, x182006, x182007, x182008, x182009 => if x37 = true then (some false) else ((spec_LastIndex.f k x182005 x182006 x182007).bind fun t187 => (if t187 < 0 then (spec_NodeOk.j1 k x1 t187 true x182000 x182001 x182002 x182003 x182004 x182005 x182006 x182007 x182008 x182009) else (if x182005 = 0 then ((spec_TermAt.f k x182005 x182006 x182007 t187).bind fun t188 => (if t188 > x182001 then (spec_NodeOk.j1 k x1 t187 true x182000 x182001 x182002 x182003 x182004 x182005 x182006 x182007 x182008 x182009) else ((spec_l01In.f x182004 0 t187).bind fun t189 => (spec_NodeOk.j1 k x1 t187 (!t189) x182000 x182001 x182002 x182003 x182004 x182005 x182006 x182007 x182008 x182009)))) else (spec_NodeOk.j1 k x1 t187 true x182000 x182001 x182002 x182003 x182004 x182005 x182006 x182007 x182008 x182009))))
def spec_NodeOk.j1 : Nat → Int → Int → Bool → Int → Int → Int → Int → Int → Int → Int → List (S85) → List Int → List Int → Option (Bool)
 | 0, _, _, _, _, _, _, _, _, _, _, _, _, _ => none
 | k + 1, x1, x5, x64, x182000, x182001, x182002, x182003, x182004, x182005, x182006, x182007, x182008, x182009 => if x64 = true then (some false) else (if x182003 = 0 then (spec_NodeOk.j2 k x1 x5 false x182000 x182001 x182002 x182003 x182004 x182005 x182006 x182007 x182008 x182009) else (if x182002 = x182000 then (spec_NodeOk.j2 k x1 x5 (x182001 == 0) x182000 x182001 x182002 x182003 x182004 x182005 x182006 x182007 x182008 x182009) else (spec_NodeOk.j2 k x1 x5 true x182000 x182001 x182002 x182003 x182004 x182005 x182006 x182007 x182008 x182009)))
def spec_NodeOk.j2 : Nat → Int → Int → Bool → Int → Int → Int → Int → Int → Int → Int → List (S85) → List Int → List Int → Option (Bool)
 | 0, _, _, _, _, _, _, _, _, _, _, _, _, _ => none
 | k + 1, x1, x5, x79, x182000, x182001, x182002, x182003, x182004, x182005, x182006, x182007, x182008, x182009 => if x79 = true then (some false) else (if x182003 = 1 then ((spec_l06Set.f k x182008).bind fun t190 => (if t190 = true then ((spec_l01Has.f k x182008 x182000).bind fun t191 => (if t191 = true then (if 0 ≤ (wrap64 ((x182008.length : Int) - 1)) then (if (wrap64 ((x182008.length : Int) - 1)) < (x182008.length : Int) then (if (rd x182008 (wrap64 ((x182008.length : Int) - 1))) ≥ x1 then (some false) else (spec_NodeOk.j3 k x1 x5 x182000 x182001 x182002 x182003 x182004 x182005 x182006 x182007 x182008 x182009)) else (none)) else (none)) else (some false))) else (some false))) else (if (x182008.length : Int) > 0 then (some false) else (spec_NodeOk.j3 k x1 x5 x182000 x182001 x182002 x182003 x182004 x182005 x182006 x182007 x182008 x182009)))
def spec_NodeOk.j3 : Nat → Int → Int → Int → Int → Int → Int → Int → Int → Int → List (S85) → List Int → List Int → Option (Bool)
 | 0, _, _, _, _, _, _, _, _, _, _, _, _ => none
 | k + 1, x1, x5, x182000, x182001, x182002, x182003, x182004, x182005, x182006, x182007, x182008, x182009 => if x182003 = 2 then (spec_NodeOk.l0 k x1 x5 0 x182000 x182001 x182002 x182003 x182004 x182005 x182006 x182007 x182008 x182009) else (some ((x182009.length : Int) == 0))
def spec_NodeOk.l0 : Nat → Int → Int → Int → Int → Int → Int → Int → Int → Int → Int → List (S85) → List Int → List Int → Option (Bool)
 | 0, _, _, _, _, _, _, _, _, _, _, _, _, _ => none
 | k + 1, x1, x5, x6, x182000, x182001, x182002, x182003, x182004, x182005, x182006, x182007, x182008, x182009 => if x6 < (x182009.length : Int) then (if 0 ≤ x6 then ((spec_l01In.f (rd x182009 x6) 0 x5).bind fun t194 => (if t194 = true then (spec_NodeOk.l0 k x1 x5 (wrap64 (x6 + 1)) x182000 x182001 x182002 x182003 x182004 x182005 x182006 x182007 x182008 x182009) else (some false))) else (none)) else (if (x182009.length : Int) = x1 then (if 0 ≤ x182000 then (if x182000 < (x182009.length : Int) then (some ((rd x182009 x182000) == x5)) else (none)) else (none)) else (some false))
end
def spec_NodeOk.f (k : Nat) (a0_0 : Int) (a0_1 : Int) (a0_2 : Int) (a0_3 : Int) (a0_4 : Int) (a0_5 : Int) (a0_6 : Int) (l0_7 : List (S85)) (l0_8 : List Int) (l0_9 : List Int) (a1 : Int) : Option (Bool) := (spec_l07Size.f a1).bind fun t182 => (if t182 = true then ((spec_l01In.f a0_0 0 (wrap64 (a1 - 1))).bind fun t183 => (if t183 = true then ((spec_l01In.f a0_1 0 1000000).bind fun t184 => (if t184 = true then ((spec_l01In.f a0_2 (-1) (wrap64 (a1 - 1))).bind fun t185 => (if t185 = true then ((spec_l01In.f a0_3 0 2).bind fun t186 => (spec_NodeOk.j0 k a1 (!t186) a0_0 a0_1 a0_2 a0_3 a0_4 a0_5 a0_6 l0_7 l0_8 l0_9)) else (spec_NodeOk.j0 k a1 true a0_0 a0_1 a0_2 a0_3 a0_4 a0_5 a0_6 l0_7 l0_8 l0_9))) else (spec_NodeOk.j0 k a1 true a0_0 a0_1 a0_2 a0_3 a0_4 a0_5 a0_6 l0_7 l0_8 l0_9))) else (spec_NodeOk.j0 k a1 true a0_0 a0_1 a0_2 a0_3 a0_4 a0_5 a0_6 l0_7 l0_8 l0_9))) else (spec_NodeOk.j0 k a1 true a0_0 a0_1 a0_2 a0_3 a0_4 a0_5 a0_6 l0_7 l0_8 l0_9))
theorem spec_NodeOk.mono_l : ∀ k, (∀ y0 y1 y2 y3 y4 y5 y6 y7 y8 y9 y10 y11, LeO (spec_NodeOk.j0 k y0 y1 y2 y3 y4 y5 y6 y7 y8 y9 y10 y11) (spec_NodeOk.j0 (k + 1) y0 y1 y2 y3 y4 y5 y6 y7 y8 y9 y10 y11)) ∧ (∀ y0 y1 y2 y3 y4 y5 y6 y7 y8 y9 y10 y11 y12, LeO (spec_NodeOk.j1 k y0 y1 y2 y3 y4 y5 y6 y7 y8 y9 y10 y11 y12) (spec_NodeOk.j1 (k + 1) y0 y1 y2 y3 y4 y5 y6 y7 y8 y9 y10 y11 y12)) ∧ (∀ y0 y1 y2 y3 y4 y5 y6 y7 y8 y9 y10 y11 y12, LeO (spec_NodeOk.j2 k y0 y1 y2 y3 y4 y5 y6 y7 y8 y9 y10 y11 y12) (spec_NodeOk.j2 (k + 1) y0 y1 y2 y3 y4 y5 y6 y7 y8 y9 y10 y11 y12)) ∧ (∀ y0 y1 y2 y3 y4 y5 y6 y7 y8 y9 y10 y11, LeO (spec_NodeOk.j3 k y0 y1 y2 y3 y4 y5 y6 y7 y8 y9 y10 y11) (spec_NodeOk.j3 (k + 1) y0 y1 y2 y3 y4 y5 y6 y7 y8 y9 y10 y11)) ∧ (∀ y0 y1 y2 y3 y4 y5 y6 y7 y8 y9 y10 y11 y12, LeO (spec_NodeOk.l0 k y0 y1 y2 y3 y4 y5 y6 y7 y8 y9 y10 y11 y12) (spec_NodeOk.l0 (k + 1) y0 y1 y2 y3 y4 y5 y6 y7 y8 y9 y10 y11 y12))
 | 0 => ⟨fun _ _ _ _ _ _ _ _ _ _ _ _ r h => by simp [spec_NodeOk.j0] at h, fun _ _ _ _ _ _ _ _ _ _ _ _ _ r h => by simp [spec_NodeOk.j1] at h, fun _ _ _ _ _ _ _ _ _ _ _ _ _ r h => by simp [spec_NodeOk.j2] at h, fun _ _ _ _ _ _ _ _ _ _ _ _ r h => by simp [spec_NodeOk.j3] at h, fun _ _ _ _ _ _ _ _ _ _ _ _ _ r h => by simp [spec_NodeOk.l0] at h⟩
 | k + 1 => by
   obtain ⟨ih0, ih1, ih2, ih3, ih4⟩ := spec_NodeOk.mono_l k
   refine ⟨?_, ?_, ?_, ?_, ?_⟩
   · intro y0 y1 y2 y3 y4 y5 y6 y7 y8 y9 y10 y11
     unfold spec_NodeOk.j0
     repeat' first
     | (with_reducible exact ih0 _ _ _ _ _ _ _ _ _ _ _ _)
     | (with_reducible exact ih1 _ _ _ _ _ _ _ _ _ _ _ _ _)
     | (with_reducible exact ih2 _ _ _ _ _ _ _ _ _ _ _ _ _)
     | (with_reducible exact ih3 _ _ _ _ _ _ _ _ _ _ _ _)
     | (with_reducible exact ih4 _ _ _ _ _ _ _ _ _ _ _ _ _)
     | (with_reducible exact spec_LastIndex.mono _ _ _ _)
     | (with_reducible exact spec_TermAt.mono _ _ _ _ _)
     | (with_reducible exact spec_l01Has.mono _ _ _)
     | (with_reducible exact spec_l06Set.mono _ _)
     | (with_reducible exact LeO.refl _)
     | (with_reducible exact LeO.none _)
     | (with_reducible refine LeO.ite ?_ ?_)
     | (with_reducible refine LeO.bind ?_ (fun _ => ?_))
     | exact ih0 _ _ _ _ _ _ _ _ _ _ _ _
     | exact ih1 _ _ _ _ _ _ _ _ _ _ _ _ _
     | exact ih2 _ _ _ _ _ _ _ _ _ _ _ _ _
     | exact ih3 _ _ _ _ _ _ _ _ _ _ _ _
     | exact ih4 _ _ _ _ _ _ _ _ _ _ _ _ _
     | exact spec_LastIndex.mono _ _ _ _
     | exact spec_TermAt.mono _ _ _ _ _
     | exact spec_l01Has.mono _ _ _
     | exact spec_l06Set.mono _ _
     | exact LeO.none _
     | refine LeO.ite ?_ ?_
     | refine LeO.bind ?_ (fun _ => ?_)
   · intro y0 y1 y2 y3 y4 y5 y6 y7 y8 y9 y10 y11 y12
     unfold spec_NodeOk.j1
     repeat' first
     | (with_reducible exact ih0 _ _ _ _ _ _ _ _ _ _ _ _)
     | (with_reducible exact ih1 _ _ _ _ _ _ _ _ _ _ _ _ _)
     | (with_reducible exact ih2 _ _ _ _ _ _ _ _ _ _ _ _ _)
     | (with_reducible exact ih3 _ _ _ _ _ _ _ _ _ _ _ _)
     | (with_reducible exact ih4 _ _ _ _ _ _ _ _ _ _ _ _ _)
     | (with_reducible exact spec_LastIndex.mono _ _ _ _)
     | (with_reducible exact spec_TermAt.mono _ _ _ _ _)
     | (with_reducible exact spec_l01Has.mono _ _ _)
     | (with_reducible exact spec_l06Set.mono _ _)
     | (with_reducible exact LeO.refl _)
     | (with_reducible exact LeO.none _)
     | (with_reducible refine LeO.ite ?_ ?_)
     | (with_reducible refine LeO.bind ?_ (fun _ => ?_))
     | exact ih0 _ _ _ _ _ _ _ _ _ _ _ _
     | exact ih1 _ _ _ _ _ _ _ _ _ _ _ _ _
     | exact ih2 _ _ _ _ _ _ _ _ _ _ _ _ _
     | exact ih3 _ _ _ _ _ _ _ _ _ _ _ _
     | exact ih4 _ _ _ _ _ _ _ _ _ _ _ _ _
     | exact spec_LastIndex.mono _ _ _ _
     | exact spec_TermAt.mono _ _ _ _ _
     | exact spec_l01Has.mono _ _ _
     | exact spec_l06Set.mono _ _
     | exact LeO.none _
     | refine LeO.ite ?_ ?_
     | refine LeO.bind ?_ (fun _ => ?_)
   · intro y0 y1 y2 y3 y4 y5 y6 y7 y8 y9 y10 y11 y12
     unfold spec_NodeOk.j2
     repeat' first
     | (with_reducible exact ih0 _ _ _ _ _ _ _ _ _ _ _ _)
     | (with_reducible exact ih1 _ _ _ _ _ _ _ _ _ _ _ _ _)
     | (with_reducible exact ih2 _ _ _ _ _ _ _ _ _ _ _ _ _)
     | (with_reducible exact ih3 _ _ _ _ _ _ _ _ _ _ _ _)
     | (with_reducible exact ih4 _ _ _ _ _ _ _ _ _ _ _ _ _)
     | (with_reducible exact spec_LastIndex.mono _ _ _ _)
     | (with_reducible exact spec_TermAt.mono _ _ _ _ _)
     | (with_reducible exact spec_l01Has.mono _ _ _)
     | (with_reducible exact spec_l06Set.mono _ _)
     | (with_reducible exact LeO.refl _)
     | (with_reducible exact LeO.none _)
     | (with_reducible refine LeO.ite ?_ ?_)
     | (with_reducible refine LeO.bind ?_ (fun _ => ?_))
     | exact ih0 _ _ _ _ _ _ _ _ _ _ _ _
     | exact ih1 _ _ _ _ _ _ _ _ _ _ _ _ _
     | exact ih2 _ _ _ _ _ _ _ _ _ _ _ _ _
     | exact ih3 _ _ _ _ _ _ _ _ _ _ _ _
     | exact ih4 _ _ _ _ _ _ _ _ _ _ _ _ _
     | exact spec_LastIndex.mono _ _ _ _
     | exact spec_TermAt.mono _ _ _ _ _
     | exact spec_l01Has.mono _ _ _
     | exact spec_l06Set.mono _ _
     | exact LeO.none _
     | refine LeO.ite ?_ ?_
     | refine LeO.bind ?_ (fun _ => ?_)
   · intro y0 y1 y2 y3 y4 y5 y6 y7 y8 y9 y10 y11
     unfold spec_NodeOk.j3
     repeat' first
     | (with_reducible exact ih0 _ _ _ _ _ _ _ _ _ _ _ _)
     | (with_reducible exact ih1 _ _ _ _ _ _ _ _ _ _ _ _ _)
     | (with_reducible exact ih2 _ _ _ _ _ _ _ _ _ _ _ _ _)
     | (with_reducible exact ih3 _ _ _ _ _ _ _ _ _ _ _ _)
     | (with_reducible exact ih4 _ _ _ _ _ _ _ _ _ _ _ _ _)
     | (with_reducible exact spec_LastIndex.mono _ _ _ _)
     | (with_reducible exact spec_TermAt.mono _ _ _ _ _)
     | (with_reducible exact spec_l01Has.mono _ _ _)
     | (with_reducible exact spec_l06Set.mono _ _)
     | (with_reducible exact LeO.refl _)
     | (with_reducible exact LeO.none _)
     | (with_reducible refine LeO.ite ?_ ?_)
     | (with_reducible refine LeO.bind ?_ (fun _ => ?_))
     | exact ih0 _ _ _ _ _ _ _ _ _ _ _ _
     | exact ih1 _ _ _ _ _ _ _ _ _ _ _ _ _
     | exact ih2 _ _ _ _ _ _ _ _ _ _ _ _ _
     | exact ih3 _ _ _ _ _ _ _ _ _ _ _ _
     | exact ih4 _ _ _ _ _ _ _ _ _ _ _ _ _
     | exact spec_LastIndex.mono _ _ _ _
     | exact spec_TermAt.mono _ _ _ _ _
     | exact spec_l01Has.mono _ _ _
     | exact spec_l06Set.mono _ _
     | exact LeO.none _
     | refine LeO.ite ?_ ?_
     | refine LeO.bind ?_ (fun _ => ?_)
   · intro y0 y1 y2 y3 y4 y5 y6 y7 y8 y9 y10 y11 y12
     unfold spec_NodeOk.l0
     repeat' first
     | (with_reducible exact ih0 _ _ _ _ _ _ _ _ _ _ _ _)
     | (with_reducible exact ih1 _ _ _ _ _ _ _ _ _ _ _ _ _)
     | (with_reducible exact ih2 _ _ _ _ _ _ _ _ _ _ _ _ _)
     | (with_reducible exact ih3 _ _ _ _ _ _ _ _ _ _ _ _)
     | (with_reducible exact ih4 _ _ _ _ _ _ _ _ _ _ _ _ _)
     | (with_reducible exact spec_LastIndex.mono _ _ _ _)
     | (with_reducible exact spec_TermAt.mono _ _ _ _ _)
     | (with_reducible exact spec_l01Has.mono _ _ _)
     | (with_reducible exact spec_l06Set.mono _ _)
     | (with_reducible exact LeO.refl _)
     | (with_reducible exact LeO.none _)
     | (with_reducible refine LeO.ite ?_ ?_)
     | (with_reducible refine LeO.bind ?_ (fun _ => ?_))
     | exact ih0 _ _ _ _ _ _ _ _ _ _ _ _
     | exact ih1 _ _ _ _ _ _ _ _ _ _ _ _ _
     | exact ih2 _ _ _ _ _ _ _ _ _ _ _ _ _
     | exact ih3 _ _ _ _ _ _ _ _ _ _ _ _
     | exact ih4 _ _ _ _ _ _ _ _ _ _ _ _ _
     | exact spec_LastIndex.mono _ _ _ _
     | exact spec_TermAt.mono _ _ _ _ _
     | exact spec_l01Has.mono _ _ _
     | exact spec_l06Set.mono _ _
     | exact LeO.none _
     | refine LeO.ite ?_ ?_
     | refine LeO.bind ?_ (fun _ => ?_)
theorem spec_NodeOk.mono : ∀ a0 a1 a2 a3 a4 a5 a6 a7 a8 a9 a10 k, LeO (spec_NodeOk.f k a0 a1 a2 a3 a4 a5 a6 a7 a8 a9 a10) (spec_NodeOk.f (k + 1) a0 a1 a2 a3 a4 a5 a6 a7 a8 a9 a10) := by
 intro a0 a1 a2 a3 a4 a5 a6 a7 a8 a9 a10 k
 obtain ⟨ih0, ih1, ih2, ih3, ih4⟩ := spec_NodeOk.mono_l k
 unfold spec_NodeOk.f
 repeat' first
     | (with_reducible exact ih0 _ _ _ _ _ _ _ _ _ _ _ _)
     | (with_reducible exact ih1 _ _ _ _ _ _ _ _ _ _ _ _ _)
     | (with_reducible exact ih2 _ _ _ _ _ _ _ _ _ _ _ _ _)
     | (with_reducible exact ih3 _ _ _ _ _ _ _ _ _ _ _ _)
     | (with_reducible exact ih4 _ _ _ _ _ _ _ _ _ _ _ _ _)
     | (with_reducible exact spec_LastIndex.mono _ _ _ _)
     | (with_reducible exact spec_TermAt.mono _ _ _ _ _)
     | (with_reducible exact spec_l01Has.mono _ _ _)
     | (with_reducible exact spec_l06Set.mono _ _)
     | (with_reducible exact LeO.refl _)
     | (with_reducible exact LeO.none _)
     | (with_reducible refine LeO.ite ?_ ?_)
     | (with_reducible refine LeO.bind ?_ (fun _ => ?_))
     | exact ih0 _ _ _ _ _ _ _ _ _ _ _ _
     | exact ih1 _ _ _ _ _ _ _ _ _ _ _ _ _
     | exact ih2 _ _ _ _ _ _ _ _ _ _ _ _ _
     | exact ih3 _ _ _ _ _ _ _ _ _ _ _ _
     | exact ih4 _ _ _ _ _ _ _ _ _ _ _ _ _
     | exact spec_LastIndex.mono _ _ _ _
     | exact spec_TermAt.mono _ _ _ _ _
     | exact spec_l01Has.mono _ _ _
     | exact spec_l06Set.mono _ _
     | exact LeO.none _
     | refine LeO.ite ?_ ?_
     | refine LeO.bind ?_ (fun _ => ?_)
def spec_NodeOk.T4 : Bool × List (List Nat × List Nat) := (true, [([], []), ([0], [0]), ([1], [1]), ([2], [2]), ([3, 2], [2, 3]), ([4, 2], [2, 4]), ([5, 2], [2, 5]), ([2, 6], [2, 6]), ([7, 2], [7]), ([8], [8]), ([9, 8], [8, 9]), ([8], [8]), ([10, 11, 8, 8], [8, 10, 11]), ([8], [8]), ([13, 8], [8, 13]), ([12, 14, 8], [8, 12, 14]), ([8, 15], [8, 15]), ([16, 12], [16]), ([17], [17]), ([18, 17], [17, 18]), ([17], [17]), ([19, 20, 17, 17], [17, 19, 20]), ([21, 17], [17, 21]), ([17, 22], [17, 22])])
def spec_NodeOk.B4 : List Nat := [0, 1, 3, 7, 15, 31, 63, 127, 255, 511, 1023, 511, 4095, 511, 8703, 32767, 65535, 131071, 262143, 524287, 262143, 2097151, 4194303, 8388607]
theorem spec_NodeOk.tab4 : rtab .any (opsOf Try.f26 4) = spec_NodeOk.T4 := by kernel_rfl
theorem spec_NodeOk.bits4 : waitsOk spec_NodeOk.T4.2 spec_NodeOk.B4 = true := by kernel_rfl
set_option maxHeartbeats 8000000 in
set_option maxRecDepth 100000 in
theorem spec_NodeOk.calls (k : Nat) (a0_0 : Int) (a0_1 : Int) (a0_2 : Int) (a0_3 : Int) (a0_4 : Int) (a0_5 : Int) (a0_6 : Int) (A0_7 : Option Addr) (c0_7 : Nat) (l0_7 : List (S85)) (A0_8 : Option Addr) (c0_8 : Nat) (l0_8 : List Int) (A0_9 : Option Addr) (c0_9 : Nat) (l0_9 : List Int) (a1 : Int) (r : Bool) (w : World) (hr0_7 : Kd.C k85 w A0_7 l0_7.length l0_7) (hc0_7 : l0_7.length ≤ c0_7) (hr0_8 : Kd.C (Kd.int .i64) w A0_8 l0_8.length l0_8) (hc0_8 : l0_8.length ≤ c0_8) (hr0_9 : Kd.C (Kd.int .i64) w A0_9 l0_9.length l0_9) (hc0_9 : l0_9.length ≤ c0_9) (h : spec_NodeOk.f k a0_0 a0_1 a0_2 a0_3 a0_4 a0_5 a0_6 l0_7 l0_8 l0_9 a1 = some r) :
   Calls Try.prog 26 #[.agg #[.int .i64 a0_0, .int .i64 a0_1, .int .i64 a0_2, .int .i64 a0_3, .int .i64 a0_4, .int .i64 a0_5, .int .i64 a0_6, .slice A0_7 l0_7.length c0_7, .slice A0_8 l0_8.length c0_8, .slice A0_9 l0_9.length c0_9], .int .i64 a1] w fun e w' => e = .returned (.bool r) ∧ Below w.heap.size w w' := by
 have hu37 := Try.underlying37
 have hu34 := Try.underlying34
 have HR0_7 := am hr0_7
 have HC0_7 := am hc0_7
 clear hr0_7 hc0_7
 have HR0_8 := am hr0_8
 have HC0_8 := am hc0_8
 clear hr0_8 hc0_8
 have HR0_9 := am hr0_9
 have HC0_9 := am hc0_9
 clear hr0_9 hc0_9
 have HB := am (Below.refl w.heap.size w)
 have H : ((spec_l07Size.f a1).bind fun t182 => (if t182 = true then ((spec_l01In.f a0_0 0 (wrap64 (a1 - 1))).bind fun t183 => (if t183 = true then ((spec_l01In.f a0_1 0 1000000).bind fun t184 => (if t184 = true then ((spec_l01In.f a0_2 (-1) (wrap64 (a1 - 1))).bind fun t185 => (if t185 = true then ((spec_l01In.f a0_3 0 2).bind fun t186 => (spec_NodeOk.j0 k a1 (!t186) a0_0 a0_1 a0_2 a0_3 a0_4 a0_5 a0_6 l0_7 l0_8 l0_9)) else (spec_NodeOk.j0 k a1 true a0_0 a0_1 a0_2 a0_3 a0_4 a0_5 a0_6 l0_7 l0_8 l0_9))) else (spec_NodeOk.j0 k a1 true a0_0 a0_1 a0_2 a0_3 a0_4 a0_5 a0_6 l0_7 l0_8 l0_9))) else (spec_NodeOk.j0 k a1 true a0_0 a0_1 a0_2 a0_3 a0_4 a0_5 a0_6 l0_7 l0_8 l0_9))) else (spec_NodeOk.j0 k a1 true a0_0 a0_1 a0_2 a0_3 a0_4 a0_5 a0_6 l0_7 l0_8 l0_9))) = some r := h
 clear h
 have HC3 := am H
 clear H
 go_enter Try.func26, Try.ntmps26
 go_upto_region 1 with (first | ((with_reducible refine gate_dst (N := 2) rfl ?_); (try (refine gate_guard (by rfl) ?_; dsimp only)); refine box_event ?hg (N := 2) ?hd (cs := #[.int .i64 a0_0, .int .i64 a0_1, .int .i64 a0_2, .int .i64 a0_3, .int .i64 a0_4, .int .i64 a0_5, .int .i64 a0_6, .slice A0_7 l0_7.length c0_7, .slice A0_8 l0_8.length c0_8, .slice A0_9 l0_9.length c0_9]) (t := 37) ?hr ?_; (case hd => rfl); (case hg => rfl); (case hr => first | (go_simp; done) | (go_simp; rfl)); intro gb181 hg w4 hbox hb; have n0_ := am (below_step u9_6 hb); have n1_ := am (hbox); have n2_ := am ((by rw [hg]; exact (below_size u9_6) : w.heap.size ≤ gb181)); have n3_ := am ((by rw [hg]; exact (below_size u9_6) : w.heap.size ≤ gb181)); clear HB; have HB := n0_; have BK181 := n1_; have GW181 := n2_; have GE181 := n3_; clear n0_ n1_ n2_ n3_; clear hb hbox hg))
 (try simp only [Act.put, la, lb, lc])
 go_cut [37] (fun v37 wc => ∃ (kq : Nat) (x37_2 : Bool), v37 = .bool x37_2 ∧ Aside0 (spec_NodeOk.j0 kq a1 x37_2 a0_0 a0_1 a0_2 a0_3 a0_4 a0_5 a0_6 l0_7 l0_8 l0_9 = some r) ∧ Aside0 (kq ≤ k) ∧ Aside0 (wc.heap[gb181]? = some (.cells #[.int .i64 a0_0, .int .i64 a0_1, .int .i64 a0_2, .int .i64 a0_3, .int .i64 a0_4, .int .i64 a0_5, .int .i64 a0_6, (.slice A0_7 l0_7.length c0_7), (.slice A0_8 l0_8.length c0_8), (.slice A0_9 l0_9.length c0_9)] 37 (0, 0))) ∧ Aside0 (Below w.heap.size w wc))
 case first =>
   have H := HC3.out
   clear HC3
   replace H := Option.bind_eq_some_iff.mp H
   obtain ⟨t182, A50, H⟩ := H
   have A5 := am A50
   clear A50
   by_cases c6 : t182 = true
   rotate_left
   · replace c6 := Bool.eq_false_iff.mpr c6
     subst c6
     rw [if_neg (show ¬ (false = true) by decide)] at H
     have H' := am H
     clear H
     go_wp2_with (first | ((with_reducible refine gate_callee (f := 62) rfl ?_); refine goesL_ (some 8) rfl rfl Try.func62 kr rfl #[.int .i64 a1] rfl u9_2 ?_; (with_reducible refine (spec_l07Size.calls a1 false _ A5.out).mono ?_); rintro e w' ⟨rfl, ⟨nd, rfl⟩⟩; refine ⟨_, rfl, ?_⟩))
     go_meet
     case rel => exact ⟨_, (true), u9_3, H', ⟨by first | omega | exact Nat.le_refl _⟩, ⟨u9_1⟩, ⟨u9_0⟩⟩
   subst c6
   rw [if_pos rfl] at H
   replace H := Option.bind_eq_some_iff.mp H
   obtain ⟨t183, A70, H⟩ := H
   have A7 := am A70
   clear A70
   by_cases c8 : t183 = true
   rotate_left
   · replace c8 := Bool.eq_false_iff.mpr c8
     subst c8
     rw [if_neg (show ¬ (false = true) by decide)] at H
     have H' := am H
     clear H
     go_wp2_with (first | ((with_reducible refine gate_callee (f := 62) rfl ?_); refine goesL_ (some 8) rfl rfl Try.func62 kr rfl #[.int .i64 a1] rfl u9_2 ?_; (with_reducible refine (spec_l07Size.calls a1 true _ A5.out).mono ?_); rintro e w' ⟨rfl, ⟨nd, rfl⟩⟩; refine ⟨_, rfl, ?_⟩; have hcz17_0 : w4.cell? ⟨gb181, 0, none⟩ = some (.int .i64 a0_0) := (blk_cell BK181.out 0).trans rfl; have hcz17_1 : w4.cell? ⟨gb181, 1, none⟩ = some (.int .i64 a0_1) := (blk_cell BK181.out 1).trans rfl; have hcz17_2 : w4.cell? ⟨gb181, 2, none⟩ = some (.int .i64 a0_2) := (blk_cell BK181.out 2).trans rfl; have hcz17_3 : w4.cell? ⟨gb181, 3, none⟩ = some (.int .i64 a0_3) := (blk_cell BK181.out 3).trans rfl; have hcz17_4 : w4.cell? ⟨gb181, 4, none⟩ = some (.int .i64 a0_4) := (blk_cell BK181.out 4).trans rfl; have hcz17_5 : w4.cell? ⟨gb181, 5, none⟩ = some (.int .i64 a0_5) := (blk_cell BK181.out 5).trans rfl; have hcz17_6 : w4.cell? ⟨gb181, 6, none⟩ = some (.int .i64 a0_6) := (blk_cell BK181.out 6).trans rfl; have hcz17_7 : w4.cell? ⟨gb181, 7, none⟩ = some (.slice A0_7 l0_7.length c0_7) := (blk_cell BK181.out 7).trans rfl; have hcz17_8 : w4.cell? ⟨gb181, 8, none⟩ = some (.slice A0_8 l0_8.length c0_8) := (blk_cell BK181.out 8).trans rfl; have hcz17_9 : w4.cell? ⟨gb181, 9, none⟩ = some (.slice A0_9 l0_9.length c0_9) := (blk_cell BK181.out 9).trans rfl) | (go_at_call 63; (with_reducible refine (spec_l01In.calls a0_0 0 (wrap64 (a1 - 1)) false _ A7.out).mono ?_); rintro e w' ⟨rfl, ⟨nd, rfl⟩⟩))
     go_meet
     case rel => exact ⟨_, (true), u9_3, H', ⟨by first | omega | exact Nat.le_refl _⟩, ⟨u9_1⟩, ⟨u9_0⟩⟩
   subst c8
   rw [if_pos rfl] at H
   replace H := Option.bind_eq_some_iff.mp H
   obtain ⟨t184, A90, H⟩ := H
   have A9 := am A90
   clear A90
   by_cases c10 : t184 = true
   rotate_left
   · replace c10 := Bool.eq_false_iff.mpr c10
     subst c10
     rw [if_neg (show ¬ (false = true) by decide)] at H
     have H' := am H
     clear H
     go_wp2_with (first | ((with_reducible refine gate_callee (f := 62) rfl ?_); refine goesL_ (some 8) rfl rfl Try.func62 kr rfl #[.int .i64 a1] rfl u9_2 ?_; (with_reducible refine (spec_l07Size.calls a1 true _ A5.out).mono ?_); rintro e w' ⟨rfl, ⟨nd, rfl⟩⟩; refine ⟨_, rfl, ?_⟩; have hcz16_0 : w4.cell? ⟨gb181, 0, none⟩ = some (.int .i64 a0_0) := (blk_cell BK181.out 0).trans rfl; have hcz16_1 : w4.cell? ⟨gb181, 1, none⟩ = some (.int .i64 a0_1) := (blk_cell BK181.out 1).trans rfl; have hcz16_2 : w4.cell? ⟨gb181, 2, none⟩ = some (.int .i64 a0_2) := (blk_cell BK181.out 2).trans rfl; have hcz16_3 : w4.cell? ⟨gb181, 3, none⟩ = some (.int .i64 a0_3) := (blk_cell BK181.out 3).trans rfl; have hcz16_4 : w4.cell? ⟨gb181, 4, none⟩ = some (.int .i64 a0_4) := (blk_cell BK181.out 4).trans rfl; have hcz16_5 : w4.cell? ⟨gb181, 5, none⟩ = some (.int .i64 a0_5) := (blk_cell BK181.out 5).trans rfl; have hcz16_6 : w4.cell? ⟨gb181, 6, none⟩ = some (.int .i64 a0_6) := (blk_cell BK181.out 6).trans rfl; have hcz16_7 : w4.cell? ⟨gb181, 7, none⟩ = some (.slice A0_7 l0_7.length c0_7) := (blk_cell BK181.out 7).trans rfl; have hcz16_8 : w4.cell? ⟨gb181, 8, none⟩ = some (.slice A0_8 l0_8.length c0_8) := (blk_cell BK181.out 8).trans rfl; have hcz16_9 : w4.cell? ⟨gb181, 9, none⟩ = some (.slice A0_9 l0_9.length c0_9) := (blk_cell BK181.out 9).trans rfl) | (go_at_call 63; (with_reducible refine (spec_l01In.calls a0_0 0 (wrap64 (a1 - 1)) true _ A7.out).mono ?_); rintro e w' ⟨rfl, ⟨nd, rfl⟩⟩) | (go_at_call 63; (with_reducible refine (spec_l01In.calls a0_1 0 1000000 false _ A9.out).mono ?_); rintro e w' ⟨rfl, ⟨nd, rfl⟩⟩))
     go_meet
     case rel => exact ⟨_, (true), u9_3, H', ⟨by first | omega | exact Nat.le_refl _⟩, ⟨u9_1⟩, ⟨u9_0⟩⟩
   subst c10
   rw [if_pos rfl] at H
   replace H := Option.bind_eq_some_iff.mp H
   obtain ⟨t185, A110, H⟩ := H
   have A11 := am A110
   clear A110
   by_cases c12 : t185 = true
   rotate_left
   · replace c12 := Bool.eq_false_iff.mpr c12
     subst c12
     rw [if_neg (show ¬ (false = true) by decide)] at H
     have H' := am H
     clear H
     go_wp2_with (first | ((with_reducible refine gate_callee (f := 62) rfl ?_); refine goesL_ (some 8) rfl rfl Try.func62 kr rfl #[.int .i64 a1] rfl u9_2 ?_; (with_reducible refine (spec_l07Size.calls a1 true _ A5.out).mono ?_); rintro e w' ⟨rfl, ⟨nd, rfl⟩⟩; refine ⟨_, rfl, ?_⟩; have hcz15_0 : w4.cell? ⟨gb181, 0, none⟩ = some (.int .i64 a0_0) := (blk_cell BK181.out 0).trans rfl; have hcz15_1 : w4.cell? ⟨gb181, 1, none⟩ = some (.int .i64 a0_1) := (blk_cell BK181.out 1).trans rfl; have hcz15_2 : w4.cell? ⟨gb181, 2, none⟩ = some (.int .i64 a0_2) := (blk_cell BK181.out 2).trans rfl; have hcz15_3 : w4.cell? ⟨gb181, 3, none⟩ = some (.int .i64 a0_3) := (blk_cell BK181.out 3).trans rfl; have hcz15_4 : w4.cell? ⟨gb181, 4, none⟩ = some (.int .i64 a0_4) := (blk_cell BK181.out 4).trans rfl; have hcz15_5 : w4.cell? ⟨gb181, 5, none⟩ = some (.int .i64 a0_5) := (blk_cell BK181.out 5).trans rfl; have hcz15_6 : w4.cell? ⟨gb181, 6, none⟩ = some (.int .i64 a0_6) := (blk_cell BK181.out 6).trans rfl; have hcz15_7 : w4.cell? ⟨gb181, 7, none⟩ = some (.slice A0_7 l0_7.length c0_7) := (blk_cell BK181.out 7).trans rfl; have hcz15_8 : w4.cell? ⟨gb181, 8, none⟩ = some (.slice A0_8 l0_8.length c0_8) := (blk_cell BK181.out 8).trans rfl; have hcz15_9 : w4.cell? ⟨gb181, 9, none⟩ = some (.slice A0_9 l0_9.length c0_9) := (blk_cell BK181.out 9).trans rfl) | (go_at_call 63; (with_reducible refine (spec_l01In.calls a0_0 0 (wrap64 (a1 - 1)) true _ A7.out).mono ?_); rintro e w' ⟨rfl, ⟨nd, rfl⟩⟩) | (go_at_call 63; (with_reducible refine (spec_l01In.calls a0_1 0 1000000 true _ A9.out).mono ?_); rintro e w' ⟨rfl, ⟨nd, rfl⟩⟩) | (go_at_call 63; (with_reducible refine (spec_l01In.calls a0_2 (-1) (wrap64 (a1 - 1)) false _ A11.out).mono ?_); rintro e w' ⟨rfl, ⟨nd, rfl⟩⟩))
     go_meet
     case rel => exact ⟨_, (true), u9_3, H', ⟨by first | omega | exact Nat.le_refl _⟩, ⟨u9_1⟩, ⟨u9_0⟩⟩
   subst c12
   rw [if_pos rfl] at H
   replace H := Option.bind_eq_some_iff.mp H
   obtain ⟨t186, A130, H⟩ := H
   replace H : (spec_NodeOk.j0 k a1 (!t186) a0_0 a0_1 a0_2 a0_3 a0_4 a0_5 a0_6 l0_7 l0_8 l0_9) = some r := H
   have A13 := am A130
   clear A130
   have H' := am H
   clear H
   go_wp2_with (first | ((with_reducible refine gate_callee (f := 62) rfl ?_); refine goesL_ (some 8) rfl rfl Try.func62 kr rfl #[.int .i64 a1] rfl u9_2 ?_; (with_reducible refine (spec_l07Size.calls a1 true _ A5.out).mono ?_); rintro e w' ⟨rfl, ⟨nd, rfl⟩⟩; refine ⟨_, rfl, ?_⟩; have hcz14_0 : w4.cell? ⟨gb181, 0, none⟩ = some (.int .i64 a0_0) := (blk_cell BK181.out 0).trans rfl; have hcz14_1 : w4.cell? ⟨gb181, 1, none⟩ = some (.int .i64 a0_1) := (blk_cell BK181.out 1).trans rfl; have hcz14_2 : w4.cell? ⟨gb181, 2, none⟩ = some (.int .i64 a0_2) := (blk_cell BK181.out 2).trans rfl; have hcz14_3 : w4.cell? ⟨gb181, 3, none⟩ = some (.int .i64 a0_3) := (blk_cell BK181.out 3).trans rfl; have hcz14_4 : w4.cell? ⟨gb181, 4, none⟩ = some (.int .i64 a0_4) := (blk_cell BK181.out 4).trans rfl; have hcz14_5 : w4.cell? ⟨gb181, 5, none⟩ = some (.int .i64 a0_5) := (blk_cell BK181.out 5).trans rfl; have hcz14_6 : w4.cell? ⟨gb181, 6, none⟩ = some (.int .i64 a0_6) := (blk_cell BK181.out 6).trans rfl; have hcz14_7 : w4.cell? ⟨gb181, 7, none⟩ = some (.slice A0_7 l0_7.length c0_7) := (blk_cell BK181.out 7).trans rfl; have hcz14_8 : w4.cell? ⟨gb181, 8, none⟩ = some (.slice A0_8 l0_8.length c0_8) := (blk_cell BK181.out 8).trans rfl; have hcz14_9 : w4.cell? ⟨gb181, 9, none⟩ = some (.slice A0_9 l0_9.length c0_9) := (blk_cell BK181.out 9).trans rfl) | (go_at_call 63; (with_reducible refine (spec_l01In.calls a0_0 0 (wrap64 (a1 - 1)) true _ A7.out).mono ?_); rintro e w' ⟨rfl, ⟨nd, rfl⟩⟩) | (go_at_call 63; (with_reducible refine (spec_l01In.calls a0_1 0 1000000 true _ A9.out).mono ?_); rintro e w' ⟨rfl, ⟨nd, rfl⟩⟩) | (go_at_call 63; (with_reducible refine (spec_l01In.calls a0_2 (-1) (wrap64 (a1 - 1)) true _ A11.out).mono ?_); rintro e w' ⟨rfl, ⟨nd, rfl⟩⟩) | (go_at_call 63; (with_reducible refine (spec_l01In.calls a0_3 0 2 t186 _ A13.out).mono ?_); rintro e w' ⟨rfl, ⟨nd, rfl⟩⟩))
   go_meet
   case rel => exact ⟨_, (!t186), u9_3, H', ⟨by first | omega | exact Nat.le_refl _⟩, ⟨u9_1⟩, ⟨u9_0⟩⟩
 clear HC3
 try clear c1
 try clear c2
 try clear p2
 try clear c6
 try clear p6
 try clear c8
 try clear c10
 try clear c12
 try clear hcz14_0
 try clear hcz14_1
 try clear hcz14_2
 try clear hcz14_3
 try clear hcz14_4
 try clear hcz14_5
 try clear hcz14_6
 try clear hcz14_7
 try clear hcz14_8
 try clear hcz14_9
 try clear hcz15_0
 try clear hcz15_1
 try clear hcz15_2
 try clear hcz15_3
 try clear hcz15_4
 try clear hcz15_5
 try clear hcz15_6
 try clear hcz15_7
 try clear hcz15_8
 try clear hcz15_9
 try clear hcz16_0
 try clear hcz16_1
 try clear hcz16_2
 try clear hcz16_3
 try clear hcz16_4
 try clear hcz16_5
 try clear hcz16_6
 try clear hcz16_7
 try clear hcz16_8
 try clear hcz16_9
 try clear hcz17_0
 try clear hcz17_1
 try clear hcz17_2
 try clear hcz17_3
 try clear hcz17_4
 try clear hcz17_5
 try clear hcz17_6
 try clear hcz17_7
 try clear hcz17_8
 try clear hcz17_9
 obtain ⟨kq, x37_2, rfl, HA, HJ2, BK181, HB⟩ := hcut
 cases kq with
 | zero => exact absurd HA.out (by simp [spec_NodeOk.j0])
 | succ kj2 =>
   have H := HA.out
   clear HA
   simp only [spec_NodeOk.j0] at H
   by_cases c18 : x37_2 = true
   · subst c18
     rw [if_pos rfl] at H
     obtain rfl := Option.some.inj H
     go_wp2
     go_ret
     exact ⟨by first | rfl | (simp [errW_none, errW_some] <;> rfl) | (simp [*, errW_none, errW_some] <;> rfl), u9_0⟩
   replace c18 := Bool.eq_false_iff.mpr c18
   subst c18
   rw [if_neg (show ¬ (false = true) by decide)] at H
   replace H := Option.bind_eq_some_iff.mp H
   obtain ⟨t187, A190, H⟩ := H
   have A19 := am A190
   clear A190
   have HC20 := am H
   clear H
   have hcz21_0 : wc.cell? ⟨gb181, 0, none⟩ = some (.int .i64 a0_0) := (blk_cell BK181.out 0).trans rfl
   have hcz21_1 : wc.cell? ⟨gb181, 1, none⟩ = some (.int .i64 a0_1) := (blk_cell BK181.out 1).trans rfl
   have hcz21_2 : wc.cell? ⟨gb181, 2, none⟩ = some (.int .i64 a0_2) := (blk_cell BK181.out 2).trans rfl
   have hcz21_3 : wc.cell? ⟨gb181, 3, none⟩ = some (.int .i64 a0_3) := (blk_cell BK181.out 3).trans rfl
   have hcz21_4 : wc.cell? ⟨gb181, 4, none⟩ = some (.int .i64 a0_4) := (blk_cell BK181.out 4).trans rfl
   have hcz21_5 : wc.cell? ⟨gb181, 5, none⟩ = some (.int .i64 a0_5) := (blk_cell BK181.out 5).trans rfl
   have hcz21_6 : wc.cell? ⟨gb181, 6, none⟩ = some (.int .i64 a0_6) := (blk_cell BK181.out 6).trans rfl
   have hcz21_7 : wc.cell? ⟨gb181, 7, none⟩ = some (.slice A0_7 l0_7.length c0_7) := (blk_cell BK181.out 7).trans rfl
   have hcz21_8 : wc.cell? ⟨gb181, 8, none⟩ = some (.slice A0_8 l0_8.length c0_8) := (blk_cell BK181.out 8).trans rfl
   have hcz21_9 : wc.cell? ⟨gb181, 9, none⟩ = some (.slice A0_9 l0_9.length c0_9) := (blk_cell BK181.out 9).trans rfl
   go_upto_region 4 with (first | ((with_reducible refine gate_callee (f := 72) rfl ?_); refine goesL_ (some 40) rfl rfl Try.func72 kr rfl #[.agg #[.int .i64 a0_5, .int .i64 a0_6, .slice A0_7 l0_7.length c0_7]] rfl u9_2 ?_; (with_reducible refine (spec_LastIndex.calls kj2 a0_5 a0_6 _ _ l0_7 t187 _ ?side1 ?side2 A19.out).mono ?_); (case side1 => exact u9_4); (case side2 => exact HC0_7.out); rintro e w22 ⟨rfl, hb⟩; refine ⟨_, rfl, ?_⟩; have n0_ := am (blk_below (g := gb181) (o := .cells #[.int .i64 a0_0, .int .i64 a0_1, .int .i64 a0_2, .int .i64 a0_3, .int .i64 a0_4, .int .i64 a0_5, .int .i64 a0_6, .slice A0_7 l0_7.length c0_7, .slice A0_8 l0_8.length c0_8, .slice A0_9 l0_9.length c0_9] 37 (0, 0)) u9_1 hb); have n1_ := am (below_step u9_0 hb); clear BK181; clear HB; have BK181 := n0_; have HB := n1_; clear n0_ n1_; (try clear hb); (try clear hb2); (try clear hk); (try clear hi)))
   (try simp only [Act.put, la, lb, lc])
   go_cut [64] (fun v64 wc => ∃ (kq : Nat) (x64_19 : Bool), v64 = .bool x64_19 ∧ Aside0 (spec_NodeOk.j1 kq a1 t187 x64_19 a0_0 a0_1 a0_2 a0_3 a0_4 a0_5 a0_6 l0_7 l0_8 l0_9 = some r) ∧ Aside0 (kq ≤ kj2) ∧ Aside0 (wc.heap[gb181]? = some (.cells #[.int .i64 a0_0, .int .i64 a0_1, .int .i64 a0_2, .int .i64 a0_3, .int .i64 a0_4, .int .i64 a0_5, .int .i64 a0_6, (.slice A0_7 l0_7.length c0_7), (.slice A0_8 l0_8.length c0_8), (.slice A0_9 l0_9.length c0_9)] 37 (0, 0))) ∧ Aside0 (Below w.heap.size w wc))
   case first =>
     have H := HC20.out
     clear HC20
     by_cases c23 : t187 < 0
     · rw [if_pos c23] at H
       have c23b0 : decide (t187 < 0) = true := decide_eq_true c23
       clear c23
       (first | rw [c23b0] | (simp only [i64_w, i32_w]; rw [c23b0]) | skip)
       have H' := am H
       clear H
       try go_wp2
       have n0_ := am (blk_drew BK181.out)
       have n1_ := am (below_drew1 HB.out)
       clear BK181
       clear HB
       have BK181 := n0_
       have HB := n1_
       clear n0_ n1_
       refine start_ (n := 24) (S := fun w' => True) (ds := []) b0_24 kr rfl rfl trivial (fun hHeld => ?_); refine with_tabW spec_NodeOk.tab4 spec_NodeOk.bits4 (fun HT_ HW_ => ?_)
       generalize w22.drew = w24 at BK181 HB hHeld ⊢
       refine pure_ (i := 0) (N := some 41) (v := ?_) (a' := ?_) b1_24 rfl rfl (any_of HT_.out kr) (fun _ _ _ h => h) (Or.inl ⟨by rfl, ?_⟩) ?_ ?_
       rotate_left; (intro w'; go_simp; with_reducible rfl); rotate_left; (simp only [Act.put, la, lb, lc, i64_w, i32_w]; rfl)
       refine pure_ (i := 1) (N := some 42) (v := ?_) (a' := ?_) b2_24 rfl rfl (any_of HT_.out kr) (fun _ _ _ h => h) (Or.inl ⟨by rfl, ?_⟩) ?_ ?_
       rotate_left; (intro w'; go_simp; with_reducible rfl); rotate_left; (simp only [Act.put, la, lb, lc, i64_w, i32_w]; rfl)
       refine pure_ (i := 2) (N := some 43) (v := ?_) (a' := ?_) b3_24 rfl rfl (any_of HT_.out kr) (fun _ _ _ h => h) (Or.inl ⟨by rfl, ?_⟩) ?_ ?_
       rotate_left; (intro w'; go_simp; with_reducible rfl); rotate_left; (simp only [Act.put, la, lb, lc, i64_w, i32_w]; rfl)
       refine pure_ (i := 3) (N := some 44) (v := undef) (a' := ?_) b4_24 rfl rfl (any_of HT_.out kr) (fun _ _ _ h => h) (Or.inr ⟨by rfl, rfl⟩) ?_ ?_
       rotate_left
       · simp only [Act.put, la, lb, lc, i64_w, i32_w]
         rfl
       refine pure_ (i := 4) (N := some 45) (v := undef) (a' := ?_) b5_24 rfl rfl (any_of HT_.out kr) (fun _ _ _ h => h) (Or.inr ⟨by rfl, rfl⟩) ?_ ?_
       rotate_left
       · simp only [Act.put, la, lb, lc, i64_w, i32_w]
         rfl
       refine pure_ (i := 5) (N := some 46) (v := undef) (a' := ?_) b6_24 rfl rfl (any_of HT_.out kr) (fun _ _ _ h => h) (Or.inr ⟨by rfl, rfl⟩) ?_ ?_
       rotate_left
       · simp only [Act.put, la, lb, lc, i64_w, i32_w]
         rfl
       refine pure_ (i := 6) (N := some 47) (v := undef) (a' := ?_) b7_24 rfl rfl (any_of HT_.out kr) (fun _ _ _ h => h) (Or.inr ⟨by rfl, rfl⟩) ?_ ?_
       rotate_left
       · simp only [Act.put, la, lb, lc, i64_w, i32_w]
         rfl
       refine pure_ (i := 7) (N := some 48) (v := ?_) (a' := ?_) b8_24 rfl rfl (any_of HT_.out kr) (fun _ _ _ h => h) (Or.inl ⟨by rfl, ?_⟩) ?_ ?_
       rotate_left; (intro w'; go_simp; with_reducible rfl); rotate_left; (simp only [Act.put, la, lb, lc, i64_w, i32_w]; rfl)
       refine pure_ (i := 8) (N := some 49) (v := ?_) (a' := ?_) b9_24 rfl rfl (any_of HT_.out kr) (fun _ _ _ h => h) (Or.inl ⟨by rfl, ?_⟩) ?_ ?_
       rotate_left; (intro w'; go_simp; with_reducible rfl); rotate_left; (simp only [Act.put, la, lb, lc, i64_w, i32_w]; rfl)
       refine pure_ (i := 9) (N := some 50) (v := undef) (a' := ?_) b10_24 rfl rfl (any_of HT_.out kr) (fun _ _ _ h => h) (Or.inr ⟨by rfl, rfl⟩) ?_ ?_
       rotate_left
       · simp only [Act.put, la, lb, lc, i64_w, i32_w]
         rfl
       refine pure_ (i := 10) (N := some 51) (v := undef) (a' := ?_) #[true, true, true, true, true, true, true, true, true, true, true, false, false, false, false, false, false, false, false, false, false, false, false, false] rfl rfl (any_of HT_.out kr) (fun _ _ _ h => h) (Or.inr ⟨by rfl, rfl⟩) ?_ ?_
       rotate_left
       · simp only [Act.put, la, lb, lc, i64_w, i32_w]
         rfl
       refine pure_ (i := 11) (N := some 52) (v := undef) (a' := ?_) #[true, true, true, true, true, true, true, true, true, true, true, true, false, false, false, false, false, false, false, false, false, false, false, false] rfl rfl (any_of HT_.out kr) (fun _ _ _ h => h) (Or.inr ⟨by rfl, rfl⟩) ?_ ?_
       rotate_left
       · simp only [Act.put, la, lb, lc, i64_w, i32_w]
         rfl
       refine pure_ (i := 12) (N := some 53) (v := undef) (a' := ?_) #[true, true, true, true, true, true, true, true, true, true, true, true, true, false, false, false, false, false, false, false, false, false, false, false] rfl rfl (any_of HT_.out kr) (fun _ _ _ h => h) (Or.inr ⟨by rfl, rfl⟩) ?_ ?_
       rotate_left
       · simp only [Act.put, la, lb, lc, i64_w, i32_w]
         rfl
       refine pure_ (i := 13) (N := some 54) (v := undef) (a' := ?_) #[true, true, true, true, true, true, true, true, true, true, true, true, true, true, false, false, false, false, false, false, false, false, false, false] rfl rfl (any_of HT_.out kr) (fun _ _ _ h => h) (Or.inr ⟨by rfl, rfl⟩) ?_ ?_
       rotate_left
       · simp only [Act.put, la, lb, lc, i64_w, i32_w]
         rfl
       refine pure_ (i := 14) (N := some 55) (v := undef) (a' := ?_) b15_24 rfl rfl (any_of HT_.out kr) (fun _ _ _ h => h) (Or.inr ⟨by rfl, rfl⟩) ?_ ?_
       rotate_left
       · simp only [Act.put, la, lb, lc, i64_w, i32_w]
         rfl
       refine pure_ (i := 15) (N := some 56) (v := undef) (a' := ?_) b16_24 rfl rfl (any_of HT_.out kr) (fun _ _ _ h => h) (Or.inr ⟨by rfl, rfl⟩) ?_ ?_
       rotate_left
       · simp only [Act.put, la, lb, lc, i64_w, i32_w]
         rfl
       refine pure_ (i := 16) (N := some 57) (v := ?_) (a' := ?_) b17_24 rfl rfl (any_of HT_.out kr) (fun _ _ _ h => h) (Or.inl ⟨by rfl, ?_⟩) ?_ ?_
       rotate_left; (intro w'; go_simp; with_reducible rfl); rotate_left; (simp only [Act.put, la, lb, lc, i64_w, i32_w]; rfl)
       refine pure_ (i := 17) (N := some 58) (v := ?_) (a' := ?_) b18_24 rfl rfl (any_of HT_.out kr) (fun _ _ _ h => h) (Or.inl ⟨by rfl, ?_⟩) ?_ ?_
       rotate_left; (intro w'; go_simp; with_reducible rfl); rotate_left; (simp only [Act.put, la, lb, lc, i64_w, i32_w]; rfl)
       refine pure_ (i := 18) (N := some 59) (v := undef) (a' := ?_) b19_24 rfl rfl (any_of HT_.out kr) (fun _ _ _ h => h) (Or.inr ⟨by rfl, rfl⟩) ?_ ?_
       rotate_left
       · simp only [Act.put, la, lb, lc, i64_w, i32_w]
         rfl
       refine pure_ (i := 19) (N := some 60) (v := undef) (a' := ?_) b20_24 rfl rfl (any_of HT_.out kr) (fun _ _ _ h => h) (Or.inr ⟨by rfl, rfl⟩) ?_ ?_
       rotate_left
       · simp only [Act.put, la, lb, lc, i64_w, i32_w]
         rfl
       refine pure_ (i := 20) (N := some 61) (v := undef) (a' := ?_) b21_24 rfl rfl (any_of HT_.out kr) (fun _ _ _ h => h) (Or.inr ⟨by rfl, rfl⟩) ?_ ?_
       rotate_left
       · simp only [Act.put, la, lb, lc, i64_w, i32_w]
         rfl
       refine pure_ (i := 21) (N := some 62) (v := undef) (a' := ?_) b22_24 rfl rfl (any_of HT_.out kr) (fun _ _ _ h => h) (Or.inr ⟨by rfl, rfl⟩) ?_ ?_
       rotate_left
       · simp only [Act.put, la, lb, lc, i64_w, i32_w]
         rfl
       refine pure_ (i := 22) (N := some 63) (v := undef) (a' := ?_) b23_24 rfl rfl (any_of HT_.out kr) (fun _ _ _ h => h) (Or.inr ⟨by rfl, rfl⟩) ?_ ?_
       rotate_left
       · simp only [Act.put, la, lb, lc, i64_w, i32_w]
         rfl
       refine pure_ (i := 23) (N := some 64) (v := ?_) (a' := ?_) b24_24 rfl rfl (any_of HT_.out kr) (fun _ _ _ h => h) (Or.inl ⟨by rfl, ?_⟩) ?_ ?_
       rotate_left; (intro w'; go_simp; with_reducible rfl); rotate_left; (simp only [Act.put, la, lb, lc, i64_w, i32_w]; rfl)
       refine done_ (done_of HT_.out kr) ?_
       try go_wp2
       go_meet
       case rel => exact ⟨_, (true), u9_3, H', ⟨u9_9⟩, ⟨u9_1⟩, ⟨u9_0⟩⟩
     rw [if_neg c23] at H
     have c23b0 : decide (t187 < 0) = false := decide_eq_false c23
     clear c23
     (first | rw [c23b0] | (simp only [i64_w, i32_w]; rw [c23b0]) | skip)
     by_cases c25 : a0_5 = 0
     rotate_left
     · rw [if_neg c25] at H
       have c25b0 : (a0_5 == 0) = false := beq_eq_false_iff_ne.mpr c25
       have c25b1 : (a0_5 != 0) = true := bne_iff_ne.mpr c25
       have H' := am H
       clear H
       try go_wp2
       have n0_ := am (blk_drew BK181.out)
       have n1_ := am (below_drew1 HB.out)
       clear BK181
       clear HB
       have BK181 := n0_
       have HB := n1_
       clear n0_ n1_
       refine start_ (n := 24) (S := fun w' => w'.cell? ⟨gb181, 0, none⟩ = some (.int .i64 a0_0) ∧ w'.cell? ⟨gb181, 1, none⟩ = some (.int .i64 a0_1) ∧ w'.cell? ⟨gb181, 2, none⟩ = some (.int .i64 a0_2) ∧ w'.cell? ⟨gb181, 3, none⟩ = some (.int .i64 a0_3) ∧ w'.cell? ⟨gb181, 4, none⟩ = some (.int .i64 a0_4) ∧ w'.cell? ⟨gb181, 5, none⟩ = some (.int .i64 a0_5) ∧ w'.cell? ⟨gb181, 6, none⟩ = some (.int .i64 a0_6) ∧ w'.cell? ⟨gb181, 7, none⟩ = some (.slice A0_7 l0_7.length c0_7) ∧ w'.cell? ⟨gb181, 8, none⟩ = some (.slice A0_8 l0_8.length c0_8) ∧ w'.cell? ⟨gb181, 9, none⟩ = some (.slice A0_9 l0_9.length c0_9)) (ds := []) b0_24 kr rfl rfl ⟨(blk_cell BK181.out 0).trans rfl, (blk_cell BK181.out 1).trans rfl, (blk_cell BK181.out 2).trans rfl, (blk_cell BK181.out 3).trans rfl, (blk_cell BK181.out 4).trans rfl, (blk_cell BK181.out 5).trans rfl, (blk_cell BK181.out 6).trans rfl, (blk_cell BK181.out 7).trans rfl, (blk_cell BK181.out 8).trans rfl, (blk_cell BK181.out 9).trans rfl⟩ (fun hHeld => ?_); refine with_tabW spec_NodeOk.tab4 spec_NodeOk.bits4 (fun HT_ HW_ => ?_)
       generalize w22.drew = w33 at BK181 HB hHeld ⊢
       refine pure_ (i := 0) (N := some 41) (v := ?_) (a' := ?_) b1_24 rfl rfl (any_of HT_.out kr) (fun _ _ _ h => h) (Or.inl ⟨by rfl, ?_⟩) ?_ ?_
       rotate_left; (intro w'; go_simp; with_reducible rfl); rotate_left; (simp only [Act.put, la, lb, lc, i64_w, i32_w]; rfl)
       refine pure_ (i := 1) (N := some 42) (v := ?_) (a' := ?_) b2_24 rfl rfl (any_of HT_.out kr) (fun _ _ _ h => h) (Or.inl ⟨by rfl, ?_⟩) ?_ ?_
       rotate_left; (intro w'; go_simp; with_reducible rfl); rotate_left; (simp only [Act.put, la, lb, lc, i64_w, i32_w]; rfl)
       refine pure_ (i := 2) (N := some 43) (v := ?_) (a' := ?_) b3_24 rfl rfl (any_of HT_.out kr) (fun _ _ _ h => h) (Or.inl ⟨by rfl, ?_⟩) ?_ ?_
       rotate_left; (intro w'; go_simp; with_reducible rfl); rotate_left; (simp only [Act.put, la, lb, lc, i64_w, i32_w]; rfl)
       refine pure_ (i := 3) (N := some 44) (v := ?_) (a' := ?_) b4_24 rfl rfl (any_of HT_.out kr) (fun _ _ _ h => h) (Or.inl ⟨by rfl, ?_⟩) ?_ ?_
       rotate_left; (intro w'; go_simp; with_reducible rfl); rotate_left; (simp only [Act.put, la, lb, lc, i64_w, i32_w]; rfl)
       refine pure_ (i := 4) (N := some 45) (v := ?_) (a' := ?_) b5_24 rfl rfl (any_of HT_.out kr) (fun _ _ _ h => h) (Or.inl ⟨by rfl, ?_⟩) ?_ ?_
       rotate_left; (intro w'; go_simp; with_reducible rfl); rotate_left; (simp only [Act.put, la, lb, lc, i64_w, i32_w]; rfl)
       refine take_ (i := 5) (N := some 46) (v := ?_) (a' := ?_) b6_24 rfl rfl (take_ofW HT_.out HW_.out kr) (fun _ _ _ h => h) (Or.inl ⟨by rfl, ?_⟩) hHeld ?_ ?_
       rotate_left
       · rintro w' ⟨s0, s1, s2, s3, s4, s5, s6, s7, s8, s9⟩
         go_simp
         with_reducible rfl
       rotate_left
       · simp only [Act.put, la, lb, lc, i64_w, i32_w]
         rfl
       refine pure_ (i := 6) (N := some 47) (v := ?_) (a' := ?_) b7_24 rfl rfl (any_of HT_.out kr) (fun _ _ _ h => h) (Or.inl ⟨by rfl, ?_⟩) ?_ ?_
       rotate_left; (intro w'; go_simp; with_reducible rfl); rotate_left; (simp only [Act.put, la, lb, lc, i64_w, i32_w]; rfl)
       refine pure_ (i := 7) (N := some 48) (v := ?_) (a' := ?_) b8_24 rfl rfl (any_of HT_.out kr) (fun _ _ _ h => h) (Or.inl ⟨by rfl, ?_⟩) ?_ ?_
       rotate_left; (intro w'; go_simp; with_reducible rfl); rotate_left; (simp only [Act.put, la, lb, lc, i64_w, i32_w]; rfl)
       refine pure_ (i := 8) (N := some 49) (v := ?_) (a' := ?_) b9_24 rfl rfl (any_of HT_.out kr) (fun _ _ _ h => h) (Or.inl ⟨by rfl, ?_⟩) ?_ ?_
       rotate_left; (intro w'; go_simp; with_reducible rfl); rotate_left; (simp only [Act.put, la, lb, lc, i64_w, i32_w]; rfl)
       refine pure_ (i := 9) (N := some 50) (v := undef) (a' := ?_) b10_24 rfl rfl (any_of HT_.out kr) (fun _ _ _ h => h) (Or.inr ⟨by rfl, rfl⟩) ?_ ?_
       rotate_left
       · simp only [Act.put, la, lb, lc, i64_w, i32_w]
         rfl
       refine pure_ (i := 10) (N := some 51) (v := undef) (a' := ?_) #[true, true, true, true, true, true, true, true, true, true, true, false, false, false, false, false, false, false, false, false, false, false, false, false] rfl rfl (any_of HT_.out kr) (fun _ _ _ h => h) (Or.inr ⟨by rfl, rfl⟩) ?_ ?_
       rotate_left
       · simp only [Act.put, la, lb, lc, i64_w, i32_w]
         rfl
       refine pure_ (i := 11) (N := some 52) (v := undef) (a' := ?_) #[true, true, true, true, true, true, true, true, true, true, true, true, false, false, false, false, false, false, false, false, false, false, false, false] rfl rfl (any_of HT_.out kr) (fun _ _ _ h => h) (Or.inr ⟨by rfl, rfl⟩) ?_ ?_
       rotate_left
       · simp only [Act.put, la, lb, lc, i64_w, i32_w]
         rfl
       refine pure_ (i := 12) (N := some 53) (v := undef) (a' := ?_) #[true, true, true, true, true, true, true, true, true, true, true, true, true, false, false, false, false, false, false, false, false, false, false, false] rfl rfl (any_of HT_.out kr) (fun _ _ _ h => h) (Or.inr ⟨by rfl, rfl⟩) ?_ ?_
       rotate_left
       · simp only [Act.put, la, lb, lc, i64_w, i32_w]
         rfl
       refine pure_ (i := 13) (N := some 54) (v := undef) (a' := ?_) #[true, true, true, true, true, true, true, true, true, true, true, true, true, true, false, false, false, false, false, false, false, false, false, false] rfl rfl (any_of HT_.out kr) (fun _ _ _ h => h) (Or.inr ⟨by rfl, rfl⟩) ?_ ?_
       rotate_left
       · simp only [Act.put, la, lb, lc, i64_w, i32_w]
         rfl
       refine pure_ (i := 14) (N := some 55) (v := undef) (a' := ?_) b15_24 rfl rfl (any_of HT_.out kr) (fun _ _ _ h => h) (Or.inr ⟨by rfl, rfl⟩) ?_ ?_
       rotate_left
       · simp only [Act.put, la, lb, lc, i64_w, i32_w]
         rfl
       refine pure_ (i := 15) (N := some 56) (v := undef) (a' := ?_) b16_24 rfl rfl (any_of HT_.out kr) (fun _ _ _ h => h) (Or.inr ⟨by rfl, rfl⟩) ?_ ?_
       rotate_left
       · simp only [Act.put, la, lb, lc, i64_w, i32_w]
         rfl
       refine pure_ (i := 16) (N := some 57) (v := ?_) (a' := ?_) b17_24 rfl rfl (any_of HT_.out kr) (fun _ _ _ h => h) (Or.inl ⟨by rfl, ?_⟩) ?_ ?_
       rotate_left; (intro w'; go_simp; with_reducible rfl); rotate_left; (simp only [Act.put, la, lb, lc, i64_w, i32_w]; rfl)
       refine pure_ (i := 17) (N := some 58) (v := ?_) (a' := ?_) b18_24 rfl rfl (any_of HT_.out kr) (fun _ _ _ h => h) (Or.inl ⟨by rfl, ?_⟩) ?_ ?_
       rotate_left; (intro w'; go_simp; with_reducible rfl); rotate_left; (simp only [Act.put, la, lb, lc, i64_w, i32_w]; rfl)
       refine pure_ (i := 18) (N := some 59) (v := undef) (a' := ?_) b19_24 rfl rfl (any_of HT_.out kr) (fun _ _ _ h => h) (Or.inr ⟨by rfl, rfl⟩) ?_ ?_
       rotate_left
       · simp only [Act.put, la, lb, lc, i64_w, i32_w]
         rfl
       refine pure_ (i := 19) (N := some 60) (v := undef) (a' := ?_) b20_24 rfl rfl (any_of HT_.out kr) (fun _ _ _ h => h) (Or.inr ⟨by rfl, rfl⟩) ?_ ?_
       rotate_left
       · simp only [Act.put, la, lb, lc, i64_w, i32_w]
         rfl
       refine pure_ (i := 20) (N := some 61) (v := undef) (a' := ?_) b21_24 rfl rfl (any_of HT_.out kr) (fun _ _ _ h => h) (Or.inr ⟨by rfl, rfl⟩) ?_ ?_
       rotate_left
       · simp only [Act.put, la, lb, lc, i64_w, i32_w]
         rfl
       refine pure_ (i := 21) (N := some 62) (v := undef) (a' := ?_) b22_24 rfl rfl (any_of HT_.out kr) (fun _ _ _ h => h) (Or.inr ⟨by rfl, rfl⟩) ?_ ?_
       rotate_left
       · simp only [Act.put, la, lb, lc, i64_w, i32_w]
         rfl
       refine pure_ (i := 22) (N := some 63) (v := undef) (a' := ?_) b23_24 rfl rfl (any_of HT_.out kr) (fun _ _ _ h => h) (Or.inr ⟨by rfl, rfl⟩) ?_ ?_
       rotate_left
       · simp only [Act.put, la, lb, lc, i64_w, i32_w]
         rfl
       refine pure_ (i := 23) (N := some 64) (v := ?_) (a' := ?_) b24_24 rfl rfl (any_of HT_.out kr) (fun _ _ _ h => h) (Or.inl ⟨by rfl, ?_⟩) ?_ ?_
       rotate_left; (intro w'; go_simp; with_reducible rfl); rotate_left; (simp only [Act.put, la, lb, lc, i64_w, i32_w]; rfl)
       refine done_ (done_of HT_.out kr) ?_
       try go_wp2
       go_meet
       case rel => exact ⟨_, (true), u9_3, H', ⟨u9_9⟩, ⟨u9_1⟩, ⟨u9_0⟩⟩
     rw [if_pos c25] at H
     have c25b0 : (a0_5 == 0) = true := beq_iff_eq.mpr c25
     have c25b1 : (a0_5 != 0) = false := bne_eq_false_iff_eq.mpr c25
     clear c25
     replace H := Option.bind_eq_some_iff.mp H
     obtain ⟨t188, A260, H⟩ := H
     have A26 := am A260
     clear A260
     by_cases c27 : t188 > a0_1
     · rw [if_pos c27] at H
       have c27b0 : decide (a0_1 < t188) = true := decide_eq_true c27
       clear c27
       have H' := am H
       clear H
       try go_wp2
       have n0_ := am (blk_drew BK181.out)
       have n1_ := am (below_drew1 HB.out)
       clear BK181
       clear HB
       have BK181 := n0_
       have HB := n1_
       clear n0_ n1_
       refine start_ (n := 24) (S := fun w' => w'.cell? ⟨gb181, 0, none⟩ = some (.int .i64 a0_0) ∧ w'.cell? ⟨gb181, 1, none⟩ = some (.int .i64 a0_1) ∧ w'.cell? ⟨gb181, 2, none⟩ = some (.int .i64 a0_2) ∧ w'.cell? ⟨gb181, 3, none⟩ = some (.int .i64 a0_3) ∧ w'.cell? ⟨gb181, 4, none⟩ = some (.int .i64 a0_4) ∧ w'.cell? ⟨gb181, 5, none⟩ = some (.int .i64 a0_5) ∧ w'.cell? ⟨gb181, 6, none⟩ = some (.int .i64 a0_6) ∧ w'.cell? ⟨gb181, 7, none⟩ = some (.slice A0_7 l0_7.length c0_7) ∧ w'.cell? ⟨gb181, 8, none⟩ = some (.slice A0_8 l0_8.length c0_8) ∧ w'.cell? ⟨gb181, 9, none⟩ = some (.slice A0_9 l0_9.length c0_9)) (ds := []) b0_24 kr rfl rfl ⟨(blk_cell BK181.out 0).trans rfl, (blk_cell BK181.out 1).trans rfl, (blk_cell BK181.out 2).trans rfl, (blk_cell BK181.out 3).trans rfl, (blk_cell BK181.out 4).trans rfl, (blk_cell BK181.out 5).trans rfl, (blk_cell BK181.out 6).trans rfl, (blk_cell BK181.out 7).trans rfl, (blk_cell BK181.out 8).trans rfl, (blk_cell BK181.out 9).trans rfl⟩ (fun hHeld => ?_); refine with_tabW spec_NodeOk.tab4 spec_NodeOk.bits4 (fun HT_ HW_ => ?_)
       generalize w22.drew = w28 at BK181 HB hHeld ⊢
       refine pure_ (i := 0) (N := some 41) (v := ?_) (a' := ?_) b1_24 rfl rfl (any_of HT_.out kr) (fun _ _ _ h => h) (Or.inl ⟨by rfl, ?_⟩) ?_ ?_
       rotate_left; (intro w'; go_simp; with_reducible rfl); rotate_left; (simp only [Act.put, la, lb, lc, i64_w, i32_w]; rfl)
       refine pure_ (i := 1) (N := some 42) (v := ?_) (a' := ?_) b2_24 rfl rfl (any_of HT_.out kr) (fun _ _ _ h => h) (Or.inl ⟨by rfl, ?_⟩) ?_ ?_
       rotate_left; (intro w'; go_simp; with_reducible rfl); rotate_left; (simp only [Act.put, la, lb, lc, i64_w, i32_w]; rfl)
       refine pure_ (i := 2) (N := some 43) (v := ?_) (a' := ?_) b3_24 rfl rfl (any_of HT_.out kr) (fun _ _ _ h => h) (Or.inl ⟨by rfl, ?_⟩) ?_ ?_
       rotate_left; (intro w'; go_simp; with_reducible rfl); rotate_left; (simp only [Act.put, la, lb, lc, i64_w, i32_w]; rfl)
       refine pure_ (i := 3) (N := some 44) (v := ?_) (a' := ?_) b4_24 rfl rfl (any_of HT_.out kr) (fun _ _ _ h => h) (Or.inl ⟨by rfl, ?_⟩) ?_ ?_
       rotate_left; (intro w'; go_simp; with_reducible rfl); rotate_left; (simp only [Act.put, la, lb, lc, i64_w, i32_w]; rfl)
       refine pure_ (i := 4) (N := some 45) (v := ?_) (a' := ?_) b5_24 rfl rfl (any_of HT_.out kr) (fun _ _ _ h => h) (Or.inl ⟨by rfl, ?_⟩) ?_ ?_
       rotate_left; (intro w'; go_simp; with_reducible rfl); rotate_left; (simp only [Act.put, la, lb, lc, i64_w, i32_w]; rfl)
       refine take_ (i := 5) (N := some 46) (v := ?_) (a' := ?_) b6_24 rfl rfl (take_ofW HT_.out HW_.out kr) (fun _ _ _ h => h) (Or.inl ⟨by rfl, ?_⟩) hHeld ?_ ?_
       rotate_left
       · rintro w' ⟨s0, s1, s2, s3, s4, s5, s6, s7, s8, s9⟩
         go_simp
         with_reducible rfl
       rotate_left
       · simp only [Act.put, la, lb, lc, i64_w, i32_w]
         rfl
       refine pure_ (i := 6) (N := some 47) (v := ?_) (a' := ?_) b7_24 rfl rfl (any_of HT_.out kr) (fun _ _ _ h => h) (Or.inl ⟨by rfl, ?_⟩) ?_ ?_
       rotate_left; (intro w'; go_simp; with_reducible rfl); rotate_left; (simp only [Act.put, la, lb, lc, i64_w, i32_w]; rfl)
       refine pure_ (i := 7) (N := some 48) (v := ?_) (a' := ?_) b8_24 rfl rfl (any_of HT_.out kr) (fun _ _ _ h => h) (Or.inl ⟨by rfl, ?_⟩) ?_ ?_
       rotate_left; (intro w'; go_simp; with_reducible rfl); rotate_left; (simp only [Act.put, la, lb, lc, i64_w, i32_w]; rfl)
       refine pure_ (i := 8) (N := some 49) (v := ?_) (a' := ?_) b9_24 rfl rfl (any_of HT_.out kr) (fun _ _ _ h => h) (Or.inl ⟨by rfl, ?_⟩) ?_ ?_
       rotate_left; (intro w'; go_simp; with_reducible rfl); rotate_left; (simp only [Act.put, la, lb, lc, i64_w, i32_w]; rfl)
       refine pure_ (i := 9) (N := some 50) (v := ?_) (a' := ?_) b10_24 rfl rfl (any_of HT_.out kr) (fun _ _ _ h => h) (Or.inl ⟨by rfl, ?_⟩) ?_ ?_
       rotate_left; (intro w'; go_simp; with_reducible rfl); rotate_left; (simp only [Act.put, la, lb, lc, i64_w, i32_w]; rfl)
       refine pure_ (i := 11) (N := some 52) (v := ?_) (a' := ?_) #[true, true, true, true, true, true, true, true, true, true, false, true, false, false, false, false, false, false, false, false, false, false, false, false] rfl rfl (any_of HT_.out kr) (fun _ _ _ h => h) (Or.inl ⟨by rfl, ?_⟩) ?_ ?_
       rotate_left; (intro w'; go_simp; with_reducible rfl); rotate_left; (simp only [Act.put, la, lb, lc, i64_w, i32_w]; rfl)
       refine pure_ (i := 13) (N := some 54) (v := ?_) (a' := ?_) #[true, true, true, true, true, true, true, true, true, true, false, true, false, true, false, false, false, false, false, false, false, false, false, false] rfl rfl (any_of HT_.out kr) (fun _ _ _ h => h) (Or.inl ⟨by rfl, ?_⟩) ?_ ?_
       rotate_left; (intro w'; go_simp; with_reducible rfl); rotate_left; (simp only [Act.put, la, lb, lc, i64_w, i32_w]; rfl)
       refine take_ (i := 10) (N := some 51) (v := ?_) (a' := ?_) #[true, true, true, true, true, true, true, true, true, true, true, true, false, true, false, false, false, false, false, false, false, false, false, false] rfl rfl (take_ofW HT_.out HW_.out kr) (fun _ _ _ h => h) (Or.inl ⟨by rfl, ?_⟩) hHeld ?_ ?_
       rotate_left
       · rintro w' ⟨s0, s1, s2, s3, s4, s5, s6, s7, s8, s9⟩
         go_simp
         with_reducible rfl
       rotate_left
       · simp only [Act.put, la, lb, lc, i64_w, i32_w]
         rfl
       refine take_ (i := 14) (N := some 55) (v := ?_) (a' := ?_) #[true, true, true, true, true, true, true, true, true, true, true, true, false, true, true, false, false, false, false, false, false, false, false, false] rfl rfl (take_ofW HT_.out HW_.out kr) (fun _ _ _ h => h) (Or.inl ⟨by rfl, ?_⟩) hHeld ?_ ?_
       rotate_left
       · rintro w' ⟨s0, s1, s2, s3, s4, s5, s6, s7, s8, s9⟩
         go_simp
         with_reducible rfl
       rotate_left
       · simp only [Act.put, la, lb, lc, i64_w, i32_w]
         rfl
       refine one_ (i := 12) (N := some 53) b15_24 rfl rfl (one_of HT_.out kr) (by decide) (fun K hK => ?_)
       refine goes_ Try.func73 kr rfl #[.agg #[.int .i64 a0_5, .int .i64 a0_6, .slice A0_7 l0_7.length c0_7], .int .i64 t187] (by rfl) rfl rfl u9_2 ?_
       with_reducible refine (spec_TermAt.calls kj2 a0_5 a0_6 _ _ l0_7 t187 t188 _ ?side1 ?side2 A26.out).mono ?_
       (case side1 => exact u9_4)
       (case side2 => exact HC0_7.out)
       rintro e w29 ⟨rfl, hb⟩
       refine ⟨_, rfl, ?_⟩
       have n0_ := am (blk_below (g := gb181) (o := .cells #[.int .i64 a0_0, .int .i64 a0_1, .int .i64 a0_2, .int .i64 a0_3, .int .i64 a0_4, .int .i64 a0_5, .int .i64 a0_6, .slice A0_7 l0_7.length c0_7, .slice A0_8 l0_8.length c0_8, .slice A0_9 l0_9.length c0_9] 37 (0, 0)) u9_1 hb)
       have n1_ := am (below_step u9_0 hb)
       clear BK181
       clear HB
       have BK181 := n0_
       have HB := n1_
       clear n0_ n1_
       (try clear hb)
       (try clear hb2)
       (try clear hk)
       (try clear hi)
       refine hK.out _ _ ⟨(blk_cell BK181.out 0).trans rfl, (blk_cell BK181.out 1).trans rfl, (blk_cell BK181.out 2).trans rfl, (blk_cell BK181.out 3).trans rfl, (blk_cell BK181.out 4).trans rfl, (blk_cell BK181.out 5).trans rfl, (blk_cell BK181.out 6).trans rfl, (blk_cell BK181.out 7).trans rfl, (blk_cell BK181.out 8).trans rfl, (blk_cell BK181.out 9).trans rfl⟩ (fun hHeld => ?_)
       clear hK K
       refine norm_ (a' := ?_) ?_ ?_
       rotate_left
       · show Act.put _ (some 53) _ = _
         simp only [Act.put, la, lb, lc, i64_w, i32_w]
         rfl
       refine pure_ (i := 15) (N := some 56) (v := ?_) (a' := ?_) b16_24 rfl rfl (any_of HT_.out kr) (fun _ _ _ h => h) (Or.inl ⟨by rfl, ?_⟩) ?_ ?_
       rotate_left; (intro w'; go_simp; with_reducible rfl); rotate_left; (simp only [Act.put, la, lb, lc, i64_w, i32_w]; rfl)
       refine pure_ (i := 16) (N := some 57) (v := ?_) (a' := ?_) b17_24 rfl rfl (any_of HT_.out kr) (fun _ _ _ h => h) (Or.inl ⟨by rfl, ?_⟩) ?_ ?_
       rotate_left; (intro w'; go_simp; with_reducible rfl); rotate_left; (simp only [Act.put, la, lb, lc, i64_w, i32_w]; rfl)
       refine pure_ (i := 17) (N := some 58) (v := ?_) (a' := ?_) b18_24 rfl rfl (any_of HT_.out kr) (fun _ _ _ h => h) (Or.inl ⟨by rfl, ?_⟩) ?_ ?_
       rotate_left; (intro w'; go_simp; with_reducible rfl); rotate_left; (simp only [Act.put, la, lb, lc, i64_w, i32_w]; rfl)
       refine pure_ (i := 18) (N := some 59) (v := undef) (a' := ?_) b19_24 rfl rfl (any_of HT_.out kr) (fun _ _ _ h => h) (Or.inr ⟨by rfl, rfl⟩) ?_ ?_
       rotate_left
       · simp only [Act.put, la, lb, lc, i64_w, i32_w]
         rfl
       refine pure_ (i := 19) (N := some 60) (v := undef) (a' := ?_) b20_24 rfl rfl (any_of HT_.out kr) (fun _ _ _ h => h) (Or.inr ⟨by rfl, rfl⟩) ?_ ?_
       rotate_left
       · simp only [Act.put, la, lb, lc, i64_w, i32_w]
         rfl
       refine pure_ (i := 20) (N := some 61) (v := undef) (a' := ?_) b21_24 rfl rfl (any_of HT_.out kr) (fun _ _ _ h => h) (Or.inr ⟨by rfl, rfl⟩) ?_ ?_
       rotate_left
       · simp only [Act.put, la, lb, lc, i64_w, i32_w]
         rfl
       refine pure_ (i := 21) (N := some 62) (v := undef) (a' := ?_) b22_24 rfl rfl (any_of HT_.out kr) (fun _ _ _ h => h) (Or.inr ⟨by rfl, rfl⟩) ?_ ?_
       rotate_left
       · simp only [Act.put, la, lb, lc, i64_w, i32_w]
         rfl
       refine pure_ (i := 22) (N := some 63) (v := undef) (a' := ?_) b23_24 rfl rfl (any_of HT_.out kr) (fun _ _ _ h => h) (Or.inr ⟨by rfl, rfl⟩) ?_ ?_
       rotate_left
       · simp only [Act.put, la, lb, lc, i64_w, i32_w]
         rfl
       refine pure_ (i := 23) (N := some 64) (v := ?_) (a' := ?_) b24_24 rfl rfl (any_of HT_.out kr) (fun _ _ _ h => h) (Or.inl ⟨by rfl, ?_⟩) ?_ ?_
       rotate_left; (intro w'; go_simp; with_reducible rfl); rotate_left; (simp only [Act.put, la, lb, lc, i64_w, i32_w]; rfl)
       refine done_ (done_of HT_.out kr) ?_
       try go_wp2
       go_meet
       case rel => exact ⟨_, (true), u9_3, H', ⟨u9_9⟩, ⟨u9_1⟩, ⟨u9_0⟩⟩
     rw [if_neg c27] at H
     have c27b0 : decide (a0_1 < t188) = false := decide_eq_false c27
     clear c27
     replace H := Option.bind_eq_some_iff.mp H
     obtain ⟨t189, A300, H⟩ := H
     replace H : (spec_NodeOk.j1 kj2 a1 t187 (!t189) a0_0 a0_1 a0_2 a0_3 a0_4 a0_5 a0_6 l0_7 l0_8 l0_9) = some r := H
     have A30 := am A300
     clear A300
     have H' := am H
     clear H
     try go_wp2
     have n0_ := am (blk_drew BK181.out)
     have n1_ := am (below_drew1 HB.out)
     clear BK181
     clear HB
     have BK181 := n0_
     have HB := n1_
     clear n0_ n1_
     refine start_ (n := 24) (S := fun w' => w'.cell? ⟨gb181, 0, none⟩ = some (.int .i64 a0_0) ∧ w'.cell? ⟨gb181, 1, none⟩ = some (.int .i64 a0_1) ∧ w'.cell? ⟨gb181, 2, none⟩ = some (.int .i64 a0_2) ∧ w'.cell? ⟨gb181, 3, none⟩ = some (.int .i64 a0_3) ∧ w'.cell? ⟨gb181, 4, none⟩ = some (.int .i64 a0_4) ∧ w'.cell? ⟨gb181, 5, none⟩ = some (.int .i64 a0_5) ∧ w'.cell? ⟨gb181, 6, none⟩ = some (.int .i64 a0_6) ∧ w'.cell? ⟨gb181, 7, none⟩ = some (.slice A0_7 l0_7.length c0_7) ∧ w'.cell? ⟨gb181, 8, none⟩ = some (.slice A0_8 l0_8.length c0_8) ∧ w'.cell? ⟨gb181, 9, none⟩ = some (.slice A0_9 l0_9.length c0_9)) (ds := []) b0_24 kr rfl rfl ⟨(blk_cell BK181.out 0).trans rfl, (blk_cell BK181.out 1).trans rfl, (blk_cell BK181.out 2).trans rfl, (blk_cell BK181.out 3).trans rfl, (blk_cell BK181.out 4).trans rfl, (blk_cell BK181.out 5).trans rfl, (blk_cell BK181.out 6).trans rfl, (blk_cell BK181.out 7).trans rfl, (blk_cell BK181.out 8).trans rfl, (blk_cell BK181.out 9).trans rfl⟩ (fun hHeld => ?_); refine with_tabW spec_NodeOk.tab4 spec_NodeOk.bits4 (fun HT_ HW_ => ?_)
     generalize w22.drew = w31 at BK181 HB hHeld ⊢
     refine pure_ (i := 0) (N := some 41) (v := ?_) (a' := ?_) b1_24 rfl rfl (any_of HT_.out kr) (fun _ _ _ h => h) (Or.inl ⟨by rfl, ?_⟩) ?_ ?_
     rotate_left; (intro w'; go_simp; with_reducible rfl); rotate_left; (simp only [Act.put, la, lb, lc, i64_w, i32_w]; rfl)
     refine pure_ (i := 1) (N := some 42) (v := ?_) (a' := ?_) b2_24 rfl rfl (any_of HT_.out kr) (fun _ _ _ h => h) (Or.inl ⟨by rfl, ?_⟩) ?_ ?_
     rotate_left; (intro w'; go_simp; with_reducible rfl); rotate_left; (simp only [Act.put, la, lb, lc, i64_w, i32_w]; rfl)
     refine pure_ (i := 2) (N := some 43) (v := ?_) (a' := ?_) b3_24 rfl rfl (any_of HT_.out kr) (fun _ _ _ h => h) (Or.inl ⟨by rfl, ?_⟩) ?_ ?_
     rotate_left; (intro w'; go_simp; with_reducible rfl); rotate_left; (simp only [Act.put, la, lb, lc, i64_w, i32_w]; rfl)
     refine pure_ (i := 3) (N := some 44) (v := ?_) (a' := ?_) b4_24 rfl rfl (any_of HT_.out kr) (fun _ _ _ h => h) (Or.inl ⟨by rfl, ?_⟩) ?_ ?_
     rotate_left; (intro w'; go_simp; with_reducible rfl); rotate_left; (simp only [Act.put, la, lb, lc, i64_w, i32_w]; rfl)
     refine pure_ (i := 4) (N := some 45) (v := ?_) (a' := ?_) b5_24 rfl rfl (any_of HT_.out kr) (fun _ _ _ h => h) (Or.inl ⟨by rfl, ?_⟩) ?_ ?_
     rotate_left; (intro w'; go_simp; with_reducible rfl); rotate_left; (simp only [Act.put, la, lb, lc, i64_w, i32_w]; rfl)
     refine take_ (i := 5) (N := some 46) (v := ?_) (a' := ?_) b6_24 rfl rfl (take_ofW HT_.out HW_.out kr) (fun _ _ _ h => h) (Or.inl ⟨by rfl, ?_⟩) hHeld ?_ ?_
     rotate_left
     · rintro w' ⟨s0, s1, s2, s3, s4, s5, s6, s7, s8, s9⟩
       go_simp
       with_reducible rfl
     rotate_left
     · simp only [Act.put, la, lb, lc, i64_w, i32_w]
       rfl
     refine pure_ (i := 6) (N := some 47) (v := ?_) (a' := ?_) b7_24 rfl rfl (any_of HT_.out kr) (fun _ _ _ h => h) (Or.inl ⟨by rfl, ?_⟩) ?_ ?_
     rotate_left; (intro w'; go_simp; with_reducible rfl); rotate_left; (simp only [Act.put, la, lb, lc, i64_w, i32_w]; rfl)
     refine pure_ (i := 7) (N := some 48) (v := ?_) (a' := ?_) b8_24 rfl rfl (any_of HT_.out kr) (fun _ _ _ h => h) (Or.inl ⟨by rfl, ?_⟩) ?_ ?_
     rotate_left; (intro w'; go_simp; with_reducible rfl); rotate_left; (simp only [Act.put, la, lb, lc, i64_w, i32_w]; rfl)
     refine pure_ (i := 8) (N := some 49) (v := ?_) (a' := ?_) b9_24 rfl rfl (any_of HT_.out kr) (fun _ _ _ h => h) (Or.inl ⟨by rfl, ?_⟩) ?_ ?_
     rotate_left; (intro w'; go_simp; with_reducible rfl); rotate_left; (simp only [Act.put, la, lb, lc, i64_w, i32_w]; rfl)
     refine pure_ (i := 9) (N := some 50) (v := ?_) (a' := ?_) b10_24 rfl rfl (any_of HT_.out kr) (fun _ _ _ h => h) (Or.inl ⟨by rfl, ?_⟩) ?_ ?_
     rotate_left; (intro w'; go_simp; with_reducible rfl); rotate_left; (simp only [Act.put, la, lb, lc, i64_w, i32_w]; rfl)
     refine pure_ (i := 11) (N := some 52) (v := ?_) (a' := ?_) #[true, true, true, true, true, true, true, true, true, true, false, true, false, false, false, false, false, false, false, false, false, false, false, false] rfl rfl (any_of HT_.out kr) (fun _ _ _ h => h) (Or.inl ⟨by rfl, ?_⟩) ?_ ?_
     rotate_left; (intro w'; go_simp; with_reducible rfl); rotate_left; (simp only [Act.put, la, lb, lc, i64_w, i32_w]; rfl)
     refine pure_ (i := 13) (N := some 54) (v := ?_) (a' := ?_) #[true, true, true, true, true, true, true, true, true, true, false, true, false, true, false, false, false, false, false, false, false, false, false, false] rfl rfl (any_of HT_.out kr) (fun _ _ _ h => h) (Or.inl ⟨by rfl, ?_⟩) ?_ ?_
     rotate_left; (intro w'; go_simp; with_reducible rfl); rotate_left; (simp only [Act.put, la, lb, lc, i64_w, i32_w]; rfl)
     refine take_ (i := 10) (N := some 51) (v := ?_) (a' := ?_) #[true, true, true, true, true, true, true, true, true, true, true, true, false, true, false, false, false, false, false, false, false, false, false, false] rfl rfl (take_ofW HT_.out HW_.out kr) (fun _ _ _ h => h) (Or.inl ⟨by rfl, ?_⟩) hHeld ?_ ?_
     rotate_left
     · rintro w' ⟨s0, s1, s2, s3, s4, s5, s6, s7, s8, s9⟩
       go_simp
       with_reducible rfl
     rotate_left
     · simp only [Act.put, la, lb, lc, i64_w, i32_w]
       rfl
     refine take_ (i := 14) (N := some 55) (v := ?_) (a' := ?_) #[true, true, true, true, true, true, true, true, true, true, true, true, false, true, true, false, false, false, false, false, false, false, false, false] rfl rfl (take_ofW HT_.out HW_.out kr) (fun _ _ _ h => h) (Or.inl ⟨by rfl, ?_⟩) hHeld ?_ ?_
     rotate_left
     · rintro w' ⟨s0, s1, s2, s3, s4, s5, s6, s7, s8, s9⟩
       go_simp
       with_reducible rfl
     rotate_left
     · simp only [Act.put, la, lb, lc, i64_w, i32_w]
       rfl
     refine one_ (i := 12) (N := some 53) b15_24 rfl rfl (one_of HT_.out kr) (by decide) (fun K hK => ?_)
     refine goes_ Try.func73 kr rfl #[.agg #[.int .i64 a0_5, .int .i64 a0_6, .slice A0_7 l0_7.length c0_7], .int .i64 t187] (by rfl) rfl rfl u9_2 ?_
     with_reducible refine (spec_TermAt.calls kj2 a0_5 a0_6 _ _ l0_7 t187 t188 _ ?side1 ?side2 A26.out).mono ?_
     (case side1 => exact u9_4)
     (case side2 => exact HC0_7.out)
     rintro e w32 ⟨rfl, hb⟩
     refine ⟨_, rfl, ?_⟩
     have n0_ := am (blk_below (g := gb181) (o := .cells #[.int .i64 a0_0, .int .i64 a0_1, .int .i64 a0_2, .int .i64 a0_3, .int .i64 a0_4, .int .i64 a0_5, .int .i64 a0_6, .slice A0_7 l0_7.length c0_7, .slice A0_8 l0_8.length c0_8, .slice A0_9 l0_9.length c0_9] 37 (0, 0)) u9_1 hb)
     have n1_ := am (below_step u9_0 hb)
     clear BK181
     clear HB
     have BK181 := n0_
     have HB := n1_
     clear n0_ n1_
     (try clear hb)
     (try clear hb2)
     (try clear hk)
     (try clear hi)
     refine hK.out _ _ ⟨(blk_cell BK181.out 0).trans rfl, (blk_cell BK181.out 1).trans rfl, (blk_cell BK181.out 2).trans rfl, (blk_cell BK181.out 3).trans rfl, (blk_cell BK181.out 4).trans rfl, (blk_cell BK181.out 5).trans rfl, (blk_cell BK181.out 6).trans rfl, (blk_cell BK181.out 7).trans rfl, (blk_cell BK181.out 8).trans rfl, (blk_cell BK181.out 9).trans rfl⟩ (fun hHeld => ?_)
     clear hK K
     refine norm_ (a' := ?_) ?_ ?_
     rotate_left
     · show Act.put _ (some 53) _ = _
       simp only [Act.put, la, lb, lc, i64_w, i32_w]
       rfl
     refine pure_ (i := 15) (N := some 56) (v := ?_) (a' := ?_) b16_24 rfl rfl (any_of HT_.out kr) (fun _ _ _ h => h) (Or.inl ⟨by rfl, ?_⟩) ?_ ?_
     rotate_left; (intro w'; go_simp; with_reducible rfl); rotate_left; (simp only [Act.put, la, lb, lc, i64_w, i32_w]; rfl)
     refine pure_ (i := 16) (N := some 57) (v := ?_) (a' := ?_) b17_24 rfl rfl (any_of HT_.out kr) (fun _ _ _ h => h) (Or.inl ⟨by rfl, ?_⟩) ?_ ?_
     rotate_left; (intro w'; go_simp; with_reducible rfl); rotate_left; (simp only [Act.put, la, lb, lc, i64_w, i32_w]; rfl)
     refine pure_ (i := 17) (N := some 58) (v := ?_) (a' := ?_) b18_24 rfl rfl (any_of HT_.out kr) (fun _ _ _ h => h) (Or.inl ⟨by rfl, ?_⟩) ?_ ?_
     rotate_left; (intro w'; go_simp; with_reducible rfl); rotate_left; (simp only [Act.put, la, lb, lc, i64_w, i32_w]; rfl)
     refine pure_ (i := 18) (N := some 59) (v := ?_) (a' := ?_) b19_24 rfl rfl (any_of HT_.out kr) (fun _ _ _ h => h) (Or.inl ⟨by rfl, ?_⟩) ?_ ?_
     rotate_left; (intro w'; go_simp; with_reducible rfl); rotate_left; (simp only [Act.put, la, lb, lc, i64_w, i32_w]; rfl)
     refine pure_ (i := 20) (N := some 61) (v := ?_) (a' := ?_) #[true, true, true, true, true, true, true, true, true, true, true, true, true, true, true, true, true, true, true, false, true, false, false, false] rfl rfl (any_of HT_.out kr) (fun _ _ _ h => h) (Or.inl ⟨by rfl, ?_⟩) ?_ ?_
     rotate_left; (intro w'; go_simp; with_reducible rfl); rotate_left; (simp only [Act.put, la, lb, lc, i64_w, i32_w]; rfl)
     refine take_ (i := 19) (N := some 60) (v := ?_) (a' := ?_) b21_24 rfl rfl (take_ofW HT_.out HW_.out kr) (fun _ _ _ h => h) (Or.inl ⟨by rfl, ?_⟩) hHeld ?_ ?_
     rotate_left
     · rintro w' ⟨s0, s1, s2, s3, s4, s5, s6, s7, s8, s9⟩
       go_simp
       with_reducible rfl
     rotate_left
     · simp only [Act.put, la, lb, lc, i64_w, i32_w]
       rfl
     refine one_ (i := 21) (N := some 62) b22_24 rfl rfl (one_of HT_.out kr) (by decide) (fun K hK => ?_)
     refine goes_ Try.func63 kr rfl #[.int .i64 a0_4, .int .i64 0, .int .i64 t187] (by rfl) rfl rfl u9_2 ?_
     with_reducible refine (spec_l01In.calls a0_4 0 t187 t189 _ A30.out).mono ?_
     rintro e w' ⟨rfl, ⟨nd, rfl⟩⟩
     refine ⟨_, rfl, ?_⟩
     refine hK.out _ _ ⟨(blk_cell BK181.out 0).trans rfl, (blk_cell BK181.out 1).trans rfl, (blk_cell BK181.out 2).trans rfl, (blk_cell BK181.out 3).trans rfl, (blk_cell BK181.out 4).trans rfl, (blk_cell BK181.out 5).trans rfl, (blk_cell BK181.out 6).trans rfl, (blk_cell BK181.out 7).trans rfl, (blk_cell BK181.out 8).trans rfl, (blk_cell BK181.out 9).trans rfl⟩ (fun hHeld => ?_)
     clear hK K
     refine norm_ (a' := ?_) ?_ ?_
     rotate_left
     · show Act.put _ (some 62) _ = _
       simp only [Act.put, la, lb, lc, i64_w, i32_w]
       rfl
     refine pure_ (i := 22) (N := some 63) (v := ?_) (a' := ?_) b23_24 rfl rfl (any_of HT_.out kr) (fun _ _ _ h => h) (Or.inl ⟨by rfl, ?_⟩) ?_ ?_
     rotate_left; (intro w'; go_simp; with_reducible rfl); rotate_left; (simp only [Act.put, la, lb, lc, i64_w, i32_w]; rfl)
     refine pure_ (i := 23) (N := some 64) (v := ?_) (a' := ?_) b24_24 rfl rfl (any_of HT_.out kr) (fun _ _ _ h => h) (Or.inl ⟨by rfl, ?_⟩) ?_ ?_
     rotate_left; (intro w'; go_simp; with_reducible rfl); rotate_left; (simp only [Act.put, la, lb, lc, i64_w, i32_w]; rfl)
     refine done_ (done_of HT_.out kr) ?_
     try go_wp2
     go_meet
     case rel => exact ⟨_, (!t189), u9_3, H', ⟨u9_9⟩, ⟨u9_1⟩, ⟨u9_0⟩⟩
   clear HC20
   try clear c2
   try clear p2
   try clear c6
   try clear c7
   try clear c25
   try clear c25b0
   try clear c25b1
   try clear c27
   try clear c27b0
   obtain ⟨kq, x64_19, rfl, HA, HJ19, BK181, HB⟩ := hcut
   cases kq with
   | zero => exact absurd HA.out (by simp [spec_NodeOk.j1])
   | succ kj19 =>
     have H := HA.out
     clear HA
     simp only [spec_NodeOk.j1] at H
     by_cases c34 : x64_19 = true
     · subst c34
       rw [if_pos rfl] at H
       obtain rfl := Option.some.inj H
       go_wp2
       go_ret
       exact ⟨by first | rfl | (simp [errW_none, errW_some] <;> rfl) | (simp [*, errW_none, errW_some] <;> rfl), u9_0⟩
     replace c34 := Bool.eq_false_iff.mpr c34
     subst c34
     rw [if_neg (show ¬ (false = true) by decide)] at H
     have HC35 := am H
     clear H
     go_upto_region 6 with (fail)
     go_cut [79] (fun v79 wc => ∃ (kq : Nat) (x79_34 : Bool), v79 = .bool x79_34 ∧ Aside0 (spec_NodeOk.j2 kq a1 t187 x79_34 a0_0 a0_1 a0_2 a0_3 a0_4 a0_5 a0_6 l0_7 l0_8 l0_9 = some r) ∧ Aside0 (kq ≤ kj19) ∧ Aside0 (wc.heap[gb181]? = some (.cells #[.int .i64 a0_0, .int .i64 a0_1, .int .i64 a0_2, .int .i64 a0_3, .int .i64 a0_4, .int .i64 a0_5, .int .i64 a0_6, (.slice A0_7 l0_7.length c0_7), (.slice A0_8 l0_8.length c0_8), (.slice A0_9 l0_9.length c0_9)] 37 (0, 0))) ∧ Aside0 (Below w.heap.size w wc))
     case first =>
       have H := HC35.out
       clear HC35
       by_cases c36 : a0_3 = 0
       · rw [if_pos c36] at H
         have c36b0 : (a0_3 == 0) = true := beq_iff_eq.mpr c36
         have c36b1 : (a0_3 != 0) = false := bne_eq_false_iff_eq.mpr c36
         clear c36
         (first | rw [c36b0] | (simp only [i64_w, i32_w]; rw [c36b0]) | skip)
         have H' := am H
         clear H
         have hcz37_0 : wc.cell? ⟨gb181, 0, none⟩ = some (.int .i64 a0_0) := (blk_cell BK181.out 0).trans rfl
         have hcz37_1 : wc.cell? ⟨gb181, 1, none⟩ = some (.int .i64 a0_1) := (blk_cell BK181.out 1).trans rfl
         have hcz37_2 : wc.cell? ⟨gb181, 2, none⟩ = some (.int .i64 a0_2) := (blk_cell BK181.out 2).trans rfl
         have hcz37_3 : wc.cell? ⟨gb181, 3, none⟩ = some (.int .i64 a0_3) := (blk_cell BK181.out 3).trans rfl
         have hcz37_4 : wc.cell? ⟨gb181, 4, none⟩ = some (.int .i64 a0_4) := (blk_cell BK181.out 4).trans rfl
         have hcz37_5 : wc.cell? ⟨gb181, 5, none⟩ = some (.int .i64 a0_5) := (blk_cell BK181.out 5).trans rfl
         have hcz37_6 : wc.cell? ⟨gb181, 6, none⟩ = some (.int .i64 a0_6) := (blk_cell BK181.out 6).trans rfl
         have hcz37_7 : wc.cell? ⟨gb181, 7, none⟩ = some (.slice A0_7 l0_7.length c0_7) := (blk_cell BK181.out 7).trans rfl
         have hcz37_8 : wc.cell? ⟨gb181, 8, none⟩ = some (.slice A0_8 l0_8.length c0_8) := (blk_cell BK181.out 8).trans rfl
         have hcz37_9 : wc.cell? ⟨gb181, 9, none⟩ = some (.slice A0_9 l0_9.length c0_9) := (blk_cell BK181.out 9).trans rfl
         go_wp2
         go_meet
         case rel => exact ⟨_, (false), u9_3, H', ⟨u9_10⟩, ⟨u9_1⟩, ⟨u9_0⟩⟩
       rw [if_neg c36] at H
       have c36b0 : (a0_3 == 0) = false := beq_eq_false_iff_ne.mpr c36
       have c36b1 : (a0_3 != 0) = true := bne_iff_ne.mpr c36
       (first | rw [c36b0] | (simp only [i64_w, i32_w]; rw [c36b0]) | skip)
       by_cases c38 : a0_2 = a0_0
       rotate_left
       · rw [if_neg c38] at H
         have c38b0 : (a0_2 == a0_0) = false := beq_eq_false_iff_ne.mpr c38
         have c38b1 : (a0_2 != a0_0) = true := bne_iff_ne.mpr c38
         have H' := am H
         clear H
         have hcz40_0 : wc.cell? ⟨gb181, 0, none⟩ = some (.int .i64 a0_0) := (blk_cell BK181.out 0).trans rfl
         have hcz40_1 : wc.cell? ⟨gb181, 1, none⟩ = some (.int .i64 a0_1) := (blk_cell BK181.out 1).trans rfl
         have hcz40_2 : wc.cell? ⟨gb181, 2, none⟩ = some (.int .i64 a0_2) := (blk_cell BK181.out 2).trans rfl
         have hcz40_3 : wc.cell? ⟨gb181, 3, none⟩ = some (.int .i64 a0_3) := (blk_cell BK181.out 3).trans rfl
         have hcz40_4 : wc.cell? ⟨gb181, 4, none⟩ = some (.int .i64 a0_4) := (blk_cell BK181.out 4).trans rfl
         have hcz40_5 : wc.cell? ⟨gb181, 5, none⟩ = some (.int .i64 a0_5) := (blk_cell BK181.out 5).trans rfl
         have hcz40_6 : wc.cell? ⟨gb181, 6, none⟩ = some (.int .i64 a0_6) := (blk_cell BK181.out 6).trans rfl
         have hcz40_7 : wc.cell? ⟨gb181, 7, none⟩ = some (.slice A0_7 l0_7.length c0_7) := (blk_cell BK181.out 7).trans rfl
         have hcz40_8 : wc.cell? ⟨gb181, 8, none⟩ = some (.slice A0_8 l0_8.length c0_8) := (blk_cell BK181.out 8).trans rfl
         have hcz40_9 : wc.cell? ⟨gb181, 9, none⟩ = some (.slice A0_9 l0_9.length c0_9) := (blk_cell BK181.out 9).trans rfl
         go_wp2
         go_meet
         case rel => exact ⟨_, (true), u9_3, H', ⟨u9_10⟩, ⟨u9_1⟩, ⟨u9_0⟩⟩
       rw [if_pos c38] at H
       have c38b0 : (a0_2 == a0_0) = true := beq_iff_eq.mpr c38
       have c38b1 : (a0_2 != a0_0) = false := bne_eq_false_iff_eq.mpr c38
       clear c38
       have H' := am H
       clear H
       have hcz39_0 : wc.cell? ⟨gb181, 0, none⟩ = some (.int .i64 a0_0) := (blk_cell BK181.out 0).trans rfl
       have hcz39_1 : wc.cell? ⟨gb181, 1, none⟩ = some (.int .i64 a0_1) := (blk_cell BK181.out 1).trans rfl
       have hcz39_2 : wc.cell? ⟨gb181, 2, none⟩ = some (.int .i64 a0_2) := (blk_cell BK181.out 2).trans rfl
       have hcz39_3 : wc.cell? ⟨gb181, 3, none⟩ = some (.int .i64 a0_3) := (blk_cell BK181.out 3).trans rfl
       have hcz39_4 : wc.cell? ⟨gb181, 4, none⟩ = some (.int .i64 a0_4) := (blk_cell BK181.out 4).trans rfl
       have hcz39_5 : wc.cell? ⟨gb181, 5, none⟩ = some (.int .i64 a0_5) := (blk_cell BK181.out 5).trans rfl
       have hcz39_6 : wc.cell? ⟨gb181, 6, none⟩ = some (.int .i64 a0_6) := (blk_cell BK181.out 6).trans rfl
       have hcz39_7 : wc.cell? ⟨gb181, 7, none⟩ = some (.slice A0_7 l0_7.length c0_7) := (blk_cell BK181.out 7).trans rfl
       have hcz39_8 : wc.cell? ⟨gb181, 8, none⟩ = some (.slice A0_8 l0_8.length c0_8) := (blk_cell BK181.out 8).trans rfl
       have hcz39_9 : wc.cell? ⟨gb181, 9, none⟩ = some (.slice A0_9 l0_9.length c0_9) := (blk_cell BK181.out 9).trans rfl
       go_wp2
       go_meet
       case rel => exact ⟨_, ((a0_1 == 0)), u9_3, H', ⟨u9_10⟩, ⟨u9_1⟩, ⟨u9_0⟩⟩
     clear HC35
     try clear c2
     try clear p2
     try clear c3
     try clear c6
     try clear c7
     try clear c25
     try clear c25b0
     try clear c25b1
     try clear c27
     try clear c27b0
     try clear c34
     try clear c36
     try clear c36b0
     try clear c36b1
     try clear c38
     try clear c38b0
     try clear c38b1
     try clear hcz37_0
     try clear hcz37_1
     try clear hcz37_2
     try clear hcz37_3
     try clear hcz37_4
     try clear hcz37_5
     try clear hcz37_6
     try clear hcz37_7
     try clear hcz37_8
     try clear hcz37_9
     try clear hcz39_0
     try clear hcz39_1
     try clear hcz39_2
     try clear hcz39_3
     try clear hcz39_4
     try clear hcz39_5
     try clear hcz39_6
     try clear hcz39_7
     try clear hcz39_8
     try clear hcz39_9
     try clear hcz40_0
     try clear hcz40_1
     try clear hcz40_2
     try clear hcz40_3
     try clear hcz40_4
     try clear hcz40_5
     try clear hcz40_6
     try clear hcz40_7
     try clear hcz40_8
     try clear hcz40_9
     try clear p2
     obtain ⟨kq, x79_34, rfl, HA, HJ34, BK181, HB⟩ := hcut
     cases kq with
     | zero => exact absurd HA.out (by simp [spec_NodeOk.j2])
     | succ kj34 =>
       have H := HA.out
       clear HA
       simp only [spec_NodeOk.j2] at H
       by_cases c41 : x79_34 = true
       · subst c41
         rw [if_pos rfl] at H
         obtain rfl := Option.some.inj H
         go_wp2
         go_ret
         exact ⟨by first | rfl | (simp [errW_none, errW_some] <;> rfl) | (simp [*, errW_none, errW_some] <;> rfl), u9_0⟩
       replace c41 := Bool.eq_false_iff.mpr c41
       subst c41
       rw [if_neg (show ¬ (false = true) by decide)] at H
       have HC42 := am H
       clear H
       have hcz43_0 : wc.cell? ⟨gb181, 0, none⟩ = some (.int .i64 a0_0) := (blk_cell BK181.out 0).trans rfl
       have hcz43_1 : wc.cell? ⟨gb181, 1, none⟩ = some (.int .i64 a0_1) := (blk_cell BK181.out 1).trans rfl
       have hcz43_2 : wc.cell? ⟨gb181, 2, none⟩ = some (.int .i64 a0_2) := (blk_cell BK181.out 2).trans rfl
       have hcz43_3 : wc.cell? ⟨gb181, 3, none⟩ = some (.int .i64 a0_3) := (blk_cell BK181.out 3).trans rfl
       have hcz43_4 : wc.cell? ⟨gb181, 4, none⟩ = some (.int .i64 a0_4) := (blk_cell BK181.out 4).trans rfl
       have hcz43_5 : wc.cell? ⟨gb181, 5, none⟩ = some (.int .i64 a0_5) := (blk_cell BK181.out 5).trans rfl
       have hcz43_6 : wc.cell? ⟨gb181, 6, none⟩ = some (.int .i64 a0_6) := (blk_cell BK181.out 6).trans rfl
       have hcz43_7 : wc.cell? ⟨gb181, 7, none⟩ = some (.slice A0_7 l0_7.length c0_7) := (blk_cell BK181.out 7).trans rfl
       have hcz43_8 : wc.cell? ⟨gb181, 8, none⟩ = some (.slice A0_8 l0_8.length c0_8) := (blk_cell BK181.out 8).trans rfl
       have hcz43_9 : wc.cell? ⟨gb181, 9, none⟩ = some (.slice A0_9 l0_9.length c0_9) := (blk_cell BK181.out 9).trans rfl
       go_upto_if 82 with (fail)
       go_cut [] (fun wc => ∃ (kq : Nat), Aside0 (spec_NodeOk.j3 kq a1 t187 a0_0 a0_1 a0_2 a0_3 a0_4 a0_5 a0_6 l0_7 l0_8 l0_9 = some r) ∧ Aside0 (kq ≤ kj34) ∧ Aside0 (wc.heap[gb181]? = some (.cells #[.int .i64 a0_0, .int .i64 a0_1, .int .i64 a0_2, .int .i64 a0_3, .int .i64 a0_4, .int .i64 a0_5, .int .i64 a0_6, (.slice A0_7 l0_7.length c0_7), (.slice A0_8 l0_8.length c0_8), (.slice A0_9 l0_9.length c0_9)] 37 (0, 0))) ∧ Aside0 (Below w.heap.size w wc))
       case first =>
         have H := HC42.out
         clear HC42
         by_cases c44 : a0_3 = 1
         rotate_left
         · rw [if_neg c44] at H
           have c44b0 : (a0_3 == 1) = false := beq_eq_false_iff_ne.mpr c44
           have c44b1 : (a0_3 != 1) = true := bne_iff_ne.mpr c44
           (first | rw [c44b0] | (simp only [i64_w, i32_w]; rw [c44b0]) | skip)
           by_cases c56 : (l0_8.length : Int) > 0
           · rw [if_pos c56] at H
             have c56b0 : decide (0 < (l0_8.length : Int)) = true := decide_eq_true c56
             have c56b1 : decide (0 < l0_8.length) = true := decide_eq_true (by omega)
             clear c56
             obtain rfl := Option.some.inj H
             have hcz57_0 : wc.cell? ⟨gb181, 0, none⟩ = some (.int .i64 a0_0) := (blk_cell BK181.out 0).trans rfl
             have hcz57_1 : wc.cell? ⟨gb181, 1, none⟩ = some (.int .i64 a0_1) := (blk_cell BK181.out 1).trans rfl
             have hcz57_2 : wc.cell? ⟨gb181, 2, none⟩ = some (.int .i64 a0_2) := (blk_cell BK181.out 2).trans rfl
             have hcz57_3 : wc.cell? ⟨gb181, 3, none⟩ = some (.int .i64 a0_3) := (blk_cell BK181.out 3).trans rfl
             have hcz57_4 : wc.cell? ⟨gb181, 4, none⟩ = some (.int .i64 a0_4) := (blk_cell BK181.out 4).trans rfl
             have hcz57_5 : wc.cell? ⟨gb181, 5, none⟩ = some (.int .i64 a0_5) := (blk_cell BK181.out 5).trans rfl
             have hcz57_6 : wc.cell? ⟨gb181, 6, none⟩ = some (.int .i64 a0_6) := (blk_cell BK181.out 6).trans rfl
             have hcz57_7 : wc.cell? ⟨gb181, 7, none⟩ = some (.slice A0_7 l0_7.length c0_7) := (blk_cell BK181.out 7).trans rfl
             have hcz57_8 : wc.cell? ⟨gb181, 8, none⟩ = some (.slice A0_8 l0_8.length c0_8) := (blk_cell BK181.out 8).trans rfl
             have hcz57_9 : wc.cell? ⟨gb181, 9, none⟩ = some (.slice A0_9 l0_9.length c0_9) := (blk_cell BK181.out 9).trans rfl
             go_wp2
             go_ret
             exact ⟨by first | rfl | (simp [errW_none, errW_some] <;> rfl) | (simp [*, errW_none, errW_some] <;> rfl), u9_0⟩
           rw [if_neg c56] at H
           have c56b0 : decide (0 < (l0_8.length : Int)) = false := decide_eq_false c56
           have c56b1 : decide (0 < l0_8.length) = false := decide_eq_false (by omega)
           clear c56
           have H' := am H
           clear H
           have hcz58_0 : wc.cell? ⟨gb181, 0, none⟩ = some (.int .i64 a0_0) := (blk_cell BK181.out 0).trans rfl
           have hcz58_1 : wc.cell? ⟨gb181, 1, none⟩ = some (.int .i64 a0_1) := (blk_cell BK181.out 1).trans rfl
           have hcz58_2 : wc.cell? ⟨gb181, 2, none⟩ = some (.int .i64 a0_2) := (blk_cell BK181.out 2).trans rfl
           have hcz58_3 : wc.cell? ⟨gb181, 3, none⟩ = some (.int .i64 a0_3) := (blk_cell BK181.out 3).trans rfl
           have hcz58_4 : wc.cell? ⟨gb181, 4, none⟩ = some (.int .i64 a0_4) := (blk_cell BK181.out 4).trans rfl
           have hcz58_5 : wc.cell? ⟨gb181, 5, none⟩ = some (.int .i64 a0_5) := (blk_cell BK181.out 5).trans rfl
           have hcz58_6 : wc.cell? ⟨gb181, 6, none⟩ = some (.int .i64 a0_6) := (blk_cell BK181.out 6).trans rfl
           have hcz58_7 : wc.cell? ⟨gb181, 7, none⟩ = some (.slice A0_7 l0_7.length c0_7) := (blk_cell BK181.out 7).trans rfl
           have hcz58_8 : wc.cell? ⟨gb181, 8, none⟩ = some (.slice A0_8 l0_8.length c0_8) := (blk_cell BK181.out 8).trans rfl
           have hcz58_9 : wc.cell? ⟨gb181, 9, none⟩ = some (.slice A0_9 l0_9.length c0_9) := (blk_cell BK181.out 9).trans rfl
           go_wp2
           go_meet
           case rel => exact ⟨_, H', ⟨u9_11⟩, ⟨u9_1⟩, ⟨u9_0⟩⟩
         rw [if_pos c44] at H
         have c44b0 : (a0_3 == 1) = true := beq_iff_eq.mpr c44
         have c44b1 : (a0_3 != 1) = false := bne_eq_false_iff_eq.mpr c44
         clear c44
         (first | rw [c44b0] | (simp only [i64_w, i32_w]; rw [c44b0]) | skip)
         replace H := Option.bind_eq_some_iff.mp H
         obtain ⟨t190, A450, H⟩ := H
         have A45 := am A450
         clear A450
         by_cases c46 : t190 = true
         rotate_left
         · replace c46 := Bool.eq_false_iff.mpr c46
           subst c46
           rw [if_neg (show ¬ (false = true) by decide)] at H
           obtain rfl := Option.some.inj H
           have hcz55_0 : wc.cell? ⟨gb181, 0, none⟩ = some (.int .i64 a0_0) := (blk_cell BK181.out 0).trans rfl
           have hcz55_1 : wc.cell? ⟨gb181, 1, none⟩ = some (.int .i64 a0_1) := (blk_cell BK181.out 1).trans rfl
           have hcz55_2 : wc.cell? ⟨gb181, 2, none⟩ = some (.int .i64 a0_2) := (blk_cell BK181.out 2).trans rfl
           have hcz55_3 : wc.cell? ⟨gb181, 3, none⟩ = some (.int .i64 a0_3) := (blk_cell BK181.out 3).trans rfl
           have hcz55_4 : wc.cell? ⟨gb181, 4, none⟩ = some (.int .i64 a0_4) := (blk_cell BK181.out 4).trans rfl
           have hcz55_5 : wc.cell? ⟨gb181, 5, none⟩ = some (.int .i64 a0_5) := (blk_cell BK181.out 5).trans rfl
           have hcz55_6 : wc.cell? ⟨gb181, 6, none⟩ = some (.int .i64 a0_6) := (blk_cell BK181.out 6).trans rfl
           have hcz55_7 : wc.cell? ⟨gb181, 7, none⟩ = some (.slice A0_7 l0_7.length c0_7) := (blk_cell BK181.out 7).trans rfl
           have hcz55_8 : wc.cell? ⟨gb181, 8, none⟩ = some (.slice A0_8 l0_8.length c0_8) := (blk_cell BK181.out 8).trans rfl
           have hcz55_9 : wc.cell? ⟨gb181, 9, none⟩ = some (.slice A0_9 l0_9.length c0_9) := (blk_cell BK181.out 9).trans rfl
           go_wp2_with (first | ((with_reducible refine gate_callee (f := 74) rfl ?_); refine goesL_ (some 85) rfl rfl Try.func74 kr rfl #[.slice A0_8 l0_8.length c0_8] rfl u9_2 ?_; (with_reducible refine (spec_l06Set.calls kj34 _ _ l0_8 false _ ?side1 ?side2 A45.out).mono ?_); (case side1 => exact u9_5); (case side2 => exact HC0_8.out); rintro e w' ⟨rfl, ⟨nd, rfl⟩⟩; refine ⟨_, rfl, ?_⟩))
           go_ret
           exact ⟨by first | rfl | (simp [errW_none, errW_some] <;> rfl) | (simp [*, errW_none, errW_some] <;> rfl), u9_0⟩
         subst c46
         rw [if_pos rfl] at H
         replace H := Option.bind_eq_some_iff.mp H
         obtain ⟨t191, A470, H⟩ := H
         have A47 := am A470
         clear A470
         by_cases c48 : t191 = true
         rotate_left
         · replace c48 := Bool.eq_false_iff.mpr c48
           subst c48
           rw [if_neg (show ¬ (false = true) by decide)] at H
           obtain rfl := Option.some.inj H
           have hcz54_0 : wc.cell? ⟨gb181, 0, none⟩ = some (.int .i64 a0_0) := (blk_cell BK181.out 0).trans rfl
           have hcz54_1 : wc.cell? ⟨gb181, 1, none⟩ = some (.int .i64 a0_1) := (blk_cell BK181.out 1).trans rfl
           have hcz54_2 : wc.cell? ⟨gb181, 2, none⟩ = some (.int .i64 a0_2) := (blk_cell BK181.out 2).trans rfl
           have hcz54_3 : wc.cell? ⟨gb181, 3, none⟩ = some (.int .i64 a0_3) := (blk_cell BK181.out 3).trans rfl
           have hcz54_4 : wc.cell? ⟨gb181, 4, none⟩ = some (.int .i64 a0_4) := (blk_cell BK181.out 4).trans rfl
           have hcz54_5 : wc.cell? ⟨gb181, 5, none⟩ = some (.int .i64 a0_5) := (blk_cell BK181.out 5).trans rfl
           have hcz54_6 : wc.cell? ⟨gb181, 6, none⟩ = some (.int .i64 a0_6) := (blk_cell BK181.out 6).trans rfl
           have hcz54_7 : wc.cell? ⟨gb181, 7, none⟩ = some (.slice A0_7 l0_7.length c0_7) := (blk_cell BK181.out 7).trans rfl
           have hcz54_8 : wc.cell? ⟨gb181, 8, none⟩ = some (.slice A0_8 l0_8.length c0_8) := (blk_cell BK181.out 8).trans rfl
           have hcz54_9 : wc.cell? ⟨gb181, 9, none⟩ = some (.slice A0_9 l0_9.length c0_9) := (blk_cell BK181.out 9).trans rfl
           go_wp2_with (first | ((with_reducible refine gate_callee (f := 74) rfl ?_); refine goesL_ (some 85) rfl rfl Try.func74 kr rfl #[.slice A0_8 l0_8.length c0_8] rfl u9_2 ?_; (with_reducible refine (spec_l06Set.calls kj34 _ _ l0_8 true _ ?side1 ?side2 A45.out).mono ?_); (case side1 => exact u9_5); (case side2 => exact HC0_8.out); rintro e w' ⟨rfl, ⟨nd, rfl⟩⟩; refine ⟨_, rfl, ?_⟩) | (go_at_call 75; (with_reducible refine (spec_l01Has.calls kj34 _ _ l0_8 a0_0 false _ ?side1 ?side2 A47.out).mono ?_); (case side1 => exact u9_8); (case side2 => exact HC0_8.out); rintro e w' ⟨rfl, ⟨nd, rfl⟩⟩))
           go_ret
           exact ⟨by first | rfl | (simp [errW_none, errW_some] <;> rfl) | (simp [*, errW_none, errW_some] <;> rfl), u9_0⟩
         subst c48
         rw [if_pos rfl] at H
         obtain ⟨ji49, hji49⟩ : ∃ j_ : Int, (wrap64 ((l0_8.length : Int) - 1)) = j_ := ⟨_, rfl⟩
         replace H : (if 0 ≤ (ji49) then (if (ji49) < (l0_8.length : Int) then (if (rd l0_8 (ji49)) ≥ a1 then (some false) else (spec_NodeOk.j3 kj34 a1 t187 a0_0 a0_1 a0_2 a0_3 a0_4 a0_5 a0_6 l0_7 l0_8 l0_9)) else (none)) else (none)) = some r := by first | (rw [hji49] at H; exact H) | (simp only [hji49] at H ⊢; exact H)
         (try rw [hji49] at A45)
         (try rw [hji49] at A47)
         have hji49w : (IntKind.i64.wrap ((l0_8.length : Int) - 1)) = ji49 := (i64_w _).trans hji49
         by_cases c50 : 0 ≤ (ji49)
         rotate_left
         · rw [if_neg c50] at H
           exact absurd H (by simp)
         rw [if_pos c50] at H
         have c50b0 : decide (0 ≤ (ji49)) = true := decide_eq_true c50
         clear c50
         by_cases c51 : (ji49) < (l0_8.length : Int)
         rotate_left
         · rw [if_neg c51] at H
           exact absurd H (by simp)
         rw [if_pos c51] at H
         have c51b0 : decide ((ji49) < (l0_8.length : Int)) = true := decide_eq_true c51
         clear c51
         have H9 := am H
         clear H
         have hcz52_0 : wc.cell? ⟨gb181, 0, none⟩ = some (.int .i64 a0_0) := (blk_cell BK181.out 0).trans rfl
         have hcz52_1 : wc.cell? ⟨gb181, 1, none⟩ = some (.int .i64 a0_1) := (blk_cell BK181.out 1).trans rfl
         have hcz52_2 : wc.cell? ⟨gb181, 2, none⟩ = some (.int .i64 a0_2) := (blk_cell BK181.out 2).trans rfl
         have hcz52_3 : wc.cell? ⟨gb181, 3, none⟩ = some (.int .i64 a0_3) := (blk_cell BK181.out 3).trans rfl
         have hcz52_4 : wc.cell? ⟨gb181, 4, none⟩ = some (.int .i64 a0_4) := (blk_cell BK181.out 4).trans rfl
         have hcz52_5 : wc.cell? ⟨gb181, 5, none⟩ = some (.int .i64 a0_5) := (blk_cell BK181.out 5).trans rfl
         have hcz52_6 : wc.cell? ⟨gb181, 6, none⟩ = some (.int .i64 a0_6) := (blk_cell BK181.out 6).trans rfl
         have hcz52_7 : wc.cell? ⟨gb181, 7, none⟩ = some (.slice A0_7 l0_7.length c0_7) := (blk_cell BK181.out 7).trans rfl
         have hcz52_8 : wc.cell? ⟨gb181, 8, none⟩ = some (.slice A0_8 l0_8.length c0_8) := (blk_cell BK181.out 8).trans rfl
         have hcz52_9 : wc.cell? ⟨gb181, 9, none⟩ = some (.slice A0_9 l0_9.length c0_9) := (blk_cell BK181.out 9).trans rfl
         go_upto_if 106 with (first | ((with_reducible refine gate_callee (f := 74) rfl ?_); refine goesL_ (some 85) rfl rfl Try.func74 kr rfl #[.slice A0_8 l0_8.length c0_8] rfl u9_2 ?_; (with_reducible refine (spec_l06Set.calls kj34 _ _ l0_8 true _ ?side1 ?side2 A45.out).mono ?_); (case side1 => exact u9_5); (case side2 => exact HC0_8.out); rintro e w' ⟨rfl, ⟨nd, rfl⟩⟩; refine ⟨_, rfl, ?_⟩) | (go_at_call 75; (with_reducible refine (spec_l01Has.calls kj34 _ _ l0_8 a0_0 true _ ?side1 ?side2 A47.out).mono ?_); (case side1 => exact u9_8); (case side2 => exact HC0_8.out); rintro e w' ⟨rfl, ⟨nd, rfl⟩⟩; have p192 : 0 ≤ ((ji49) : Int) := of_decide_eq_true u9_7; have q192 : (ji49) < (l0_8.length : Int) := of_decide_eq_true u9_7; obtain ⟨ad192, e192, hx192_0⟩ := Kd.at_int HR0_8.out (ji49) p192 q192; cases e192; replace hx192_0 := (HB.out.cell (World.block_lt_of_cell? w _ hx192_0)).trans hx192_0; replace p192 := eq_true p192; replace q192 := eq_true q192))
         have H := H9.out
         clear H9
         by_cases c53 : (rd l0_8 (ji49)) ≥ a1
         · rw [if_pos c53] at H
           have c53b0 : decide (a1 ≤ (rd l0_8 (ji49))) = true := decide_eq_true c53
           clear c53
           (first | rw [c53b0] | (simp only [i64_w, i32_w]; rw [c53b0]) | skip)
           obtain rfl := Option.some.inj H
           go_wp2
           go_ret
           exact ⟨by first | rfl | (simp [errW_none, errW_some] <;> rfl) | (simp only [← hji49]; first | rfl | (simp [errW_none, errW_some] <;> rfl)) | (simp [*, errW_none, errW_some] <;> rfl), u9_0⟩
         rw [if_neg c53] at H
         have c53b0 : decide (a1 ≤ (rd l0_8 (ji49))) = false := decide_eq_false c53
         clear c53
         (first | rw [c53b0] | (simp only [i64_w, i32_w]; rw [c53b0]) | skip)
         have H' := am H
         clear H
         go_wp2
         go_meet
         case rel => exact ⟨_, H', ⟨u9_11⟩, ⟨u9_1⟩, ⟨u9_0⟩⟩
       clear HC42
       try clear p1
       try clear q1
       try clear hx1
       try clear c2
       try clear p2
       try clear c3
       try clear c4
       try clear c5
       try clear c6
       try clear p6
       try clear c7
       try clear p19
       try clear q19
       try clear hx19
       try clear c25
       try clear c25b0
       try clear c25b1
       try clear c27
       try clear c27b0
       try clear c34
       try clear c36
       try clear c36b0
       try clear c36b1
       try clear c38
       try clear c38b0
       try clear c38b1
       try clear c41
       try clear c44
       try clear c44b0
       try clear c44b1
       try clear c46
       try clear c48
       try clear c50
       try clear c50b0
       try clear c51
       try clear c51b0
       try clear c53
       try clear c53b0
       try clear c56
       try clear c56b0
       try clear c56b1
       try clear hcz37_0
       try clear hcz37_1
       try clear hcz37_2
       try clear hcz37_3
       try clear hcz37_4
       try clear hcz37_5
       try clear hcz37_6
       try clear hcz37_7
       try clear hcz37_8
       try clear hcz37_9
       try clear hcz39_0
       try clear hcz39_1
       try clear hcz39_2
       try clear hcz39_3
       try clear hcz39_4
       try clear hcz39_5
       try clear hcz39_6
       try clear hcz39_7
       try clear hcz39_8
       try clear hcz39_9
       try clear hcz40_0
       try clear hcz40_1
       try clear hcz40_2
       try clear hcz40_3
       try clear hcz40_4
       try clear hcz40_5
       try clear hcz40_6
       try clear hcz40_7
       try clear hcz40_8
       try clear hcz40_9
       try clear hcz43_0
       try clear hcz43_1
       try clear hcz43_2
       try clear hcz43_3
       try clear hcz43_4
       try clear hcz43_5
       try clear hcz43_6
       try clear hcz43_7
       try clear hcz43_8
       try clear hcz43_9
       try clear hcz52_0
       try clear hcz52_1
       try clear hcz52_2
       try clear hcz52_3
       try clear hcz52_4
       try clear hcz52_5
       try clear hcz52_6
       try clear hcz52_7
       try clear hcz52_8
       try clear hcz52_9
       try clear hcz54_0
       try clear hcz54_1
       try clear hcz54_2
       try clear hcz54_3
       try clear hcz54_4
       try clear hcz54_5
       try clear hcz54_6
       try clear hcz54_7
       try clear hcz54_8
       try clear hcz54_9
       try clear hcz55_0
       try clear hcz55_1
       try clear hcz55_2
       try clear hcz55_3
       try clear hcz55_4
       try clear hcz55_5
       try clear hcz55_6
       try clear hcz55_7
       try clear hcz55_8
       try clear hcz55_9
       try clear hcz57_0
       try clear hcz57_1
       try clear hcz57_2
       try clear hcz57_3
       try clear hcz57_4
       try clear hcz57_5
       try clear hcz57_6
       try clear hcz57_7
       try clear hcz57_8
       try clear hcz57_9
       try clear hcz58_0
       try clear hcz58_1
       try clear hcz58_2
       try clear hcz58_3
       try clear hcz58_4
       try clear hcz58_5
       try clear hcz58_6
       try clear hcz58_7
       try clear hcz58_8
       try clear hcz58_9
       try clear hx192_0
       try clear p192
       try clear p2
       try clear q192
       obtain ⟨kq, HA, HJ41, BK181, HB⟩ := hcut
       cases kq with
       | zero => exact absurd HA.out (by simp [spec_NodeOk.j3])
       | succ kj41 =>
         have H := HA.out
         clear HA
         simp only [spec_NodeOk.j3] at H
         by_cases c59 : a0_3 = 2
         rotate_left
         · rw [if_neg c59] at H
           have c59b0 : (a0_3 == 2) = false := beq_eq_false_iff_ne.mpr c59
           have c59b1 : (a0_3 != 2) = true := bne_iff_ne.mpr c59
           obtain rfl := Option.some.inj H
           have hcz71_0 : wc.cell? ⟨gb181, 0, none⟩ = some (.int .i64 a0_0) := (blk_cell BK181.out 0).trans rfl
           have hcz71_1 : wc.cell? ⟨gb181, 1, none⟩ = some (.int .i64 a0_1) := (blk_cell BK181.out 1).trans rfl
           have hcz71_2 : wc.cell? ⟨gb181, 2, none⟩ = some (.int .i64 a0_2) := (blk_cell BK181.out 2).trans rfl
           have hcz71_3 : wc.cell? ⟨gb181, 3, none⟩ = some (.int .i64 a0_3) := (blk_cell BK181.out 3).trans rfl
           have hcz71_4 : wc.cell? ⟨gb181, 4, none⟩ = some (.int .i64 a0_4) := (blk_cell BK181.out 4).trans rfl
           have hcz71_5 : wc.cell? ⟨gb181, 5, none⟩ = some (.int .i64 a0_5) := (blk_cell BK181.out 5).trans rfl
           have hcz71_6 : wc.cell? ⟨gb181, 6, none⟩ = some (.int .i64 a0_6) := (blk_cell BK181.out 6).trans rfl
           have hcz71_7 : wc.cell? ⟨gb181, 7, none⟩ = some (.slice A0_7 l0_7.length c0_7) := (blk_cell BK181.out 7).trans rfl
           have hcz71_8 : wc.cell? ⟨gb181, 8, none⟩ = some (.slice A0_8 l0_8.length c0_8) := (blk_cell BK181.out 8).trans rfl
           have hcz71_9 : wc.cell? ⟨gb181, 9, none⟩ = some (.slice A0_9 l0_9.length c0_9) := (blk_cell BK181.out 9).trans rfl
           go_wp2
           go_ret
           exact ⟨by first | rfl | (simp [errW_none, errW_some] <;> rfl) | (simp [*, errW_none, errW_some] <;> rfl), u9_0⟩
         rw [if_pos c59] at H
         have c59b0 : (a0_3 == 2) = true := beq_iff_eq.mpr c59
         have c59b1 : (a0_3 != 2) = false := bne_eq_false_iff_eq.mpr c59
         clear c59
         have H' := am H
         clear H
         have hcz60_0 : wc.cell? ⟨gb181, 0, none⟩ = some (.int .i64 a0_0) := (blk_cell BK181.out 0).trans rfl
         have hcz60_1 : wc.cell? ⟨gb181, 1, none⟩ = some (.int .i64 a0_1) := (blk_cell BK181.out 1).trans rfl
         have hcz60_2 : wc.cell? ⟨gb181, 2, none⟩ = some (.int .i64 a0_2) := (blk_cell BK181.out 2).trans rfl
         have hcz60_3 : wc.cell? ⟨gb181, 3, none⟩ = some (.int .i64 a0_3) := (blk_cell BK181.out 3).trans rfl
         have hcz60_4 : wc.cell? ⟨gb181, 4, none⟩ = some (.int .i64 a0_4) := (blk_cell BK181.out 4).trans rfl
         have hcz60_5 : wc.cell? ⟨gb181, 5, none⟩ = some (.int .i64 a0_5) := (blk_cell BK181.out 5).trans rfl
         have hcz60_6 : wc.cell? ⟨gb181, 6, none⟩ = some (.int .i64 a0_6) := (blk_cell BK181.out 6).trans rfl
         have hcz60_7 : wc.cell? ⟨gb181, 7, none⟩ = some (.slice A0_7 l0_7.length c0_7) := (blk_cell BK181.out 7).trans rfl
         have hcz60_8 : wc.cell? ⟨gb181, 8, none⟩ = some (.slice A0_8 l0_8.length c0_8) := (blk_cell BK181.out 8).trans rfl
         have hcz60_9 : wc.cell? ⟨gb181, 9, none⟩ = some (.slice A0_9 l0_9.length c0_9) := (blk_cell BK181.out 9).trans rfl
         go_wp2
         go_loopg [6] kj41 (fun kq v6 w' => ∃ (x6_5 : Int), v6 = .int .i64 x6_5 ∧ Aside0 (spec_NodeOk.l0 kq a1 t187 x6_5 a0_0 a0_1 a0_2 a0_3 a0_4 a0_5 a0_6 l0_7 l0_8 l0_9 = some r) ∧ Aside0 (kq ≤ kj41) ∧ Aside0 (w'.heap[gb181]? = some (.cells #[.int .i64 a0_0, .int .i64 a0_1, .int .i64 a0_2, .int .i64 a0_3, .int .i64 a0_4, .int .i64 a0_5, .int .i64 a0_6, (.slice A0_7 l0_7.length c0_7), (.slice A0_8 l0_8.length c0_8), (.slice A0_9 l0_9.length c0_9)] 37 (0, 0))) ∧ Aside0 (Below w.heap.size w w'))
         case atStart => exact ⟨(0), u9_3, H', ⟨Nat.le_refl _⟩, ⟨u9_1⟩, ⟨u9_0⟩⟩
         clear H'
         try clear p1
         try clear q1
         try clear hx1
         try clear c2
         try clear p2
         try clear c3
         try clear c4
         try clear c5
         try clear c6
         try clear p6
         try clear c7
         try clear p19
         try clear q19
         try clear hx19
         try clear c25
         try clear c25b0
         try clear c25b1
         try clear c27
         try clear c27b0
         try clear c34
         try clear c36
         try clear c36b0
         try clear c36b1
         try clear c38
         try clear c38b0
         try clear c38b1
         try clear c41
         try clear c44
         try clear c44b0
         try clear c44b1
         try clear c46
         try clear c48
         try clear c50
         try clear c50b0
         try clear c51
         try clear c51b0
         try clear c53
         try clear c53b0
         try clear c56
         try clear c56b0
         try clear c56b1
         try clear c59
         try clear c59b0
         try clear c59b1
         try clear hcz37_0
         try clear hcz37_1
         try clear hcz37_2
         try clear hcz37_3
         try clear hcz37_4
         try clear hcz37_5
         try clear hcz37_6
         try clear hcz37_7
         try clear hcz37_8
         try clear hcz37_9
         try clear hcz39_0
         try clear hcz39_1
         try clear hcz39_2
         try clear hcz39_3
         try clear hcz39_4
         try clear hcz39_5
         try clear hcz39_6
         try clear hcz39_7
         try clear hcz39_8
         try clear hcz39_9
         try clear hcz40_0
         try clear hcz40_1
         try clear hcz40_2
         try clear hcz40_3
         try clear hcz40_4
         try clear hcz40_5
         try clear hcz40_6
         try clear hcz40_7
         try clear hcz40_8
         try clear hcz40_9
         try clear hcz43_0
         try clear hcz43_1
         try clear hcz43_2
         try clear hcz43_3
         try clear hcz43_4
         try clear hcz43_5
         try clear hcz43_6
         try clear hcz43_7
         try clear hcz43_8
         try clear hcz43_9
         try clear hcz52_0
         try clear hcz52_1
         try clear hcz52_2
         try clear hcz52_3
         try clear hcz52_4
         try clear hcz52_5
         try clear hcz52_6
         try clear hcz52_7
         try clear hcz52_8
         try clear hcz52_9
         try clear hcz54_0
         try clear hcz54_1
         try clear hcz54_2
         try clear hcz54_3
         try clear hcz54_4
         try clear hcz54_5
         try clear hcz54_6
         try clear hcz54_7
         try clear hcz54_8
         try clear hcz54_9
         try clear hcz55_0
         try clear hcz55_1
         try clear hcz55_2
         try clear hcz55_3
         try clear hcz55_4
         try clear hcz55_5
         try clear hcz55_6
         try clear hcz55_7
         try clear hcz55_8
         try clear hcz55_9
         try clear hcz57_0
         try clear hcz57_1
         try clear hcz57_2
         try clear hcz57_3
         try clear hcz57_4
         try clear hcz57_5
         try clear hcz57_6
         try clear hcz57_7
         try clear hcz57_8
         try clear hcz57_9
         try clear hcz58_0
         try clear hcz58_1
         try clear hcz58_2
         try clear hcz58_3
         try clear hcz58_4
         try clear hcz58_5
         try clear hcz58_6
         try clear hcz58_7
         try clear hcz58_8
         try clear hcz58_9
         try clear hcz60_0
         try clear hcz60_1
         try clear hcz60_2
         try clear hcz60_3
         try clear hcz60_4
         try clear hcz60_5
         try clear hcz60_6
         try clear hcz60_7
         try clear hcz60_8
         try clear hcz60_9
         try clear hx192_0
         try clear p1
         try clear p19
         try clear p192
         try clear p2
         try clear p6
         try clear q1
         try clear q19
         try clear q192
         obtain ⟨x6_5, rfl, HA, HK5, BK181, HB⟩ := hrel
         cases gk with
         | zero => exact absurd HA.out (by simp [spec_NodeOk.l0])
         | succ k5 =>
           have H := HA.out
           clear HA
           simp only [spec_NodeOk.l0] at H
           by_cases c61 : x6_5 < (l0_9.length : Int)
           · rw [if_pos c61] at H
             have c61b0 : decide (x6_5 < (l0_9.length : Int)) = true := decide_eq_true c61
             clear c61
             by_cases c62 : 0 ≤ x6_5
             rotate_left
             · rw [if_neg c62] at H
               exact absurd H (by simp)
             rw [if_pos c62] at H
             have c62b0 : decide (0 ≤ x6_5) = true := decide_eq_true c62
             clear c62
             replace H := Option.bind_eq_some_iff.mp H
             obtain ⟨t194, A630, H⟩ := H
             have A63 := am A630
             clear A630
             have H9 := am H
             clear H
             have hcz64_0 : wr.cell? ⟨gb181, 0, none⟩ = some (.int .i64 a0_0) := (blk_cell BK181.out 0).trans rfl
             have hcz64_1 : wr.cell? ⟨gb181, 1, none⟩ = some (.int .i64 a0_1) := (blk_cell BK181.out 1).trans rfl
             have hcz64_2 : wr.cell? ⟨gb181, 2, none⟩ = some (.int .i64 a0_2) := (blk_cell BK181.out 2).trans rfl
             have hcz64_3 : wr.cell? ⟨gb181, 3, none⟩ = some (.int .i64 a0_3) := (blk_cell BK181.out 3).trans rfl
             have hcz64_4 : wr.cell? ⟨gb181, 4, none⟩ = some (.int .i64 a0_4) := (blk_cell BK181.out 4).trans rfl
             have hcz64_5 : wr.cell? ⟨gb181, 5, none⟩ = some (.int .i64 a0_5) := (blk_cell BK181.out 5).trans rfl
             have hcz64_6 : wr.cell? ⟨gb181, 6, none⟩ = some (.int .i64 a0_6) := (blk_cell BK181.out 6).trans rfl
             have hcz64_7 : wr.cell? ⟨gb181, 7, none⟩ = some (.slice A0_7 l0_7.length c0_7) := (blk_cell BK181.out 7).trans rfl
             have hcz64_8 : wr.cell? ⟨gb181, 8, none⟩ = some (.slice A0_8 l0_8.length c0_8) := (blk_cell BK181.out 8).trans rfl
             have hcz64_9 : wr.cell? ⟨gb181, 9, none⟩ = some (.slice A0_9 l0_9.length c0_9) := (blk_cell BK181.out 9).trans rfl
             have p193 : 0 ≤ (x6_5 : Int) := of_decide_eq_true u9_7
             have q193 : x6_5 < (l0_9.length : Int) := of_decide_eq_true u9_7
             obtain ⟨ad193, e193, hx193_0⟩ := Kd.at_int HR0_9.out x6_5 p193 q193
             cases e193
             replace hx193_0 := (HB.out.cell (World.block_lt_of_cell? w _ hx193_0)).trans hx193_0
             replace p193 := eq_true p193
             replace q193 := eq_true q193
             go_upto_if 132 with (first | ((with_reducible refine gate_callee (f := 63) rfl ?_); refine goesL_ (some 131) rfl rfl Try.func63 kr rfl #[.int .i64 (rd l0_9 x6_5), .int .i64 0, .int .i64 t187] rfl u9_2 ?_; (with_reducible refine (spec_l01In.calls (rd l0_9 x6_5) 0 t187 t194 _ A63.out).mono ?_); rintro e w' ⟨rfl, ⟨nd, rfl⟩⟩; refine ⟨_, rfl, ?_⟩))
             have H := H9.out
             clear H9
             by_cases c65 : t194 = true
             rotate_left
             · replace c65 := Bool.eq_false_iff.mpr c65
               subst c65
               rw [if_neg (show ¬ (false = true) by decide)] at H
               obtain rfl := Option.some.inj H
               go_wp2
               go_ret
               exact ⟨by first | rfl | (simp [errW_none, errW_some] <;> rfl) | (simp [*, errW_none, errW_some] <;> rfl), u9_0⟩
             subst c65
             rw [if_pos rfl] at H
             have H' := am H
             clear H
             go_wp2
             go_roundg k5
             case measure => have := HJ2.out; have := HJ19.out; have := HJ34.out; have := HJ41.out; have := HK5.out; omega
             case rel => exact ⟨(wrap64 (x6_5 + 1)), u9_3, H', ⟨(by have := HJ2.out; have := HJ19.out; have := HJ34.out; have := HJ41.out; have := HK5.out; omega)⟩, ⟨u9_1⟩, ⟨u9_0⟩⟩
           rw [if_neg c61] at H
           have c61b0 : decide (x6_5 < (l0_9.length : Int)) = false := decide_eq_false c61
           clear c61
           by_cases c66 : (l0_9.length : Int) = a1
           rotate_left
           · rw [if_neg c66] at H
             have c66b0 : ((l0_9.length : Int) == a1) = false := beq_eq_false_iff_ne.mpr c66
             have c66b1 : ((l0_9.length : Int) != a1) = true := bne_iff_ne.mpr c66
             obtain rfl := Option.some.inj H
             have hcz70_0 : wr.cell? ⟨gb181, 0, none⟩ = some (.int .i64 a0_0) := (blk_cell BK181.out 0).trans rfl
             have hcz70_1 : wr.cell? ⟨gb181, 1, none⟩ = some (.int .i64 a0_1) := (blk_cell BK181.out 1).trans rfl
             have hcz70_2 : wr.cell? ⟨gb181, 2, none⟩ = some (.int .i64 a0_2) := (blk_cell BK181.out 2).trans rfl
             have hcz70_3 : wr.cell? ⟨gb181, 3, none⟩ = some (.int .i64 a0_3) := (blk_cell BK181.out 3).trans rfl
             have hcz70_4 : wr.cell? ⟨gb181, 4, none⟩ = some (.int .i64 a0_4) := (blk_cell BK181.out 4).trans rfl
             have hcz70_5 : wr.cell? ⟨gb181, 5, none⟩ = some (.int .i64 a0_5) := (blk_cell BK181.out 5).trans rfl
             have hcz70_6 : wr.cell? ⟨gb181, 6, none⟩ = some (.int .i64 a0_6) := (blk_cell BK181.out 6).trans rfl
             have hcz70_7 : wr.cell? ⟨gb181, 7, none⟩ = some (.slice A0_7 l0_7.length c0_7) := (blk_cell BK181.out 7).trans rfl
             have hcz70_8 : wr.cell? ⟨gb181, 8, none⟩ = some (.slice A0_8 l0_8.length c0_8) := (blk_cell BK181.out 8).trans rfl
             have hcz70_9 : wr.cell? ⟨gb181, 9, none⟩ = some (.slice A0_9 l0_9.length c0_9) := (blk_cell BK181.out 9).trans rfl
             go_wp2
             go_ret
             exact ⟨by first | rfl | (simp [errW_none, errW_some] <;> rfl) | (simp [*, errW_none, errW_some] <;> rfl), u9_0⟩
           rw [if_pos c66] at H
           have c66b0 : ((l0_9.length : Int) == a1) = true := beq_iff_eq.mpr c66
           have c66b1 : ((l0_9.length : Int) != a1) = false := bne_eq_false_iff_eq.mpr c66
           clear c66
           by_cases c67 : 0 ≤ a0_0
           rotate_left
           · rw [if_neg c67] at H
             exact absurd H (by simp)
           rw [if_pos c67] at H
           have c67b0 : decide (0 ≤ a0_0) = true := decide_eq_true c67
           clear c67
           by_cases c68 : a0_0 < (l0_9.length : Int)
           rotate_left
           · rw [if_neg c68] at H
             exact absurd H (by simp)
           rw [if_pos c68] at H
           have c68b0 : decide (a0_0 < (l0_9.length : Int)) = true := decide_eq_true c68
           clear c68
           obtain rfl := Option.some.inj H
           have hcz69_0 : wr.cell? ⟨gb181, 0, none⟩ = some (.int .i64 a0_0) := (blk_cell BK181.out 0).trans rfl
           have hcz69_1 : wr.cell? ⟨gb181, 1, none⟩ = some (.int .i64 a0_1) := (blk_cell BK181.out 1).trans rfl
           have hcz69_2 : wr.cell? ⟨gb181, 2, none⟩ = some (.int .i64 a0_2) := (blk_cell BK181.out 2).trans rfl
           have hcz69_3 : wr.cell? ⟨gb181, 3, none⟩ = some (.int .i64 a0_3) := (blk_cell BK181.out 3).trans rfl
           have hcz69_4 : wr.cell? ⟨gb181, 4, none⟩ = some (.int .i64 a0_4) := (blk_cell BK181.out 4).trans rfl
           have hcz69_5 : wr.cell? ⟨gb181, 5, none⟩ = some (.int .i64 a0_5) := (blk_cell BK181.out 5).trans rfl
           have hcz69_6 : wr.cell? ⟨gb181, 6, none⟩ = some (.int .i64 a0_6) := (blk_cell BK181.out 6).trans rfl
           have hcz69_7 : wr.cell? ⟨gb181, 7, none⟩ = some (.slice A0_7 l0_7.length c0_7) := (blk_cell BK181.out 7).trans rfl
           have hcz69_8 : wr.cell? ⟨gb181, 8, none⟩ = some (.slice A0_8 l0_8.length c0_8) := (blk_cell BK181.out 8).trans rfl
           have hcz69_9 : wr.cell? ⟨gb181, 9, none⟩ = some (.slice A0_9 l0_9.length c0_9) := (blk_cell BK181.out 9).trans rfl
           have p195 : 0 ≤ (a0_0 : Int) := of_decide_eq_true u9_7
           have q195 : a0_0 < (l0_9.length : Int) := of_decide_eq_true u9_7
           obtain ⟨ad195, e195, hx195_0⟩ := Kd.at_int HR0_9.out a0_0 p195 q195
           cases e195
           replace hx195_0 := (HB.out.cell (World.block_lt_of_cell? w _ hx195_0)).trans hx195_0
           replace p195 := eq_true p195
           replace q195 := eq_true q195
           go_wp2
           go_ret
           exact ⟨by first | rfl | (simp [errW_none, errW_some] <;> rfl) | (simp [*, errW_none, errW_some] <;> rfl), u9_0⟩

end Go.Proofs.Ytkcadcoohmofcaa.QFnExactGroupOk
