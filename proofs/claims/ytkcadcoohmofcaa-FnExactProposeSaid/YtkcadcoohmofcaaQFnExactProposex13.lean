-- Printed by the session's own program wip/prx.py.
import Derived.Test.YtkcadcoohmofcaaSqFnExactPropose
import Derived.Test.YtkcadcoohmofcaaQFnExactProposex0
import Derived.Test.YtkcadcoohmofcaaQFnExactProposex11
import Derived.Test.YtkcadcoohmofcaaQFnExactProposex12
namespace Go.Proofs.Ytkcadcoohmofcaa.QFnExactPropose
open Go.RowKit Go.Proofs.YtkcadcoohmofcaaW.PrintWords Go.Proofs.YtkcadcoohmofcaaW.PrintLast Go.Proofs.YtkcadcoohmofcaaW.PrintMore Go.Proofs.Ytkcadcoohmofcaa.SqFnExactPropose
attribute [local go_sem] max2_int min2_int max_two min_two max_three min_three max_four min_four Go.Proofs.Ytkcadcoohmofcaa.Set.isSome_setCell
set_option linter.unusedVariables false
set_option linter.unusedSimpArgs false

-- squeezed
theorem u13_1 {P : Prop} (h : P := by (with_reducible repeat (first | refine blk_drewN ?_ _ | refine blk_drew ?_ | refine blk_alloc ?_ _)); exact BK326.out) : P := h
theorem u13_6 {P : Prop} (h : P := by repeat (first | exact (Kd.C_below HR0_8.out Q1) | (with_reducible refine Kd.C_alloc ?_ _) | (with_reducible refine Kd.C_drewN ?_ _) | (with_reducible refine Kd.C_drew ?_))) : P := h
theorem u13_10 {P : Prop} (h : P := by have := HJ2.out; have := HJ22.out; first | omega | exact Nat.le_refl _) : P := h
theorem u13_11 {P : Prop} (h : P := by have := HJ2.out; have := HJ22.out; have := HJ49.out; have := HJ56.out; first | omega | exact Nat.le_refl _) : P := h
theorem u13_12 {P : Prop} (h : P := by have := HJ2.out; have := HJ22.out; have := HJ49.out; first | omega | exact Nat.le_refl _) : P := h
/-! ### impl_isNode: function 78 -/
mutual
def impl_isNode.j0 : Nat → Int → Bool → Int → Int → Int → Int → Int → Int → Int → List (S85) → List Int → List Int → Option (Bool)
 | 0, _, _, _, _, _, _, _, _, _, _, _, _ => none
 | k + 1, x1, x52, x327000, x327001, x327002, x327003, x327004, x327005, x327006, x327007, x327008, x327009 => if x52 = true then (some false) else ((impl_isRLog.f k x327005 x327006 x327007).bind fun t327 => (if t327 = true then (if x327005 = 0 then ((impl_RLog_last.f x327005 x327006 x327007).bind fun t328 => ((impl_RLog_term.f x327005 x327006 x327007 t328).bind fun t329 => (if t329 > x327001 then (impl_isNode.j1 k x1 true x327000 x327001 x327002 x327003 x327004 x327005 x327006 x327007 x327008 x327009) else (if x327004 < 0 then (impl_isNode.j1 k x1 true x327000 x327001 x327002 x327003 x327004 x327005 x327006 x327007 x327008 x327009) else ((impl_RLog_last.f x327005 x327006 x327007).bind fun t330 => (impl_isNode.j1 k x1 (decide (x327004 > t330)) x327000 x327001 x327002 x327003 x327004 x327005 x327006 x327007 x327008 x327009)))))) else (impl_isNode.j1 k x1 true x327000 x327001 x327002 x327003 x327004 x327005 x327006 x327007 x327008 x327009)) else (impl_isNode.j1 k x1 true x327000 x327001 x327002 x327003 x327004 x327005 x327006 x327007 x327008 x327009)))
def impl_isNode.j1 : Nat → Int → Bool → Int → Int → Int → Int → Int → Int → Int → List (S85) → List Int → List Int → Option (Bool)
 | 0, _, _, _, _, _, _, _, _, _, _, _, _ => none
 | k + 1, x1, x86, x327000, x327001, x327002, x327003, x327004, x327005, x327006, x327007, x327008, x327009 => if x86 = true then (some false) else (if x327003 = 0 then (impl_isNode.j2 k x1 false x327000 x327001 x327002 x327003 x327004 x327005 x327006 x327007 x327008 x327009) else (if x327002 = x327000 then (impl_isNode.j2 k x1 (x327001 == 0) x327000 x327001 x327002 x327003 x327004 x327005 x327006 x327007 x327008 x327009) else (impl_isNode.j2 k x1 true x327000 x327001 x327002 x327003 x327004 x327005 x327006 x327007 x327008 x327009)))
def impl_isNode.j2 : Nat → Int → Bool → Int → Int → Int → Int → Int → Int → Int → List (S85) → List Int → List Int → Option (Bool)
 | 0, _, _, _, _, _, _, _, _, _, _, _, _ => none
 | k + 1, x1, x101, x327000, x327001, x327002, x327003, x327004, x327005, x327006, x327007, x327008, x327009 => if x101 = true then (some false) else (if x327003 = 1 then ((impl_areIds.f k x327008).bind fun t331 => (if t331 = true then ((slices_Contains_int_int.f k x327008 x327000).bind fun t332 => (if t332 = true then ((slices_Max_int_int.f x327008).bind fun t333 => (if t333 ≥ x1 then (some false) else (impl_isNode.j3 k x1 x327000 x327001 x327002 x327003 x327004 x327005 x327006 x327007 x327008 x327009))) else (some false))) else (some false))) else (if (x327008.length : Int) > 0 then (some false) else (impl_isNode.j3 k x1 x327000 x327001 x327002 x327003 x327004 x327005 x327006 x327007 x327008 x327009)))
def impl_isNode.j3 : Nat → Int → Int → Int → Int → Int → Int → Int → Int → List (S85) → List Int → List Int → Option (Bool)
 | 0, _, _, _, _, _, _, _, _, _, _, _ => none
 | k + 1, x1, x327000, x327001, x327002, x327003, x327004, x327005, x327006, x327007, x327008, x327009 => if x327003 = 2 then (if (x327009.length : Int) = x1 then (if 0 ≤ x327000 then (if x327000 < (x327009.length : Int) then ((impl_RLog_last.f x327005 x327006 x327007).bind fun t335 => (impl_isNode.j4 k ((rd x327009 x327000) != t335) x327000 x327001 x327002 x327003 x327004 x327005 x327006 x327007 x327008 x327009)) else (none)) else (none)) else (impl_isNode.j4 k true x327000 x327001 x327002 x327003 x327004 x327005 x327006 x327007 x327008 x327009)) else (some ((x327009.length : Int) == 0))
def impl_isNode.j4 : Nat → Bool → Int → Int → Int → Int → Int → Int → Int → List (S85) → List Int → List Int → Option (Bool)
 | 0, _, _, _, _, _, _, _, _, _, _, _ => none
 | k + 1, x151, x327000, x327001, x327002, x327003, x327004, x327005, x327006, x327007, x327008, x327009 => if x151 = true then (some false) else ((slices_Min_int_int.f x327009).bind fun t336 => (if t336 ≥ 0 then ((slices_Max_int_int.f x327009).bind fun t337 => ((impl_RLog_last.f x327005 x327006 x327007).bind fun t338 => (some (decide (t337 ≤ t338))))) else (some false)))
end
def impl_isNode.f (k : Nat) (a0_0 : Int) (a0_1 : Int) (a0_2 : Int) (a0_3 : Int) (a0_4 : Int) (a0_5 : Int) (a0_6 : Int) (l0_7 : List (S85)) (l0_8 : List Int) (l0_9 : List Int) (a1 : Int) : Option (Bool) := if a1 < 1 then (impl_isNode.j0 k a1 true a0_0 a0_1 a0_2 a0_3 a0_4 a0_5 a0_6 l0_7 l0_8 l0_9) else (if a1 > 5 then (impl_isNode.j0 k a1 true a0_0 a0_1 a0_2 a0_3 a0_4 a0_5 a0_6 l0_7 l0_8 l0_9) else (if a0_0 < 0 then (impl_isNode.j0 k a1 true a0_0 a0_1 a0_2 a0_3 a0_4 a0_5 a0_6 l0_7 l0_8 l0_9) else (if a0_0 ≥ a1 then (impl_isNode.j0 k a1 true a0_0 a0_1 a0_2 a0_3 a0_4 a0_5 a0_6 l0_7 l0_8 l0_9) else (if a0_1 < 0 then (impl_isNode.j0 k a1 true a0_0 a0_1 a0_2 a0_3 a0_4 a0_5 a0_6 l0_7 l0_8 l0_9) else (if a0_1 > 1000000 then (impl_isNode.j0 k a1 true a0_0 a0_1 a0_2 a0_3 a0_4 a0_5 a0_6 l0_7 l0_8 l0_9) else (if a0_2 < (-1) then (impl_isNode.j0 k a1 true a0_0 a0_1 a0_2 a0_3 a0_4 a0_5 a0_6 l0_7 l0_8 l0_9) else (if a0_2 ≥ a1 then (impl_isNode.j0 k a1 true a0_0 a0_1 a0_2 a0_3 a0_4 a0_5 a0_6 l0_7 l0_8 l0_9) else (if a0_3 < 0 then (impl_isNode.j0 k a1 true a0_0 a0_1 a0_2 a0_3 a0_4 a0_5 a0_6 l0_7 l0_8 l0_9) else (impl_isNode.j0 k a1 (decide (a0_3 > 2)) a0_0 a0_1 a0_2 a0_3 a0_4 a0_5 a0_6 l0_7 l0_8 l0_9)))))))))
theorem impl_isNode.mono_l : ∀ k, (∀ y0 y1 y2 y3 y4 y5 y6 y7 y8 y9 y10 y11, LeO (impl_isNode.j0 k y0 y1 y2 y3 y4 y5 y6 y7 y8 y9 y10 y11) (impl_isNode.j0 (k + 1) y0 y1 y2 y3 y4 y5 y6 y7 y8 y9 y10 y11)) ∧ (∀ y0 y1 y2 y3 y4 y5 y6 y7 y8 y9 y10 y11, LeO (impl_isNode.j1 k y0 y1 y2 y3 y4 y5 y6 y7 y8 y9 y10 y11) (impl_isNode.j1 (k + 1) y0 y1 y2 y3 y4 y5 y6 y7 y8 y9 y10 y11)) ∧ (∀ y0 y1 y2 y3 y4 y5 y6 y7 y8 y9 y10 y11, LeO (impl_isNode.j2 k y0 y1 y2 y3 y4 y5 y6 y7 y8 y9 y10 y11) (impl_isNode.j2 (k + 1) y0 y1 y2 y3 y4 y5 y6 y7 y8 y9 y10 y11)) ∧ (∀ y0 y1 y2 y3 y4 y5 y6 y7 y8 y9 y10, LeO (impl_isNode.j3 k y0 y1 y2 y3 y4 y5 y6 y7 y8 y9 y10) (impl_isNode.j3 (k + 1) y0 y1 y2 y3 y4 y5 y6 y7 y8 y9 y10)) ∧ (∀ y0 y1 y2 y3 y4 y5 y6 y7 y8 y9 y10, LeO (impl_isNode.j4 k y0 y1 y2 y3 y4 y5 y6 y7 y8 y9 y10) (impl_isNode.j4 (k + 1) y0 y1 y2 y3 y4 y5 y6 y7 y8 y9 y10))
 | 0 => ⟨fun _ _ _ _ _ _ _ _ _ _ _ _ r h => by simp [impl_isNode.j0] at h, fun _ _ _ _ _ _ _ _ _ _ _ _ r h => by simp [impl_isNode.j1] at h, fun _ _ _ _ _ _ _ _ _ _ _ _ r h => by simp [impl_isNode.j2] at h, fun _ _ _ _ _ _ _ _ _ _ _ r h => by simp [impl_isNode.j3] at h, fun _ _ _ _ _ _ _ _ _ _ _ r h => by simp [impl_isNode.j4] at h⟩
 | k + 1 => by
   obtain ⟨ih0, ih1, ih2, ih3, ih4⟩ := impl_isNode.mono_l k
   refine ⟨?_, ?_, ?_, ?_, ?_⟩ <;> intros <;> (first | unfold impl_isNode.j0 | unfold impl_isNode.j1 | unfold impl_isNode.j2 | unfold impl_isNode.j3 | unfold impl_isNode.j4) <;> repeat' first
   | (with_reducible exact ih0 _ _ _ _ _ _ _ _ _ _ _ _)
   | (with_reducible exact ih1 _ _ _ _ _ _ _ _ _ _ _ _)
   | (with_reducible exact ih2 _ _ _ _ _ _ _ _ _ _ _ _)
   | (with_reducible exact ih3 _ _ _ _ _ _ _ _ _ _ _)
   | (with_reducible exact ih4 _ _ _ _ _ _ _ _ _ _ _)
   | (with_reducible exact impl_areIds.mono _ _)
   | (with_reducible exact impl_isRLog.mono _ _ _ _)
   | (with_reducible exact slices_Contains_int_int.mono _ _ _)
   | (with_reducible exact LeO.refl _)
   | (with_reducible exact LeO.none _)
   | (with_reducible refine LeO.ite ?_ ?_)
   | (with_reducible refine LeO.bind ?_ (fun _ => ?_))
   | exact ih0 _ _ _ _ _ _ _ _ _ _ _ _
   | exact ih1 _ _ _ _ _ _ _ _ _ _ _ _
   | exact ih2 _ _ _ _ _ _ _ _ _ _ _ _
   | exact ih3 _ _ _ _ _ _ _ _ _ _ _
   | exact ih4 _ _ _ _ _ _ _ _ _ _ _
   | exact impl_areIds.mono _ _
   | exact impl_isRLog.mono _ _ _ _
   | exact slices_Contains_int_int.mono _ _ _
   | exact LeO.none _
   | refine LeO.ite ?_ ?_
   | refine LeO.bind ?_ (fun _ => ?_)
theorem impl_isNode.mono : ∀ a0 a1 a2 a3 a4 a5 a6 a7 a8 a9 a10 k, LeO (impl_isNode.f k a0 a1 a2 a3 a4 a5 a6 a7 a8 a9 a10) (impl_isNode.f (k + 1) a0 a1 a2 a3 a4 a5 a6 a7 a8 a9 a10) := by
 intro a0 a1 a2 a3 a4 a5 a6 a7 a8 a9 a10 k
 obtain ⟨ih0, ih1, ih2, ih3, ih4⟩ := impl_isNode.mono_l k
 unfold impl_isNode.f
 repeat' first
     | (with_reducible exact ih0 _ _ _ _ _ _ _ _ _ _ _ _)
     | (with_reducible exact ih1 _ _ _ _ _ _ _ _ _ _ _ _)
     | (with_reducible exact ih2 _ _ _ _ _ _ _ _ _ _ _ _)
     | (with_reducible exact ih3 _ _ _ _ _ _ _ _ _ _ _)
     | (with_reducible exact ih4 _ _ _ _ _ _ _ _ _ _ _)
     | (with_reducible exact impl_areIds.mono _ _)
     | (with_reducible exact impl_isRLog.mono _ _ _ _)
     | (with_reducible exact slices_Contains_int_int.mono _ _ _)
     | (with_reducible exact LeO.refl _)
     | (with_reducible exact LeO.none _)
     | (with_reducible refine LeO.ite ?_ ?_)
     | (with_reducible refine LeO.bind ?_ (fun _ => ?_))
     | exact ih0 _ _ _ _ _ _ _ _ _ _ _ _
     | exact ih1 _ _ _ _ _ _ _ _ _ _ _ _
     | exact ih2 _ _ _ _ _ _ _ _ _ _ _ _
     | exact ih3 _ _ _ _ _ _ _ _ _ _ _
     | exact ih4 _ _ _ _ _ _ _ _ _ _ _
     | exact impl_areIds.mono _ _
     | exact impl_isRLog.mono _ _ _ _
     | exact slices_Contains_int_int.mono _ _ _
     | exact LeO.none _
     | refine LeO.ite ?_ ?_
     | refine LeO.bind ?_ (fun _ => ?_)
def impl_isNode.T3 : Bool × List (List Nat × List Nat) := (true, [([], []), ([0], [0]), ([1], [1]), ([2], [2]), ([3, 2], [3]), ([4], [4]), ([5, 4], [4, 5]), ([6, 4], [4, 6]), ([7, 4], [4, 7]), ([4, 8], [4, 8]), ([9, 4], [9]), ([10], [10]), ([11, 10], [10, 11]), ([10], [10]), ([13, 10], [10, 13]), ([14, 10, 10], [10, 14]), ([12, 15, 15, 10], [10, 12, 15]), ([10], [10]), ([17, 10], [10, 17]), ([16, 18, 10], [10, 16, 18]), ([10, 19], [10, 19]), ([20, 16], [20]), ([21], [21]), ([22, 21], [21, 22]), ([23, 21], [21, 23]), ([21, 24], [21, 24]), ([25, 21], [25]), ([26], [26]), ([27, 26], [26, 27]), ([26], [26]), ([29, 26], [26, 29]), ([30, 26, 26], [26, 30]), ([28, 31, 26], [26, 28, 31]), ([26, 32], [26, 32])])
def impl_isNode.B3 : List Nat := [0, 1, 3, 7, 15, 31, 63, 127, 255, 511, 1023, 2047, 4095, 2047, 10239, 26623, 65535, 2047, 133119, 524287, 1048575, 2097151, 4194303, 8388607, 16777215, 33554431, 67108863, 134217727, 268435455, 134217727, 671088639, 1744830463, 4294967295, 8589934591]
theorem impl_isNode.tab3 : rtab .any (opsOf Try.f78 3) = impl_isNode.T3 := by kernel_rfl
theorem impl_isNode.bits3 : waitsOk impl_isNode.T3.2 impl_isNode.B3 = true := by kernel_rfl
def impl_isNode.T14 : Bool × List (List Nat × List Nat) := (true, [([], []), ([0], [0]), ([1], [1]), ([], []), ([2, 3], [2, 3]), ([4], [4]), ([5], [5]), ([6, 5], [5, 6]), ([5], [5]), ([8, 5], [5, 8]), ([7, 9, 5], [5, 7, 9]), ([10, 5], [5, 10]), ([5], [5]), ([12, 5], [5, 12]), ([13, 5, 5], [5, 13]), ([11, 14, 5], [5, 11, 14]), ([5, 15], [5, 15])])
def impl_isNode.B14 : List Nat := [0, 1, 3, 0, 15, 31, 63, 127, 63, 319, 1023, 2047, 63, 4159, 12351, 32767, 65535]
theorem impl_isNode.tab14 : rtab .any (opsOf Try.f78 14) = impl_isNode.T14 := by kernel_rfl
theorem impl_isNode.bits14 : waitsOk impl_isNode.T14.2 impl_isNode.B14 = true := by kernel_rfl
def impl_isNode.T16 : Bool × List (List Nat × List Nat) := (true, [([], []), ([0], [0]), ([1], [1]), ([2], [2]), ([3, 2], [3]), ([4], [4]), ([5, 4], [4, 5]), ([6, 4, 4], [4, 6]), ([4], [4]), ([8, 4], [4, 8]), ([9, 7, 4], [4, 9]), ([7, 10, 4], [4, 7, 10]), ([4, 11], [4, 11]), ([12, 10, 0, 1, 2, 3, 4, 5, 6, 7, 8, 9, 10, 11, 12], [12])])
def impl_isNode.B16 : List Nat := [0, 1, 3, 7, 15, 31, 63, 127, 31, 287, 1023, 2047, 4095, 8191]
theorem impl_isNode.tab16 : rtab .any (opsOf Try.f78 16) = impl_isNode.T16 := by kernel_rfl
theorem impl_isNode.bits16 : waitsOk impl_isNode.T16.2 impl_isNode.B16 = true := by kernel_rfl
set_option maxHeartbeats 8000000 in
set_option maxRecDepth 100000 in
theorem impl_isNode.calls (k : Nat) (a0_0 : Int) (a0_1 : Int) (a0_2 : Int) (a0_3 : Int) (a0_4 : Int) (a0_5 : Int) (a0_6 : Int) (A0_7 : Option Addr) (c0_7 : Nat) (l0_7 : List (S85)) (A0_8 : Option Addr) (c0_8 : Nat) (l0_8 : List Int) (A0_9 : Option Addr) (c0_9 : Nat) (l0_9 : List Int) (a1 : Int) (r : Bool) (w : World) (hr0_7 : Kd.C k85 w A0_7 l0_7.length l0_7) (hc0_7 : l0_7.length ≤ c0_7) (hr0_8 : Kd.C (Kd.int .i64) w A0_8 l0_8.length l0_8) (hc0_8 : l0_8.length ≤ c0_8) (hr0_9 : Kd.C (Kd.int .i64) w A0_9 l0_9.length l0_9) (hc0_9 : l0_9.length ≤ c0_9) (h : impl_isNode.f k a0_0 a0_1 a0_2 a0_3 a0_4 a0_5 a0_6 l0_7 l0_8 l0_9 a1 = some r) :
   Calls Try.prog 78 #[.agg #[.int .i64 a0_0, .int .i64 a0_1, .int .i64 a0_2, .int .i64 a0_3, .int .i64 a0_4, .int .i64 a0_5, .int .i64 a0_6, .slice A0_7 l0_7.length c0_7, .slice A0_8 l0_8.length c0_8, .slice A0_9 l0_9.length c0_9], .int .i64 a1] w fun e w' => e = .returned (.bool r) ∧ Below w.heap.size w w' := by
 have hu37 := Try.underlying37
 have hu34 := Try.underlying34
 have HR0_7 := am hr0_7
 have HC0_7 := am hc0_7
 clear hr0_7 hc0_7
 have HR0_8 := am hr0_8
 have HC0_8 := am hc0_8
 clear hr0_8 hc0_8
 have HR0_9 := am hr0_9
 have HC0_9 := am hc0_9
 clear hr0_9 hc0_9
 have HB := am (Below.refl w.heap.size w)
 have H : (if a1 < 1 then (impl_isNode.j0 k a1 true a0_0 a0_1 a0_2 a0_3 a0_4 a0_5 a0_6 l0_7 l0_8 l0_9) else (if a1 > 5 then (impl_isNode.j0 k a1 true a0_0 a0_1 a0_2 a0_3 a0_4 a0_5 a0_6 l0_7 l0_8 l0_9) else (if a0_0 < 0 then (impl_isNode.j0 k a1 true a0_0 a0_1 a0_2 a0_3 a0_4 a0_5 a0_6 l0_7 l0_8 l0_9) else (if a0_0 ≥ a1 then (impl_isNode.j0 k a1 true a0_0 a0_1 a0_2 a0_3 a0_4 a0_5 a0_6 l0_7 l0_8 l0_9) else (if a0_1 < 0 then (impl_isNode.j0 k a1 true a0_0 a0_1 a0_2 a0_3 a0_4 a0_5 a0_6 l0_7 l0_8 l0_9) else (if a0_1 > 1000000 then (impl_isNode.j0 k a1 true a0_0 a0_1 a0_2 a0_3 a0_4 a0_5 a0_6 l0_7 l0_8 l0_9) else (if a0_2 < (-1) then (impl_isNode.j0 k a1 true a0_0 a0_1 a0_2 a0_3 a0_4 a0_5 a0_6 l0_7 l0_8 l0_9) else (if a0_2 ≥ a1 then (impl_isNode.j0 k a1 true a0_0 a0_1 a0_2 a0_3 a0_4 a0_5 a0_6 l0_7 l0_8 l0_9) else (if a0_3 < 0 then (impl_isNode.j0 k a1 true a0_0 a0_1 a0_2 a0_3 a0_4 a0_5 a0_6 l0_7 l0_8 l0_9) else (impl_isNode.j0 k a1 (decide (a0_3 > 2)) a0_0 a0_1 a0_2 a0_3 a0_4 a0_5 a0_6 l0_7 l0_8 l0_9)))))))))) = some r := h
 clear h
 have HC3 := am H
 clear H
 go_enter Try.func78, Try.ntmps78
 go_upto_region 1 with (first | ((with_reducible refine gate_dst (N := 2) rfl ?_); refine box_event ?hg (N := 2) ?hd (cs := #[.int .i64 a0_0, .int .i64 a0_1, .int .i64 a0_2, .int .i64 a0_3, .int .i64 a0_4, .int .i64 a0_5, .int .i64 a0_6, .slice A0_7 l0_7.length c0_7, .slice A0_8 l0_8.length c0_8, .slice A0_9 l0_9.length c0_9]) (t := 37) ?hr ?_; (case hd => rfl); (case hg => rfl); (case hr => first | (go_simp; done) | (go_simp; rfl)); intro gb326 hg w4 hbox hb; have BK326 := am (hbox); have GW326 := am ((by rw [hg]; exact (below_size Q1) : w.heap.size ≤ gb326)); have GE326 := am ((by rw [hg]; exact (below_size Q1) : w.heap.size ≤ gb326)); replace HB := am (below_step Q1 hb); clear hb hbox hg))
 (try simp only [Act.put, la, lb, lc])
 go_cut [52] (fun v52 wc => ∃ (kq : Nat) (x52_2 : Bool), v52 = .bool x52_2 ∧ Aside0 (impl_isNode.j0 kq a1 x52_2 a0_0 a0_1 a0_2 a0_3 a0_4 a0_5 a0_6 l0_7 l0_8 l0_9 = some r) ∧ Aside0 (kq ≤ k) ∧ Aside0 (wc.heap[gb326]? = some (.cells #[.int .i64 a0_0, .int .i64 a0_1, .int .i64 a0_2, .int .i64 a0_3, .int .i64 a0_4, .int .i64 a0_5, .int .i64 a0_6, (.slice A0_7 l0_7.length c0_7), (.slice A0_8 l0_8.length c0_8), (.slice A0_9 l0_9.length c0_9)] 37 (0, 0))) ∧ Aside0 (Below w.heap.size w wc))
 case first =>
   have H := HC3.out
   clear HC3
   by_cases c5 : a1 < 1
   · rw [if_pos c5] at H
     have c5b0 : decide (a1 < 1) = true := decide_eq_true c5
     clear c5
     (first | rw [c5b0] | (simp only [i64_w, i32_w]; rw [c5b0]) | skip)
     have H' := am H
     clear H
     go_wp2
     go_meet
     case rel => exact ⟨_, (true), Q2, H', ⟨by first | omega | exact Nat.le_refl _⟩, ⟨u13_1⟩, ⟨Q1⟩⟩
   rw [if_neg c5] at H
   have c5b0 : decide (a1 < 1) = false := decide_eq_false c5
   clear c5
   (first | rw [c5b0] | (simp only [i64_w, i32_w]; rw [c5b0]) | skip)
   by_cases c6 : a1 > 5
   · rw [if_pos c6] at H
     have c6b0 : decide (5 < a1) = true := decide_eq_true c6
     clear c6
     have H' := am H
     clear H
     go_wp2
     go_meet
     case rel => exact ⟨_, (true), Q2, H', ⟨by first | omega | exact Nat.le_refl _⟩, ⟨u13_1⟩, ⟨Q1⟩⟩
   rw [if_neg c6] at H
   have c6b0 : decide (5 < a1) = false := decide_eq_false c6
   clear c6
   by_cases c7 : a0_0 < 0
   · rw [if_pos c7] at H
     have c7b0 : decide (a0_0 < 0) = true := decide_eq_true c7
     clear c7
     have H' := am H
     clear H
     obtain ⟨hcz8_0, hcz8_1, hcz8_2, hcz8_3, hcz8_4, hcz8_5, hcz8_6, hcz8_7, hcz8_8, hcz8_9⟩ := bc10 w4 BK326.out
     go_wp2
     go_meet
     case rel => exact ⟨_, (true), Q2, H', ⟨by first | omega | exact Nat.le_refl _⟩, ⟨u13_1⟩, ⟨Q1⟩⟩
   rw [if_neg c7] at H
   have c7b0 : decide (a0_0 < 0) = false := decide_eq_false c7
   clear c7
   by_cases c9 : a0_0 ≥ a1
   · rw [if_pos c9] at H
     have c9b0 : decide (a1 ≤ a0_0) = true := decide_eq_true c9
     clear c9
     have H' := am H
     clear H
     obtain ⟨hcz10_0, hcz10_1, hcz10_2, hcz10_3, hcz10_4, hcz10_5, hcz10_6, hcz10_7, hcz10_8, hcz10_9⟩ := bc10 w4 BK326.out
     go_wp2
     go_meet
     case rel => exact ⟨_, (true), Q2, H', ⟨by first | omega | exact Nat.le_refl _⟩, ⟨u13_1⟩, ⟨Q1⟩⟩
   rw [if_neg c9] at H
   have c9b0 : decide (a1 ≤ a0_0) = false := decide_eq_false c9
   clear c9
   by_cases c11 : a0_1 < 0
   · rw [if_pos c11] at H
     have c11b0 : decide (a0_1 < 0) = true := decide_eq_true c11
     clear c11
     have H' := am H
     clear H
     obtain ⟨hcz12_0, hcz12_1, hcz12_2, hcz12_3, hcz12_4, hcz12_5, hcz12_6, hcz12_7, hcz12_8, hcz12_9⟩ := bc10 w4 BK326.out
     go_wp2
     go_meet
     case rel => exact ⟨_, (true), Q2, H', ⟨by first | omega | exact Nat.le_refl _⟩, ⟨u13_1⟩, ⟨Q1⟩⟩
   rw [if_neg c11] at H
   have c11b0 : decide (a0_1 < 0) = false := decide_eq_false c11
   clear c11
   by_cases c13 : a0_1 > 1000000
   · rw [if_pos c13] at H
     have c13b0 : decide (1000000 < a0_1) = true := decide_eq_true c13
     clear c13
     have H' := am H
     clear H
     obtain ⟨hcz14_0, hcz14_1, hcz14_2, hcz14_3, hcz14_4, hcz14_5, hcz14_6, hcz14_7, hcz14_8, hcz14_9⟩ := bc10 w4 BK326.out
     go_wp2
     go_meet
     case rel => exact ⟨_, (true), Q2, H', ⟨by first | omega | exact Nat.le_refl _⟩, ⟨u13_1⟩, ⟨Q1⟩⟩
   rw [if_neg c13] at H
   have c13b0 : decide (1000000 < a0_1) = false := decide_eq_false c13
   clear c13
   by_cases c15 : a0_2 < (-1)
   · rw [if_pos c15] at H
     have c15b0 : decide (a0_2 < (-1)) = true := decide_eq_true c15
     clear c15
     have H' := am H
     clear H
     obtain ⟨hcz16_0, hcz16_1, hcz16_2, hcz16_3, hcz16_4, hcz16_5, hcz16_6, hcz16_7, hcz16_8, hcz16_9⟩ := bc10 w4 BK326.out
     go_wp2
     go_meet
     case rel => exact ⟨_, (true), Q2, H', ⟨by first | omega | exact Nat.le_refl _⟩, ⟨u13_1⟩, ⟨Q1⟩⟩
   rw [if_neg c15] at H
   have c15b0 : decide (a0_2 < (-1)) = false := decide_eq_false c15
   clear c15
   by_cases c17 : a0_2 ≥ a1
   · rw [if_pos c17] at H
     have c17b0 : decide (a1 ≤ a0_2) = true := decide_eq_true c17
     clear c17
     have H' := am H
     clear H
     obtain ⟨hcz18_0, hcz18_1, hcz18_2, hcz18_3, hcz18_4, hcz18_5, hcz18_6, hcz18_7, hcz18_8, hcz18_9⟩ := bc10 w4 BK326.out
     go_wp2
     go_meet
     case rel => exact ⟨_, (true), Q2, H', ⟨by first | omega | exact Nat.le_refl _⟩, ⟨u13_1⟩, ⟨Q1⟩⟩
   rw [if_neg c17] at H
   have c17b0 : decide (a1 ≤ a0_2) = false := decide_eq_false c17
   clear c17
   by_cases c19 : a0_3 < 0
   · rw [if_pos c19] at H
     have c19b0 : decide (a0_3 < 0) = true := decide_eq_true c19
     clear c19
     have H' := am H
     clear H
     obtain ⟨hcz20_0, hcz20_1, hcz20_2, hcz20_3, hcz20_4, hcz20_5, hcz20_6, hcz20_7, hcz20_8, hcz20_9⟩ := bc10 w4 BK326.out
     go_wp2
     go_meet
     case rel => exact ⟨_, (true), Q2, H', ⟨by first | omega | exact Nat.le_refl _⟩, ⟨u13_1⟩, ⟨Q1⟩⟩
   rw [if_neg c19] at H
   have c19b0 : decide (a0_3 < 0) = false := decide_eq_false c19
   clear c19
   have H' := am H
   clear H
   obtain ⟨hcz21_0, hcz21_1, hcz21_2, hcz21_3, hcz21_4, hcz21_5, hcz21_6, hcz21_7, hcz21_8, hcz21_9⟩ := bc10 w4 BK326.out
   go_wp2
   go_meet
   case rel => exact ⟨_, (decide (a0_3 > 2)), Q2, H', ⟨by first | omega | exact Nat.le_refl _⟩, ⟨u13_1⟩, ⟨Q1⟩⟩
 clear HC3
 obtain ⟨kq, x52_2, rfl, HA, HJ2, BK326, HB⟩ := hcut
 cases kq with
 | zero => exact absurd HA.out (by simp [impl_isNode.j0])
 | succ kj2 =>
   have H := HA.out
   clear HA
   simp only [impl_isNode.j0] at H
   as_aux_lemma =>
    by_cases c22 : x52_2 = true
    · subst c22
      rw [if_pos rfl] at H
      obtain rfl := sj H
      go_wp2
      go_ret
      exact ⟨er, Q1⟩
    replace c22 := Bool.eq_false_iff.mpr c22
    subst c22
    rw [nf] at H
    have HC23 := am H
    clear H
    go_upto_region 3 with (fail)
    go_cut [86] (fun v86 wc => ∃ (kq : Nat) (x86_22 : Bool), v86 = .bool x86_22 ∧ Aside0 (impl_isNode.j1 kq a1 x86_22 a0_0 a0_1 a0_2 a0_3 a0_4 a0_5 a0_6 l0_7 l0_8 l0_9 = some r) ∧ Aside0 (kq ≤ kj2) ∧ Aside0 (wc.heap[gb326]? = some (.cells #[.int .i64 a0_0, .int .i64 a0_1, .int .i64 a0_2, .int .i64 a0_3, .int .i64 a0_4, .int .i64 a0_5, .int .i64 a0_6, (.slice A0_7 l0_7.length c0_7), (.slice A0_8 l0_8.length c0_8), (.slice A0_9 l0_9.length c0_9)] 37 (0, 0))) ∧ Aside0 (Below w.heap.size w wc))
    case first =>
      have H := HC23.out
      clear HC23
      replace H := Option.bind_eq_some_iff.mp H
      obtain ⟨t327, A240, H⟩ := H
      have A24 := am A240
      clear A240
      by_cases c25 : t327 = true
      rotate_left
      · replace c25 := Bool.eq_false_iff.mpr c25
        subst c25
        rw [nf] at H
        have H' := am H
        clear H
        try go_wp2
        replace BK326 := am (blk_drew BK326.out)
        replace HB := am (below_drew1 HB.out)
        refine start_ (n := 34) (S := fun w' => w'.cell? ⟨gb326, 0, none⟩ = some (.int .i64 a0_0) ∧ w'.cell? ⟨gb326, 1, none⟩ = some (.int .i64 a0_1) ∧ w'.cell? ⟨gb326, 2, none⟩ = some (.int .i64 a0_2) ∧ w'.cell? ⟨gb326, 3, none⟩ = some (.int .i64 a0_3) ∧ w'.cell? ⟨gb326, 4, none⟩ = some (.int .i64 a0_4) ∧ w'.cell? ⟨gb326, 5, none⟩ = some (.int .i64 a0_5) ∧ w'.cell? ⟨gb326, 6, none⟩ = some (.int .i64 a0_6) ∧ w'.cell? ⟨gb326, 7, none⟩ = some (.slice A0_7 l0_7.length c0_7) ∧ w'.cell? ⟨gb326, 8, none⟩ = some (.slice A0_8 l0_8.length c0_8) ∧ w'.cell? ⟨gb326, 9, none⟩ = some (.slice A0_9 l0_9.length c0_9)) (ds := []) b0_34 kr rfl rfl ⟨(blk_cell BK326.out 0).trans rfl, (blk_cell BK326.out 1).trans rfl, (blk_cell BK326.out 2).trans rfl, (blk_cell BK326.out 3).trans rfl, (blk_cell BK326.out 4).trans rfl, (blk_cell BK326.out 5).trans rfl, (blk_cell BK326.out 6).trans rfl, (blk_cell BK326.out 7).trans rfl, (blk_cell BK326.out 8).trans rfl, (blk_cell BK326.out 9).trans rfl⟩ (fun hHeld => ?_); refine with_tabW impl_isNode.tab3 impl_isNode.bits3 (fun HT_ HW_ => ?_)
        generalize wc.drew = w47 at BK326 HB hHeld ⊢
        refine pV 0 53 (bt 1 34) ?_
        refine tV 1 54 (bt 2 34) ?_
        refine one_ (i := 2) (N := some 55) b3_34 rfl rfl (one_of HT_.out kr) (by decide) (fun K hK => ?_)
        refine goes_ Try.func88 kr rfl #[.agg #[.int .i64 a0_5, .int .i64 a0_6, .slice A0_7 l0_7.length c0_7]] (by rfl) rfl rfl Q3 ?_
        with_reducible refine (impl_isRLog.calls kj2 a0_5 a0_6 _ _ l0_7 false _ ?side1 ?side2 A24.out).mono ?_
        (case side1 => exact Q8)
        (case side2 => exact HC0_7.out)
        rintro e w48 ⟨rfl, hb⟩
        refine ⟨_, rfl, ?_⟩
        replace BK326 := am (blk_below (g := gb326) (o := .cells #[.int .i64 a0_0, .int .i64 a0_1, .int .i64 a0_2, .int .i64 a0_3, .int .i64 a0_4, .int .i64 a0_5, .int .i64 a0_6, .slice A0_7 l0_7.length c0_7, .slice A0_8 l0_8.length c0_8, .slice A0_9 l0_9.length c0_9] 37 (0, 0)) u13_1 hb)
        replace HB := am (below_step Q1 hb)
        (try clear hb)
        (try clear hb2)
        (try clear hk)
        (try clear hi)
        refine hK.out _ _ ⟨(blk_cell BK326.out 0).trans rfl, (blk_cell BK326.out 1).trans rfl, (blk_cell BK326.out 2).trans rfl, (blk_cell BK326.out 3).trans rfl, (blk_cell BK326.out 4).trans rfl, (blk_cell BK326.out 5).trans rfl, (blk_cell BK326.out 6).trans rfl, (blk_cell BK326.out 7).trans rfl, (blk_cell BK326.out 8).trans rfl, (blk_cell BK326.out 9).trans rfl⟩ (fun hHeld => ?_)
        clear hK K
        refine norm_ (a' := ?_) ?_ ?_
        rotate_left
        · show Act.put _ (some 55) _ = _
          simp only [Act.put, la, lb, lc, i64_w, i32_w]
          rfl
        refine pV 3 56 (bt 4 34) ?_
        refine pV 4 57 (bt 5 34) ?_
        refine pU 5 58 (bt 6 34) ?_
        refine pU 6 59 (bt 7 34) ?_
        refine pU 7 60 (bt 8 34) ?_
        refine pU 8 61 (bt 9 34) ?_
        refine pV 9 62 (bt 10 34) ?_
        refine pV 10 63 (bt 11 34) ?_
        refine pU 11 64 (bt 12 34) ?_
        refine pU 12 65 (bt 13 34) ?_
        refine pU 13 66 (bt 14 34) ?_
        refine pU 14 67 (bt 15 34) ?_
        refine pU 15 68 (bt 16 34) ?_
        refine pU 16 69 (bt 17 34) ?_
        refine pU 17 70 (bt 18 34) ?_
        refine pU 18 71 (bt 19 34) ?_
        refine pU 19 72 (bt 20 34) ?_
        refine pV 20 73 (bt 21 34) ?_
        refine pV 21 74 (bt 22 34) ?_
        refine pU 22 75 (bt 23 34) ?_
        refine pU 23 76 (bt 24 34) ?_
        refine pU 24 77 (bt 25 34) ?_
        refine pV 25 78 (bt 26 34) ?_
        refine pV 26 79 (bt 27 34) ?_
        refine pU 27 80 (bt 28 34) ?_
        refine pU 28 81 (bt 29 34) ?_
        refine pU 29 82 (bt 30 34) ?_
        refine pU 30 83 (bt 31 34) ?_
        refine pU 31 84 (bt 32 34) ?_
        refine pU 32 85 (bt 33 34) ?_
        refine pV 33 86 (bt 34 34) ?_
        refine done_ (done_of HT_.out kr) ?_
        try go_wp2
        go_meet
        case rel => exact ⟨_, (true), Q2, H', ⟨Q9⟩, ⟨u13_1⟩, ⟨Q1⟩⟩
      subst c25
      rw [if_pos rfl] at H
      by_cases c26 : a0_5 = 0
      rotate_left
      · rw [if_neg c26] at H
        have c26b0 : (a0_5 == 0) = false := beq_eq_false_iff_ne.mpr c26
        have c26b1 : (a0_5 != 0) = true := bne_iff_ne.mpr c26
        (first | rw [c26b0] | (simp only [i64_w, i32_w]; rw [c26b0]) | skip)
        have H' := am H
        clear H
        try go_wp2
        replace BK326 := am (blk_drew BK326.out)
        replace HB := am (below_drew1 HB.out)
        refine start_ (n := 34) (S := fun w' => w'.cell? ⟨gb326, 0, none⟩ = some (.int .i64 a0_0) ∧ w'.cell? ⟨gb326, 1, none⟩ = some (.int .i64 a0_1) ∧ w'.cell? ⟨gb326, 2, none⟩ = some (.int .i64 a0_2) ∧ w'.cell? ⟨gb326, 3, none⟩ = some (.int .i64 a0_3) ∧ w'.cell? ⟨gb326, 4, none⟩ = some (.int .i64 a0_4) ∧ w'.cell? ⟨gb326, 5, none⟩ = some (.int .i64 a0_5) ∧ w'.cell? ⟨gb326, 6, none⟩ = some (.int .i64 a0_6) ∧ w'.cell? ⟨gb326, 7, none⟩ = some (.slice A0_7 l0_7.length c0_7) ∧ w'.cell? ⟨gb326, 8, none⟩ = some (.slice A0_8 l0_8.length c0_8) ∧ w'.cell? ⟨gb326, 9, none⟩ = some (.slice A0_9 l0_9.length c0_9)) (ds := []) b0_34 kr rfl rfl ⟨(blk_cell BK326.out 0).trans rfl, (blk_cell BK326.out 1).trans rfl, (blk_cell BK326.out 2).trans rfl, (blk_cell BK326.out 3).trans rfl, (blk_cell BK326.out 4).trans rfl, (blk_cell BK326.out 5).trans rfl, (blk_cell BK326.out 6).trans rfl, (blk_cell BK326.out 7).trans rfl, (blk_cell BK326.out 8).trans rfl, (blk_cell BK326.out 9).trans rfl⟩ (fun hHeld => ?_); refine with_tabW impl_isNode.tab3 impl_isNode.bits3 (fun HT_ HW_ => ?_)
        generalize wc.drew = w45 at BK326 HB hHeld ⊢
        refine pV 0 53 (bt 1 34) ?_
        refine tV 1 54 (bt 2 34) ?_
        refine one_ (i := 2) (N := some 55) b3_34 rfl rfl (one_of HT_.out kr) (by decide) (fun K hK => ?_)
        refine goes_ Try.func88 kr rfl #[.agg #[.int .i64 a0_5, .int .i64 a0_6, .slice A0_7 l0_7.length c0_7]] (by rfl) rfl rfl Q3 ?_
        with_reducible refine (impl_isRLog.calls kj2 a0_5 a0_6 _ _ l0_7 true _ ?side1 ?side2 A24.out).mono ?_
        (case side1 => exact Q8)
        (case side2 => exact HC0_7.out)
        rintro e w46 ⟨rfl, hb⟩
        refine ⟨_, rfl, ?_⟩
        replace BK326 := am (blk_below (g := gb326) (o := .cells #[.int .i64 a0_0, .int .i64 a0_1, .int .i64 a0_2, .int .i64 a0_3, .int .i64 a0_4, .int .i64 a0_5, .int .i64 a0_6, .slice A0_7 l0_7.length c0_7, .slice A0_8 l0_8.length c0_8, .slice A0_9 l0_9.length c0_9] 37 (0, 0)) u13_1 hb)
        replace HB := am (below_step Q1 hb)
        (try clear hb)
        (try clear hb2)
        (try clear hk)
        (try clear hi)
        refine hK.out _ _ ⟨(blk_cell BK326.out 0).trans rfl, (blk_cell BK326.out 1).trans rfl, (blk_cell BK326.out 2).trans rfl, (blk_cell BK326.out 3).trans rfl, (blk_cell BK326.out 4).trans rfl, (blk_cell BK326.out 5).trans rfl, (blk_cell BK326.out 6).trans rfl, (blk_cell BK326.out 7).trans rfl, (blk_cell BK326.out 8).trans rfl, (blk_cell BK326.out 9).trans rfl⟩ (fun hHeld => ?_)
        clear hK K
        refine norm_ (a' := ?_) ?_ ?_
        rotate_left
        · show Act.put _ (some 55) _ = _
          simp only [Act.put, la, lb, lc, i64_w, i32_w]
          rfl
        refine pV 3 56 (bt 4 34) ?_
        refine pV 4 57 (bt 5 34) ?_
        refine pV 5 58 (bt 6 34) ?_
        refine pV 6 59 (bt 7 34) ?_
        refine tV 7 60 (bt 8 34) ?_
        refine pV 8 61 (bt 9 34) ?_
        refine pV 9 62 (bt 10 34) ?_
        refine pV 10 63 (bt 11 34) ?_
        refine pU 11 64 (bt 12 34) ?_
        refine pU 12 65 (bt 13 34) ?_
        refine pU 13 66 (bt 14 34) ?_
        refine pU 14 67 (bt 15 34) ?_
        refine pU 15 68 (bt 16 34) ?_
        refine pU 16 69 (bt 17 34) ?_
        refine pU 17 70 (bt 18 34) ?_
        refine pU 18 71 (bt 19 34) ?_
        refine pU 19 72 (bt 20 34) ?_
        refine pV 20 73 (bt 21 34) ?_
        refine pV 21 74 (bt 22 34) ?_
        refine pU 22 75 (bt 23 34) ?_
        refine pU 23 76 (bt 24 34) ?_
        refine pU 24 77 (bt 25 34) ?_
        refine pV 25 78 (bt 26 34) ?_
        refine pV 26 79 (bt 27 34) ?_
        refine pU 27 80 (bt 28 34) ?_
        refine pU 28 81 (bt 29 34) ?_
        refine pU 29 82 (bt 30 34) ?_
        refine pU 30 83 (bt 31 34) ?_
        refine pU 31 84 (bt 32 34) ?_
        refine pU 32 85 (bt 33 34) ?_
        refine pV 33 86 (bt 34 34) ?_
        refine done_ (done_of HT_.out kr) ?_
        try go_wp2
        go_meet
        case rel => exact ⟨_, (true), Q2, H', ⟨Q9⟩, ⟨u13_1⟩, ⟨Q1⟩⟩
      rw [if_pos c26] at H
      have c26b0 : (a0_5 == 0) = true := beq_iff_eq.mpr c26
      have c26b1 : (a0_5 != 0) = false := bne_eq_false_iff_eq.mpr c26
      clear c26
      (first | rw [c26b0] | (simp only [i64_w, i32_w]; rw [c26b0]) | skip)
      replace H := Option.bind_eq_some_iff.mp H
      obtain ⟨t328, A270, H⟩ := H
      have A27 := am A270
      clear A270
      replace H := Option.bind_eq_some_iff.mp H
      obtain ⟨t329, A280, H⟩ := H
      have A28 := am A280
      clear A280
      as_aux_lemma =>
       by_cases c29 : t329 > a0_1
       · rw [if_pos c29] at H
         have c29b0 : decide (a0_1 < t329) = true := decide_eq_true c29
         clear c29
         have H' := am H
         clear H
         try go_wp2
         replace BK326 := am (blk_drew BK326.out)
         replace HB := am (below_drew1 HB.out)
         refine start_ (n := 34) (S := fun w' => w'.cell? ⟨gb326, 0, none⟩ = some (.int .i64 a0_0) ∧ w'.cell? ⟨gb326, 1, none⟩ = some (.int .i64 a0_1) ∧ w'.cell? ⟨gb326, 2, none⟩ = some (.int .i64 a0_2) ∧ w'.cell? ⟨gb326, 3, none⟩ = some (.int .i64 a0_3) ∧ w'.cell? ⟨gb326, 4, none⟩ = some (.int .i64 a0_4) ∧ w'.cell? ⟨gb326, 5, none⟩ = some (.int .i64 a0_5) ∧ w'.cell? ⟨gb326, 6, none⟩ = some (.int .i64 a0_6) ∧ w'.cell? ⟨gb326, 7, none⟩ = some (.slice A0_7 l0_7.length c0_7) ∧ w'.cell? ⟨gb326, 8, none⟩ = some (.slice A0_8 l0_8.length c0_8) ∧ w'.cell? ⟨gb326, 9, none⟩ = some (.slice A0_9 l0_9.length c0_9)) (ds := []) b0_34 kr rfl rfl ⟨(blk_cell BK326.out 0).trans rfl, (blk_cell BK326.out 1).trans rfl, (blk_cell BK326.out 2).trans rfl, (blk_cell BK326.out 3).trans rfl, (blk_cell BK326.out 4).trans rfl, (blk_cell BK326.out 5).trans rfl, (blk_cell BK326.out 6).trans rfl, (blk_cell BK326.out 7).trans rfl, (blk_cell BK326.out 8).trans rfl, (blk_cell BK326.out 9).trans rfl⟩ (fun hHeld => ?_); refine with_tabW impl_isNode.tab3 impl_isNode.bits3 (fun HT_ HW_ => ?_)
         generalize wc.drew = w30 at BK326 HB hHeld ⊢
         refine pV 0 53 (bt 1 34) ?_
         refine tV 1 54 (bt 2 34) ?_
         refine one_ (i := 2) (N := some 55) b3_34 rfl rfl (one_of HT_.out kr) (by decide) (fun K hK => ?_)
         refine goes_ Try.func88 kr rfl #[.agg #[.int .i64 a0_5, .int .i64 a0_6, .slice A0_7 l0_7.length c0_7]] (by rfl) rfl rfl Q3 ?_
         with_reducible refine (impl_isRLog.calls kj2 a0_5 a0_6 _ _ l0_7 true _ ?side1 ?side2 A24.out).mono ?_
         (case side1 => exact Q8)
         (case side2 => exact HC0_7.out)
         rintro e w31 ⟨rfl, hb⟩
         refine ⟨_, rfl, ?_⟩
         replace BK326 := am (blk_below (g := gb326) (o := .cells #[.int .i64 a0_0, .int .i64 a0_1, .int .i64 a0_2, .int .i64 a0_3, .int .i64 a0_4, .int .i64 a0_5, .int .i64 a0_6, .slice A0_7 l0_7.length c0_7, .slice A0_8 l0_8.length c0_8, .slice A0_9 l0_9.length c0_9] 37 (0, 0)) u13_1 hb)
         replace HB := am (below_step Q1 hb)
         (try clear hb)
         (try clear hb2)
         (try clear hk)
         (try clear hi)
         refine hK.out _ _ ⟨(blk_cell BK326.out 0).trans rfl, (blk_cell BK326.out 1).trans rfl, (blk_cell BK326.out 2).trans rfl, (blk_cell BK326.out 3).trans rfl, (blk_cell BK326.out 4).trans rfl, (blk_cell BK326.out 5).trans rfl, (blk_cell BK326.out 6).trans rfl, (blk_cell BK326.out 7).trans rfl, (blk_cell BK326.out 8).trans rfl, (blk_cell BK326.out 9).trans rfl⟩ (fun hHeld => ?_)
         clear hK K
         refine norm_ (a' := ?_) ?_ ?_
         rotate_left
         · show Act.put _ (some 55) _ = _
           simp only [Act.put, la, lb, lc, i64_w, i32_w]
           rfl
         refine pV 3 56 (bt 4 34) ?_
         refine pV 4 57 (bt 5 34) ?_
         refine pV 5 58 (bt 6 34) ?_
         refine pV 6 59 (bt 7 34) ?_
         refine tV 7 60 (bt 8 34) ?_
         refine pV 8 61 (bt 9 34) ?_
         refine pV 9 62 (bt 10 34) ?_
         refine pV 10 63 (bt 11 34) ?_
         refine pV 11 64 (bt 12 34) ?_
         refine pV 13 66 bx29 ?_
         refine pV 17 70 bx30 ?_
         refine tV 12 65 bx31 ?_
         refine tV 14 67 bx32 ?_
         refine tV 18 71 bx33 ?_
         refine one_ (i := 15) (N := some 68) bx34 rfl rfl (one_of HT_.out kr) (by decide) (fun K hK => ?_)
         refine goes_ Try.func89 kr rfl #[.agg #[.int .i64 a0_5, .int .i64 a0_6, .slice A0_7 l0_7.length c0_7]] (by rfl) rfl rfl Q3 ?_
         with_reducible refine (impl_RLog_last.calls a0_5 a0_6 _ _ l0_7 t328 _ ?side1 ?side2 A27.out).mono ?_
         (case side1 => exact Q8)
         (case side2 => exact HC0_7.out)
         rintro e w32 ⟨rfl, hb⟩
         refine ⟨_, rfl, ?_⟩
         replace BK326 := am (blk_below (g := gb326) (o := .cells #[.int .i64 a0_0, .int .i64 a0_1, .int .i64 a0_2, .int .i64 a0_3, .int .i64 a0_4, .int .i64 a0_5, .int .i64 a0_6, .slice A0_7 l0_7.length c0_7, .slice A0_8 l0_8.length c0_8, .slice A0_9 l0_9.length c0_9] 37 (0, 0)) u13_1 hb)
         replace HB := am (below_step Q1 hb)
         (try clear hb)
         (try clear hb2)
         (try clear hk)
         (try clear hi)
         refine hK.out _ _ ⟨(blk_cell BK326.out 0).trans rfl, (blk_cell BK326.out 1).trans rfl, (blk_cell BK326.out 2).trans rfl, (blk_cell BK326.out 3).trans rfl, (blk_cell BK326.out 4).trans rfl, (blk_cell BK326.out 5).trans rfl, (blk_cell BK326.out 6).trans rfl, (blk_cell BK326.out 7).trans rfl, (blk_cell BK326.out 8).trans rfl, (blk_cell BK326.out 9).trans rfl⟩ (fun hHeld => ?_)
         clear hK K
         refine norm_ (a' := ?_) ?_ ?_
         rotate_left
         · show Act.put _ (some 68) _ = _
           simp only [Act.put, la, lb, lc, i64_w, i32_w]
           rfl
         refine one_ (i := 16) (N := some 69) b19_34 rfl rfl (one_of HT_.out kr) (by decide) (fun K hK => ?_)
         refine goes_ Try.func92 kr rfl #[.agg #[.int .i64 a0_5, .int .i64 a0_6, .slice A0_7 l0_7.length c0_7], .int .i64 t328] (by rfl) rfl rfl Q3 ?_
         with_reducible refine (impl_RLog_term.calls a0_5 a0_6 _ _ l0_7 t328 t329 _ ?side1 ?side2 A28.out).mono ?_
         (case side1 => exact Q8)
         (case side2 => exact HC0_7.out)
         rintro e w33 ⟨rfl, hb⟩
         refine ⟨_, rfl, ?_⟩
         replace BK326 := am (blk_below (g := gb326) (o := .cells #[.int .i64 a0_0, .int .i64 a0_1, .int .i64 a0_2, .int .i64 a0_3, .int .i64 a0_4, .int .i64 a0_5, .int .i64 a0_6, .slice A0_7 l0_7.length c0_7, .slice A0_8 l0_8.length c0_8, .slice A0_9 l0_9.length c0_9] 37 (0, 0)) u13_1 hb)
         replace HB := am (below_step Q1 hb)
         (try clear hb)
         (try clear hb2)
         (try clear hk)
         (try clear hi)
         refine hK.out _ _ ⟨(blk_cell BK326.out 0).trans rfl, (blk_cell BK326.out 1).trans rfl, (blk_cell BK326.out 2).trans rfl, (blk_cell BK326.out 3).trans rfl, (blk_cell BK326.out 4).trans rfl, (blk_cell BK326.out 5).trans rfl, (blk_cell BK326.out 6).trans rfl, (blk_cell BK326.out 7).trans rfl, (blk_cell BK326.out 8).trans rfl, (blk_cell BK326.out 9).trans rfl⟩ (fun hHeld => ?_)
         clear hK K
         refine norm_ (a' := ?_) ?_ ?_
         rotate_left
         · show Act.put _ (some 69) _ = _
           simp only [Act.put, la, lb, lc, i64_w, i32_w]
           rfl
         refine pV 19 72 (bt 20 34) ?_
         refine pV 20 73 (bt 21 34) ?_
         refine pV 21 74 (bt 22 34) ?_
         refine pU 22 75 (bt 23 34) ?_
         refine pU 23 76 (bt 24 34) ?_
         refine pU 24 77 (bt 25 34) ?_
         refine pV 25 78 (bt 26 34) ?_
         refine pV 26 79 (bt 27 34) ?_
         refine pU 27 80 (bt 28 34) ?_
         refine pU 28 81 (bt 29 34) ?_
         refine pU 29 82 (bt 30 34) ?_
         refine pU 30 83 (bt 31 34) ?_
         refine pU 31 84 (bt 32 34) ?_
         refine pU 32 85 (bt 33 34) ?_
         refine pV 33 86 (bt 34 34) ?_
         refine done_ (done_of HT_.out kr) ?_
         try go_wp2
         go_meet
         case rel => exact ⟨_, (true), Q2, H', ⟨Q9⟩, ⟨u13_1⟩, ⟨Q1⟩⟩
       rw [if_neg c29] at H
       have c29b0 : decide (a0_1 < t329) = false := decide_eq_false c29
       clear c29
       by_cases c34 : a0_4 < 0
       · rw [if_pos c34] at H
         have c34b0 : decide (a0_4 < 0) = true := decide_eq_true c34
         clear c34
         have H' := am H
         clear H
         try go_wp2
         replace BK326 := am (blk_drew BK326.out)
         replace HB := am (below_drew1 HB.out)
         refine start_ (n := 34) (S := fun w' => w'.cell? ⟨gb326, 0, none⟩ = some (.int .i64 a0_0) ∧ w'.cell? ⟨gb326, 1, none⟩ = some (.int .i64 a0_1) ∧ w'.cell? ⟨gb326, 2, none⟩ = some (.int .i64 a0_2) ∧ w'.cell? ⟨gb326, 3, none⟩ = some (.int .i64 a0_3) ∧ w'.cell? ⟨gb326, 4, none⟩ = some (.int .i64 a0_4) ∧ w'.cell? ⟨gb326, 5, none⟩ = some (.int .i64 a0_5) ∧ w'.cell? ⟨gb326, 6, none⟩ = some (.int .i64 a0_6) ∧ w'.cell? ⟨gb326, 7, none⟩ = some (.slice A0_7 l0_7.length c0_7) ∧ w'.cell? ⟨gb326, 8, none⟩ = some (.slice A0_8 l0_8.length c0_8) ∧ w'.cell? ⟨gb326, 9, none⟩ = some (.slice A0_9 l0_9.length c0_9)) (ds := []) b0_34 kr rfl rfl ⟨(blk_cell BK326.out 0).trans rfl, (blk_cell BK326.out 1).trans rfl, (blk_cell BK326.out 2).trans rfl, (blk_cell BK326.out 3).trans rfl, (blk_cell BK326.out 4).trans rfl, (blk_cell BK326.out 5).trans rfl, (blk_cell BK326.out 6).trans rfl, (blk_cell BK326.out 7).trans rfl, (blk_cell BK326.out 8).trans rfl, (blk_cell BK326.out 9).trans rfl⟩ (fun hHeld => ?_); refine with_tabW impl_isNode.tab3 impl_isNode.bits3 (fun HT_ HW_ => ?_)
         generalize wc.drew = w35 at BK326 HB hHeld ⊢
         refine pV 0 53 (bt 1 34) ?_
         refine tV 1 54 (bt 2 34) ?_
         refine one_ (i := 2) (N := some 55) b3_34 rfl rfl (one_of HT_.out kr) (by decide) (fun K hK => ?_)
         refine goes_ Try.func88 kr rfl #[.agg #[.int .i64 a0_5, .int .i64 a0_6, .slice A0_7 l0_7.length c0_7]] (by rfl) rfl rfl Q3 ?_
         with_reducible refine (impl_isRLog.calls kj2 a0_5 a0_6 _ _ l0_7 true _ ?side1 ?side2 A24.out).mono ?_
         (case side1 => exact Q8)
         (case side2 => exact HC0_7.out)
         rintro e w36 ⟨rfl, hb⟩
         refine ⟨_, rfl, ?_⟩
         replace BK326 := am (blk_below (g := gb326) (o := .cells #[.int .i64 a0_0, .int .i64 a0_1, .int .i64 a0_2, .int .i64 a0_3, .int .i64 a0_4, .int .i64 a0_5, .int .i64 a0_6, .slice A0_7 l0_7.length c0_7, .slice A0_8 l0_8.length c0_8, .slice A0_9 l0_9.length c0_9] 37 (0, 0)) u13_1 hb)
         replace HB := am (below_step Q1 hb)
         (try clear hb)
         (try clear hb2)
         (try clear hk)
         (try clear hi)
         refine hK.out _ _ ⟨(blk_cell BK326.out 0).trans rfl, (blk_cell BK326.out 1).trans rfl, (blk_cell BK326.out 2).trans rfl, (blk_cell BK326.out 3).trans rfl, (blk_cell BK326.out 4).trans rfl, (blk_cell BK326.out 5).trans rfl, (blk_cell BK326.out 6).trans rfl, (blk_cell BK326.out 7).trans rfl, (blk_cell BK326.out 8).trans rfl, (blk_cell BK326.out 9).trans rfl⟩ (fun hHeld => ?_)
         clear hK K
         refine norm_ (a' := ?_) ?_ ?_
         rotate_left
         · show Act.put _ (some 55) _ = _
           simp only [Act.put, la, lb, lc, i64_w, i32_w]
           rfl
         refine pV 3 56 (bt 4 34) ?_
         refine pV 4 57 (bt 5 34) ?_
         refine pV 5 58 (bt 6 34) ?_
         refine pV 6 59 (bt 7 34) ?_
         refine tV 7 60 (bt 8 34) ?_
         refine pV 8 61 (bt 9 34) ?_
         refine pV 9 62 (bt 10 34) ?_
         refine pV 10 63 (bt 11 34) ?_
         refine pV 11 64 (bt 12 34) ?_
         refine pV 13 66 bx29 ?_
         refine pV 17 70 bx30 ?_
         refine tV 12 65 bx31 ?_
         refine tV 14 67 bx32 ?_
         refine tV 18 71 bx33 ?_
         refine one_ (i := 15) (N := some 68) bx34 rfl rfl (one_of HT_.out kr) (by decide) (fun K hK => ?_)
         refine goes_ Try.func89 kr rfl #[.agg #[.int .i64 a0_5, .int .i64 a0_6, .slice A0_7 l0_7.length c0_7]] (by rfl) rfl rfl Q3 ?_
         with_reducible refine (impl_RLog_last.calls a0_5 a0_6 _ _ l0_7 t328 _ ?side1 ?side2 A27.out).mono ?_
         (case side1 => exact Q8)
         (case side2 => exact HC0_7.out)
         rintro e w37 ⟨rfl, hb⟩
         refine ⟨_, rfl, ?_⟩
         replace BK326 := am (blk_below (g := gb326) (o := .cells #[.int .i64 a0_0, .int .i64 a0_1, .int .i64 a0_2, .int .i64 a0_3, .int .i64 a0_4, .int .i64 a0_5, .int .i64 a0_6, .slice A0_7 l0_7.length c0_7, .slice A0_8 l0_8.length c0_8, .slice A0_9 l0_9.length c0_9] 37 (0, 0)) u13_1 hb)
         replace HB := am (below_step Q1 hb)
         (try clear hb)
         (try clear hb2)
         (try clear hk)
         (try clear hi)
         refine hK.out _ _ ⟨(blk_cell BK326.out 0).trans rfl, (blk_cell BK326.out 1).trans rfl, (blk_cell BK326.out 2).trans rfl, (blk_cell BK326.out 3).trans rfl, (blk_cell BK326.out 4).trans rfl, (blk_cell BK326.out 5).trans rfl, (blk_cell BK326.out 6).trans rfl, (blk_cell BK326.out 7).trans rfl, (blk_cell BK326.out 8).trans rfl, (blk_cell BK326.out 9).trans rfl⟩ (fun hHeld => ?_)
         clear hK K
         refine norm_ (a' := ?_) ?_ ?_
         rotate_left
         · show Act.put _ (some 68) _ = _
           simp only [Act.put, la, lb, lc, i64_w, i32_w]
           rfl
         refine one_ (i := 16) (N := some 69) b19_34 rfl rfl (one_of HT_.out kr) (by decide) (fun K hK => ?_)
         refine goes_ Try.func92 kr rfl #[.agg #[.int .i64 a0_5, .int .i64 a0_6, .slice A0_7 l0_7.length c0_7], .int .i64 t328] (by rfl) rfl rfl Q3 ?_
         with_reducible refine (impl_RLog_term.calls a0_5 a0_6 _ _ l0_7 t328 t329 _ ?side1 ?side2 A28.out).mono ?_
         (case side1 => exact Q8)
         (case side2 => exact HC0_7.out)
         rintro e w38 ⟨rfl, hb⟩
         refine ⟨_, rfl, ?_⟩
         replace BK326 := am (blk_below (g := gb326) (o := .cells #[.int .i64 a0_0, .int .i64 a0_1, .int .i64 a0_2, .int .i64 a0_3, .int .i64 a0_4, .int .i64 a0_5, .int .i64 a0_6, .slice A0_7 l0_7.length c0_7, .slice A0_8 l0_8.length c0_8, .slice A0_9 l0_9.length c0_9] 37 (0, 0)) u13_1 hb)
         replace HB := am (below_step Q1 hb)
         (try clear hb)
         (try clear hb2)
         (try clear hk)
         (try clear hi)
         refine hK.out _ _ ⟨(blk_cell BK326.out 0).trans rfl, (blk_cell BK326.out 1).trans rfl, (blk_cell BK326.out 2).trans rfl, (blk_cell BK326.out 3).trans rfl, (blk_cell BK326.out 4).trans rfl, (blk_cell BK326.out 5).trans rfl, (blk_cell BK326.out 6).trans rfl, (blk_cell BK326.out 7).trans rfl, (blk_cell BK326.out 8).trans rfl, (blk_cell BK326.out 9).trans rfl⟩ (fun hHeld => ?_)
         clear hK K
         refine norm_ (a' := ?_) ?_ ?_
         rotate_left
         · show Act.put _ (some 69) _ = _
           simp only [Act.put, la, lb, lc, i64_w, i32_w]
           rfl
         refine pV 19 72 (bt 20 34) ?_
         refine pV 20 73 (bt 21 34) ?_
         refine pV 21 74 (bt 22 34) ?_
         refine pV 22 75 (bt 23 34) ?_
         refine tV 23 76 (bt 24 34) ?_
         refine pV 24 77 (bt 25 34) ?_
         refine pV 25 78 (bt 26 34) ?_
         refine pV 26 79 (bt 27 34) ?_
         refine pU 27 80 (bt 28 34) ?_
         refine pU 28 81 (bt 29 34) ?_
         refine pU 29 82 (bt 30 34) ?_
         refine pU 30 83 (bt 31 34) ?_
         refine pU 31 84 (bt 32 34) ?_
         refine pU 32 85 (bt 33 34) ?_
         refine pV 33 86 (bt 34 34) ?_
         refine done_ (done_of HT_.out kr) ?_
         try go_wp2
         go_meet
         case rel => exact ⟨_, (true), Q2, H', ⟨Q9⟩, ⟨u13_1⟩, ⟨Q1⟩⟩
       rw [if_neg c34] at H
       have c34b0 : decide (a0_4 < 0) = false := decide_eq_false c34
       clear c34
       replace H := Option.bind_eq_some_iff.mp H
       obtain ⟨t330, A390, H⟩ := H
       have A39 := am A390
       clear A390
       have H' := am H
       clear H
       try go_wp2
       replace BK326 := am (blk_drew BK326.out)
       replace HB := am (below_drew1 HB.out)
       refine start_ (n := 34) (S := fun w' => w'.cell? ⟨gb326, 0, none⟩ = some (.int .i64 a0_0) ∧ w'.cell? ⟨gb326, 1, none⟩ = some (.int .i64 a0_1) ∧ w'.cell? ⟨gb326, 2, none⟩ = some (.int .i64 a0_2) ∧ w'.cell? ⟨gb326, 3, none⟩ = some (.int .i64 a0_3) ∧ w'.cell? ⟨gb326, 4, none⟩ = some (.int .i64 a0_4) ∧ w'.cell? ⟨gb326, 5, none⟩ = some (.int .i64 a0_5) ∧ w'.cell? ⟨gb326, 6, none⟩ = some (.int .i64 a0_6) ∧ w'.cell? ⟨gb326, 7, none⟩ = some (.slice A0_7 l0_7.length c0_7) ∧ w'.cell? ⟨gb326, 8, none⟩ = some (.slice A0_8 l0_8.length c0_8) ∧ w'.cell? ⟨gb326, 9, none⟩ = some (.slice A0_9 l0_9.length c0_9)) (ds := []) b0_34 kr rfl rfl ⟨(blk_cell BK326.out 0).trans rfl, (blk_cell BK326.out 1).trans rfl, (blk_cell BK326.out 2).trans rfl, (blk_cell BK326.out 3).trans rfl, (blk_cell BK326.out 4).trans rfl, (blk_cell BK326.out 5).trans rfl, (blk_cell BK326.out 6).trans rfl, (blk_cell BK326.out 7).trans rfl, (blk_cell BK326.out 8).trans rfl, (blk_cell BK326.out 9).trans rfl⟩ (fun hHeld => ?_); refine with_tabW impl_isNode.tab3 impl_isNode.bits3 (fun HT_ HW_ => ?_)
       generalize wc.drew = w40 at BK326 HB hHeld ⊢
       refine pV 0 53 (bt 1 34) ?_
       refine tV 1 54 (bt 2 34) ?_
       refine one_ (i := 2) (N := some 55) b3_34 rfl rfl (one_of HT_.out kr) (by decide) (fun K hK => ?_)
       refine goes_ Try.func88 kr rfl #[.agg #[.int .i64 a0_5, .int .i64 a0_6, .slice A0_7 l0_7.length c0_7]] (by rfl) rfl rfl Q3 ?_
       with_reducible refine (impl_isRLog.calls kj2 a0_5 a0_6 _ _ l0_7 true _ ?side1 ?side2 A24.out).mono ?_
       (case side1 => exact Q8)
       (case side2 => exact HC0_7.out)
       rintro e w41 ⟨rfl, hb⟩
       refine ⟨_, rfl, ?_⟩
       replace BK326 := am (blk_below (g := gb326) (o := .cells #[.int .i64 a0_0, .int .i64 a0_1, .int .i64 a0_2, .int .i64 a0_3, .int .i64 a0_4, .int .i64 a0_5, .int .i64 a0_6, .slice A0_7 l0_7.length c0_7, .slice A0_8 l0_8.length c0_8, .slice A0_9 l0_9.length c0_9] 37 (0, 0)) u13_1 hb)
       replace HB := am (below_step Q1 hb)
       (try clear hb)
       (try clear hb2)
       (try clear hk)
       (try clear hi)
       refine hK.out _ _ ⟨(blk_cell BK326.out 0).trans rfl, (blk_cell BK326.out 1).trans rfl, (blk_cell BK326.out 2).trans rfl, (blk_cell BK326.out 3).trans rfl, (blk_cell BK326.out 4).trans rfl, (blk_cell BK326.out 5).trans rfl, (blk_cell BK326.out 6).trans rfl, (blk_cell BK326.out 7).trans rfl, (blk_cell BK326.out 8).trans rfl, (blk_cell BK326.out 9).trans rfl⟩ (fun hHeld => ?_)
       clear hK K
       refine norm_ (a' := ?_) ?_ ?_
       rotate_left
       · show Act.put _ (some 55) _ = _
         simp only [Act.put, la, lb, lc, i64_w, i32_w]
         rfl
       refine pV 3 56 (bt 4 34) ?_
       refine pV 4 57 (bt 5 34) ?_
       refine pV 5 58 (bt 6 34) ?_
       refine pV 6 59 (bt 7 34) ?_
       refine tV 7 60 (bt 8 34) ?_
       refine pV 8 61 (bt 9 34) ?_
       refine pV 9 62 (bt 10 34) ?_
       refine pV 10 63 (bt 11 34) ?_
       refine pV 11 64 (bt 12 34) ?_
       refine pV 13 66 bx29 ?_
       refine pV 17 70 bx30 ?_
       refine tV 12 65 bx31 ?_
       refine tV 14 67 bx32 ?_
       refine tV 18 71 bx33 ?_
       refine one_ (i := 15) (N := some 68) bx34 rfl rfl (one_of HT_.out kr) (by decide) (fun K hK => ?_)
       refine goes_ Try.func89 kr rfl #[.agg #[.int .i64 a0_5, .int .i64 a0_6, .slice A0_7 l0_7.length c0_7]] (by rfl) rfl rfl Q3 ?_
       with_reducible refine (impl_RLog_last.calls a0_5 a0_6 _ _ l0_7 t328 _ ?side1 ?side2 A27.out).mono ?_
       (case side1 => exact Q8)
       (case side2 => exact HC0_7.out)
       rintro e w42 ⟨rfl, hb⟩
       refine ⟨_, rfl, ?_⟩
       replace BK326 := am (blk_below (g := gb326) (o := .cells #[.int .i64 a0_0, .int .i64 a0_1, .int .i64 a0_2, .int .i64 a0_3, .int .i64 a0_4, .int .i64 a0_5, .int .i64 a0_6, .slice A0_7 l0_7.length c0_7, .slice A0_8 l0_8.length c0_8, .slice A0_9 l0_9.length c0_9] 37 (0, 0)) u13_1 hb)
       replace HB := am (below_step Q1 hb)
       (try clear hb)
       (try clear hb2)
       (try clear hk)
       (try clear hi)
       refine hK.out _ _ ⟨(blk_cell BK326.out 0).trans rfl, (blk_cell BK326.out 1).trans rfl, (blk_cell BK326.out 2).trans rfl, (blk_cell BK326.out 3).trans rfl, (blk_cell BK326.out 4).trans rfl, (blk_cell BK326.out 5).trans rfl, (blk_cell BK326.out 6).trans rfl, (blk_cell BK326.out 7).trans rfl, (blk_cell BK326.out 8).trans rfl, (blk_cell BK326.out 9).trans rfl⟩ (fun hHeld => ?_)
       clear hK K
       refine norm_ (a' := ?_) ?_ ?_
       rotate_left
       · show Act.put _ (some 68) _ = _
         simp only [Act.put, la, lb, lc, i64_w, i32_w]
         rfl
       refine one_ (i := 16) (N := some 69) b19_34 rfl rfl (one_of HT_.out kr) (by decide) (fun K hK => ?_)
       refine goes_ Try.func92 kr rfl #[.agg #[.int .i64 a0_5, .int .i64 a0_6, .slice A0_7 l0_7.length c0_7], .int .i64 t328] (by rfl) rfl rfl Q3 ?_
       with_reducible refine (impl_RLog_term.calls a0_5 a0_6 _ _ l0_7 t328 t329 _ ?side1 ?side2 A28.out).mono ?_
       (case side1 => exact Q8)
       (case side2 => exact HC0_7.out)
       rintro e w43 ⟨rfl, hb⟩
       refine ⟨_, rfl, ?_⟩
       replace BK326 := am (blk_below (g := gb326) (o := .cells #[.int .i64 a0_0, .int .i64 a0_1, .int .i64 a0_2, .int .i64 a0_3, .int .i64 a0_4, .int .i64 a0_5, .int .i64 a0_6, .slice A0_7 l0_7.length c0_7, .slice A0_8 l0_8.length c0_8, .slice A0_9 l0_9.length c0_9] 37 (0, 0)) u13_1 hb)
       replace HB := am (below_step Q1 hb)
       (try clear hb)
       (try clear hb2)
       (try clear hk)
       (try clear hi)
       refine hK.out _ _ ⟨(blk_cell BK326.out 0).trans rfl, (blk_cell BK326.out 1).trans rfl, (blk_cell BK326.out 2).trans rfl, (blk_cell BK326.out 3).trans rfl, (blk_cell BK326.out 4).trans rfl, (blk_cell BK326.out 5).trans rfl, (blk_cell BK326.out 6).trans rfl, (blk_cell BK326.out 7).trans rfl, (blk_cell BK326.out 8).trans rfl, (blk_cell BK326.out 9).trans rfl⟩ (fun hHeld => ?_)
       clear hK K
       refine norm_ (a' := ?_) ?_ ?_
       rotate_left
       · show Act.put _ (some 69) _ = _
         simp only [Act.put, la, lb, lc, i64_w, i32_w]
         rfl
       refine pV 19 72 (bt 20 34) ?_
       refine pV 20 73 (bt 21 34) ?_
       refine pV 21 74 (bt 22 34) ?_
       refine pV 22 75 (bt 23 34) ?_
       refine tV 23 76 (bt 24 34) ?_
       refine pV 24 77 (bt 25 34) ?_
       refine pV 25 78 (bt 26 34) ?_
       refine pV 26 79 (bt 27 34) ?_
       refine pV 27 80 (bt 28 34) ?_
       refine pV 29 82 #[true, true, true, true, true, true, true, true, true, true, true, true, true, true, true, true, true, true, true, true, true, true, true, true, true, true, true, true, false, true, false, false, false, false] ?_
       refine tV 28 81 (bt 30 34) ?_
       refine tV 30 83 (bt 31 34) ?_
       refine one_ (i := 31) (N := some 84) b32_34 rfl rfl (one_of HT_.out kr) (by decide) (fun K hK => ?_)
       refine goes_ Try.func89 kr rfl #[.agg #[.int .i64 a0_5, .int .i64 a0_6, .slice A0_7 l0_7.length c0_7]] (by rfl) rfl rfl Q3 ?_
       with_reducible refine (impl_RLog_last.calls a0_5 a0_6 _ _ l0_7 t330 _ ?side1 ?side2 A39.out).mono ?_
       (case side1 => exact Q8)
       (case side2 => exact HC0_7.out)
       rintro e w44 ⟨rfl, hb⟩
       refine ⟨_, rfl, ?_⟩
       replace BK326 := am (blk_below (g := gb326) (o := .cells #[.int .i64 a0_0, .int .i64 a0_1, .int .i64 a0_2, .int .i64 a0_3, .int .i64 a0_4, .int .i64 a0_5, .int .i64 a0_6, .slice A0_7 l0_7.length c0_7, .slice A0_8 l0_8.length c0_8, .slice A0_9 l0_9.length c0_9] 37 (0, 0)) u13_1 hb)
       replace HB := am (below_step Q1 hb)
       (try clear hb)
       (try clear hb2)
       (try clear hk)
       (try clear hi)
       refine hK.out _ _ ⟨(blk_cell BK326.out 0).trans rfl, (blk_cell BK326.out 1).trans rfl, (blk_cell BK326.out 2).trans rfl, (blk_cell BK326.out 3).trans rfl, (blk_cell BK326.out 4).trans rfl, (blk_cell BK326.out 5).trans rfl, (blk_cell BK326.out 6).trans rfl, (blk_cell BK326.out 7).trans rfl, (blk_cell BK326.out 8).trans rfl, (blk_cell BK326.out 9).trans rfl⟩ (fun hHeld => ?_)
       clear hK K
       refine norm_ (a' := ?_) ?_ ?_
       rotate_left
       · show Act.put _ (some 84) _ = _
         simp only [Act.put, la, lb, lc, i64_w, i32_w]
         rfl
       refine pV 32 85 (bt 33 34) ?_
       refine pV 33 86 (bt 34 34) ?_
       refine done_ (done_of HT_.out kr) ?_
       try go_wp2
       go_meet
       case rel => exact ⟨_, (decide (a0_4 > t330)), Q2, H', ⟨Q9⟩, ⟨u13_1⟩, ⟨Q1⟩⟩
    clear HC23
    obtain ⟨kq, x86_22, rfl, HA, HJ22, BK326, HB⟩ := hcut
    cases kq with
    | zero => exact absurd HA.out (by simp [impl_isNode.j1])
    | succ kj22 =>
      have H := HA.out
      clear HA
      simp only [impl_isNode.j1] at H
      as_aux_lemma =>
       by_cases c49 : x86_22 = true
       · subst c49
         rw [if_pos rfl] at H
         obtain rfl := sj H
         go_wp2
         go_ret
         exact ⟨er, Q1⟩
       replace c49 := Bool.eq_false_iff.mpr c49
       subst c49
       rw [nf] at H
       have HC50 := am H
       clear H
       go_upto_region 5 with (fail)
       go_cut [101] (fun v101 wc => ∃ (kq : Nat) (x101_49 : Bool), v101 = .bool x101_49 ∧ Aside0 (impl_isNode.j2 kq a1 x101_49 a0_0 a0_1 a0_2 a0_3 a0_4 a0_5 a0_6 l0_7 l0_8 l0_9 = some r) ∧ Aside0 (kq ≤ kj22) ∧ Aside0 (wc.heap[gb326]? = some (.cells #[.int .i64 a0_0, .int .i64 a0_1, .int .i64 a0_2, .int .i64 a0_3, .int .i64 a0_4, .int .i64 a0_5, .int .i64 a0_6, (.slice A0_7 l0_7.length c0_7), (.slice A0_8 l0_8.length c0_8), (.slice A0_9 l0_9.length c0_9)] 37 (0, 0))) ∧ Aside0 (Below w.heap.size w wc))
       case first =>
         have H := HC50.out
         clear HC50
         by_cases c51 : a0_3 = 0
         · rw [if_pos c51] at H
           have c51b0 : (a0_3 == 0) = true := beq_iff_eq.mpr c51
           have c51b1 : (a0_3 != 0) = false := bne_eq_false_iff_eq.mpr c51
           clear c51
           (first | rw [c51b0] | (simp only [i64_w, i32_w]; rw [c51b0]) | skip)
           have H' := am H
           clear H
           obtain ⟨hcz52_0, hcz52_1, hcz52_2, hcz52_3, hcz52_4, hcz52_5, hcz52_6, hcz52_7, hcz52_8, hcz52_9⟩ := bc10 wc BK326.out
           go_wp2
           go_meet
           case rel => exact ⟨_, (false), Q2, H', ⟨u13_10⟩, ⟨u13_1⟩, ⟨Q1⟩⟩
         rw [if_neg c51] at H
         have c51b0 : (a0_3 == 0) = false := beq_eq_false_iff_ne.mpr c51
         have c51b1 : (a0_3 != 0) = true := bne_iff_ne.mpr c51
         (first | rw [c51b0] | (simp only [i64_w, i32_w]; rw [c51b0]) | skip)
         by_cases c53 : a0_2 = a0_0
         rotate_left
         · rw [if_neg c53] at H
           have c53b0 : (a0_2 == a0_0) = false := beq_eq_false_iff_ne.mpr c53
           have c53b1 : (a0_2 != a0_0) = true := bne_iff_ne.mpr c53
           have H' := am H
           clear H
           obtain ⟨hcz55_0, hcz55_1, hcz55_2, hcz55_3, hcz55_4, hcz55_5, hcz55_6, hcz55_7, hcz55_8, hcz55_9⟩ := bc10 wc BK326.out
           go_wp2
           go_meet
           case rel => exact ⟨_, (true), Q2, H', ⟨u13_10⟩, ⟨u13_1⟩, ⟨Q1⟩⟩
         rw [if_pos c53] at H
         have c53b0 : (a0_2 == a0_0) = true := beq_iff_eq.mpr c53
         have c53b1 : (a0_2 != a0_0) = false := bne_eq_false_iff_eq.mpr c53
         clear c53
         have H' := am H
         clear H
         obtain ⟨hcz54_0, hcz54_1, hcz54_2, hcz54_3, hcz54_4, hcz54_5, hcz54_6, hcz54_7, hcz54_8, hcz54_9⟩ := bc10 wc BK326.out
         go_wp2
         go_meet
         case rel => exact ⟨_, ((a0_1 == 0)), Q2, H', ⟨u13_10⟩, ⟨u13_1⟩, ⟨Q1⟩⟩
       clear HC50
       try clear c49
       obtain ⟨kq, x101_49, rfl, HA, HJ49, BK326, HB⟩ := hcut
       cases kq with
       | zero => exact absurd HA.out (by simp [impl_isNode.j2])
       | succ kj49 =>
         have H := HA.out
         clear HA
         simp only [impl_isNode.j2] at H
         by_cases c56 : x101_49 = true
         · subst c56
           rw [if_pos rfl] at H
           obtain rfl := sj H
           go_wp2
           go_ret
           exact ⟨er, Q1⟩
         replace c56 := Bool.eq_false_iff.mpr c56
         subst c56
         rw [nf] at H
         have HC57 := am H
         clear H
         obtain ⟨hcz58_0, hcz58_1, hcz58_2, hcz58_3, hcz58_4, hcz58_5, hcz58_6, hcz58_7, hcz58_8, hcz58_9⟩ := bc10 wc BK326.out
         go_upto_if 104 with (fail)
         go_cut [] (fun wc => ∃ (kq : Nat), Aside0 (impl_isNode.j3 kq a1 a0_0 a0_1 a0_2 a0_3 a0_4 a0_5 a0_6 l0_7 l0_8 l0_9 = some r) ∧ Aside0 (kq ≤ kj49) ∧ Aside0 (wc.heap[gb326]? = some (.cells #[.int .i64 a0_0, .int .i64 a0_1, .int .i64 a0_2, .int .i64 a0_3, .int .i64 a0_4, .int .i64 a0_5, .int .i64 a0_6, (.slice A0_7 l0_7.length c0_7), (.slice A0_8 l0_8.length c0_8), (.slice A0_9 l0_9.length c0_9)] 37 (0, 0))) ∧ Aside0 (Below w.heap.size w wc))
         case first =>
           have H := HC57.out
           clear HC57
           by_cases c59 : a0_3 = 1
           rotate_left
           · rw [if_neg c59] at H
             have c59b0 : (a0_3 == 1) = false := beq_eq_false_iff_ne.mpr c59
             have c59b1 : (a0_3 != 1) = true := bne_iff_ne.mpr c59
             (first | rw [c59b0] | (simp only [i64_w, i32_w]; rw [c59b0]) | skip)
             by_cases c69 : (l0_8.length : Int) > 0
             · rw [if_pos c69] at H
               have c69b0 : decide (0 < (l0_8.length : Int)) = true := decide_eq_true c69
               have c69b1 : decide (0 < l0_8.length) = true := decide_eq_true (by omega)
               clear c69
               obtain rfl := sj H
               obtain ⟨hcz70_0, hcz70_1, hcz70_2, hcz70_3, hcz70_4, hcz70_5, hcz70_6, hcz70_7, hcz70_8, hcz70_9⟩ := bc10 wc BK326.out
               go_wp2
               go_ret
               exact ⟨er, Q1⟩
             rw [if_neg c69] at H
             have c69b0 : decide (0 < (l0_8.length : Int)) = false := decide_eq_false c69
             have c69b1 : decide (0 < l0_8.length) = false := decide_eq_false (by omega)
             clear c69
             have H' := am H
             clear H
             obtain ⟨hcz71_0, hcz71_1, hcz71_2, hcz71_3, hcz71_4, hcz71_5, hcz71_6, hcz71_7, hcz71_8, hcz71_9⟩ := bc10 wc BK326.out
             go_wp2
             go_meet
             case rel => exact ⟨_, H', ⟨u13_12⟩, ⟨u13_1⟩, ⟨Q1⟩⟩
           rw [if_pos c59] at H
           have c59b0 : (a0_3 == 1) = true := beq_iff_eq.mpr c59
           have c59b1 : (a0_3 != 1) = false := bne_eq_false_iff_eq.mpr c59
           clear c59
           (first | rw [c59b0] | (simp only [i64_w, i32_w]; rw [c59b0]) | skip)
           replace H := Option.bind_eq_some_iff.mp H
           obtain ⟨t331, A600, H⟩ := H
           have A60 := am A600
           clear A600
           by_cases c61 : t331 = true
           rotate_left
           · replace c61 := Bool.eq_false_iff.mpr c61
             subst c61
             rw [nf] at H
             obtain rfl := sj H
             obtain ⟨hcz68_0, hcz68_1, hcz68_2, hcz68_3, hcz68_4, hcz68_5, hcz68_6, hcz68_7, hcz68_8, hcz68_9⟩ := bc10 wc BK326.out
             go_wp2_with (first | ((with_reducible refine gate_callee (f := 113) rfl ?_); refine goesL_ (some 107) rfl rfl Try.func113 kr rfl #[.slice A0_8 l0_8.length c0_8] rfl Q3 ?_; (with_reducible refine (impl_areIds.calls kj49 _ _ l0_8 false _ ?side1 ?side2 A60.out).mono ?_); (case side1 => exact Q10); (case side2 => exact HC0_8.out); rintro e w' ⟨rfl, ⟨nd, rfl⟩⟩; refine ⟨_, rfl, ?_⟩))
             go_ret
             exact ⟨er, Q1⟩
           subst c61
           rw [if_pos rfl] at H
           replace H := Option.bind_eq_some_iff.mp H
           obtain ⟨t332, A620, H⟩ := H
           have A62 := am A620
           clear A620
           by_cases c63 : t332 = true
           rotate_left
           · replace c63 := Bool.eq_false_iff.mpr c63
             subst c63
             rw [nf] at H
             obtain rfl := sj H
             obtain ⟨hcz67_0, hcz67_1, hcz67_2, hcz67_3, hcz67_4, hcz67_5, hcz67_6, hcz67_7, hcz67_8, hcz67_9⟩ := bc10 wc BK326.out
             go_wp2_with (first | ((with_reducible refine gate_callee (f := 113) rfl ?_); refine goesL_ (some 107) rfl rfl Try.func113 kr rfl #[.slice A0_8 l0_8.length c0_8] rfl Q3 ?_; (with_reducible refine (impl_areIds.calls kj49 _ _ l0_8 true _ ?side1 ?side2 A60.out).mono ?_); (case side1 => exact Q10); (case side2 => exact HC0_8.out); rintro e w' ⟨rfl, ⟨nd, rfl⟩⟩; refine ⟨_, rfl, ?_⟩) | (go_at_call 114; (with_reducible refine (slices_Contains_int_int.calls kj49 _ _ l0_8 a0_0 false _ ?side1 ?side2 A62.out).mono ?_); (case side1 => exact u13_6); (case side2 => exact HC0_8.out); rintro e w' ⟨rfl, ⟨nd, rfl⟩⟩))
             go_ret
             exact ⟨er, Q1⟩
           subst c63
           rw [if_pos rfl] at H
           replace H := Option.bind_eq_some_iff.mp H
           obtain ⟨t333, A640, H⟩ := H
           have A64 := am A640
           clear A640
           have H9 := am H
           clear H
           obtain ⟨hcz65_0, hcz65_1, hcz65_2, hcz65_3, hcz65_4, hcz65_5, hcz65_6, hcz65_7, hcz65_8, hcz65_9⟩ := bc10 wc BK326.out
           go_upto_if 123 with (first | ((with_reducible refine gate_callee (f := 113) rfl ?_); refine goesL_ (some 107) rfl rfl Try.func113 kr rfl #[.slice A0_8 l0_8.length c0_8] rfl Q3 ?_; (with_reducible refine (impl_areIds.calls kj49 _ _ l0_8 true _ ?side1 ?side2 A60.out).mono ?_); (case side1 => exact Q10); (case side2 => exact HC0_8.out); rintro e w' ⟨rfl, ⟨nd, rfl⟩⟩; refine ⟨_, rfl, ?_⟩) | (go_at_call 114; (with_reducible refine (slices_Contains_int_int.calls kj49 _ _ l0_8 a0_0 true _ ?side1 ?side2 A62.out).mono ?_); (case side1 => exact u13_6); (case side2 => exact HC0_8.out); rintro e w' ⟨rfl, ⟨nd, rfl⟩⟩) | (go_at_call 115; (with_reducible refine (slices_Max_int_int.calls _ _ l0_8 t333 _ ?side1 ?side2 A64.out).mono ?_); (case side1 => exact u13_6); (case side2 => exact HC0_8.out); rintro e w' ⟨rfl, ⟨nd, rfl⟩⟩))
           have H := H9.out
           clear H9
           by_cases c66 : t333 ≥ a1
           · rw [if_pos c66] at H
             have c66b0 : decide (a1 ≤ t333) = true := decide_eq_true c66
             clear c66
             (first | rw [c66b0] | (simp only [i64_w, i32_w]; rw [c66b0]) | skip)
             obtain rfl := sj H
             go_wp2
             go_ret
             exact ⟨er, Q1⟩
           rw [if_neg c66] at H
           have c66b0 : decide (a1 ≤ t333) = false := decide_eq_false c66
           clear c66
           (first | rw [c66b0] | (simp only [i64_w, i32_w]; rw [c66b0]) | skip)
           have H' := am H
           clear H
           go_wp2
           go_meet
           case rel => exact ⟨_, H', ⟨u13_12⟩, ⟨u13_1⟩, ⟨Q1⟩⟩
         clear HC57
         try clear c49
         try clear c56
         try clear hcz58_0
         try clear hcz58_1
         try clear hcz58_2
         try clear hcz58_3
         try clear hcz58_4
         try clear hcz58_5
         try clear hcz58_6
         try clear hcz58_7
         try clear hcz58_8
         try clear hcz58_9
         obtain ⟨kq, HA, HJ56, BK326, HB⟩ := hcut
         cases kq with
         | zero => exact absurd HA.out (by simp [impl_isNode.j3])
         | succ kj56 =>
           have H := HA.out
           clear HA
           simp only [impl_isNode.j3] at H
           as_aux_lemma =>
            by_cases c72 : a0_3 = 2
            rotate_left
            · rw [if_neg c72] at H
              have c72b0 : (a0_3 == 2) = false := beq_eq_false_iff_ne.mpr c72
              have c72b1 : (a0_3 != 2) = true := bne_iff_ne.mpr c72
              obtain rfl := sj H
              obtain ⟨hcz90_0, hcz90_1, hcz90_2, hcz90_3, hcz90_4, hcz90_5, hcz90_6, hcz90_7, hcz90_8, hcz90_9⟩ := bc10 wc BK326.out
              go_wp2
              go_ret
              exact ⟨er, Q1⟩
            rw [if_pos c72] at H
            have c72b0 : (a0_3 == 2) = true := beq_iff_eq.mpr c72
            have c72b1 : (a0_3 != 2) = false := bne_eq_false_iff_eq.mpr c72
            clear c72
            have HC73 := am H
            clear H
            obtain ⟨hcz74_0, hcz74_1, hcz74_2, hcz74_3, hcz74_4, hcz74_5, hcz74_6, hcz74_7, hcz74_8, hcz74_9⟩ := bc10 wc BK326.out
            go_upto_region 14 with (fail)
            go_cut [151] (fun v151 wc => ∃ (kq : Nat) (x151_72 : Bool), v151 = .bool x151_72 ∧ Aside0 (impl_isNode.j4 kq x151_72 a0_0 a0_1 a0_2 a0_3 a0_4 a0_5 a0_6 l0_7 l0_8 l0_9 = some r) ∧ Aside0 (kq ≤ kj56) ∧ Aside0 (wc.heap[gb326]? = some (.cells #[.int .i64 a0_0, .int .i64 a0_1, .int .i64 a0_2, .int .i64 a0_3, .int .i64 a0_4, .int .i64 a0_5, .int .i64 a0_6, (.slice A0_7 l0_7.length c0_7), (.slice A0_8 l0_8.length c0_8), (.slice A0_9 l0_9.length c0_9)] 37 (0, 0))) ∧ Aside0 (Below w.heap.size w wc))
            case first =>
              have H := HC73.out
              clear HC73
              by_cases c75 : (l0_9.length : Int) = a1
              rotate_left
              · rw [if_neg c75] at H
                have c75b0 : ((l0_9.length : Int) == a1) = false := beq_eq_false_iff_ne.mpr c75
                have c75b1 : ((l0_9.length : Int) != a1) = true := bne_iff_ne.mpr c75
                (first | rw [c75b0] | (simp only [i64_w, i32_w]; rw [c75b0]) | skip)
                have H' := am H
                clear H
                try go_wp2
                replace BK326 := am (blk_drew BK326.out)
                replace HB := am (below_drew1 HB.out)
                refine start_ (n := 17) (S := fun w' => w'.cell? ⟨gb326, 0, none⟩ = some (.int .i64 a0_0) ∧ w'.cell? ⟨gb326, 1, none⟩ = some (.int .i64 a0_1) ∧ w'.cell? ⟨gb326, 2, none⟩ = some (.int .i64 a0_2) ∧ w'.cell? ⟨gb326, 3, none⟩ = some (.int .i64 a0_3) ∧ w'.cell? ⟨gb326, 4, none⟩ = some (.int .i64 a0_4) ∧ w'.cell? ⟨gb326, 5, none⟩ = some (.int .i64 a0_5) ∧ w'.cell? ⟨gb326, 6, none⟩ = some (.int .i64 a0_6) ∧ w'.cell? ⟨gb326, 7, none⟩ = some (.slice A0_7 l0_7.length c0_7) ∧ w'.cell? ⟨gb326, 8, none⟩ = some (.slice A0_8 l0_8.length c0_8) ∧ w'.cell? ⟨gb326, 9, none⟩ = some (.slice A0_9 l0_9.length c0_9)) (ds := []) #[false, false, false, false, false, false, false, false, false, false, false, false, false, false, false, false, false] kr rfl rfl ⟨(blk_cell BK326.out 0).trans rfl, (blk_cell BK326.out 1).trans rfl, (blk_cell BK326.out 2).trans rfl, (blk_cell BK326.out 3).trans rfl, (blk_cell BK326.out 4).trans rfl, (blk_cell BK326.out 5).trans rfl, (blk_cell BK326.out 6).trans rfl, (blk_cell BK326.out 7).trans rfl, (blk_cell BK326.out 8).trans rfl, (blk_cell BK326.out 9).trans rfl⟩ (fun hHeld => ?_); refine with_tabW impl_isNode.tab14 impl_isNode.bits14 (fun HT_ HW_ => ?_)
                generalize wc.drew = w81 at BK326 HB hHeld ⊢
                refine pV 0 135 (bt 1 17) ?_
                refine pV 3 138 #[true, false, false, true, false, false, false, false, false, false, false, false, false, false, false, false, false] ?_
                refine tV 1 136 #[true, true, false, true, false, false, false, false, false, false, false, false, false, false, false, false, false] ?_
                refine pV 2 137 (bt 4 17) ?_
                refine pV 4 139 (bt 5 17) ?_
                refine pV 5 140 (bt 6 17) ?_
                refine pU 6 141 (bt 7 17) ?_
                refine pU 7 142 (bt 8 17) ?_
                refine pU 8 143 (bt 9 17) ?_
                refine pU 9 144 (bt 10 17) ?_
                refine pU 10 145 (bt 11 17) ?_
                refine pU 11 146 (bt 12 17) ?_
                refine pU 12 147 (bt 13 17) ?_
                refine pU 13 148 (bt 14 17) ?_
                refine pU 14 149 (bt 15 17) ?_
                refine pU 15 150 (bt 16 17) ?_
                refine pV 16 151 (bt 17 17) ?_
                refine done_ (done_of HT_.out kr) ?_
                try go_wp2
                go_meet
                case rel => exact ⟨_, (true), Q2, H', ⟨u13_11⟩, ⟨u13_1⟩, ⟨Q1⟩⟩
              rw [if_pos c75] at H
              have c75b0 : ((l0_9.length : Int) == a1) = true := beq_iff_eq.mpr c75
              have c75b1 : ((l0_9.length : Int) != a1) = false := bne_eq_false_iff_eq.mpr c75
              clear c75
              (first | rw [c75b0] | (simp only [i64_w, i32_w]; rw [c75b0]) | skip)
              by_cases c76 : 0 ≤ a0_0
              rotate_left
              · rw [if_neg c76] at H
                exact absurd H (by simp)
              rw [if_pos c76] at H
              have c76b0 : decide (0 ≤ a0_0) = true := decide_eq_true c76
              clear c76
              by_cases c77 : a0_0 < (l0_9.length : Int)
              rotate_left
              · rw [if_neg c77] at H
                exact absurd H (by simp)
              rw [if_pos c77] at H
              have c77b0 : decide (a0_0 < (l0_9.length : Int)) = true := decide_eq_true c77
              clear c77
              replace H := Option.bind_eq_some_iff.mp H
              obtain ⟨t335, A780, H⟩ := H
              have A78 := am A780
              clear A780
              have H' := am H
              clear H
              try go_wp2
              replace BK326 := am (blk_drew BK326.out)
              replace HB := am (below_drew1 HB.out)
              have p334 : 0 ≤ (a0_0 : Int) := of_decide_eq_true (by first | (with_reducible assumption) | assumption)
              have q334 : a0_0 < (l0_9.length : Int) := of_decide_eq_true (by first | (with_reducible assumption) | assumption)
              obtain ⟨ad334, e334, hx334_0⟩ := Kd.at_int HR0_9.out a0_0 p334 q334
              have hw334_0 := hx334_0
              cases e334
              replace hx334_0 := cm HB.out hx334_0
              replace p334 := eq_true p334
              replace q334 := eq_true q334
              refine start_ (n := 17) (S := fun w' => w'.cell? ⟨gb326, 0, none⟩ = some (.int .i64 a0_0) ∧ w'.cell? ⟨gb326, 1, none⟩ = some (.int .i64 a0_1) ∧ w'.cell? ⟨gb326, 2, none⟩ = some (.int .i64 a0_2) ∧ w'.cell? ⟨gb326, 3, none⟩ = some (.int .i64 a0_3) ∧ w'.cell? ⟨gb326, 4, none⟩ = some (.int .i64 a0_4) ∧ w'.cell? ⟨gb326, 5, none⟩ = some (.int .i64 a0_5) ∧ w'.cell? ⟨gb326, 6, none⟩ = some (.int .i64 a0_6) ∧ w'.cell? ⟨gb326, 7, none⟩ = some (.slice A0_7 l0_7.length c0_7) ∧ w'.cell? ⟨gb326, 8, none⟩ = some (.slice A0_8 l0_8.length c0_8) ∧ w'.cell? ⟨gb326, 9, none⟩ = some (.slice (some ad334) l0_9.length c0_9) ∧ w'.cell? (ad334.add (a0_0).toNat) = some (.int .i64 (rd l0_9 a0_0))) (ds := []) #[false, false, false, false, false, false, false, false, false, false, false, false, false, false, false, false, false] kr rfl rfl ⟨(blk_cell BK326.out 0).trans rfl, (blk_cell BK326.out 1).trans rfl, (blk_cell BK326.out 2).trans rfl, (blk_cell BK326.out 3).trans rfl, (blk_cell BK326.out 4).trans rfl, (blk_cell BK326.out 5).trans rfl, (blk_cell BK326.out 6).trans rfl, (blk_cell BK326.out 7).trans rfl, (blk_cell BK326.out 8).trans rfl, (blk_cell BK326.out 9).trans rfl, (cm HB.out hw334_0)⟩ (fun hHeld => ?_); refine with_tabW impl_isNode.tab14 impl_isNode.bits14 (fun HT_ HW_ => ?_)
              generalize wc.drew = w79 at BK326 HB hx334_0 hHeld ⊢
              refine pV 0 135 (bt 1 17) ?_
              refine pV 3 138 #[true, false, false, true, false, false, false, false, false, false, false, false, false, false, false, false, false] ?_
              refine tV 1 136 #[true, true, false, true, false, false, false, false, false, false, false, false, false, false, false, false, false] ?_
              refine pV 2 137 (bt 4 17) ?_
              refine pV 4 139 (bt 5 17) ?_
              refine pV 5 140 (bt 6 17) ?_
              refine pV 6 141 (bt 7 17) ?_
              refine pV 8 143 #[true, true, true, true, true, true, true, false, true, false, false, false, false, false, false, false, false] ?_
              refine pV 12 147 #[true, true, true, true, true, true, true, false, true, false, false, false, true, false, false, false, false] ?_
              refine tV 7 142 #[true, true, true, true, true, true, true, true, true, false, false, false, true, false, false, false, false] ?_
              refine tV 9 144 #[true, true, true, true, true, true, true, true, true, true, false, false, true, false, false, false, false] ?_
              refine pV 10 145 #[true, true, true, true, true, true, true, true, true, true, true, false, true, false, false, false, false] ?_
              refine tV 11 146 (bt 13 17) ?_
              refine tV 13 148 (bt 14 17) ?_
              refine one_ (i := 14) (N := some 149) #[true, true, true, true, true, true, true, true, true, true, true, true, true, true, true, false, false] rfl rfl (one_of HT_.out kr) (by decide) (fun K hK => ?_)
              refine goes_ Try.func89 kr rfl #[.agg #[.int .i64 a0_5, .int .i64 a0_6, .slice A0_7 l0_7.length c0_7]] (by rfl) rfl rfl Q3 ?_
              with_reducible refine (impl_RLog_last.calls a0_5 a0_6 _ _ l0_7 t335 _ ?side1 ?side2 A78.out).mono ?_
              (case side1 => exact Q8)
              (case side2 => exact HC0_7.out)
              rintro e w80 ⟨rfl, hb⟩
              refine ⟨_, rfl, ?_⟩
              replace BK326 := am (blk_below (g := gb326) (o := .cells #[.int .i64 a0_0, .int .i64 a0_1, .int .i64 a0_2, .int .i64 a0_3, .int .i64 a0_4, .int .i64 a0_5, .int .i64 a0_6, .slice A0_7 l0_7.length c0_7, .slice A0_8 l0_8.length c0_8, .slice (some ad334) l0_9.length c0_9] 37 (0, 0)) u13_1 hb)
              replace HB := am (below_step Q1 hb)
              (try clear hb)
              (try clear hb2)
              (try clear hk)
              (try clear hi)
              refine hK.out _ _ ⟨(blk_cell BK326.out 0).trans rfl, (blk_cell BK326.out 1).trans rfl, (blk_cell BK326.out 2).trans rfl, (blk_cell BK326.out 3).trans rfl, (blk_cell BK326.out 4).trans rfl, (blk_cell BK326.out 5).trans rfl, (blk_cell BK326.out 6).trans rfl, (blk_cell BK326.out 7).trans rfl, (blk_cell BK326.out 8).trans rfl, (blk_cell BK326.out 9).trans rfl, (cm HB.out hw334_0)⟩ (fun hHeld => ?_)
              clear hK K
              refine norm_ (a' := ?_) ?_ ?_
              rotate_left
              · show Act.put _ (some 149) _ = _
                simp only [Act.put, la, lb, lc, i64_w, i32_w]
                rfl
              refine pV 15 150 (bt 16 17) ?_
              refine pV 16 151 (bt 17 17) ?_
              refine done_ (done_of HT_.out kr) ?_
              try go_wp2
              go_meet
              case rel => exact ⟨_, (((rd l0_9 a0_0) != t335)), Q2, H', ⟨u13_11⟩, ⟨u13_1⟩, ⟨Q1⟩⟩
            clear HC73
            try clear c49
            try clear c56
            try clear c72
            try clear c72b0
            try clear c72b1
            try clear hcz58_0
            try clear hcz58_1
            try clear hcz58_2
            try clear hcz58_3
            try clear hcz58_4
            try clear hcz58_5
            try clear hcz58_6
            try clear hcz58_7
            try clear hcz58_8
            try clear hcz58_9
            try clear hcz74_0
            try clear hcz74_1
            try clear hcz74_2
            try clear hcz74_3
            try clear hcz74_4
            try clear hcz74_5
            try clear hcz74_6
            try clear hcz74_7
            try clear hcz74_8
            try clear hcz74_9
            obtain ⟨kq, x151_72, rfl, HA, HJ72, BK326, HB⟩ := hcut
            cases kq with
            | zero => exact absurd HA.out (by simp [impl_isNode.j4])
            | succ kj72 =>
              have H := HA.out
              clear HA
              simp only [impl_isNode.j4] at H
              as_aux_lemma =>
               by_cases c82 : x151_72 = true
               · subst c82
                 rw [if_pos rfl] at H
                 obtain rfl := sj H
                 go_wp2
                 go_ret
                 exact ⟨er, Q1⟩
               replace c82 := Bool.eq_false_iff.mpr c82
               subst c82
               rw [nf] at H
               replace H := Option.bind_eq_some_iff.mp H
               obtain ⟨t336, A830, H⟩ := H
               have A83 := am A830
               clear A830
               by_cases c84 : t336 ≥ 0
               rotate_left
               · rw [if_neg c84] at H
                 have c84b0 : decide (0 ≤ t336) = false := decide_eq_false c84
                 clear c84
                 obtain rfl := sj H
                 try go_wp2
                 replace BK326 := am (blk_drew BK326.out)
                 replace HB := am (below_drew1 HB.out)
                 refine start_ (n := 14) (S := fun w' => w'.cell? ⟨gb326, 0, none⟩ = some (.int .i64 a0_0) ∧ w'.cell? ⟨gb326, 1, none⟩ = some (.int .i64 a0_1) ∧ w'.cell? ⟨gb326, 2, none⟩ = some (.int .i64 a0_2) ∧ w'.cell? ⟨gb326, 3, none⟩ = some (.int .i64 a0_3) ∧ w'.cell? ⟨gb326, 4, none⟩ = some (.int .i64 a0_4) ∧ w'.cell? ⟨gb326, 5, none⟩ = some (.int .i64 a0_5) ∧ w'.cell? ⟨gb326, 6, none⟩ = some (.int .i64 a0_6) ∧ w'.cell? ⟨gb326, 7, none⟩ = some (.slice A0_7 l0_7.length c0_7) ∧ w'.cell? ⟨gb326, 8, none⟩ = some (.slice A0_8 l0_8.length c0_8) ∧ w'.cell? ⟨gb326, 9, none⟩ = some (.slice A0_9 l0_9.length c0_9)) (ds := []) #[false, false, false, false, false, false, false, false, false, false, false, false, false, false] kr rfl rfl ⟨(blk_cell BK326.out 0).trans rfl, (blk_cell BK326.out 1).trans rfl, (blk_cell BK326.out 2).trans rfl, (blk_cell BK326.out 3).trans rfl, (blk_cell BK326.out 4).trans rfl, (blk_cell BK326.out 5).trans rfl, (blk_cell BK326.out 6).trans rfl, (blk_cell BK326.out 7).trans rfl, (blk_cell BK326.out 8).trans rfl, (blk_cell BK326.out 9).trans rfl⟩ (fun hHeld => ?_); refine with_tabW impl_isNode.tab16 impl_isNode.bits16 (fun HT_ HW_ => ?_)
                 generalize wc.drew = w89 at BK326 HB hHeld ⊢
                 refine pV 0 152 (bt 1 14) ?_
                 refine tV 1 153 (bt 2 14) ?_
                 refine one_ (i := 2) (N := some 154) #[true, true, true, false, false, false, false, false, false, false, false, false, false, false] rfl rfl (one_of HT_.out kr) (by decide) (fun K hK => ?_)
                 refine goes_ Try.func116 kr rfl #[.slice A0_9 l0_9.length c0_9] (by rfl) rfl rfl Q3 ?_
                 with_reducible refine (slices_Min_int_int.calls _ _ l0_9 t336 _ ?side1 ?side2 A83.out).mono ?_
                 (case side1 => exact Q11)
                 (case side2 => exact HC0_9.out)
                 rintro e w' ⟨rfl, ⟨nd, rfl⟩⟩
                 refine ⟨_, rfl, ?_⟩
                 refine hK.out _ _ ⟨(blk_cell BK326.out 0).trans rfl, (blk_cell BK326.out 1).trans rfl, (blk_cell BK326.out 2).trans rfl, (blk_cell BK326.out 3).trans rfl, (blk_cell BK326.out 4).trans rfl, (blk_cell BK326.out 5).trans rfl, (blk_cell BK326.out 6).trans rfl, (blk_cell BK326.out 7).trans rfl, (blk_cell BK326.out 8).trans rfl, (blk_cell BK326.out 9).trans rfl⟩ (fun hHeld => ?_)
                 clear hK K
                 refine norm_ (a' := ?_) ?_ ?_
                 rotate_left
                 · show Act.put _ (some 154) _ = _
                   simp only [Act.put, la, lb, lc, i64_w, i32_w]
                   rfl
                 refine pV 3 155 (bt 4 14) ?_
                 refine pV 4 156 (bt 5 14) ?_
                 refine pU 5 157 (bt 6 14) ?_
                 refine pU 6 158 (bt 7 14) ?_
                 refine pU 7 159 (bt 8 14) ?_
                 refine pU 8 160 (bt 9 14) ?_
                 refine pU 9 161 (bt 10 14) ?_
                 refine pU 10 162 (bt 11 14) ?_
                 refine pU 11 163 (bt 12 14) ?_
                 refine pV 12 164 (bt 13 14) ?_
                 refine pV 13 4 (bt 14 14) ?_
                 refine done_ (done_of HT_.out kr) ?_
                 try go_wp2
                 go_ret
                 exact ⟨er, Q1⟩
               rw [if_pos c84] at H
               have c84b0 : decide (0 ≤ t336) = true := decide_eq_true c84
               clear c84
               replace H := Option.bind_eq_some_iff.mp H
               obtain ⟨t337, A850, H⟩ := H
               replace H : ((impl_RLog_last.f a0_5 a0_6 l0_7).bind fun t338 => (some (decide (t337 ≤ t338)))) = some r := H
               have A85 := am A850
               clear A850
               replace H := Option.bind_eq_some_iff.mp H
               obtain ⟨t338, A860, H⟩ := H
               replace H : (some (decide (t337 ≤ t338))) = some r := H
               have A86 := am A860
               clear A860
               obtain rfl := sj H
               try go_wp2
               replace BK326 := am (blk_drew BK326.out)
               replace HB := am (below_drew1 HB.out)
               refine start_ (n := 14) (S := fun w' => w'.cell? ⟨gb326, 0, none⟩ = some (.int .i64 a0_0) ∧ w'.cell? ⟨gb326, 1, none⟩ = some (.int .i64 a0_1) ∧ w'.cell? ⟨gb326, 2, none⟩ = some (.int .i64 a0_2) ∧ w'.cell? ⟨gb326, 3, none⟩ = some (.int .i64 a0_3) ∧ w'.cell? ⟨gb326, 4, none⟩ = some (.int .i64 a0_4) ∧ w'.cell? ⟨gb326, 5, none⟩ = some (.int .i64 a0_5) ∧ w'.cell? ⟨gb326, 6, none⟩ = some (.int .i64 a0_6) ∧ w'.cell? ⟨gb326, 7, none⟩ = some (.slice A0_7 l0_7.length c0_7) ∧ w'.cell? ⟨gb326, 8, none⟩ = some (.slice A0_8 l0_8.length c0_8) ∧ w'.cell? ⟨gb326, 9, none⟩ = some (.slice A0_9 l0_9.length c0_9)) (ds := []) #[false, false, false, false, false, false, false, false, false, false, false, false, false, false] kr rfl rfl ⟨(blk_cell BK326.out 0).trans rfl, (blk_cell BK326.out 1).trans rfl, (blk_cell BK326.out 2).trans rfl, (blk_cell BK326.out 3).trans rfl, (blk_cell BK326.out 4).trans rfl, (blk_cell BK326.out 5).trans rfl, (blk_cell BK326.out 6).trans rfl, (blk_cell BK326.out 7).trans rfl, (blk_cell BK326.out 8).trans rfl, (blk_cell BK326.out 9).trans rfl⟩ (fun hHeld => ?_); refine with_tabW impl_isNode.tab16 impl_isNode.bits16 (fun HT_ HW_ => ?_)
               generalize wc.drew = w87 at BK326 HB hHeld ⊢
               refine pV 0 152 (bt 1 14) ?_
               refine tV 1 153 (bt 2 14) ?_
               refine one_ (i := 2) (N := some 154) #[true, true, true, false, false, false, false, false, false, false, false, false, false, false] rfl rfl (one_of HT_.out kr) (by decide) (fun K hK => ?_)
               refine goes_ Try.func116 kr rfl #[.slice A0_9 l0_9.length c0_9] (by rfl) rfl rfl Q3 ?_
               with_reducible refine (slices_Min_int_int.calls _ _ l0_9 t336 _ ?side1 ?side2 A83.out).mono ?_
               (case side1 => exact Q11)
               (case side2 => exact HC0_9.out)
               rintro e w' ⟨rfl, ⟨nd, rfl⟩⟩
               refine ⟨_, rfl, ?_⟩
               refine hK.out _ _ ⟨(blk_cell BK326.out 0).trans rfl, (blk_cell BK326.out 1).trans rfl, (blk_cell BK326.out 2).trans rfl, (blk_cell BK326.out 3).trans rfl, (blk_cell BK326.out 4).trans rfl, (blk_cell BK326.out 5).trans rfl, (blk_cell BK326.out 6).trans rfl, (blk_cell BK326.out 7).trans rfl, (blk_cell BK326.out 8).trans rfl, (blk_cell BK326.out 9).trans rfl⟩ (fun hHeld => ?_)
               clear hK K
               refine norm_ (a' := ?_) ?_ ?_
               rotate_left
               · show Act.put _ (some 154) _ = _
                 simp only [Act.put, la, lb, lc, i64_w, i32_w]
                 rfl
               refine pV 3 155 (bt 4 14) ?_
               refine pV 4 156 (bt 5 14) ?_
               refine pV 5 157 (bt 6 14) ?_
               refine pV 8 160 #[true, true, true, true, true, true, false, false, true, false, false, false, false, false] ?_
               refine tV 6 158 #[true, true, true, true, true, true, true, false, true, false, false, false, false, false] ?_
               refine tV 9 161 #[true, true, true, true, true, true, true, false, true, true, false, false, false, false] ?_
               refine one_ (i := 7) (N := some 159) #[true, true, true, true, true, true, true, true, true, true, false, false, false, false] rfl rfl (one_of HT_.out kr) (by decide) (fun K hK => ?_)
               refine goes_ Try.func115 kr rfl #[.slice A0_9 l0_9.length c0_9] (by rfl) rfl rfl Q3 ?_
               with_reducible refine (slices_Max_int_int.calls _ _ l0_9 t337 _ ?side1 ?side2 A85.out).mono ?_
               (case side1 => exact (by repeat (first | exact (Kd.C_below HR0_9.out Q1) | (with_reducible refine Kd.C_alloc ?_ _) | (with_reducible refine Kd.C_drewN ?_ _) | (with_reducible refine Kd.C_drew ?_))))
               (case side2 => exact HC0_9.out)
               rintro e w' ⟨rfl, ⟨nd, rfl⟩⟩
               refine ⟨_, rfl, ?_⟩
               refine hK.out _ _ ⟨(blk_cell BK326.out 0).trans rfl, (blk_cell BK326.out 1).trans rfl, (blk_cell BK326.out 2).trans rfl, (blk_cell BK326.out 3).trans rfl, (blk_cell BK326.out 4).trans rfl, (blk_cell BK326.out 5).trans rfl, (blk_cell BK326.out 6).trans rfl, (blk_cell BK326.out 7).trans rfl, (blk_cell BK326.out 8).trans rfl, (blk_cell BK326.out 9).trans rfl⟩ (fun hHeld => ?_)
               clear hK K
               refine norm_ (a' := ?_) ?_ ?_
               rotate_left
               · show Act.put _ (some 159) _ = _
                 simp only [Act.put, la, lb, lc, i64_w, i32_w]
                 rfl
               refine one_ (i := 10) (N := some 162) #[true, true, true, true, true, true, true, true, true, true, true, false, false, false] rfl rfl (one_of HT_.out kr) (by decide) (fun K hK => ?_)
               refine goes_ Try.func89 kr rfl #[.agg #[.int .i64 a0_5, .int .i64 a0_6, .slice A0_7 l0_7.length c0_7]] (by rfl) rfl rfl Q3 ?_
               with_reducible refine (impl_RLog_last.calls a0_5 a0_6 _ _ l0_7 t338 _ ?side1 ?side2 A86.out).mono ?_
               (case side1 => exact (by repeat (first | exact (Kd.C_below HR0_7.out Q1) | (with_reducible refine Kd.C_alloc ?_ _) | (with_reducible refine Kd.C_drewN ?_ _) | (with_reducible refine Kd.C_drew ?_))))
               (case side2 => exact HC0_7.out)
               rintro e w88 ⟨rfl, hb⟩
               refine ⟨_, rfl, ?_⟩
               replace BK326 := am (blk_below (g := gb326) (o := .cells #[.int .i64 a0_0, .int .i64 a0_1, .int .i64 a0_2, .int .i64 a0_3, .int .i64 a0_4, .int .i64 a0_5, .int .i64 a0_6, .slice A0_7 l0_7.length c0_7, .slice A0_8 l0_8.length c0_8, .slice A0_9 l0_9.length c0_9] 37 (0, 0)) u13_1 hb)
               replace HB := am (below_step Q1 hb)
               (try clear hb)
               (try clear hb2)
               (try clear hk)
               (try clear hi)
               refine hK.out _ _ ⟨(blk_cell BK326.out 0).trans rfl, (blk_cell BK326.out 1).trans rfl, (blk_cell BK326.out 2).trans rfl, (blk_cell BK326.out 3).trans rfl, (blk_cell BK326.out 4).trans rfl, (blk_cell BK326.out 5).trans rfl, (blk_cell BK326.out 6).trans rfl, (blk_cell BK326.out 7).trans rfl, (blk_cell BK326.out 8).trans rfl, (blk_cell BK326.out 9).trans rfl⟩ (fun hHeld => ?_)
               clear hK K
               refine norm_ (a' := ?_) ?_ ?_
               rotate_left
               · show Act.put _ (some 162) _ = _
                 simp only [Act.put, la, lb, lc, i64_w, i32_w]
                 rfl
               refine pV 11 163 (bt 12 14) ?_
               refine pV 12 164 (bt 13 14) ?_
               refine pV 13 4 (bt 14 14) ?_
               refine done_ (done_of HT_.out kr) ?_
               try go_wp2
               go_ret
               exact ⟨er, Q1⟩

end Go.Proofs.Ytkcadcoohmofcaa.QFnExactPropose
