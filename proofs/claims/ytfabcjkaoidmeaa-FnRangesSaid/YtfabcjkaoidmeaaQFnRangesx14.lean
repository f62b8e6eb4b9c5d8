-- Printed by the session's own program wip/prx.py.
import Derived.Test.YtfabcjkaoidmeaaQFnRangesx0
import Derived.Test.YtfabcjkaoidmeaaQFnRangesx2
import Derived.Test.YtfabcjkaoidmeaaQFnRangesx4
import Derived.Test.YtfabcjkaoidmeaaQFnRangesx6
import Derived.Test.YtfabcjkaoidmeaaQFnRangesx9
import Derived.Test.YtfabcjkaoidmeaaQFnRangesx10
import Derived.Test.YtfabcjkaoidmeaaQFnRangesx11
import Derived.Test.YtfabcjkaoidmeaaQFnRangesx13
namespace Go.Proofs.Ytfabcjkaoidmeaa.QFnRanges
open Go.RowKit Go.Proofs.YtfabcjkaoidmeaaW.PrintWords Go.Proofs.YtfabcjkaoidmeaaW.PrintLast Go.Proofs.YtfabcjkaoidmeaaW.PrintMore
attribute [local go_sem] max2_int min2_int max_two min_two max_three min_three max_four min_four Go.Proofs.Ytfabcjkaoidmeaa.Set.isSome_setCell   -- for this text's walks alone
set_option linter.unusedVariables false
set_option linter.unusedSimpArgs false

-- squeezed
theorem u14_0 {P : Prop} (h : P := by repeat (first | (with_reducible first | exact HB.out | apply below_alloc | apply pw_below_drewN | apply below_drew1) | exact HB.out)) : P := h
theorem u14_1 {P : Prop} (h : P := by (with_reducible repeat (first | apply Kd.R_alloc | apply Kd.R_drewN | apply Kd.R_drew)); exact HO_3.out) : P := h
theorem u14_2 {P : Prop} (h : P := by (with_reducible repeat (first | apply Kd.R_alloc | apply Kd.R_drewN | apply Kd.R_drew)); exact HO333.out) : P := h
theorem u14_3 {P : Prop} (h : P := by (try simp only [List.map_toArray, List.map_cons, List.map_nil]); first | done | rfl | (simp only [List.length_drop, List.length_take]; rfl)) : P := h
theorem u14_4 {P : Prop} (h : P := by first | (with_reducible assumption) | assumption) : P := h
theorem u14_5 {P : Prop} (h : P := by repeat (first | exact (Kd.R_reads' HO_3.out).2.2 | (with_reducible refine Kd.C_alloc ?_ _) | (with_reducible refine Kd.C_drewN ?_ _) | (with_reducible refine Kd.C_drew ?_))) : P := h
theorem u14_6 {P : Prop} (h : P := by (with_reducible repeat (first | apply Kd.R_alloc | apply Kd.R_drewN | apply Kd.R_drew)); exact HO324.out) : P := h
theorem u14_7 {P : Prop} (h : P := by repeat (first | exact (Kd.R_reads' HO324.out).2.2 | (with_reducible refine Kd.C_alloc ?_ _) | (with_reducible refine Kd.C_drewN ?_ _) | (with_reducible refine Kd.C_drew ?_))) : P := h
theorem u14_8 {P : Prop} (h : P := by repeat (first | exact (Kd.R_reads' HO333.out).2.2 | (with_reducible refine Kd.C_alloc ?_ _) | (with_reducible refine Kd.C_drewN ?_ _) | (with_reducible refine Kd.C_drew ?_))) : P := h
theorem u14_9 {P : Prop} (h : P := by (with_reducible repeat (first | apply Kd.R_alloc | apply Kd.R_drewN | apply Kd.R_drew)); exact Kd.R_mono HO333.out (fun _ hk => hk.2)) : P := h
theorem u14_10 {P : Prop} (h : P := by (with_reducible repeat (first | apply Kd.R_alloc | apply Kd.R_drewN | apply Kd.R_drew)); exact Kd.R_mono HO_3.out (fun _ hk => hk.2)) : P := h
theorem u14_11 {P : Prop} (h : P := by first | rfl | (simp; done) | (simp [*]; done)) : P := h
theorem u14_12 {P : Prop} (h : P := by (with_reducible repeat (first | apply Kd.R_alloc | apply Kd.R_drewN | apply Kd.R_drew)); exact HO_9.out) : P := h
theorem u14_13 {P : Prop} (h : P := by repeat (first | exact (Kd.R_reads' HO352.out).2.2 | (with_reducible refine Kd.C_alloc ?_ _) | (with_reducible refine Kd.C_drewN ?_ _) | (with_reducible refine Kd.C_drew ?_))) : P := h
theorem u14_14 {P : Prop} (h : P := by have := HJ5.out; have := HK2.out; first | omega | exact Nat.le_refl _) : P := h
theorem u14_15 {P : Prop} (h : P := by (with_reducible repeat (first | apply Kd.R_alloc | apply Kd.R_drewN | apply Kd.R_drew)); exact HO352.out) : P := h
theorem u14_16 {P : Prop} (h : P := by (with_reducible repeat (first | apply Kd.R_alloc | apply Kd.R_drewN | apply Kd.R_drew)); exact HO357.out) : P := h
theorem u14_17 {P : Prop} (h : P := by repeat (first | exact (Kd.R_reads' HO340.out).2.2 | (with_reducible refine Kd.C_alloc ?_ _) | (with_reducible refine Kd.C_drewN ?_ _) | (with_reducible refine Kd.C_drew ?_))) : P := h
theorem u14_18 {P : Prop} (h : P := by (with_reducible repeat (first | apply Kd.R_alloc | apply Kd.R_drewN | apply Kd.R_drew)); exact HO340.out) : P := h
/-! ### laws_FnRanges: function 8 -/
mutual
def laws_FnRanges.j0 : Nat → List (S26) → Int → Int → Int → Bool → Option (Bool)
  | 0, _, _, _, _, _ => none
  | k + 1, x3, x4, x5, x6, x45 => if x45 = true then (some false) else (laws_FnRanges.l0 k x3 x4 x5 x6 0 0)
def laws_FnRanges.l0 : Nat → List (S26) → Int → Int → Int → Int → Int → Option (Bool)
  | 0, _, _, _, _, _, _ => none
  | k + 1, x3, x4, x5, x6, x7, x8 => if x8 < (x3.length : Int) then (if 0 ≤ x8 then ((impl_Covers.f ((rd_T26 x3 x8).f0) ((rd_T26 x3 x8).f1) ((rd_T26 x3 x8).f2) x4).bind fun t329 => (if t329 = true then (laws_FnRanges.l0 k x3 x4 x5 x6 (wrap64 (x7 + 1)) (wrap64 (x8 + 1))) else (laws_FnRanges.l0 k x3 x4 x5 x6 x7 (wrap64 (x8 + 1))))) else (none)) else ((impl_MoveRange.f k x3 x6 x5).bind fun bt330 => (if x7 = 1 then (if 0 ≤ x6 then (if x6 < (x3.length : Int) then ((impl_Covers.f ((rd_T26 x3 x6).f0) ((rd_T26 x3 x6).f1) ((rd_T26 x3 x6).f2) x4).bind fun t335 => (if t335 = true then (if bt330.2 = true then (if (bt330.1.length : Int) = (x3.length : Int) then ((impl_RangesOk.f k bt330.1).bind fun t336 => (if t336 = true then (if x6 < (bt330.1.length : Int) then (if ((rd_T26 bt330.1 x6).f2) = x5 then ((impl_Owners.f k bt330.1).bind fun t338 => ((laws_within.f k t338 x5).bind fun t341 => (if t341 = true then ((impl_Joined.f k x3).bind fun t342 => ((impl_SameOwners.f k x3 t342).bind fun t345 => (laws_FnRanges.j2 k x3 x4 x5 x6 bt330.1 (!t345)))) else (laws_FnRanges.j2 k x3 x4 x5 x6 bt330.1 true)))) else (laws_FnRanges.j2 k x3 x4 x5 x6 bt330.1 true)) else (none)) else (laws_FnRanges.j2 k x3 x4 x5 x6 bt330.1 true))) else (laws_FnRanges.j2 k x3 x4 x5 x6 bt330.1 true)) else (laws_FnRanges.j2 k x3 x4 x5 x6 bt330.1 true)) else (laws_FnRanges.j2 k x3 x4 x5 x6 bt330.1 true))) else (none)) else (none)) else (laws_FnRanges.j2 k x3 x4 x5 x6 bt330.1 true)))
def laws_FnRanges.j2 : Nat → List (S26) → Int → Int → Int → List (S26) → Bool → Option (Bool)
  | 0, _, _, _, _, _, _ => none
  | k + 1, x3, x4, x5, x6, x9, x116 => if x116 = true then (some false) else ((impl_SameOwners.f k x3 x9).bind fun t346 => (if 0 ≤ x6 then (if x6 < (x3.length : Int) then (if (t346 != (((rd_T26 x3 x6).f2) == x5)) = true then (some false) else ((impl_SplitRange.f k x3 x4 ((rd_T26 x3 x6).f2)).bind fun bt349 => (if bt349.2 = true then ((impl_MergeRange.f k bt349.1 x6).bind fun bt354 => (if (bt349.1.length : Int) = (wrap64 ((x3.length : Int) + 1)) then (if 0 ≤ (wrap64 (x6 + 1)) then (if (wrap64 (x6 + 1)) < (bt349.1.length : Int) then (if ((rd_T26 bt349.1 (wrap64 (x6 + 1))).f0) = x4 then (if x6 < (bt349.1.length : Int) then (if ((rd_T26 bt349.1 x6).f1) = (IntKind.u64.wrap (x4 - 1)) then ((impl_RangesOk.f k bt349.1).bind fun t360 => (if t360 = true then ((impl_SameOwners.f k bt349.1 x3).bind fun t361 => (if t361 = true then (if bt354.2 = true then ((laws_sameRanges.f k bt354.1 x3).bind fun t362 => (if t362 = true then ((impl_FindRange.f k bt349.1 x4).bind fun t363 => (some (t363 == (wrap64 (x6 + 1))))) else (some false))) else (some false)) else (some false))) else (some false))) else (some false)) else (none)) else (some false)) else (none)) else (none)) else (some false))) else (if ((rd_T26 x3 x6).f0) = x4 then (some true) else (some ((x3.length : Int) == 24)))))) else (none)) else (none)))
end
def laws_FnRanges.f (k : Nat) (l0 : List Int) : Option (Bool) := (laws_big.f l0).bind fun t319 => (if t319 = true then (some true) else ((spec_DrawRightRanges.f k l0).bind fun bt320 => ((impl_FindRange.f k bt320.1 bt320.2.1).bind fun t325 => ((impl_RangesOk.f k bt320.1).bind fun t326 => (if t326 = true then (if t325 < 0 then (laws_FnRanges.j0 k bt320.1 bt320.2.1 bt320.2.2 t325 true) else (if t325 ≥ (bt320.1.length : Int) then (laws_FnRanges.j0 k bt320.1 bt320.2.1 bt320.2.2 t325 true) else ((spec_FindRange.f k bt320.1 bt320.2.1).bind fun t327 => (laws_FnRanges.j0 k bt320.1 bt320.2.1 bt320.2.2 t325 (t325 != t327))))) else (laws_FnRanges.j0 k bt320.1 bt320.2.1 bt320.2.2 t325 true))))))
theorem laws_FnRanges.mono_l : ∀ k, (∀ y0 y1 y2 y3 y4, LeO (laws_FnRanges.j0 k y0 y1 y2 y3 y4) (laws_FnRanges.j0 (k + 1) y0 y1 y2 y3 y4)) ∧ (∀ y0 y1 y2 y3 y4 y5, LeO (laws_FnRanges.l0 k y0 y1 y2 y3 y4 y5) (laws_FnRanges.l0 (k + 1) y0 y1 y2 y3 y4 y5)) ∧ (∀ y0 y1 y2 y3 y4 y5, LeO (laws_FnRanges.j2 k y0 y1 y2 y3 y4 y5) (laws_FnRanges.j2 (k + 1) y0 y1 y2 y3 y4 y5))
  | 0 => ⟨fun _ _ _ _ _ r h => by simp [laws_FnRanges.j0] at h, fun _ _ _ _ _ _ r h => by simp [laws_FnRanges.l0] at h, fun _ _ _ _ _ _ r h => by simp [laws_FnRanges.j2] at h⟩
  | k + 1 => by
    obtain ⟨ih0, ih1, ih2⟩ := laws_FnRanges.mono_l k
    refine ⟨?_, ?_, ?_⟩
    · intro y0 y1 y2 y3 y4
      unfold laws_FnRanges.j0
      repeat' first
      | (with_reducible exact ih0 _ _ _ _ _)
      | (with_reducible exact ih1 _ _ _ _ _ _)
      | (with_reducible exact ih2 _ _ _ _ _ _)
      | (with_reducible exact impl_FindRange.mono _ _ _)
      | (with_reducible exact impl_Joined.mono _ _)
      | (with_reducible exact impl_MergeRange.mono _ _ _)
      | (with_reducible exact impl_MoveRange.mono _ _ _ _)
      | (with_reducible exact impl_Owners.mono _ _)
      | (with_reducible exact impl_RangesOk.mono _ _)
      | (with_reducible exact impl_SameOwners.mono _ _ _)
      | (with_reducible exact impl_SplitRange.mono _ _ _ _)
      | (with_reducible exact laws_sameRanges.mono _ _ _)
      | (with_reducible exact laws_within.mono _ _ _)
      | (with_reducible exact spec_DrawRightRanges.mono _ _)
      | (with_reducible exact spec_FindRange.mono _ _ _)
      | (with_reducible exact LeO.refl _)
      | (with_reducible exact LeO.none _)
      | (with_reducible refine LeO.ite ?_ ?_)
      | (with_reducible refine LeO.bind ?_ (fun _ => ?_))
      | exact ih0 _ _ _ _ _
      | exact ih1 _ _ _ _ _ _
      | exact ih2 _ _ _ _ _ _
      | exact impl_FindRange.mono _ _ _
      | exact impl_Joined.mono _ _
      | exact impl_MergeRange.mono _ _ _
      | exact impl_MoveRange.mono _ _ _ _
      | exact impl_Owners.mono _ _
      | exact impl_RangesOk.mono _ _
      | exact impl_SameOwners.mono _ _ _
      | exact impl_SplitRange.mono _ _ _ _
      | exact laws_sameRanges.mono _ _ _
      | exact laws_within.mono _ _ _
      | exact spec_DrawRightRanges.mono _ _
      | exact spec_FindRange.mono _ _ _
      | exact LeO.none _
      | refine LeO.ite ?_ ?_
      | refine LeO.bind ?_ (fun _ => ?_)
    · intro y0 y1 y2 y3 y4 y5
      unfold laws_FnRanges.l0
      repeat' first
      | (with_reducible exact ih0 _ _ _ _ _)
      | (with_reducible exact ih1 _ _ _ _ _ _)
      | (with_reducible exact ih2 _ _ _ _ _ _)
      | (with_reducible exact impl_FindRange.mono _ _ _)
      | (with_reducible exact impl_Joined.mono _ _)
      | (with_reducible exact impl_MergeRange.mono _ _ _)
      | (with_reducible exact impl_MoveRange.mono _ _ _ _)
      | (with_reducible exact impl_Owners.mono _ _)
      | (with_reducible exact impl_RangesOk.mono _ _)
      | (with_reducible exact impl_SameOwners.mono _ _ _)
      | (with_reducible exact impl_SplitRange.mono _ _ _ _)
      | (with_reducible exact laws_sameRanges.mono _ _ _)
      | (with_reducible exact laws_within.mono _ _ _)
      | (with_reducible exact spec_DrawRightRanges.mono _ _)
      | (with_reducible exact spec_FindRange.mono _ _ _)
      | (with_reducible exact LeO.refl _)
      | (with_reducible exact LeO.none _)
      | (with_reducible refine LeO.ite ?_ ?_)
      | (with_reducible refine LeO.bind ?_ (fun _ => ?_))
      | exact ih0 _ _ _ _ _
      | exact ih1 _ _ _ _ _ _
      | exact ih2 _ _ _ _ _ _
      | exact impl_FindRange.mono _ _ _
      | exact impl_Joined.mono _ _
      | exact impl_MergeRange.mono _ _ _
      | exact impl_MoveRange.mono _ _ _ _
      | exact impl_Owners.mono _ _
      | exact impl_RangesOk.mono _ _
      | exact impl_SameOwners.mono _ _ _
      | exact impl_SplitRange.mono _ _ _ _
      | exact laws_sameRanges.mono _ _ _
      | exact laws_within.mono _ _ _
      | exact spec_DrawRightRanges.mono _ _
      | exact spec_FindRange.mono _ _ _
      | exact LeO.none _
      | refine LeO.ite ?_ ?_
      | refine LeO.bind ?_ (fun _ => ?_)
    · intro y0 y1 y2 y3 y4 y5
      unfold laws_FnRanges.j2
      repeat' first
      | (with_reducible exact ih0 _ _ _ _ _)
      | (with_reducible exact ih1 _ _ _ _ _ _)
      | (with_reducible exact ih2 _ _ _ _ _ _)
      | (with_reducible exact impl_FindRange.mono _ _ _)
      | (with_reducible exact impl_Joined.mono _ _)
      | (with_reducible exact impl_MergeRange.mono _ _ _)
      | (with_reducible exact impl_MoveRange.mono _ _ _ _)
      | (with_reducible exact impl_Owners.mono _ _)
      | (with_reducible exact impl_RangesOk.mono _ _)
      | (with_reducible exact impl_SameOwners.mono _ _ _)
      | (with_reducible exact impl_SplitRange.mono _ _ _ _)
      | (with_reducible exact laws_sameRanges.mono _ _ _)
      | (with_reducible exact laws_within.mono _ _ _)
      | (with_reducible exact spec_DrawRightRanges.mono _ _)
      | (with_reducible exact spec_FindRange.mono _ _ _)
      | (with_reducible exact LeO.refl _)
      | (with_reducible exact LeO.none _)
      | (with_reducible refine LeO.ite ?_ ?_)
      | (with_reducible refine LeO.bind ?_ (fun _ => ?_))
      | exact ih0 _ _ _ _ _
      | exact ih1 _ _ _ _ _ _
      | exact ih2 _ _ _ _ _ _
      | exact impl_FindRange.mono _ _ _
      | exact impl_Joined.mono _ _
      | exact impl_MergeRange.mono _ _ _
      | exact impl_MoveRange.mono _ _ _ _
      | exact impl_Owners.mono _ _
      | exact impl_RangesOk.mono _ _
      | exact impl_SameOwners.mono _ _ _
      | exact impl_SplitRange.mono _ _ _ _
      | exact laws_sameRanges.mono _ _ _
      | exact laws_within.mono _ _ _
      | exact spec_DrawRightRanges.mono _ _
      | exact spec_FindRange.mono _ _ _
      | exact LeO.none _
      | refine LeO.ite ?_ ?_
      | refine LeO.bind ?_ (fun _ => ?_)
theorem laws_FnRanges.mono : ∀ a0 k, LeO (laws_FnRanges.f k a0) (laws_FnRanges.f (k + 1) a0) := by
  intro a0 k
  obtain ⟨ih0, ih1, ih2⟩ := laws_FnRanges.mono_l k
  unfold laws_FnRanges.f
  repeat' first
      | (with_reducible exact ih0 _ _ _ _ _)
      | (with_reducible exact ih1 _ _ _ _ _ _)
      | (with_reducible exact ih2 _ _ _ _ _ _)
      | (with_reducible exact impl_FindRange.mono _ _ _)
      | (with_reducible exact impl_Joined.mono _ _)
      | (with_reducible exact impl_MergeRange.mono _ _ _)
      | (with_reducible exact impl_MoveRange.mono _ _ _ _)
      | (with_reducible exact impl_Owners.mono _ _)
      | (with_reducible exact impl_RangesOk.mono _ _)
      | (with_reducible exact impl_SameOwners.mono _ _ _)
      | (with_reducible exact impl_SplitRange.mono _ _ _ _)
      | (with_reducible exact laws_sameRanges.mono _ _ _)
      | (with_reducible exact laws_within.mono _ _ _)
      | (with_reducible exact spec_DrawRightRanges.mono _ _)
      | (with_reducible exact spec_FindRange.mono _ _ _)
      | (with_reducible exact LeO.refl _)
      | (with_reducible exact LeO.none _)
      | (with_reducible refine LeO.ite ?_ ?_)
      | (with_reducible refine LeO.bind ?_ (fun _ => ?_))
      | exact ih0 _ _ _ _ _
      | exact ih1 _ _ _ _ _ _
      | exact ih2 _ _ _ _ _ _
      | exact impl_FindRange.mono _ _ _
      | exact impl_Joined.mono _ _
      | exact impl_MergeRange.mono _ _ _
      | exact impl_MoveRange.mono _ _ _ _
      | exact impl_Owners.mono _ _
      | exact impl_RangesOk.mono _ _
      | exact impl_SameOwners.mono _ _ _
      | exact impl_SplitRange.mono _ _ _ _
      | exact laws_sameRanges.mono _ _ _
      | exact laws_within.mono _ _ _
      | exact spec_DrawRightRanges.mono _ _
      | exact spec_FindRange.mono _ _ _
      | exact LeO.none _
      | refine LeO.ite ?_ ?_
      | refine LeO.bind ?_ (fun _ => ?_)
def laws_FnRanges.T16 : Bool × List (List Nat × List Nat) := (true, [([], []), ([], []), ([0, 1], [0, 1]), ([], []), ([], []), ([3, 4], [3, 4]), ([5], [5]), ([6], [6]), ([], []), ([7, 8], [7, 8]), ([2, 9], [2, 9])])
def laws_FnRanges.B16 : List Nat := [0, 0, 3, 0, 0, 24, 56, 120, 0, 504, 1023]
theorem laws_FnRanges.tab16 : rtab .any (opsOf Try.f8 16) = laws_FnRanges.T16 := by kernel_rfl
theorem laws_FnRanges.bits16 : waitsOk laws_FnRanges.T16.2 laws_FnRanges.B16 = true := by kernel_rfl
set_option maxHeartbeats 8000000 in
set_option maxRecDepth 100000 in
theorem laws_FnRanges.calls (k : Nat) (A0 : Option Addr) (c0 : Nat) (l0 : List Int) (r : Bool) (w : World) (hr0 : Kd.C (Kd.int .u8) w A0 l0.length l0) (hc0 : l0.length ≤ c0) (h : laws_FnRanges.f k l0 = some r) (hr_ : Aside0 (r = true)) :
    Calls Try.prog 8 #[.slice A0 l0.length c0] w fun e w' => e = .returned (.bool r) ∧ Below w.heap.size w w' := by
  have hu26 := Try.underlying26
  have HR0 := Aside0.mk hr0
  have HC0 := Aside0.mk hc0
  clear hr0 hc0
  have HB := Aside0.mk (Below.refl w.heap.size w)
  have H : ((laws_big.f l0).bind fun t319 => (if t319 = true then (some true) else ((spec_DrawRightRanges.f k l0).bind fun bt320 => ((impl_FindRange.f k bt320.1 bt320.2.1).bind fun t325 => ((impl_RangesOk.f k bt320.1).bind fun t326 => (if t326 = true then (if t325 < 0 then (laws_FnRanges.j0 k bt320.1 bt320.2.1 bt320.2.2 t325 true) else (if t325 ≥ (bt320.1.length : Int) then (laws_FnRanges.j0 k bt320.1 bt320.2.1 bt320.2.2 t325 true) else ((spec_FindRange.f k bt320.1 bt320.2.1).bind fun t327 => (laws_FnRanges.j0 k bt320.1 bt320.2.1 bt320.2.2 t325 (t325 != t327))))) else (laws_FnRanges.j0 k bt320.1 bt320.2.1 bt320.2.2 t325 true))))))) = some r := h
  clear h
  replace H := Option.bind_eq_some_iff.mp H
  obtain ⟨t319, A20, H⟩ := H
  have A2 := Aside0.mk A20
  clear A20
  have H9 := Aside0.mk H
  clear H
  go_enter Try.func8, Try.ntmps8
  go_upto_if 16 with (first | ((with_reducible refine gate_callee (f := 34) rfl ?_); refine goesL_ (some 16) rfl rfl Try.func34 (by kernel_rfl) rfl #[.slice A0 l0.length c0] rfl u14_3 ?_; (with_reducible refine (laws_big.calls _ _ l0 t319 _ ?side1 ?side2 A2.out).mono ?_); (case side1 => exact (by repeat (first | exact HR0.out | (with_reducible refine Kd.C_alloc ?_ _) | (with_reducible refine Kd.C_drewN ?_ _) | (with_reducible refine Kd.C_drew ?_)))); (case side2 => exact HC0.out); rintro e w' ⟨rfl, ⟨nd, rfl⟩⟩; refine ⟨_, rfl, ?_⟩))
  have H := H9.out
  clear H9
  by_cases c3 : t319 = true
  · subst c3
    rw [if_pos rfl] at H
    obtain rfl := Option.some.inj H
    go_wp2
    go_ret
    exact ⟨by first | rfl | (simp [errW_none, errW_some] <;> rfl) | (simp [*, errW_none, errW_some] <;> rfl), u14_0⟩
  replace c3 := Bool.eq_false_iff.mpr c3
  subst c3
  rw [if_neg (show ¬ (false = true) by decide)] at H
  replace H := Option.bind_eq_some_iff.mp H
  obtain ⟨⟨t320, t321, t322⟩, A40, H⟩ := H
  (try dsimp only at H)
  have A4 := Aside0.mk A40
  clear A40
  replace H := Option.bind_eq_some_iff.mp H
  obtain ⟨t325, A50, H⟩ := H
  have A5 := Aside0.mk A50
  clear A50
  have HC6 := Aside0.mk H
  clear H
  go_upto_region 5 with (first | ((with_reducible refine gate_callee (f := 35) rfl ?_); refine goesL_ (some 19) rfl rfl Try.func35 (by kernel_rfl) rfl #[.slice A0 l0.length c0] rfl u14_3 ?_; (with_reducible refine (spec_DrawRightRanges.calls k _ _ l0 t320 t321 t322 _ ?side1 ?side2 A4.out).mono ?_); (case side1 => exact (by repeat (first | exact (Kd.C_below HR0.out HB.out) | (with_reducible refine Kd.C_alloc ?_ _) | (with_reducible refine Kd.C_drewN ?_ _) | (with_reducible refine Kd.C_drew ?_)))); (case side2 => exact HC0.out); rintro e w7 ⟨v323, rfl, ho0, hb⟩; refine ⟨_, rfl, ?_⟩; have n0_ := Aside0.mk (Kd.R_lower ho0 (below_size u14_0)); have n1_ := Aside0.mk (below_step u14_0 hb); clear HB; have HO324 := n0_; have HB := n1_; clear n0_ n1_; (try clear hb); (try clear hb2); (try clear hk); (try clear hi); (try clear ho0); obtain ⟨Ao8, co8, eo8⟩ := Kd.R_slice HO324.out; subst eo8) | ((with_reducible refine gate_callee (f := 29) rfl ?_); refine goesL_ (some 25) rfl rfl Try.func29 (by kernel_rfl) rfl #[.slice Ao8 t320.length co8, .int .u64 t321] rfl u14_3 ?_; (with_reducible refine (impl_FindRange.calls k _ _ t320 t321 t325 _ ?side1 ?side2 A5.out).mono ?_); (case side1 => exact u14_7); (case side2 => exact (Kd.R_reads' HO324.out).2.1); rintro e w9 ⟨rfl, hb⟩; refine ⟨_, rfl, ?_⟩; have n0_ := Aside0.mk (Kd.R_below u14_6 hb); have n1_ := Aside0.mk (below_step u14_0 hb); clear HO324; clear HB; have HO324 := n0_; have HB := n1_; clear n0_ n1_; (try clear hb); (try clear hb2); (try clear hk); (try clear hi)))
  (try simp only [Act.put, List.setIfInBounds_toArray, List.set_cons_zero, List.set_cons_succ])
  go_cut [45] (fun v45 wc => ∃ (kq : Nat) (x45_5 : Bool), v45 = .bool x45_5 ∧ Aside0 (laws_FnRanges.j0 kq t320 t321 t322 t325 x45_5 = some r) ∧ Aside0 (kq ≤ k) ∧ Aside0 (Kd.R k26 26 wc w.heap.size (fun _ => True) (.slice Ao8 t320.length co8) t320) ∧ Aside0 (Below w.heap.size w wc))
  case first =>
    have H := HC6.out
    clear HC6
    replace H := Option.bind_eq_some_iff.mp H
    obtain ⟨t326, A100, H⟩ := H
    have A10 := Aside0.mk A100
    clear A100
    by_cases c11 : t326 = true
    rotate_left
    · replace c11 := Bool.eq_false_iff.mpr c11
      subst c11
      rw [if_neg (show ¬ (false = true) by decide)] at H
      have H' := Aside0.mk H
      clear H
      go_wp2_with (first | ((with_reducible refine gate_callee (f := 21) rfl ?_); refine goesL_ (some 27) rfl rfl Try.func21 (by kernel_rfl) rfl #[.slice Ao8 t320.length co8] rfl u14_3 ?_; (with_reducible refine (impl_RangesOk.calls k _ _ t320 false _ ?side1 ?side2 A10.out).mono ?_); (case side1 => exact u14_7); (case side2 => exact (Kd.R_reads' HO324.out).2.1); rintro e w19 ⟨rfl, hb⟩; refine ⟨_, rfl, ?_⟩; have n0_ := Aside0.mk (Kd.R_below u14_6 hb); have n1_ := Aside0.mk (below_step u14_0 hb); clear HO324; clear HB; have HO324 := n0_; have HB := n1_; clear n0_ n1_; (try clear hb); (try clear hb2); (try clear hk); (try clear hi)))
      go_meet
      case rel => exact ⟨_, (true), u14_11, H', ⟨by first | omega | exact Nat.le_refl _⟩, ⟨u14_6⟩, ⟨u14_0⟩⟩
    subst c11
    rw [if_pos rfl] at H
    by_cases c12 : t325 < 0
    · rw [if_pos c12] at H
      have c12b0 : decide (t325 < 0) = true := decide_eq_true c12
      clear c12
      (first | rw [c12b0] | (simp only [i64_w, i32_w]; rw [c12b0]) | skip)
      have H' := Aside0.mk H
      clear H
      go_wp2_with (first | ((with_reducible refine gate_callee (f := 21) rfl ?_); refine goesL_ (some 27) rfl rfl Try.func21 (by kernel_rfl) rfl #[.slice Ao8 t320.length co8] rfl u14_3 ?_; (with_reducible refine (impl_RangesOk.calls k _ _ t320 true _ ?side1 ?side2 A10.out).mono ?_); (case side1 => exact u14_7); (case side2 => exact (Kd.R_reads' HO324.out).2.1); rintro e w13 ⟨rfl, hb⟩; refine ⟨_, rfl, ?_⟩; have n0_ := Aside0.mk (Kd.R_below u14_6 hb); have n1_ := Aside0.mk (below_step u14_0 hb); clear HO324; clear HB; have HO324 := n0_; have HB := n1_; clear n0_ n1_; (try clear hb); (try clear hb2); (try clear hk); (try clear hi)))
      go_meet
      case rel => exact ⟨_, (true), u14_11, H', ⟨by first | omega | exact Nat.le_refl _⟩, ⟨u14_6⟩, ⟨u14_0⟩⟩
    rw [if_neg c12] at H
    have c12b0 : decide (t325 < 0) = false := decide_eq_false c12
    clear c12
    (first | rw [c12b0] | (simp only [i64_w, i32_w]; rw [c12b0]) | skip)
    by_cases c14 : t325 ≥ (t320.length : Int)
    · rw [if_pos c14] at H
      have c14b0 : decide ((t320.length : Int) ≤ t325) = true := decide_eq_true c14
      clear c14
      have H' := Aside0.mk H
      clear H
      go_wp2_with (first | ((with_reducible refine gate_callee (f := 21) rfl ?_); refine goesL_ (some 27) rfl rfl Try.func21 (by kernel_rfl) rfl #[.slice Ao8 t320.length co8] rfl u14_3 ?_; (with_reducible refine (impl_RangesOk.calls k _ _ t320 true _ ?side1 ?side2 A10.out).mono ?_); (case side1 => exact u14_7); (case side2 => exact (Kd.R_reads' HO324.out).2.1); rintro e w15 ⟨rfl, hb⟩; refine ⟨_, rfl, ?_⟩; have n0_ := Aside0.mk (Kd.R_below u14_6 hb); have n1_ := Aside0.mk (below_step u14_0 hb); clear HO324; clear HB; have HO324 := n0_; have HB := n1_; clear n0_ n1_; (try clear hb); (try clear hb2); (try clear hk); (try clear hi)))
      go_meet
      case rel => exact ⟨_, (true), u14_11, H', ⟨by first | omega | exact Nat.le_refl _⟩, ⟨u14_6⟩, ⟨u14_0⟩⟩
    rw [if_neg c14] at H
    have c14b0 : decide ((t320.length : Int) ≤ t325) = false := decide_eq_false c14
    clear c14
    replace H := Option.bind_eq_some_iff.mp H
    obtain ⟨t327, A160, H⟩ := H
    replace H : (laws_FnRanges.j0 k t320 t321 t322 t325 (t325 != t327)) = some r := H
    have A16 := Aside0.mk A160
    clear A160
    have H' := Aside0.mk H
    clear H
    go_wp2_with (first | ((with_reducible refine gate_callee (f := 21) rfl ?_); refine goesL_ (some 27) rfl rfl Try.func21 (by kernel_rfl) rfl #[.slice Ao8 t320.length co8] rfl u14_3 ?_; (with_reducible refine (impl_RangesOk.calls k _ _ t320 true _ ?side1 ?side2 A10.out).mono ?_); (case side1 => exact u14_7); (case side2 => exact (Kd.R_reads' HO324.out).2.1); rintro e w17 ⟨rfl, hb⟩; refine ⟨_, rfl, ?_⟩; have n0_ := Aside0.mk (Kd.R_below u14_6 hb); have n1_ := Aside0.mk (below_step u14_0 hb); clear HO324; clear HB; have HO324 := n0_; have HB := n1_; clear n0_ n1_; (try clear hb); (try clear hb2); (try clear hk); (try clear hi)) | (go_at_call 28; (with_reducible refine (spec_FindRange.calls k _ _ t320 t321 t327 _ ?side1 ?side2 A16.out).mono ?_); (case side1 => exact u14_7); (case side2 => exact (Kd.R_reads' HO324.out).2.1); rintro e w18 ⟨rfl, hb⟩; have n0_ := Aside0.mk (Kd.R_below u14_6 hb); have n1_ := Aside0.mk (below_step u14_0 hb); clear HO324; clear HB; have HO324 := n0_; have HB := n1_; clear n0_ n1_; (try clear hb); (try clear hb2); (try clear hk); (try clear hi)))
    go_meet
    case rel => exact ⟨_, ((t325 != t327)), u14_11, H', ⟨by first | omega | exact Nat.le_refl _⟩, ⟨u14_6⟩, ⟨u14_0⟩⟩
  clear HC6
  try clear c1
  try clear c2
  try clear p2
  try clear c3
  try clear c8
  try clear c11
  try clear c12
  try clear c12b0
  try clear c14
  try clear c14b0
  obtain ⟨kq, x45_5, rfl, HA, HJ5, HO_3, HB⟩ := hcut
  cases kq with
  | zero => exact absurd HA.out (by simp [laws_FnRanges.j0])
  | succ kj5 =>
    have H := HA.out
    clear HA
    simp only [laws_FnRanges.j0] at H
    by_cases c20 : x45_5 = true
    · subst c20
      rw [if_pos rfl] at H
      exact absurd ((Option.some.inj H).trans hr_.out) (by decide)
    replace c20 := Bool.eq_false_iff.mpr c20
    subst c20
    rw [if_neg (show ¬ (false = true) by decide)] at H
    have H' := Aside0.mk H
    clear H
    go_wp2
    go_loopg [7, 8] kj5 (fun kq v7 v8 w' => ∃ (x7_2 : Int) (x8_2 : Int), v7 = .int .i64 x7_2 ∧ v8 = .int .i64 x8_2 ∧ Aside0 (laws_FnRanges.l0 kq t320 t321 t322 t325 x7_2 x8_2 = some r) ∧ Aside0 (kq ≤ kj5) ∧ Aside0 (Kd.R k26 26 w' w.heap.size (fun _ => True) (.slice Ao8 t320.length co8) t320) ∧ Aside0 (Below w.heap.size w w'))
    case atStart => exact ⟨(0), (0), u14_11, u14_11, H', ⟨Nat.le_refl _⟩, ⟨u14_1⟩, ⟨u14_0⟩⟩
    clear H'
    try clear c1
    try clear c2
    try clear p2
    try clear c3
    try clear c8
    try clear c11
    try clear c12
    try clear c12b0
    try clear c14
    try clear c14b0
    try clear c20
    try clear p2
    obtain ⟨x7_2, x8_2, rfl, rfl, HA, HK2, HO_3, HB⟩ := hrel
    cases gk with
    | zero => exact absurd HA.out (by simp [laws_FnRanges.l0])
    | succ k2 =>
      have H := HA.out
      clear HA
      simp only [laws_FnRanges.l0] at H
      as_aux_lemma =>
       by_cases c21 : x8_2 < (t320.length : Int)
       · rw [if_pos c21] at H
         have c21b0 : decide (x8_2 < (t320.length : Int)) = true := decide_eq_true c21
         clear c21
         by_cases c22 : 0 ≤ x8_2
         rotate_left
         · rw [if_neg c22] at H
           exact absurd H (by simp)
         rw [if_pos c22] at H
         have c22b0 : decide (0 ≤ x8_2) = true := decide_eq_true c22
         clear c22
         replace H := Option.bind_eq_some_iff.mp H
         obtain ⟨t329, A230, H⟩ := H
         have A23 := Aside0.mk A230
         clear A230
         have H9 := Aside0.mk H
         clear H
         have p328 : 0 ≤ (x8_2 : Int) := of_decide_eq_true u14_4
         have q328 : x8_2 < (t320.length : Int) := of_decide_eq_true u14_4
         obtain ⟨ad328, e328, hx328_0, hx328_1, hx328_2⟩ := at_T26 (Kd.R_reads' HO_3.out).2.2 x8_2 p328 q328
         cases e328
         replace p328 := eq_true p328
         replace q328 := eq_true q328
         go_upto_if 57 with (first | ((with_reducible refine gate_callee (f := 17) rfl ?_); refine goesL_ (some 57) rfl rfl Try.func17 (by kernel_rfl) rfl #[.agg #[.int .u64 ((rd_T26 t320 x8_2).f0), .int .u64 ((rd_T26 t320 x8_2).f1), .int .i64 ((rd_T26 t320 x8_2).f2)], .int .u64 t321] rfl u14_3 ?_; (with_reducible refine (impl_Covers.calls ((rd_T26 t320 x8_2).f0) ((rd_T26 t320 x8_2).f1) ((rd_T26 t320 x8_2).f2) t321 t329 _ A23.out).mono ?_); rintro e w24 ⟨rfl, hb⟩; refine ⟨_, rfl, ?_⟩; have n0_ := Aside0.mk (Kd.R_below u14_1 hb); have n1_ := Aside0.mk (below_step u14_0 hb); clear HO_3; clear HB; have HO_3 := n0_; have HB := n1_; clear n0_ n1_; (try clear hb); (try clear hb2); (try clear hk); (try clear hi)))
         have H := H9.out
         clear H9
         by_cases c25 : t329 = true
         · subst c25
           rw [if_pos rfl] at H
           have H' := Aside0.mk H
           clear H
           go_wp2
           go_roundg k2
           case measure => have := HJ5.out; have := HK2.out; omega
           case rel => exact ⟨(wrap64 (x7_2 + 1)), (wrap64 (x8_2 + 1)), u14_11, u14_11, H', ⟨(by have := HJ5.out; have := HK2.out; omega)⟩, ⟨u14_1⟩, ⟨u14_0⟩⟩
         replace c25 := Bool.eq_false_iff.mpr c25
         subst c25
         rw [if_neg (show ¬ (false = true) by decide)] at H
         have H' := Aside0.mk H
         clear H
         go_wp2
         go_roundg k2
         case measure => have := HJ5.out; have := HK2.out; omega
         case rel => exact ⟨(x7_2), (wrap64 (x8_2 + 1)), u14_11, u14_11, H', ⟨(by have := HJ5.out; have := HK2.out; omega)⟩, ⟨u14_1⟩, ⟨u14_0⟩⟩
       rw [if_neg c21] at H
       have c21b0 : decide (x8_2 < (t320.length : Int)) = false := decide_eq_false c21
       clear c21
       replace H := Option.bind_eq_some_iff.mp H
       obtain ⟨⟨t330, t331⟩, A260, H⟩ := H
       (try dsimp only at H)
       have A26 := Aside0.mk A260
       clear A260
       have HC27 := Aside0.mk H
       clear H
       go_upto_region 14 with (first | ((with_reducible refine gate_callee (f := 31) rfl ?_); refine goesL_ (some 64) rfl rfl Try.func31 (by kernel_rfl) rfl #[.slice Ao8 t320.length co8, .int .i64 t325, .int .i64 t322] rfl u14_3 ?_; (with_reducible refine (impl_MoveRange.calls k2 _ _ t320 t325 t322 t330 t331 _ ?side1 ?side2 A26.out).mono ?_); (case side1 => exact u14_5); (case side2 => exact (Kd.R_reads' HO_3.out).2.1); rintro e w28 ⟨v332, rfl, ho0, hb⟩; refine ⟨_, rfl, ?_⟩; have n0_ := Aside0.mk (Kd.R_elder' u14_1 (Kd.R_base ho0) hb); have n1_ := Aside0.mk (Kd.R_lower (Kd.R_new' ho0 (Kd.R_lt u14_1)) (below_size u14_0)); have n2_ := Aside0.mk (below_step u14_0 hb); clear HO_3; clear HB; have HO_3 := n0_; have HO333 := n1_; have HB := n2_; clear n0_ n1_ n2_; (try clear hb); (try clear hb2); (try clear hk); (try clear hi); (try clear ho0)))
       (try simp only [Act.put, List.setIfInBounds_toArray, List.set_cons_zero, List.set_cons_succ])
       go_cut [116] (fun v116 wc => ∃ (kq : Nat) (x116_26 : Bool), v116 = .bool x116_26 ∧ Aside0 (laws_FnRanges.j2 kq t320 t321 t322 t325 t330 x116_26 = some r) ∧ Aside0 (kq ≤ k2) ∧ Aside0 (Kd.R k26 26 wc w.heap.size (fun k_ => some k_ ≠ (v332 : Value).ownBlock) (.slice Ao8 t320.length co8) t320) ∧ Aside0 (Kd.R k26 26 wc w.heap.size (fun k_ => some k_ ≠ ((.slice Ao8 t320.length co8) : Value).ownBlock) v332 t330) ∧ Aside0 (Below w.heap.size w wc))
       case first =>
         have H := HC27.out
         clear HC27
         by_cases c29 : x7_2 = 1
         rotate_left
         · rw [if_neg c29] at H
           have c29b0 : (x7_2 == 1) = false := beq_eq_false_iff_ne.mpr c29
           have c29b1 : (x7_2 != 1) = true := bne_iff_ne.mpr c29
           (first | rw [c29b0] | (simp only [i64_w, i32_w]; rw [c29b0]) | skip)
           have H' := Aside0.mk H
           clear H
           go_wp2
           go_meet
           case rel => exact ⟨_, (true), u14_11, H', ⟨u14_14⟩, ⟨u14_10⟩, ⟨u14_9⟩, ⟨u14_0⟩⟩
         rw [if_pos c29] at H
         have c29b0 : (x7_2 == 1) = true := beq_iff_eq.mpr c29
         have c29b1 : (x7_2 != 1) = false := bne_eq_false_iff_eq.mpr c29
         clear c29
         (first | rw [c29b0] | (simp only [i64_w, i32_w]; rw [c29b0]) | skip)
         by_cases c30 : 0 ≤ t325
         rotate_left
         · rw [if_neg c30] at H
           exact absurd H (by simp)
         rw [if_pos c30] at H
         have c30b0 : decide (0 ≤ t325) = true := decide_eq_true c30
         clear c30
         by_cases c31 : t325 < (t320.length : Int)
         rotate_left
         · rw [if_neg c31] at H
           exact absurd H (by simp)
         rw [if_pos c31] at H
         have c31b0 : decide (t325 < (t320.length : Int)) = true := decide_eq_true c31
         clear c31
         replace H := Option.bind_eq_some_iff.mp H
         obtain ⟨t335, A320, H⟩ := H
         have A32 := Aside0.mk A320
         clear A320
         by_cases c33 : t335 = true
         rotate_left
         · replace c33 := Bool.eq_false_iff.mpr c33
           subst c33
           rw [if_neg (show ¬ (false = true) by decide)] at H
           have H' := Aside0.mk H
           clear H
           have p334 : 0 ≤ (t325 : Int) := of_decide_eq_true u14_4
           have q334 : t325 < (t320.length : Int) := of_decide_eq_true u14_4
           obtain ⟨ad334, e334, hx334_0, hx334_1, hx334_2⟩ := at_T26 (Kd.R_reads' HO_3.out).2.2 t325 p334 q334
           cases e334
           replace p334 := eq_true p334
           replace q334 := eq_true q334
           go_wp2_with (first | (go_at_call 17; (with_reducible refine (impl_Covers.calls ((rd_T26 t320 t325).f0) ((rd_T26 t320 t325).f1) ((rd_T26 t320 t325).f2) t321 false _ A32.out).mono ?_); rintro e w67 ⟨rfl, hb⟩; have n0_ := Aside0.mk (Kd.R_below u14_1 hb); have n1_ := Aside0.mk (Kd.R_below u14_2 hb); have n2_ := Aside0.mk (below_step u14_0 hb); clear HO_3; clear HO333; clear HB; have HO_3 := n0_; have HO333 := n1_; have HB := n2_; clear n0_ n1_ n2_; (try clear hb); (try clear hb2); (try clear hk); (try clear hi)))
           go_meet
           case rel => exact ⟨_, (true), u14_11, H', ⟨u14_14⟩, ⟨u14_10⟩, ⟨u14_9⟩, ⟨u14_0⟩⟩
         subst c33
         rw [if_pos rfl] at H
         by_cases c34 : t331 = true
         rotate_left
         · replace c34 := Bool.eq_false_iff.mpr c34
           subst c34
           rw [if_neg (show ¬ (false = true) by decide)] at H
           have H' := Aside0.mk H
           clear H
           have p334 : 0 ≤ (t325 : Int) := of_decide_eq_true u14_4
           have q334 : t325 < (t320.length : Int) := of_decide_eq_true u14_4
           obtain ⟨ad334, e334, hx334_0, hx334_1, hx334_2⟩ := at_T26 (Kd.R_reads' HO_3.out).2.2 t325 p334 q334
           cases e334
           replace p334 := eq_true p334
           replace q334 := eq_true q334
           go_wp2_with (first | (go_at_call 17; (with_reducible refine (impl_Covers.calls ((rd_T26 t320 t325).f0) ((rd_T26 t320 t325).f1) ((rd_T26 t320 t325).f2) t321 true _ A32.out).mono ?_); rintro e w66 ⟨rfl, hb⟩; have n0_ := Aside0.mk (Kd.R_below u14_1 hb); have n1_ := Aside0.mk (Kd.R_below u14_2 hb); have n2_ := Aside0.mk (below_step u14_0 hb); clear HO_3; clear HO333; clear HB; have HO_3 := n0_; have HO333 := n1_; have HB := n2_; clear n0_ n1_ n2_; (try clear hb); (try clear hb2); (try clear hk); (try clear hi)))
           go_meet
           case rel => exact ⟨_, (true), u14_11, H', ⟨u14_14⟩, ⟨u14_10⟩, ⟨u14_9⟩, ⟨u14_0⟩⟩
         subst c34
         rw [if_pos rfl] at H
         as_aux_lemma =>
          by_cases c35 : (t330.length : Int) = (t320.length : Int)
          rotate_left
          · rw [if_neg c35] at H
            have c35b0 : ((t330.length : Int) == (t320.length : Int)) = false := beq_eq_false_iff_ne.mpr c35
            have c35b1 : ((t330.length : Int) != (t320.length : Int)) = true := bne_iff_ne.mpr c35
            have c35b2 : (t330.length == t320.length) = false := by first | simpa using c35 | (simp at c35 ⊢; omega)
            have H' := Aside0.mk H
            clear H
            have p334 : 0 ≤ (t325 : Int) := of_decide_eq_true u14_4
            have q334 : t325 < (t320.length : Int) := of_decide_eq_true u14_4
            obtain ⟨ad334, e334, hx334_0, hx334_1, hx334_2⟩ := at_T26 (Kd.R_reads' HO_3.out).2.2 t325 p334 q334
            cases e334
            replace p334 := eq_true p334
            replace q334 := eq_true q334
            go_wp2_with (first | (go_at_call 17; (with_reducible refine (impl_Covers.calls ((rd_T26 t320 t325).f0) ((rd_T26 t320 t325).f1) ((rd_T26 t320 t325).f2) t321 true _ A32.out).mono ?_); rintro e w64 ⟨rfl, hb⟩; have n0_ := Aside0.mk (Kd.R_below u14_1 hb); have n1_ := Aside0.mk (Kd.R_below u14_2 hb); have n2_ := Aside0.mk (below_step u14_0 hb); clear HO_3; clear HO333; clear HB; have HO_3 := n0_; have HO333 := n1_; have HB := n2_; clear n0_ n1_ n2_; (try clear hb); (try clear hb2); (try clear hk); (try clear hi); obtain ⟨Ao65, co65, eo65⟩ := Kd.R_slice HO333.out; subst eo65))
            go_meet
            case rel => exact ⟨_, (true), u14_11, H', ⟨u14_14⟩, ⟨u14_10⟩, ⟨u14_9⟩, ⟨u14_0⟩⟩
          rw [if_pos c35] at H
          have c35b0 : ((t330.length : Int) == (t320.length : Int)) = true := beq_iff_eq.mpr c35
          have c35b1 : ((t330.length : Int) != (t320.length : Int)) = false := bne_eq_false_iff_eq.mpr c35
          have c35b2 : (t330.length == t320.length) = true := by first | simpa using c35 | (simp at c35 ⊢; omega)
          clear c35
          replace H := Option.bind_eq_some_iff.mp H
          obtain ⟨t336, A360, H⟩ := H
          have A36 := Aside0.mk A360
          clear A360
          by_cases c37 : t336 = true
          rotate_left
          · replace c37 := Bool.eq_false_iff.mpr c37
            subst c37
            rw [if_neg (show ¬ (false = true) by decide)] at H
            have H' := Aside0.mk H
            clear H
            have p334 : 0 ≤ (t325 : Int) := of_decide_eq_true u14_4
            have q334 : t325 < (t320.length : Int) := of_decide_eq_true u14_4
            obtain ⟨ad334, e334, hx334_0, hx334_1, hx334_2⟩ := at_T26 (Kd.R_reads' HO_3.out).2.2 t325 p334 q334
            cases e334
            replace p334 := eq_true p334
            replace q334 := eq_true q334
            go_wp2_with (first | (go_at_call 17; (with_reducible refine (impl_Covers.calls ((rd_T26 t320 t325).f0) ((rd_T26 t320 t325).f1) ((rd_T26 t320 t325).f2) t321 true _ A32.out).mono ?_); rintro e w61 ⟨rfl, hb⟩; have n0_ := Aside0.mk (Kd.R_below u14_1 hb); have n1_ := Aside0.mk (Kd.R_below u14_2 hb); have n2_ := Aside0.mk (below_step u14_0 hb); clear HO_3; clear HO333; clear HB; have HO_3 := n0_; have HO333 := n1_; have HB := n2_; clear n0_ n1_ n2_; (try clear hb); (try clear hb2); (try clear hk); (try clear hi); obtain ⟨Ao62, co62, eo62⟩ := Kd.R_slice HO333.out; subst eo62) | (go_at_call 21; (with_reducible refine (impl_RangesOk.calls k2 _ _ t330 false _ ?side1 ?side2 A36.out).mono ?_); (case side1 => exact u14_8); (case side2 => exact (Kd.R_reads' HO333.out).2.1); rintro e w63 ⟨rfl, hb⟩; have n0_ := Aside0.mk (Kd.R_below u14_1 hb); have n1_ := Aside0.mk (Kd.R_below u14_2 hb); have n2_ := Aside0.mk (below_step u14_0 hb); clear HO_3; clear HO333; clear HB; have HO_3 := n0_; have HO333 := n1_; have HB := n2_; clear n0_ n1_ n2_; (try clear hb); (try clear hb2); (try clear hk); (try clear hi)))
            go_meet
            case rel => exact ⟨_, (true), u14_11, H', ⟨u14_14⟩, ⟨u14_10⟩, ⟨u14_9⟩, ⟨u14_0⟩⟩
          subst c37
          rw [if_pos rfl] at H
          by_cases c38 : t325 < (t330.length : Int)
          rotate_left
          · rw [if_neg c38] at H
            exact absurd H (by simp)
          rw [if_pos c38] at H
          have c38b0 : decide (t325 < (t330.length : Int)) = true := decide_eq_true c38
          clear c38
          by_cases c39 : ((rd_T26 t330 t325).f2) = t322
          rotate_left
          · rw [if_neg c39] at H
            have c39b0 : (((rd_T26 t330 t325).f2) == t322) = false := beq_eq_false_iff_ne.mpr c39
            have c39b1 : (((rd_T26 t330 t325).f2) != t322) = true := bne_iff_ne.mpr c39
            have H' := Aside0.mk H
            clear H
            have p334 : 0 ≤ (t325 : Int) := of_decide_eq_true u14_4
            have q334 : t325 < (t320.length : Int) := of_decide_eq_true u14_4
            obtain ⟨ad334, e334, hx334_0, hx334_1, hx334_2⟩ := at_T26 (Kd.R_reads' HO_3.out).2.2 t325 p334 q334
            cases e334
            replace p334 := eq_true p334
            replace q334 := eq_true q334
            go_wp2_with (first | (go_at_call 17; (with_reducible refine (impl_Covers.calls ((rd_T26 t320 t325).f0) ((rd_T26 t320 t325).f1) ((rd_T26 t320 t325).f2) t321 true _ A32.out).mono ?_); rintro e w58 ⟨rfl, hb⟩; have n0_ := Aside0.mk (Kd.R_below u14_1 hb); have n1_ := Aside0.mk (Kd.R_below u14_2 hb); have n2_ := Aside0.mk (below_step u14_0 hb); clear HO_3; clear HO333; clear HB; have HO_3 := n0_; have HO333 := n1_; have HB := n2_; clear n0_ n1_ n2_; (try clear hb); (try clear hb2); (try clear hk); (try clear hi); obtain ⟨Ao59, co59, eo59⟩ := Kd.R_slice HO333.out; subst eo59) | (go_at_call 21; (with_reducible refine (impl_RangesOk.calls k2 _ _ t330 true _ ?side1 ?side2 A36.out).mono ?_); (case side1 => exact u14_8); (case side2 => exact (Kd.R_reads' HO333.out).2.1); rintro e w60 ⟨rfl, hb⟩; have n0_ := Aside0.mk (Kd.R_below u14_1 hb); have n1_ := Aside0.mk (Kd.R_below u14_2 hb); have n2_ := Aside0.mk (below_step u14_0 hb); clear HO_3; clear HO333; clear HB; have HO_3 := n0_; have HO333 := n1_; have HB := n2_; clear n0_ n1_ n2_; (try clear hb); (try clear hb2); (try clear hk); (try clear hi); have p337 : 0 ≤ (t325 : Int) := of_decide_eq_true u14_4; have q337 : t325 < (t330.length : Int) := of_decide_eq_true u14_4; obtain ⟨ad337, e337, hx337_0, hx337_1, hx337_2⟩ := at_T26 (Kd.R_reads' HO333.out).2.2 t325 p337 q337; cases e337; replace p337 := eq_true p337; replace q337 := eq_true q337))
            go_meet
            case rel => exact ⟨_, (true), u14_11, H', ⟨u14_14⟩, ⟨u14_10⟩, ⟨u14_9⟩, ⟨u14_0⟩⟩
          rw [if_pos c39] at H
          have c39b0 : (((rd_T26 t330 t325).f2) == t322) = true := beq_iff_eq.mpr c39
          have c39b1 : (((rd_T26 t330 t325).f2) != t322) = false := bne_eq_false_iff_eq.mpr c39
          clear c39
          replace H := Option.bind_eq_some_iff.mp H
          obtain ⟨t338, A400, H⟩ := H
          have A40 := Aside0.mk A400
          clear A400
          replace H := Option.bind_eq_some_iff.mp H
          obtain ⟨t341, A410, H⟩ := H
          have A41 := Aside0.mk A410
          clear A410
          by_cases c42 : t341 = true
          rotate_left
          · replace c42 := Bool.eq_false_iff.mpr c42
            subst c42
            rw [if_neg (show ¬ (false = true) by decide)] at H
            have H' := Aside0.mk H
            clear H
            have p334 : 0 ≤ (t325 : Int) := of_decide_eq_true u14_4
            have q334 : t325 < (t320.length : Int) := of_decide_eq_true u14_4
            obtain ⟨ad334, e334, hx334_0, hx334_1, hx334_2⟩ := at_T26 (Kd.R_reads' HO_3.out).2.2 t325 p334 q334
            cases e334
            replace p334 := eq_true p334
            replace q334 := eq_true q334
            go_wp2_with (first | (go_at_call 17; (with_reducible refine (impl_Covers.calls ((rd_T26 t320 t325).f0) ((rd_T26 t320 t325).f1) ((rd_T26 t320 t325).f2) t321 true _ A32.out).mono ?_); rintro e w53 ⟨rfl, hb⟩; have n0_ := Aside0.mk (Kd.R_below u14_1 hb); have n1_ := Aside0.mk (Kd.R_below u14_2 hb); have n2_ := Aside0.mk (below_step u14_0 hb); clear HO_3; clear HO333; clear HB; have HO_3 := n0_; have HO333 := n1_; have HB := n2_; clear n0_ n1_ n2_; (try clear hb); (try clear hb2); (try clear hk); (try clear hi); obtain ⟨Ao54, co54, eo54⟩ := Kd.R_slice HO333.out; subst eo54) | (go_at_call 21; (with_reducible refine (impl_RangesOk.calls k2 _ _ t330 true _ ?side1 ?side2 A36.out).mono ?_); (case side1 => exact u14_8); (case side2 => exact (Kd.R_reads' HO333.out).2.1); rintro e w55 ⟨rfl, hb⟩; have n0_ := Aside0.mk (Kd.R_below u14_1 hb); have n1_ := Aside0.mk (Kd.R_below u14_2 hb); have n2_ := Aside0.mk (below_step u14_0 hb); clear HO_3; clear HO333; clear HB; have HO_3 := n0_; have HO333 := n1_; have HB := n2_; clear n0_ n1_ n2_; (try clear hb); (try clear hb2); (try clear hk); (try clear hi); have p337 : 0 ≤ (t325 : Int) := of_decide_eq_true u14_4; have q337 : t325 < (t330.length : Int) := of_decide_eq_true u14_4; obtain ⟨ad337, e337, hx337_0, hx337_1, hx337_2⟩ := at_T26 (Kd.R_reads' HO333.out).2.2 t325 p337 q337; cases e337; replace p337 := eq_true p337; replace q337 := eq_true q337) | (go_at_call 37; (with_reducible refine (impl_Owners.calls k2 _ _ t330 t338 _ ?side1 ?side2 A40.out).mono ?_); (case side1 => exact u14_8); (case side2 => exact (Kd.R_reads' HO333.out).2.1); rintro e w56 ⟨v339, rfl, ho0, hb⟩; have n0_ := Aside0.mk (Kd.R_below u14_1 hb); have n1_ := Aside0.mk (Kd.R_below u14_2 hb); have n2_ := Aside0.mk (Kd.R_lower ho0 (below_size u14_0)); have n3_ := Aside0.mk (below_step u14_0 hb); clear HO_3; clear HO333; clear HB; have HO_3 := n0_; have HO333 := n1_; have HO340 := n2_; have HB := n3_; clear n0_ n1_ n2_ n3_; (try clear hb); (try clear hb2); (try clear hk); (try clear hi); (try clear ho0); obtain ⟨Ao57, co57, eo57⟩ := Kd.R_slice HO340.out; subst eo57) | (go_at_call 36; (with_reducible refine (laws_within.calls k2 _ _ t338 t322 false _ ?side1 ?side2 A41.out).mono ?_); (case side1 => exact u14_17); (case side2 => exact (Kd.R_reads' HO340.out).2.1); rintro e w' ⟨rfl, ⟨nd, rfl⟩⟩))
            go_meet
            case rel => exact ⟨_, (true), u14_11, H', ⟨u14_14⟩, ⟨u14_10⟩, ⟨u14_9⟩, ⟨u14_0⟩⟩
          subst c42
          rw [if_pos rfl] at H
          replace H := Option.bind_eq_some_iff.mp H
          obtain ⟨t342, A430, H⟩ := H
          have A43 := Aside0.mk A430
          clear A430
          replace H := Option.bind_eq_some_iff.mp H
          obtain ⟨t345, A440, H⟩ := H
          replace H : (laws_FnRanges.j2 k2 t320 t321 t322 t325 t330 (!t345)) = some r := H
          have A44 := Aside0.mk A440
          clear A440
          have H' := Aside0.mk H
          clear H
          have p334 : 0 ≤ (t325 : Int) := of_decide_eq_true u14_4
          have q334 : t325 < (t320.length : Int) := of_decide_eq_true u14_4
          obtain ⟨ad334, e334, hx334_0, hx334_1, hx334_2⟩ := at_T26 (Kd.R_reads' HO_3.out).2.2 t325 p334 q334
          cases e334
          replace p334 := eq_true p334
          replace q334 := eq_true q334
          go_wp2_with (first | (go_at_call 17; (with_reducible refine (impl_Covers.calls ((rd_T26 t320 t325).f0) ((rd_T26 t320 t325).f1) ((rd_T26 t320 t325).f2) t321 true _ A32.out).mono ?_); rintro e w45 ⟨rfl, hb⟩; have n0_ := Aside0.mk (Kd.R_below u14_1 hb); have n1_ := Aside0.mk (Kd.R_below u14_2 hb); have n2_ := Aside0.mk (below_step u14_0 hb); clear HO_3; clear HO333; clear HB; have HO_3 := n0_; have HO333 := n1_; have HB := n2_; clear n0_ n1_ n2_; (try clear hb); (try clear hb2); (try clear hk); (try clear hi); obtain ⟨Ao46, co46, eo46⟩ := Kd.R_slice HO333.out; subst eo46) | (go_at_call 21; (with_reducible refine (impl_RangesOk.calls k2 _ _ t330 true _ ?side1 ?side2 A36.out).mono ?_); (case side1 => exact u14_8); (case side2 => exact (Kd.R_reads' HO333.out).2.1); rintro e w47 ⟨rfl, hb⟩; have n0_ := Aside0.mk (Kd.R_below u14_1 hb); have n1_ := Aside0.mk (Kd.R_below u14_2 hb); have n2_ := Aside0.mk (below_step u14_0 hb); clear HO_3; clear HO333; clear HB; have HO_3 := n0_; have HO333 := n1_; have HB := n2_; clear n0_ n1_ n2_; (try clear hb); (try clear hb2); (try clear hk); (try clear hi); have p337 : 0 ≤ (t325 : Int) := of_decide_eq_true u14_4; have q337 : t325 < (t330.length : Int) := of_decide_eq_true u14_4; obtain ⟨ad337, e337, hx337_0, hx337_1, hx337_2⟩ := at_T26 (Kd.R_reads' HO333.out).2.2 t325 p337 q337; cases e337; replace p337 := eq_true p337; replace q337 := eq_true q337) | (go_at_call 37; (with_reducible refine (impl_Owners.calls k2 _ _ t330 t338 _ ?side1 ?side2 A40.out).mono ?_); (case side1 => exact u14_8); (case side2 => exact (Kd.R_reads' HO333.out).2.1); rintro e w48 ⟨v339, rfl, ho0, hb⟩; have n0_ := Aside0.mk (Kd.R_below u14_1 hb); have n1_ := Aside0.mk (Kd.R_below u14_2 hb); have n2_ := Aside0.mk (Kd.R_lower ho0 (below_size u14_0)); have n3_ := Aside0.mk (below_step u14_0 hb); clear HO_3; clear HO333; clear HB; have HO_3 := n0_; have HO333 := n1_; have HO340 := n2_; have HB := n3_; clear n0_ n1_ n2_ n3_; (try clear hb); (try clear hb2); (try clear hk); (try clear hi); (try clear ho0); obtain ⟨Ao49, co49, eo49⟩ := Kd.R_slice HO340.out; subst eo49) | (go_at_call 36; (with_reducible refine (laws_within.calls k2 _ _ t338 t322 true _ ?side1 ?side2 A41.out).mono ?_); (case side1 => exact u14_17); (case side2 => exact (Kd.R_reads' HO340.out).2.1); rintro e w' ⟨rfl, ⟨nd, rfl⟩⟩) | (go_at_call 39; (with_reducible refine (impl_Joined.calls k2 _ _ t320 t342 _ ?side1 ?side2 A43.out).mono ?_); (case side1 => exact u14_5); (case side2 => exact (Kd.R_reads' HO_3.out).2.1); rintro e w50 ⟨v343, rfl, ho0, hb⟩; have n0_ := Aside0.mk (Kd.R_elder' u14_1 (Kd.R_base ho0) hb); have n1_ := Aside0.mk (Kd.R_elder' u14_2 (Kd.R_base ho0) hb); have n2_ := Aside0.mk (Kd.R_below u14_18 hb); have n3_ := Aside0.mk (Kd.R_lower (Kd.R_new' (Kd.R_new' ho0 (Kd.R_lt u14_1)) (Kd.R_lt u14_2)) (below_size u14_0)); have n4_ := Aside0.mk (below_step u14_0 hb); clear HO_3; clear HO333; clear HO340; clear HB; have HO_3 := n0_; have HO333 := n1_; have HO340 := n2_; have HO344 := n3_; have HB := n4_; clear n0_ n1_ n2_ n3_ n4_; (try clear hb); (try clear hb2); (try clear hk); (try clear hi); (try clear ho0); obtain ⟨Ao51, co51, eo51⟩ := Kd.R_slice HO344.out; subst eo51) | (go_at_call 38; (with_reducible refine (impl_SameOwners.calls k2 _ _ t320 _ _ t342 t345 _ ?side1 ?side2 ?side3 ?side4 A44.out).mono ?_); (case side1 => exact u14_5); (case side2 => exact (Kd.R_reads' HO_3.out).2.1); (case side3 => exact (by repeat (first | exact (Kd.R_reads' HO344.out).2.2 | (with_reducible refine Kd.C_alloc ?_ _) | (with_reducible refine Kd.C_drewN ?_ _) | (with_reducible refine Kd.C_drew ?_)))); (case side4 => exact (Kd.R_reads' HO344.out).2.1); rintro e w52 ⟨rfl, hb⟩; have n0_ := Aside0.mk (Kd.R_below u14_1 hb); have n1_ := Aside0.mk (Kd.R_below u14_2 hb); have n2_ := Aside0.mk (Kd.R_below u14_18 hb); have n3_ := Aside0.mk (Kd.R_below (by (with_reducible repeat (first | apply Kd.R_alloc | apply Kd.R_drewN | apply Kd.R_drew)); exact HO344.out) hb); have n4_ := Aside0.mk (below_step u14_0 hb); clear HO_3; clear HO333; clear HO340; clear HO344; clear HB; have HO_3 := n0_; have HO333 := n1_; have HO340 := n2_; have HO344 := n3_; have HB := n4_; clear n0_ n1_ n2_ n3_ n4_; (try clear hb); (try clear hb2); (try clear hk); (try clear hi)))
          go_meet
          case rel => exact ⟨_, (!t345), u14_11, H', ⟨u14_14⟩, ⟨(by (with_reducible repeat (first | apply Kd.R_alloc | apply Kd.R_drewN | apply Kd.R_drew)); exact Kd.R_mono HO_3.out (fun _ hk => hk.1.2))⟩, ⟨(by (with_reducible repeat (first | apply Kd.R_alloc | apply Kd.R_drewN | apply Kd.R_drew)); exact Kd.R_mono HO333.out (fun _ hk => hk.1.2))⟩, ⟨u14_0⟩⟩
       clear HC27
       try clear c1
       try clear c2
       try clear p2
       try clear c3
       try clear p3
       try clear q3
       try clear hx3
       try clear c4
       try clear p6
       try clear c8
       try clear c11
       try clear c12
       try clear c12b0
       try clear c14
       try clear c14b0
       try clear c17
       try clear c20
       try clear c21
       try clear c21b0
       try clear c22
       try clear c22b0
       try clear c25
       try clear c29
       try clear c29b0
       try clear c29b1
       try clear c30
       try clear c30b0
       try clear c31
       try clear c31b0
       try clear p32
       try clear q32
       try clear hx32
       try clear c33
       try clear p33
       try clear q33
       try clear hx33
       try clear c34
       try clear c35
       try clear c35b0
       try clear c35b1
       try clear c35b2
       try clear c37
       try clear c38
       try clear c38b0
       try clear c39
       try clear c39b0
       try clear c39b1
       try clear c42
       try clear p64
       try clear hx328_0
       try clear hx328_1
       try clear hx328_2
       try clear hx334_0
       try clear hx334_1
       try clear hx334_2
       try clear hx337_0
       try clear hx337_1
       try clear hx337_2
       try clear p2
       try clear p328
       try clear p334
       try clear p337
       try clear q328
       try clear q334
       try clear q337
       obtain ⟨kq, x116_26, rfl, HA, HJ26, HO_3, HO_9, HB⟩ := hcut
       cases kq with
       | zero => exact absurd HA.out (by simp [laws_FnRanges.j2])
       | succ kj26 =>
         have H := HA.out
         clear HA
         simp only [laws_FnRanges.j2] at H
         as_aux_lemma =>
          by_cases c68 : x116_26 = true
          · subst c68
            rw [if_pos rfl] at H
            exact absurd ((Option.some.inj H).trans hr_.out) (by decide)
          replace c68 := Bool.eq_false_iff.mpr c68
          subst c68
          rw [if_neg (show ¬ (false = true) by decide)] at H
          replace H := Option.bind_eq_some_iff.mp H
          obtain ⟨t346, A690, H⟩ := H
          have A69 := Aside0.mk A690
          clear A690
          by_cases c70 : 0 ≤ t325
          rotate_left
          · rw [if_neg c70] at H
            exact absurd H (by simp)
          rw [if_pos c70] at H
          have c70b0 : decide (0 ≤ t325) = true := decide_eq_true c70
          clear c70
          by_cases c71 : t325 < (t320.length : Int)
          rotate_left
          · rw [if_neg c71] at H
            exact absurd H (by simp)
          rw [if_pos c71] at H
          have c71b0 : decide (t325 < (t320.length : Int)) = true := decide_eq_true c71
          clear c71
          by_cases c72 : (t346 != (((rd_T26 t320 t325).f2) == t322)) = true
          · rw [if_pos c72] at H
            have c72b0 : (t346 != (((rd_T26 t320 t325).f2) == t322)) = true := c72
            (try (have c72b1 : decide (t346 = (((rd_T26 t320 t325).f2) == t322)) = false := by simpa using c72))
            (try (have c72b2 : (t346 == (((rd_T26 t320 t325).f2) == t322)) = false := by simpa using c72))
            (try (have c72b3 : ¬ (t346 = (((rd_T26 t320 t325).f2) == t322)) := by simpa using c72))
            clear c72
            exact absurd ((Option.some.inj H).trans hr_.out) (by decide)
          rw [if_neg c72] at H
          have c72b0 : (t346 != (((rd_T26 t320 t325).f2) == t322)) = false := by simpa using c72
          (try (have c72b1 : decide (t346 = (((rd_T26 t320 t325).f2) == t322)) = true := by simpa using c72))
          (try (have c72b2 : (t346 == (((rd_T26 t320 t325).f2) == t322)) = true := by simpa using c72))
          clear c72
          replace H := Option.bind_eq_some_iff.mp H
          obtain ⟨⟨t349, t350⟩, A730, H⟩ := H
          (try dsimp only at H)
          have A73 := Aside0.mk A730
          clear A730
          have H9 := Aside0.mk H
          clear H
          try go_wp2
          have n0_ := Aside0.mk (Kd.R_drew HO_3.out)
          have n1_ := Aside0.mk (Kd.R_drew HO_9.out)
          have n2_ := Aside0.mk (below_drew1 HB.out)
          clear HO_3
          clear HO_9
          clear HB
          have HO_3 := n0_
          have HO_9 := n1_
          have HB := n2_
          clear n0_ n1_ n2_
          have p347 : 0 ≤ (t325 : Int) := of_decide_eq_true u14_4
          have q347 : t325 < (t320.length : Int) := of_decide_eq_true u14_4
          obtain ⟨ad347, e347, hx347_0, hx347_1, hx347_2⟩ := at_T26 (Kd.R_reads' HO_3.out).2.2 t325 p347 q347
          cases e347
          replace p347 := eq_true p347
          replace q347 := eq_true q347
          obtain ⟨Ao75, co75, eo75⟩ := Kd.R_slice HO_9.out
          (first | subst eo75 | (injection eo75 with f1_ f2_ f3_; have f4_ := f1_.symm; have f5_ := f3_.symm; clear f1_ f2_ f3_; subst f4_; subst f5_))
          refine start_ (n := 11) (S := fun w' => w'.cell? (ad347.add ((t325).toNat * 3)) = some (.int .u64 ((rd_T26 t320 t325).f0)) ∧ w'.cell? ⟨(ad347.add ((t325).toNat * 3)).block, (ad347.add ((t325).toNat * 3)).off + 1, none⟩ = some (.int .u64 ((rd_T26 t320 t325).f1)) ∧ w'.cell? ⟨(ad347.add ((t325).toNat * 3)).block, (ad347.add ((t325).toNat * 3)).off + 2, none⟩ = some (.int .i64 ((rd_T26 t320 t325).f2))) (ds := []) #[false, false, false, false, false, false, false, false, false, false, false] (by kernel_rfl) rfl rfl ⟨hx347_0, hx347_1, hx347_2⟩ (fun hHeld => ?_); refine with_tabW laws_FnRanges.tab16 laws_FnRanges.bits16 (fun HT_ HW_ => ?_)
          generalize wc.drew = w74 at HO_3 HO_9 HB hx347_0 hx347_1 hx347_2 hHeld ⊢
          refine pure_ (i := 0) (N := some 117) (v := ?_) (a' := ?_) #[true, false, false, false, false, false, false, false, false, false, false] rfl rfl (any_of HT_.out (by kernel_rfl)) (fun _ _ _ h => h) (Or.inl ⟨by rfl, ?_⟩) ?_ ?_
          rotate_left
          · intro w'
            go_simp
            with_reducible rfl
          rotate_left
          · simp only [Act.put, List.setIfInBounds_toArray, List.set_cons_zero, List.set_cons_succ, i64_w, i32_w]
            rfl
          refine pure_ (i := 1) (N := some 118) (v := ?_) (a' := ?_) #[true, true, false, false, false, false, false, false, false, false, false] rfl rfl (any_of HT_.out (by kernel_rfl)) (fun _ _ _ h => h) (Or.inl ⟨by rfl, ?_⟩) ?_ ?_
          rotate_left
          · intro w'
            go_simp
            with_reducible rfl
          rotate_left
          · simp only [Act.put, List.setIfInBounds_toArray, List.set_cons_zero, List.set_cons_succ, i64_w, i32_w]
            rfl
          refine pure_ (i := 3) (N := some 120) (v := ?_) (a' := ?_) #[true, true, false, true, false, false, false, false, false, false, false] rfl rfl (any_of HT_.out (by kernel_rfl)) (fun _ _ _ h => h) (Or.inl ⟨by rfl, ?_⟩) ?_ ?_
          rotate_left
          · intro w'
            go_simp
            with_reducible rfl
          rotate_left
          · simp only [Act.put, List.setIfInBounds_toArray, List.set_cons_zero, List.set_cons_succ, i64_w, i32_w]
            rfl
          refine pure_ (i := 4) (N := some 121) (v := ?_) (a' := ?_) #[true, true, false, true, true, false, false, false, false, false, false] rfl rfl (any_of HT_.out (by kernel_rfl)) (fun _ _ _ h => h) (Or.inl ⟨by rfl, ?_⟩) ?_ ?_
          rotate_left
          · intro w'
            go_simp
            with_reducible rfl
          rotate_left
          · simp only [Act.put, List.setIfInBounds_toArray, List.set_cons_zero, List.set_cons_succ, i64_w, i32_w]
            rfl
          refine pure_ (i := 5) (N := some 122) (v := ?_) (a' := ?_) #[true, true, false, true, true, true, false, false, false, false, false] rfl rfl (any_of HT_.out (by kernel_rfl)) (fun _ _ _ h => h) (Or.inl ⟨by rfl, ?_⟩) ?_ ?_
          rotate_left
          · intro w'
            go_simp
            with_reducible rfl
          rotate_left
          · simp only [Act.put, List.setIfInBounds_toArray, List.set_cons_zero, List.set_cons_succ, i64_w, i32_w]
            rfl
          refine pure_ (i := 6) (N := some 123) (v := ?_) (a' := ?_) #[true, true, false, true, true, true, true, false, false, false, false] rfl rfl (any_of HT_.out (by kernel_rfl)) (fun _ _ _ h => h) (Or.inl ⟨by rfl, ?_⟩) ?_ ?_
          rotate_left
          · intro w'
            go_simp
            with_reducible rfl
          rotate_left
          · simp only [Act.put, List.setIfInBounds_toArray, List.set_cons_zero, List.set_cons_succ, i64_w, i32_w]
            rfl
          refine pure_ (i := 8) (N := some 125) (v := ?_) (a' := ?_) #[true, true, false, true, true, true, true, false, true, false, false] rfl rfl (any_of HT_.out (by kernel_rfl)) (fun _ _ _ h => h) (Or.inl ⟨by rfl, ?_⟩) ?_ ?_
          rotate_left
          · intro w'
            go_simp
            with_reducible rfl
          rotate_left
          · simp only [Act.put, List.setIfInBounds_toArray, List.set_cons_zero, List.set_cons_succ, i64_w, i32_w]
            rfl
          refine take_ (i := 7) (N := some 124) (v := ?_) (a' := ?_) #[true, true, false, true, true, true, true, true, true, false, false] rfl rfl (take_ofW HT_.out HW_.out (by kernel_rfl)) (fun _ _ _ h => h) (Or.inl ⟨by rfl, ?_⟩) hHeld ?_ ?_
          rotate_left
          · rintro w' ⟨s0, s1, s2⟩
            go_simp
            with_reducible rfl
          rotate_left
          · simp only [Act.put, List.setIfInBounds_toArray, List.set_cons_zero, List.set_cons_succ, i64_w, i32_w]
            rfl
          refine pure_ (i := 9) (N := some 126) (v := ?_) (a' := ?_) #[true, true, false, true, true, true, true, true, true, true, false] rfl rfl (any_of HT_.out (by kernel_rfl)) (fun _ _ _ h => h) (Or.inl ⟨by rfl, ?_⟩) ?_ ?_
          rotate_left
          · intro w'
            go_simp
            with_reducible rfl
          rotate_left
          · simp only [Act.put, List.setIfInBounds_toArray, List.set_cons_zero, List.set_cons_succ, i64_w, i32_w]
            rfl
          refine one_ (i := 2) (N := some 119) #[true, true, true, true, true, true, true, true, true, true, false] rfl rfl (one_of HT_.out (by kernel_rfl)) (by decide) (fun K hK => ?_)
          refine goes_ Try.func38 (by kernel_rfl) rfl #[.slice (some ad347) t320.length co8, .slice Ao75 t330.length co75] (by rfl) rfl rfl u14_3 ?_
          with_reducible refine (impl_SameOwners.calls kj26 _ _ t320 _ _ t330 t346 _ ?side1 ?side2 ?side3 ?side4 A69.out).mono ?_
          (case side1 => exact u14_5)
          (case side2 => exact (Kd.R_reads' HO_3.out).2.1)
          (case side3 => exact (by repeat (first | exact (Kd.R_reads' HO_9.out).2.2 | (with_reducible refine Kd.C_alloc ?_ _) | (with_reducible refine Kd.C_drewN ?_ _) | (with_reducible refine Kd.C_drew ?_))))
          (case side4 => exact (Kd.R_reads' HO_9.out).2.1)
          rintro e w76 ⟨rfl, hb⟩
          have HS0_ := (hb.cell (World.block_lt_of_cell? _ _ (hHeld.1))).trans (hHeld.1)
          have HS1_ := (hb.cell (World.block_lt_of_cell? _ _ (hHeld.2.1))).trans (hHeld.2.1)
          have HS2_ := (hb.cell (World.block_lt_of_cell? _ _ (hHeld.2.2))).trans (hHeld.2.2)
          refine ⟨_, rfl, ?_⟩
          have n0_ := Aside0.mk (Kd.R_below u14_1 hb)
          have n1_ := Aside0.mk (Kd.R_below u14_12 hb)
          have n2_ := Aside0.mk (below_step u14_0 hb)
          clear HO_3
          clear HO_9
          clear HB
          have HO_3 := n0_
          have HO_9 := n1_
          have HB := n2_
          clear n0_ n1_ n2_
          (try clear hb)
          (try clear hb2)
          (try clear hk)
          (try clear hi)
          refine hK.out _ _ ⟨HS0_, HS1_, HS2_⟩ (fun hHeld => ?_)
          clear hK K
          refine norm_ (a' := ?_) ?_ ?_
          rotate_left
          · show Act.put _ (some 119) _ = _
            simp only [Act.put, List.setIfInBounds_toArray, List.set_cons_zero, List.set_cons_succ, i64_w, i32_w]
            rfl
          refine pure_ (i := 10) (N := some 127) (v := ?_) (a' := ?_) #[true, true, true, true, true, true, true, true, true, true, true] rfl rfl (any_of HT_.out (by kernel_rfl)) (fun _ _ _ h => h) (Or.inl ⟨by rfl, ?_⟩) ?_ ?_
          rotate_left
          · intro w'
            go_simp
            with_reducible rfl
          rotate_left
          · simp only [Act.put, List.setIfInBounds_toArray, List.set_cons_zero, List.set_cons_succ, i64_w, i32_w]
            rfl
          refine done_ (done_of HT_.out (by kernel_rfl)) ?_
          have p348 : 0 ≤ (t325 : Int) := of_decide_eq_true u14_4
          have q348 : t325 < (t320.length : Int) := of_decide_eq_true u14_4
          obtain ⟨ad348, e348, hx348_0, hx348_1, hx348_2⟩ := at_T26 (Kd.R_reads' HO_3.out).2.2 t325 p348 q348
          obtain rfl : ad347 = ad348 := (by injection e348)
          replace p348 := eq_true p348
          replace q348 := eq_true q348
          go_upto_if 140 with (first | ((with_reducible refine gate_callee (f := 40) rfl ?_); refine goesL_ (some 136) rfl rfl Try.func40 (by kernel_rfl) rfl #[.slice (some ad347) t320.length co8, .int .u64 t321, .int .i64 ((rd_T26 t320 t325).f2)] rfl u14_3 ?_; (with_reducible refine (impl_SplitRange.calls kj26 _ _ t320 t321 ((rd_T26 t320 t325).f2) t349 t350 _ ?side1 ?side2 A73.out).mono ?_); (case side1 => exact u14_5); (case side2 => exact (Kd.R_reads' HO_3.out).2.1); rintro e w77 ⟨v351, rfl, ho0, hb⟩; refine ⟨_, rfl, ?_⟩; have n0_ := Aside0.mk (Kd.R_elder' u14_1 (Kd.R_base ho0) hb); have n1_ := Aside0.mk (Kd.R_elder' u14_12 (Kd.R_base ho0) hb); have n2_ := Aside0.mk (Kd.R_lower (Kd.R_new' (Kd.R_new' ho0 (Kd.R_lt u14_1)) (Kd.R_lt u14_12)) (below_size u14_0)); have n3_ := Aside0.mk (below_step u14_0 hb); clear HO_3; clear HO_9; clear HB; have HO_3 := n0_; have HO_9 := n1_; have HO352 := n2_; have HB := n3_; clear n0_ n1_ n2_ n3_; (try clear hb); (try clear hb2); (try clear hk); (try clear hi); (try clear ho0)))
          have H := H9.out
          clear H9
          as_aux_lemma =>
           by_cases c78 : t350 = true
           rotate_left
           · replace c78 := Bool.eq_false_iff.mpr c78
             subst c78
             rw [if_neg (show ¬ (false = true) by decide)] at H
             by_cases c101 : ((rd_T26 t320 t325).f0) = t321
             rotate_left
             · rw [if_neg c101] at H
               have c101b0 : (((rd_T26 t320 t325).f0) == t321) = false := beq_eq_false_iff_ne.mpr c101
               have c101b1 : (((rd_T26 t320 t325).f0) != t321) = true := bne_iff_ne.mpr c101
               obtain rfl := Option.some.inj H
               have p353 : 0 ≤ (t325 : Int) := of_decide_eq_true u14_4
               have q353 : t325 < (t320.length : Int) := of_decide_eq_true u14_4
               obtain ⟨ad353, e353, hx353_0, hx353_1, hx353_2⟩ := at_T26 (Kd.R_reads' HO_3.out).2.2 t325 p353 q353
               obtain rfl : ad347 = ad353 := (by injection e353)
               replace p353 := eq_true p353
               replace q353 := eq_true q353
               go_wp2
               go_ret
               exact ⟨by first | rfl | (simp [errW_none, errW_some] <;> rfl) | (simp [*, errW_none, errW_some] <;> rfl), u14_0⟩
             rw [if_pos c101] at H
             have c101b0 : (((rd_T26 t320 t325).f0) == t321) = true := beq_iff_eq.mpr c101
             have c101b1 : (((rd_T26 t320 t325).f0) != t321) = false := bne_eq_false_iff_eq.mpr c101
             clear c101
             obtain rfl := Option.some.inj H
             have p353 : 0 ≤ (t325 : Int) := of_decide_eq_true u14_4
             have q353 : t325 < (t320.length : Int) := of_decide_eq_true u14_4
             obtain ⟨ad353, e353, hx353_0, hx353_1, hx353_2⟩ := at_T26 (Kd.R_reads' HO_3.out).2.2 t325 p353 q353
             obtain rfl : ad347 = ad353 := (by injection e353)
             replace p353 := eq_true p353
             replace q353 := eq_true q353
             go_wp2
             go_ret
             exact ⟨by first | rfl | (simp [errW_none, errW_some] <;> rfl) | (simp [*, errW_none, errW_some] <;> rfl), u14_0⟩
           subst c78
           rw [if_pos rfl] at H
           replace H := Option.bind_eq_some_iff.mp H
           obtain ⟨⟨t354, t355⟩, A790, H⟩ := H
           (try dsimp only at H)
           have A79 := Aside0.mk A790
           clear A790
           by_cases c80 : (t349.length : Int) = (wrap64 ((t320.length : Int) + 1))
           rotate_left
           · rw [if_neg c80] at H
             have c80b0 : ((t349.length : Int) == (wrap64 ((t320.length : Int) + 1))) = false := beq_eq_false_iff_ne.mpr c80
             have c80b1 : ((t349.length : Int) != (wrap64 ((t320.length : Int) + 1))) = true := bne_iff_ne.mpr c80
             (first | rw [c80b0] | (simp only [i64_w, i32_w]; rw [c80b0]) | skip)
             exact absurd ((Option.some.inj H).trans hr_.out) (by decide)
           rw [if_pos c80] at H
           have c80b0 : ((t349.length : Int) == (wrap64 ((t320.length : Int) + 1))) = true := beq_iff_eq.mpr c80
           have c80b1 : ((t349.length : Int) != (wrap64 ((t320.length : Int) + 1))) = false := bne_eq_false_iff_eq.mpr c80
           clear c80
           (first | rw [c80b0] | (simp only [i64_w, i32_w]; rw [c80b0]) | skip)
           obtain ⟨ji81, hji81⟩ : ∃ j_ : Int, (wrap64 (t325 + 1)) = j_ := ⟨_, rfl⟩
           replace H : (if 0 ≤ (ji81) then (if (ji81) < (t349.length : Int) then (if ((rd_T26 t349 (ji81)).f0) = t321 then (if t325 < (t349.length : Int) then (if ((rd_T26 t349 t325).f1) = (IntKind.u64.wrap (t321 - 1)) then ((impl_RangesOk.f kj26 t349).bind fun t360 => (if t360 = true then ((impl_SameOwners.f kj26 t349 t320).bind fun t361 => (if t361 = true then (if t355 = true then ((laws_sameRanges.f kj26 t354 t320).bind fun t362 => (if t362 = true then ((impl_FindRange.f kj26 t349 t321).bind fun t363 => (some (t363 == (ji81)))) else (some false))) else (some false)) else (some false))) else (some false))) else (some false)) else (none)) else (some false)) else (none)) else (none)) = some r := by first | (rw [hji81] at H; exact H) | (simp only [hji81] at H ⊢; exact H)
           (try rw [hji81] at A79)
           have hji81w : (IntKind.i64.wrap (t325 + 1)) = ji81 := (i64_w _).trans hji81
           by_cases c82 : 0 ≤ (ji81)
           rotate_left
           · rw [if_neg c82] at H
             exact absurd H (by simp)
           rw [if_pos c82] at H
           have c82b0 : decide (0 ≤ (ji81)) = true := decide_eq_true c82
           clear c82
           by_cases c83 : (ji81) < (t349.length : Int)
           rotate_left
           · rw [if_neg c83] at H
             exact absurd H (by simp)
           rw [if_pos c83] at H
           have c83b0 : decide ((ji81) < (t349.length : Int)) = true := decide_eq_true c83
           clear c83
           by_cases c84 : ((rd_T26 t349 (ji81)).f0) = t321
           rotate_left
           · rw [if_neg c84] at H
             have c84b0 : (((rd_T26 t349 (ji81)).f0) == t321) = false := beq_eq_false_iff_ne.mpr c84
             have c84b1 : (((rd_T26 t349 (ji81)).f0) != t321) = true := bne_iff_ne.mpr c84
             exact absurd ((Option.some.inj H).trans hr_.out) (by decide)
           rw [if_pos c84] at H
           have c84b0 : (((rd_T26 t349 (ji81)).f0) == t321) = true := beq_iff_eq.mpr c84
           have c84b1 : (((rd_T26 t349 (ji81)).f0) != t321) = false := bne_eq_false_iff_eq.mpr c84
           clear c84
           by_cases c85 : t325 < (t349.length : Int)
           rotate_left
           · rw [if_neg c85] at H
             exact absurd H (by simp)
           rw [if_pos c85] at H
           have c85b0 : decide (t325 < (t349.length : Int)) = true := decide_eq_true c85
           clear c85
           by_cases c86 : ((rd_T26 t349 t325).f1) = (IntKind.u64.wrap (t321 - 1))
           rotate_left
           · rw [if_neg c86] at H
             have c86b0 : (((rd_T26 t349 t325).f1) == (IntKind.u64.wrap (t321 - 1))) = false := beq_eq_false_iff_ne.mpr c86
             have c86b1 : (((rd_T26 t349 t325).f1) != (IntKind.u64.wrap (t321 - 1))) = true := bne_iff_ne.mpr c86
             exact absurd ((Option.some.inj H).trans hr_.out) (by decide)
           rw [if_pos c86] at H
           have c86b0 : (((rd_T26 t349 t325).f1) == (IntKind.u64.wrap (t321 - 1))) = true := beq_iff_eq.mpr c86
           have c86b1 : (((rd_T26 t349 t325).f1) != (IntKind.u64.wrap (t321 - 1))) = false := bne_eq_false_iff_eq.mpr c86
           clear c86
           replace H := Option.bind_eq_some_iff.mp H
           obtain ⟨t360, A870, H⟩ := H
           have A87 := Aside0.mk A870
           clear A870
           by_cases c88 : t360 = true
           rotate_left
           · replace c88 := Bool.eq_false_iff.mpr c88
             subst c88
             rw [if_neg (show ¬ (false = true) by decide)] at H
             exact absurd ((Option.some.inj H).trans hr_.out) (by decide)
           subst c88
           rw [if_pos rfl] at H
           replace H := Option.bind_eq_some_iff.mp H
           obtain ⟨t361, A890, H⟩ := H
           have A89 := Aside0.mk A890
           clear A890
           by_cases c90 : t361 = true
           rotate_left
           · replace c90 := Bool.eq_false_iff.mpr c90
             subst c90
             rw [if_neg (show ¬ (false = true) by decide)] at H
             exact absurd ((Option.some.inj H).trans hr_.out) (by decide)
           subst c90
           rw [if_pos rfl] at H
           by_cases c91 : t355 = true
           rotate_left
           · replace c91 := Bool.eq_false_iff.mpr c91
             subst c91
             rw [if_neg (show ¬ (false = true) by decide)] at H
             exact absurd ((Option.some.inj H).trans hr_.out) (by decide)
           subst c91
           rw [if_pos rfl] at H
           replace H := Option.bind_eq_some_iff.mp H
           obtain ⟨t362, A920, H⟩ := H
           have A92 := Aside0.mk A920
           clear A920
           by_cases c93 : t362 = true
           rotate_left
           · replace c93 := Bool.eq_false_iff.mpr c93
             subst c93
             rw [if_neg (show ¬ (false = true) by decide)] at H
             exact absurd ((Option.some.inj H).trans hr_.out) (by decide)
           subst c93
           rw [if_pos rfl] at H
           replace H := Option.bind_eq_some_iff.mp H
           obtain ⟨t363, A940, H⟩ := H
           replace H : (some (t363 == (ji81))) = some r := H
           have A94 := Aside0.mk A940
           clear A940
           obtain rfl := Option.some.inj H
           obtain ⟨Ao95, co95, eo95⟩ := Kd.R_slice HO352.out
           subst eo95
           go_wp2_with (first | ((with_reducible refine gate_callee (f := 41) rfl ?_); refine goesL_ (some 156) rfl rfl Try.func41 (by kernel_rfl) rfl #[.slice Ao95 t349.length co95, .int .i64 t325] rfl u14_3 ?_; (with_reducible refine (impl_MergeRange.calls kj26 _ _ t349 t325 t354 true _ ?side1 ?side2 A79.out).mono ?_); (case side1 => exact u14_13); (case side2 => exact (Kd.R_reads' HO352.out).2.1); rintro e w96 ⟨v356, rfl, ho0, hb⟩; refine ⟨_, rfl, ?_⟩; have n0_ := Aside0.mk (Kd.R_elder' u14_1 (Kd.R_base ho0) hb); have n1_ := Aside0.mk (Kd.R_elder' u14_12 (Kd.R_base ho0) hb); have n2_ := Aside0.mk (Kd.R_elder' u14_15 (Kd.R_base ho0) hb); have n3_ := Aside0.mk (Kd.R_lower (Kd.R_new' (Kd.R_new' (Kd.R_new' ho0 (Kd.R_lt u14_1)) (Kd.R_lt u14_12)) (Kd.R_lt u14_15)) (below_size u14_0)); have n4_ := Aside0.mk (below_step u14_0 hb); clear HO_3; clear HO_9; clear HO352; clear HB; have HO_3 := n0_; have HO_9 := n1_; have HO352 := n2_; have HO357 := n3_; have HB := n4_; clear n0_ n1_ n2_ n3_ n4_; (try clear hb); (try clear hb2); (try clear hk); (try clear hi); (try clear ho0); have p358 : 0 ≤ ((ji81) : Int) := of_decide_eq_true u14_4; have q358 : (ji81) < (t349.length : Int) := of_decide_eq_true u14_4; obtain ⟨ad358, e358, hx358_0, hx358_1, hx358_2⟩ := at_T26 (Kd.R_reads' HO352.out).2.2 (ji81) p358 q358; cases e358; replace p358 := eq_true p358; replace q358 := eq_true q358; have p359 : 0 ≤ (t325 : Int) := of_decide_eq_true u14_4; have q359 : t325 < (t349.length : Int) := of_decide_eq_true u14_4; obtain ⟨ad359, e359, hx359_0, hx359_1, hx359_2⟩ := at_T26 (Kd.R_reads' HO352.out).2.2 t325 p359 q359; obtain rfl : ad358 = ad359 := (by injection e359); replace p359 := eq_true p359; replace q359 := eq_true q359) | (go_at_call 21; (with_reducible refine (impl_RangesOk.calls kj26 _ _ t349 true _ ?side1 ?side2 A87.out).mono ?_); (case side1 => exact u14_13); (case side2 => exact (Kd.R_reads' HO352.out).2.1); rintro e w97 ⟨rfl, hb⟩; have n0_ := Aside0.mk (Kd.R_below u14_1 hb); have n1_ := Aside0.mk (Kd.R_below u14_12 hb); have n2_ := Aside0.mk (Kd.R_below u14_15 hb); have n3_ := Aside0.mk (Kd.R_below u14_16 hb); have n4_ := Aside0.mk (below_step u14_0 hb); clear HO_3; clear HO_9; clear HO352; clear HO357; clear HB; have HO_3 := n0_; have HO_9 := n1_; have HO352 := n2_; have HO357 := n3_; have HB := n4_; clear n0_ n1_ n2_ n3_ n4_; (try clear hb); (try clear hb2); (try clear hk); (try clear hi)) | (go_at_call 38; (with_reducible refine (impl_SameOwners.calls kj26 _ _ t349 _ _ t320 true _ ?side1 ?side2 ?side3 ?side4 A89.out).mono ?_); (case side1 => exact u14_13); (case side2 => exact (Kd.R_reads' HO352.out).2.1); (case side3 => exact u14_5); (case side4 => exact (Kd.R_reads' HO_3.out).2.1); rintro e w98 ⟨rfl, hb⟩; have n0_ := Aside0.mk (Kd.R_below u14_1 hb); have n1_ := Aside0.mk (Kd.R_below u14_12 hb); have n2_ := Aside0.mk (Kd.R_below u14_15 hb); have n3_ := Aside0.mk (Kd.R_below u14_16 hb); have n4_ := Aside0.mk (below_step u14_0 hb); clear HO_3; clear HO_9; clear HO352; clear HO357; clear HB; have HO_3 := n0_; have HO_9 := n1_; have HO352 := n2_; have HO357 := n3_; have HB := n4_; clear n0_ n1_ n2_ n3_ n4_; (try clear hb); (try clear hb2); (try clear hk); (try clear hi); obtain ⟨Ao99, co99, eo99⟩ := Kd.R_slice HO357.out; subst eo99) | (go_at_call 42; (with_reducible refine (laws_sameRanges.calls kj26 _ _ t354 _ _ t320 true _ ?side1 ?side2 ?side3 ?side4 A92.out).mono ?_); (case side1 => exact (by repeat (first | exact (Kd.R_reads' HO357.out).2.2 | (with_reducible refine Kd.C_alloc ?_ _) | (with_reducible refine Kd.C_drewN ?_ _) | (with_reducible refine Kd.C_drew ?_)))); (case side2 => exact (Kd.R_reads' HO357.out).2.1); (case side3 => exact u14_5); (case side4 => exact (Kd.R_reads' HO_3.out).2.1); rintro e w' ⟨rfl, ⟨nd, rfl⟩⟩) | (go_at_call 29; (with_reducible refine (impl_FindRange.calls kj26 _ _ t349 t321 t363 _ ?side1 ?side2 A94.out).mono ?_); (case side1 => exact u14_13); (case side2 => exact (Kd.R_reads' HO352.out).2.1); rintro e w100 ⟨rfl, hb⟩; have n0_ := Aside0.mk (Kd.R_below u14_1 hb); have n1_ := Aside0.mk (Kd.R_below u14_12 hb); have n2_ := Aside0.mk (Kd.R_below u14_15 hb); have n3_ := Aside0.mk (Kd.R_below u14_16 hb); have n4_ := Aside0.mk (below_step u14_0 hb); clear HO_3; clear HO_9; clear HO352; clear HO357; clear HB; have HO_3 := n0_; have HO_9 := n1_; have HO352 := n2_; have HO357 := n3_; have HB := n4_; clear n0_ n1_ n2_ n3_ n4_; (try clear hb); (try clear hb2); (try clear hk); (try clear hi)))
           go_ret
           exact ⟨by first | rfl | (simp [errW_none, errW_some] <;> rfl) | (simp only [← hji81]; first | rfl | (simp [errW_none, errW_some] <;> rfl)) | (simp [*, errW_none, errW_some] <;> rfl), u14_0⟩

/-- THE ONE PURE STATEMENT of laws_FnRanges: yours. -/
def laws_FnRanges.Pure : Prop := ∀ (l0 : List Int), l0.length ≤ maxLen → l0.length * 1 ≤ 140737488351232 → (∀ x ∈ l0, (Lit.int .u8 x).wf = true) → ∃ k, laws_FnRanges.f k l0 = some true
theorem laws_FnRanges.walk (P : laws_FnRanges.Pure) (a0 : Option Addr) (len0 cap0 : Nat) (z0 : List Int) (w : World) (w0 : (a0 = none ∧ len0 = 0 ∧ cap0 = 0 ∧ z0 = []) ∨ ∃ x, a0 = some x ∧ len0 ≤ cap0 ∧ cap0 ≤ maxLen ∧ z0.length = cap0 ∧ (∀ i, i < z0.length → w.cell? (x.add i) = some (.int .u8 (z0.getD i 0))) ∧ ∀ n ∈ z0, (Lit.int .u8 n).wf = true) (y0 : len0 * 1 ≤ 140737488351232) :
    Calls Try.prog 8 #[.slice a0 len0 cap0] w fun e w' => e = .returned (.bool true) ∧ Below w.heap.size w w' := by
  obtain ⟨l0, rfl, hr0, hm0, hw0, hc0⟩ := ReadsInt.ofRowC w0
  obtain ⟨k, h⟩ := P l0 hm0 y0 hw0
  refine (laws_FnRanges.calls k _ _ l0 true w (Kd.C_of_reads (d := (0 : Int)) (h1 := fun _ => rfl) hr0) hc0 h ⟨rfl⟩).mono ?_
  rintro e w' ⟨rfl, hd⟩
  exact ⟨rfl, hd⟩

end Go.Proofs.Ytfabcjkaoidmeaa.QFnRanges
