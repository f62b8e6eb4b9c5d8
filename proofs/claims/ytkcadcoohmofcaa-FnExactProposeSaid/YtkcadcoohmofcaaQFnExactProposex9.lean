-- Printed by the session's own program wip/prx.py.
import Derived.Test.YtkcadcoohmofcaaSqFnExactPropose
import Derived.Test.YtkcadcoohmofcaaQFnExactProposex0
import Derived.Test.YtkcadcoohmofcaaQFnExactProposex5
namespace Go.Proofs.Ytkcadcoohmofcaa.QFnExactPropose
open Go.RowKit Go.Proofs.YtkcadcoohmofcaaW.PrintWords Go.Proofs.YtkcadcoohmofcaaW.PrintLast Go.Proofs.YtkcadcoohmofcaaW.PrintMore Go.Proofs.Ytkcadcoohmofcaa.SqFnExactPropose
attribute [local go_sem] max2_int min2_int max_two min_two max_three min_three max_four min_four Go.Proofs.Ytkcadcoohmofcaa.Set.isSome_setCell
set_option linter.unusedVariables false
set_option linter.unusedSimpArgs false

-- squeezed
theorem u9_0 {P : Prop} (h : P := by repeat (first | (with_reducible first | exact HK.out | apply Kept.alloc | apply Kept.drewN | apply Kept.drew | refine Kept.setCell ?_ (.inr GW251.out) _ | refine Kept.setCell ?_ (.inr GW252.out) _) | exact HK.out)) : P := h
theorem u9_2 {P : Prop} (h : P := by (with_reducible repeat (first | refine blk_drewN ?_ _ | refine blk_drew ?_ | refine blk_alloc ?_ _)); exact BK251.out) : P := h
theorem u9_3 {P : Prop} (h : P := by (with_reducible repeat (first | refine blk_drewN ?_ _ | refine blk_drew ?_ | refine blk_alloc ?_ _)); exact BK252.out) : P := h
theorem u9_4 {P : Prop} (h : P := by (with_reducible repeat (first | apply Kd.R_alloc | apply Kd.R_drewN | apply Kd.R_drew)); exact HO_252007.out) : P := h
theorem u9_5 {P : Prop} (h : P := by (with_reducible repeat (first | apply Kd.R_alloc | apply Kd.R_drewN | apply Kd.R_drew)); exact HO_252008.out) : P := h
theorem u9_6 {P : Prop} (h : P := by (with_reducible repeat (first | apply Kd.R_alloc | apply Kd.R_drewN | apply Kd.R_drew)); exact HO_252009.out) : P := h
theorem u9_9 {P : Prop} (h : P := by (with_reducible repeat (first | apply Kd.R_alloc | apply Kd.R_drewN | apply Kd.R_drew)); exact HO0_8.out) : P := h
theorem u9_10 {P : Prop} (h : P := by (with_reducible repeat (first | apply Kd.R_alloc | apply Kd.R_drewN | apply Kd.R_drew)); exact HO0_9.out) : P := h
theorem u9_14 {P : Prop} (h : P := by have := HK1.out; have := HK2.out; omega) : P := h
/-! ### spec_l07Commit: function 87 -/
mutual
def spec_l07Commit.l0 : Nat → Int → Int → Int → Int → Int → Int → Int → Int → Int → List (S85) → List Int → List Int → Option (Int × Int × Int × Int × Int × Int × Int × (List (S85)) × List Int × List Int)
 | 0, _, _, _, _, _, _, _, _, _, _, _, _ => none
 | k + 1, x1, x5, x252000, x252001, x252002, x252003, x252004, x252005, x252006, x252007, x252008, x252009 => if x5 > x252004 then (spec_l07Commit.l1 k x1 x5 0 0 x252000 x252001 x252002 x252003 x252004 x252005 x252006 x252007 x252008 x252009) else (some (x252000, x252001, x252002, x252003, x252004, x252005, x252006, x252007, x252008, x252009))
def spec_l07Commit.l1 : Nat → Int → Int → Int → Int → Int → Int → Int → Int → Int → Int → Int → List (S85) → List Int → List Int → Option (Int × Int × Int × Int × Int × Int × Int × (List (S85)) × List Int × List Int)
 | 0, _, _, _, _, _, _, _, _, _, _, _, _, _, _ => none
 | k + 1, x1, x5, x6, x7, x252000, x252001, x252002, x252003, x252004, x252005, x252006, x252007, x252008, x252009 => if x7 < x1 then (if 0 ≤ x7 then (if x7 < (x252009.length : Int) then (if (rd x252009 x7) ≥ x5 then (spec_l07Commit.l1 k x1 x5 (wrap64 (x6 + 1)) (wrap64 (x7 + 1)) x252000 x252001 x252002 x252003 x252004 x252005 x252006 x252007 x252008 x252009) else (spec_l07Commit.l1 k x1 x5 x6 (wrap64 (x7 + 1)) x252000 x252001 x252002 x252003 x252004 x252005 x252006 x252007 x252008 x252009)) else (none)) else (none)) else (if (wrap64 (2 * x6)) > x1 then ((spec_TermAt.f k x252005 x252006 x252007 x5).bind fun t255 => (if t255 = x252001 then (some (x252000, x252001, x252002, x252003, x5, x252005, x252006, x252007, x252008, x252009)) else (spec_l07Commit.l0 k x1 (wrap64 (x5 - 1)) x252000 x252001 x252002 x252003 x252004 x252005 x252006 x252007 x252008 x252009))) else (spec_l07Commit.l0 k x1 (wrap64 (x5 - 1)) x252000 x252001 x252002 x252003 x252004 x252005 x252006 x252007 x252008 x252009))
end
def spec_l07Commit.f (k : Nat) (a0_0 : Int) (a0_1 : Int) (a0_2 : Int) (a0_3 : Int) (a0_4 : Int) (a0_5 : Int) (a0_6 : Int) (l0_7 : List (S85)) (l0_8 : List Int) (l0_9 : List Int) (a1 : Int) : Option (Int × Int × Int × Int × Int × Int × Int × (List (S85)) × List Int × List Int) := (spec_LastIndex.f k a0_5 a0_6 l0_7).bind fun t253 => (spec_l07Commit.l0 k a1 t253 a0_0 a0_1 a0_2 a0_3 a0_4 a0_5 a0_6 l0_7 l0_8 l0_9)
theorem spec_l07Commit.mono_l : ∀ k, (∀ y0 y1 y2 y3 y4 y5 y6 y7 y8 y9 y10 y11, LeO (spec_l07Commit.l0 k y0 y1 y2 y3 y4 y5 y6 y7 y8 y9 y10 y11) (spec_l07Commit.l0 (k + 1) y0 y1 y2 y3 y4 y5 y6 y7 y8 y9 y10 y11)) ∧ (∀ y0 y1 y2 y3 y4 y5 y6 y7 y8 y9 y10 y11 y12 y13, LeO (spec_l07Commit.l1 k y0 y1 y2 y3 y4 y5 y6 y7 y8 y9 y10 y11 y12 y13) (spec_l07Commit.l1 (k + 1) y0 y1 y2 y3 y4 y5 y6 y7 y8 y9 y10 y11 y12 y13))
 | 0 => ⟨fun _ _ _ _ _ _ _ _ _ _ _ _ r h => by simp [spec_l07Commit.l0] at h, fun _ _ _ _ _ _ _ _ _ _ _ _ _ _ r h => by simp [spec_l07Commit.l1] at h⟩
 | k + 1 => by
   obtain ⟨ih0, ih1⟩ := spec_l07Commit.mono_l k
   refine ⟨?_, ?_⟩ <;> intros <;> (first | unfold spec_l07Commit.l0 | unfold spec_l07Commit.l1) <;> repeat' first
   | (with_reducible exact ih0 _ _ _ _ _ _ _ _ _ _ _ _)
   | (with_reducible exact ih1 _ _ _ _ _ _ _ _ _ _ _ _ _ _)
   | (with_reducible exact spec_LastIndex.mono _ _ _ _)
   | (with_reducible exact spec_TermAt.mono _ _ _ _ _)
   | (with_reducible exact LeO.refl _)
   | (with_reducible exact LeO.none _)
   | (with_reducible refine LeO.ite ?_ ?_)
   | (with_reducible refine LeO.bind ?_ (fun _ => ?_))
   | exact ih0 _ _ _ _ _ _ _ _ _ _ _ _
   | exact ih1 _ _ _ _ _ _ _ _ _ _ _ _ _ _
   | exact spec_LastIndex.mono _ _ _ _
   | exact spec_TermAt.mono _ _ _ _ _
   | exact LeO.none _
   | refine LeO.ite ?_ ?_
   | refine LeO.bind ?_ (fun _ => ?_)
theorem spec_l07Commit.mono : ∀ a0 a1 a2 a3 a4 a5 a6 a7 a8 a9 a10 k, LeO (spec_l07Commit.f k a0 a1 a2 a3 a4 a5 a6 a7 a8 a9 a10) (spec_l07Commit.f (k + 1) a0 a1 a2 a3 a4 a5 a6 a7 a8 a9 a10) := by
 intro a0 a1 a2 a3 a4 a5 a6 a7 a8 a9 a10 k
 obtain ⟨ih0, ih1⟩ := spec_l07Commit.mono_l k
 unfold spec_l07Commit.f
 repeat' first
     | (with_reducible exact ih0 _ _ _ _ _ _ _ _ _ _ _ _)
     | (with_reducible exact ih1 _ _ _ _ _ _ _ _ _ _ _ _ _ _)
     | (with_reducible exact spec_LastIndex.mono _ _ _ _)
     | (with_reducible exact spec_TermAt.mono _ _ _ _ _)
     | (with_reducible exact LeO.refl _)
     | (with_reducible exact LeO.none _)
     | (with_reducible refine LeO.ite ?_ ?_)
     | (with_reducible refine LeO.bind ?_ (fun _ => ?_))
     | exact ih0 _ _ _ _ _ _ _ _ _ _ _ _
     | exact ih1 _ _ _ _ _ _ _ _ _ _ _ _ _ _
     | exact spec_LastIndex.mono _ _ _ _
     | exact spec_TermAt.mono _ _ _ _ _
     | exact LeO.none _
     | refine LeO.ite ?_ ?_
     | refine LeO.bind ?_ (fun _ => ?_)
def spec_l07Commit.T10 : Bool × List (List Nat × List Nat) := (true, [([], []), ([0], [0]), ([], []), ([1, 2], [1, 2]), ([3], [3]), ([4], [4]), ([5, 4], [4, 5]), ([4], [4]), ([6, 7, 4, 4], [4, 6, 7]), ([4], [4]), ([9, 4], [4, 9]), ([8, 10, 4], [4, 8, 10]), ([4, 11], [4, 11])])
def spec_l07Commit.B10 : List Nat := [0, 1, 0, 7, 15, 31, 63, 31, 255, 31, 543, 2047, 4095]
theorem spec_l07Commit.tab10 : rtab .any (opsOf Try.f87 10) = spec_l07Commit.T10 := by kernel_rfl
theorem spec_l07Commit.bits10 : waitsOk spec_l07Commit.T10.2 spec_l07Commit.B10 = true := by kernel_rfl
set_option maxHeartbeats 8000000 in
set_option maxRecDepth 100000 in
theorem spec_l07Commit.calls (k : Nat) (a0_0 : Int) (a0_1 : Int) (a0_2 : Int) (a0_3 : Int) (a0_4 : Int) (a0_5 : Int) (a0_6 : Int) (P0_7_ : Nat → Prop) (u9000_ : Value) (l0_7 : List (S85)) (P0_8_ : Nat → Prop) (u9001_ : Value) (l0_8 : List Int) (P0_9_ : Nat → Prop) (u9002_ : Value) (l0_9 : List Int) (a1 : Int) (r1 : Int) (r2 : Int) (r3 : Int) (r4 : Int) (r5 : Int) (r6 : Int) (r7 : Int) (r8 : List (S85)) (r9 : List Int) (r10 : List Int) (w0 w : World) (hB : Below w0.heap.size w0 w) (ho0_7 : Kd.R k85 85 w w0.heap.size P0_7_ u9000_ l0_7) (ho0_8 : Kd.R (Kd.int .i64) 3 w w0.heap.size P0_8_ u9001_ l0_8) (hp0_8_0_9 : ∀ k_, P0_8_ k_ → ¬ P0_9_ k_) (ho0_9 : Kd.R (Kd.int .i64) 3 w w0.heap.size P0_9_ u9002_ l0_9) (hp0_9_0_8 : ∀ k_, P0_9_ k_ → ¬ P0_8_ k_) (h : spec_l07Commit.f k a0_0 a0_1 a0_2 a0_3 a0_4 a0_5 a0_6 l0_7 l0_8 l0_9 a1 = some (r1, r2, r3, r4, r5, r6, r7, r8, r9, r10)) :
   Calls Try.prog 87 #[.agg #[.int .i64 a0_0, .int .i64 a0_1, .int .i64 a0_2, .int .i64 a0_3, .int .i64 a0_4, .int .i64 a0_5, .int .i64 a0_6, u9000_, u9001_, u9002_], .int .i64 a1] w fun e w' => ∃ v7_ v8_ v9_ : Value, e = .returned (.agg #[.int .i64 r1, .int .i64 r2, .int .i64 r3, .int .i64 r4, .int .i64 r5, .int .i64 r6, .int .i64 r7, v7_, v8_, v9_]) ∧ Kd.R k85 85 w' w0.heap.size (fun k_ => ((P0_7_ k_ ∨ P0_8_ k_ ∨ P0_9_ k_) ∨ w.heap.size ≤ k_)) v7_ r8 ∧ Kd.R (Kd.int .i64) 3 w' w0.heap.size (fun k_ => ((P0_7_ k_ ∨ P0_8_ k_ ∨ P0_9_ k_) ∨ w.heap.size ≤ k_) ∧ some k_ ≠ (v9_ : Value).ownBlock) v8_ r9 ∧ Kd.R (Kd.int .i64) 3 w' w0.heap.size (fun k_ => ((P0_7_ k_ ∨ P0_8_ k_ ∨ P0_9_ k_) ∨ w.heap.size ≤ k_) ∧ some k_ ≠ (v8_ : Value).ownBlock) v9_ r10 ∧ Below w0.heap.size w0 w' ∧ Kept w w' (fun k_ => P0_7_ k_ ∨ P0_8_ k_ ∨ P0_9_ k_) := by
 have hu37 := Try.underlying37
 have hu34 := Try.underlying34
 have HO0_7 := am (show Kd.R k85 85 w w0.heap.size (fun k_ => ((P0_7_ k_ ∨ P0_8_ k_ ∨ P0_9_ k_) ∨ w.heap.size ≤ k_)) u9000_ l0_7 from Kd.R_mono ho0_7 (fun k_ hk => (.inl (.inl hk))))
 have HO0_8 := am (show Kd.R (Kd.int .i64) 3 w w0.heap.size (fun k_ => ((P0_7_ k_ ∨ P0_8_ k_ ∨ P0_9_ k_) ∨ w.heap.size ≤ k_) ∧ some k_ ≠ (u9002_ : Value).ownBlock) u9001_ l0_8 from Kd.R_mono ho0_8 (fun k_ hk => ⟨(.inl (.inr (.inl hk))), fun e_ => hp0_8_0_9 k_ hk (ho0_9.1 k_ e_.symm)⟩))
 have HO0_9 := am (show Kd.R (Kd.int .i64) 3 w w0.heap.size (fun k_ => ((P0_7_ k_ ∨ P0_8_ k_ ∨ P0_9_ k_) ∨ w.heap.size ≤ k_) ∧ some k_ ≠ (u9001_ : Value).ownBlock) u9002_ l0_9 from Kd.R_mono ho0_9 (fun k_ hk => ⟨(.inl (.inr (.inr hk))), fun e_ => hp0_9_0_8 k_ hk (ho0_8.1 k_ e_.symm)⟩))
 have HK := am (Kept.refl w (fun k_ => P0_7_ k_ ∨ P0_8_ k_ ∨ P0_9_ k_))
 have HW0 := am hB.size
 have HB := am hB
 clear hB
 have H : ((spec_LastIndex.f k a0_5 a0_6 l0_7).bind fun t253 => (spec_l07Commit.l0 k a1 t253 a0_0 a0_1 a0_2 a0_3 a0_4 a0_5 a0_6 l0_7 l0_8 l0_9)) = some (r1, r2, r3, r4, r5, r6, r7, r8, r9, r10) := h
 clear h
 replace H := Option.bind_eq_some_iff.mp H
 obtain ⟨t253, A30, H⟩ := H
 have A3 := am A30
 clear A30
 have H' := am H
 clear H
 obtain ⟨Ao4, co4, eo4⟩ := Kd.R_slice HO0_7.out
 subst eo4
 obtain ⟨Ao5, co5, eo5⟩ := Kd.R_slice HO0_8.out
 subst eo5
 obtain ⟨Ao6, co6, eo6⟩ := Kd.R_slice HO0_9.out
 subst eo6
 go_enter Try.func87, Try.ntmps87
 go_wp2_with (first | ((with_reducible refine gate_dst (N := 2) rfl ?_); refine box_event ?hg (N := 2) ?hd (cs := #[.int .i64 a0_0, .int .i64 a0_1, .int .i64 a0_2, .int .i64 a0_3, .int .i64 a0_4, .int .i64 a0_5, .int .i64 a0_6, .slice Ao4 l0_7.length co4, .slice Ao5 l0_8.length co5, .slice Ao6 l0_9.length co6]) (t := 37) ?hr ?_; (case hd => rfl); (case hg => rfl); (case hr => first | (go_simp; done) | (go_simp; rfl)); intro gb251 hg w7 hbox hb; replace HO0_7 := am (Kd.R_below Q6 hb); replace HO0_8 := am (Kd.R_below u9_9 hb); replace HO0_9 := am (Kd.R_below u9_10 hb); have BK251 := am (hbox); have GW251 := am ((by rw [hg]; exact (by first | exact HK.out.1 | exact (show Kept w _ (fun k_ => P0_7_ k_ ∨ P0_8_ k_ ∨ P0_9_ k_) from by repeat (first | (with_reducible first | exact HK.out | apply Kept.alloc | apply Kept.drewN | apply Kept.drew) | exact HK.out)).1) : w.heap.size ≤ gb251)); replace HK := am (Kept.below (S := (fun k_ => P0_7_ k_ ∨ P0_8_ k_ ∨ P0_9_ k_)) (by repeat (first | (with_reducible first | exact HK.out | apply Kept.alloc | apply Kept.drewN | apply Kept.drew) | exact HK.out)) hb); have GE251 := am ((by rw [hg]; exact (below_size Q1) : w0.heap.size ≤ gb251)); replace HB := am (below_step Q1 hb); clear hb hbox hg) | ((with_reducible refine gate_dst (N := 4) rfl ?_); refine box_event ?hg (N := 4) ?hd (cs := #[.int .i64 0, .int .i64 0, .int .i64 0, .int .i64 0, .int .i64 0, .int .i64 0, .int .i64 0, .slice none 0 0, .slice none 0 0, .slice none 0 0]) (t := 37) ?hr ?_; (case hd => rfl); (case hg => rfl); (case hr => first | (go_simp; done) | (go_simp; rfl)); intro gb252 hg w8 hbox hb; replace HO0_7 := am (Kd.R_below Q6 hb); replace HO0_8 := am (Kd.R_below u9_9 hb); replace HO0_9 := am (Kd.R_below u9_10 hb); have BK252 := am (hbox); have GW252 := am ((by rw [hg]; exact (by first | exact HK.out.1 | exact (show Kept w _ (fun k_ => P0_7_ k_ ∨ P0_8_ k_ ∨ P0_9_ k_) from by repeat (first | (with_reducible first | exact HK.out | apply Kept.alloc | apply Kept.drewN | apply Kept.drew | refine Kept.setCell ?_ (.inr GW251.out) _) | exact HK.out)).1) : w.heap.size ≤ gb252)); replace HK := am (Kept.below (S := (fun k_ => P0_7_ k_ ∨ P0_8_ k_ ∨ P0_9_ k_)) (by repeat (first | (with_reducible first | exact HK.out | apply Kept.alloc | apply Kept.drewN | apply Kept.drew | refine Kept.setCell ?_ (.inr GW251.out) _) | exact HK.out)) hb); have GE252 := am ((by rw [hg]; exact (below_size Q1) : w0.heap.size ≤ gb252)); replace HB := am (below_step Q1 hb); have NB251_252 := am ((by rw [hg]; exact Nat.ne_of_lt (blk_lt (g := gb251) (o := .cells #[.int .i64 a0_0, .int .i64 a0_1, .int .i64 a0_2, .int .i64 a0_3, .int .i64 a0_4, .int .i64 a0_5, .int .i64 a0_6, .slice Ao4 l0_7.length co4, .slice Ao5 l0_8.length co5, .slice Ao6 l0_9.length co6] 37 (0, 0)) u9_2) : gb251 ≠ gb252)); have NB252_251 := am ((by rw [hg]; exact Nat.ne_of_gt (blk_lt (g := gb251) (o := .cells #[.int .i64 a0_0, .int .i64 a0_1, .int .i64 a0_2, .int .i64 a0_3, .int .i64 a0_4, .int .i64 a0_5, .int .i64 a0_6, .slice Ao4 l0_7.length co4, .slice Ao5 l0_8.length co5, .slice Ao6 l0_9.length co6] 37 (0, 0)) u9_2) : gb252 ≠ gb251)); replace BK251 := am (blk_below (g := gb251) (o := .cells #[.int .i64 a0_0, .int .i64 a0_1, .int .i64 a0_2, .int .i64 a0_3, .int .i64 a0_4, .int .i64 a0_5, .int .i64 a0_6, .slice Ao4 l0_7.length co4, .slice Ao5 l0_8.length co5, .slice Ao6 l0_9.length co6] 37 (0, 0)) u9_2 hb); clear hb hbox hg; have hnb9 := NB251_252.out; have hnc9 := NB252_251.out; obtain ⟨hcz10_0, hcz10_1, hcz10_2, hcz10_3, hcz10_4, hcz10_5, hcz10_6, hcz10_7, hcz10_8, hcz10_9, hfz10_0, hfz10_1, hfz10_2, hfz10_3, hfz10_4, hfz10_5, hfz10_6, hfz10_7, hfz10_8, hfz10_9⟩ := bc10f w8 BK251.out) | ((with_reducible refine gate_callee (f := 72) rfl ?_); refine goesL_ (some 10) rfl rfl Try.func72 kr rfl #[.agg #[.int .i64 a0_5, .int .i64 a0_6, .slice Ao4 l0_7.length co4]] rfl Q3 ?_; (with_reducible refine (spec_LastIndex.calls k a0_5 a0_6 _ _ l0_7 t253 _ ?side1 ?side2 A3.out).mono ?_); (case side1 => exact (by repeat (first | exact (Kd.R_reads' HO0_7.out).2.2 | (with_reducible refine Kd.C_alloc ?_ _) | (with_reducible refine Kd.C_drewN ?_ _) | (with_reducible refine Kd.C_drew ?_)))); (case side2 => exact (Kd.R_reads' HO0_7.out).2.1); rintro e w11 ⟨rfl, hb⟩; refine ⟨_, rfl, ?_⟩; replace HO0_7 := am (Kd.R_below Q6 hb); replace HO0_8 := am (Kd.R_below u9_9 hb); replace HO0_9 := am (Kd.R_below u9_10 hb); replace BK251 := am (blk_below (g := gb251) (o := .cells #[.int .i64 a0_0, .int .i64 a0_1, .int .i64 a0_2, .int .i64 a0_3, .int .i64 a0_4, .int .i64 a0_5, .int .i64 a0_6, .slice Ao4 l0_7.length co4, .slice Ao5 l0_8.length co5, .slice Ao6 l0_9.length co6] 37 (0, 0)) u9_2 hb); replace BK252 := am (blk_below (g := gb252) (o := .cells #[.int .i64 0, .int .i64 0, .int .i64 0, .int .i64 0, .int .i64 0, .int .i64 0, .int .i64 0, .slice none 0 0, .slice none 0 0, .slice none 0 0] 37 (0, 0)) u9_3 hb); replace HK := am (Kept.below (S := (fun k_ => P0_7_ k_ ∨ P0_8_ k_ ∨ P0_9_ k_)) u9_0 hb); replace HB := am (below_step Q1 hb); (try clear hb); (try clear hb2); (try clear hk); (try clear hi)))
 go_loopg [5] k (fun kq v5 w' => ∃ (x5_1 : Int) (x252004_1 : Int) (x253000_1 : Int) (x253001_1 : Int) (x253002_1 : Int) (x253003_1 : Int) (x253004_1 : Int) (x253005_1 : Int) (x253006_1 : Int), v5 = .int .i64 x5_1 ∧ Aside0 (spec_l07Commit.l0 kq a1 x5_1 a0_0 a0_1 a0_2 a0_3 x252004_1 a0_5 a0_6 l0_7 l0_8 l0_9 = some (r1, r2, r3, r4, r5, r6, r7, r8, r9, r10)) ∧ Aside0 (kq ≤ k) ∧ Aside0 (Kd.R k85 85 w' w0.heap.size (fun k_ => ((P0_7_ k_ ∨ P0_8_ k_ ∨ P0_9_ k_) ∨ w.heap.size ≤ k_)) (.slice Ao4 l0_7.length co4) l0_7) ∧ Aside0 (Kd.R (Kd.int .i64) 3 w' w0.heap.size (fun k_ => ((P0_7_ k_ ∨ P0_8_ k_ ∨ P0_9_ k_) ∨ w.heap.size ≤ k_) ∧ some k_ ≠ ((.slice Ao6 l0_9.length co6) : Value).ownBlock) (.slice Ao5 l0_8.length co5) l0_8) ∧ Aside0 (Kd.R (Kd.int .i64) 3 w' w0.heap.size (fun k_ => ((P0_7_ k_ ∨ P0_8_ k_ ∨ P0_9_ k_) ∨ w.heap.size ≤ k_) ∧ some k_ ≠ ((.slice Ao5 l0_8.length co5) : Value).ownBlock) (.slice Ao6 l0_9.length co6) l0_9) ∧ Aside0 (w'.heap[gb251]? = some (.cells #[.int .i64 a0_0, .int .i64 a0_1, .int .i64 a0_2, .int .i64 a0_3, .int .i64 x252004_1, .int .i64 a0_5, .int .i64 a0_6, (.slice Ao4 l0_7.length co4), (.slice Ao5 l0_8.length co5), (.slice Ao6 l0_9.length co6)] 37 (0, 0))) ∧ Aside0 (w'.heap[gb252]? = some (.cells #[.int .i64 x253000_1, .int .i64 x253001_1, .int .i64 x253002_1, .int .i64 x253003_1, .int .i64 x253004_1, .int .i64 x253005_1, .int .i64 x253006_1, (.slice none 0 0), (.slice none 0 0), (.slice none 0 0)] 37 (0, 0))) ∧ Aside0 (Kept w w' (fun k_ => P0_7_ k_ ∨ P0_8_ k_ ∨ P0_9_ k_)) ∧ Aside0 (Below w0.heap.size w0 w'))
 case atStart => exact ⟨(t253), (a0_4), (0), (0), (0), (0), (0), (0), (0), Q2, H', ⟨Nat.le_refl _⟩, ⟨Q6⟩, ⟨u9_9⟩, ⟨u9_10⟩, ⟨u9_2⟩, ⟨u9_3⟩, ⟨u9_0⟩, ⟨Q1⟩⟩
 clear H'
 try clear hcz10_0
 try clear hcz10_1
 try clear hcz10_2
 try clear hcz10_3
 try clear hcz10_4
 try clear hcz10_5
 try clear hcz10_6
 try clear hcz10_7
 try clear hcz10_8
 try clear hcz10_9
 try clear hfz10_0
 try clear hfz10_1
 try clear hfz10_2
 try clear hfz10_3
 try clear hfz10_4
 try clear hfz10_5
 try clear hfz10_6
 try clear hfz10_7
 try clear hfz10_8
 try clear hfz10_9
 obtain ⟨x5_1, x252004_1, x253000_1, x253001_1, x253002_1, x253003_1, x253004_1, x253005_1, x253006_1, rfl, HA, HK1, HO_252007, HO_252008, HO_252009, BK251, BK252, HK, HB⟩ := hrel
 cases gk with
 | zero => exact absurd HA.out (by simp [spec_l07Commit.l0])
 | succ k1 =>
   have H := HA.out
   clear HA
   simp only [spec_l07Commit.l0] at H
   by_cases c12 : x5_1 > x252004_1
   rotate_left
   · rw [if_neg c12] at H
     have c12b0 : decide (x252004_1 < x5_1) = false := decide_eq_false c12
     clear c12
     simp only [Option.some.injEq, Prod.mk.injEq] at H
     obtain ⟨rfl, rfl, rfl, rfl, rfl, rfl, rfl, rfl, rfl, rfl⟩ := H
     have hnb30 := NB251_252.out
     have hnc30 := NB252_251.out
     obtain ⟨hcz31_0, hcz31_1, hcz31_2, hcz31_3, hcz31_4, hcz31_5, hcz31_6, hcz31_7, hcz31_8, hcz31_9, hfz31_0, hfz31_1, hfz31_2, hfz31_3, hfz31_4, hfz31_5, hfz31_6, hfz31_7, hfz31_8, hfz31_9⟩ := bc10f wr BK251.out
     obtain ⟨hcz32_0, hcz32_1, hcz32_2, hcz32_3, hcz32_4, hcz32_5, hcz32_6, hcz32_7, hcz32_8, hcz32_9, hfz32_0, hfz32_1, hfz32_2, hfz32_3, hfz32_4, hfz32_5, hfz32_6, hfz32_7, hfz32_8, hfz32_9⟩ := bc10f wr BK252.out
     go_wp2
     refine bodyPost_ret (results_cell_row rfl _ _ gb252 37 #[.int .i64 a0_0, .int .i64 a0_1, .int .i64 a0_2, .int .i64 a0_3, .int .i64 x252004_1, .int .i64 a0_5, .int .i64 a0_6, .slice Ao4 l0_7.length co4, .slice Ao5 l0_8.length co5, .slice Ao6 l0_9.length co6] (0, 0) _ rfl (by (with_reducible repeat (first | refine blk_drewN ?_ _ | refine blk_drew ?_ | refine blk_alloc ?_ _)); refine blk_put (cs := #[.int .i64 a0_0, .int .i64 a0_1, .int .i64 a0_2, .int .i64 a0_3, .int .i64 x252004_1, .int .i64 a0_5, .int .i64 a0_6, .slice Ao4 l0_7.length co4, .slice Ao5 l0_8.length co5, .slice none 0 0]) ?_ 9 _ rfl; (with_reducible repeat (first | refine blk_drewN ?_ _ | refine blk_drew ?_ | refine blk_alloc ?_ _)); refine blk_put (cs := #[.int .i64 a0_0, .int .i64 a0_1, .int .i64 a0_2, .int .i64 a0_3, .int .i64 x252004_1, .int .i64 a0_5, .int .i64 a0_6, .slice Ao4 l0_7.length co4, .slice none 0 0, .slice none 0 0]) ?_ 8 _ rfl; (with_reducible repeat (first | refine blk_drewN ?_ _ | refine blk_drew ?_ | refine blk_alloc ?_ _)); refine blk_put (cs := #[.int .i64 a0_0, .int .i64 a0_1, .int .i64 a0_2, .int .i64 a0_3, .int .i64 x252004_1, .int .i64 a0_5, .int .i64 a0_6, .slice none 0 0, .slice none 0 0, .slice none 0 0]) ?_ 7 _ rfl; (with_reducible repeat (first | refine blk_drewN ?_ _ | refine blk_drew ?_ | refine blk_alloc ?_ _)); refine blk_put (cs := #[.int .i64 a0_0, .int .i64 a0_1, .int .i64 a0_2, .int .i64 a0_3, .int .i64 x252004_1, .int .i64 a0_5, .int .i64 x253006_1, .slice none 0 0, .slice none 0 0, .slice none 0 0]) ?_ 6 _ rfl; (with_reducible repeat (first | refine blk_drewN ?_ _ | refine blk_drew ?_ | refine blk_alloc ?_ _)); refine blk_put (cs := #[.int .i64 a0_0, .int .i64 a0_1, .int .i64 a0_2, .int .i64 a0_3, .int .i64 x252004_1, .int .i64 x253005_1, .int .i64 x253006_1, .slice none 0 0, .slice none 0 0, .slice none 0 0]) ?_ 5 _ rfl; (with_reducible repeat (first | refine blk_drewN ?_ _ | refine blk_drew ?_ | refine blk_alloc ?_ _)); refine blk_put (cs := #[.int .i64 a0_0, .int .i64 a0_1, .int .i64 a0_2, .int .i64 a0_3, .int .i64 x253004_1, .int .i64 x253005_1, .int .i64 x253006_1, .slice none 0 0, .slice none 0 0, .slice none 0 0]) ?_ 4 _ rfl; (with_reducible repeat (first | refine blk_drewN ?_ _ | refine blk_drew ?_ | refine blk_alloc ?_ _)); refine blk_put (cs := #[.int .i64 a0_0, .int .i64 a0_1, .int .i64 a0_2, .int .i64 x253003_1, .int .i64 x253004_1, .int .i64 x253005_1, .int .i64 x253006_1, .slice none 0 0, .slice none 0 0, .slice none 0 0]) ?_ 3 _ rfl; (with_reducible repeat (first | refine blk_drewN ?_ _ | refine blk_drew ?_ | refine blk_alloc ?_ _)); refine blk_put (cs := #[.int .i64 a0_0, .int .i64 a0_1, .int .i64 x253002_1, .int .i64 x253003_1, .int .i64 x253004_1, .int .i64 x253005_1, .int .i64 x253006_1, .slice none 0 0, .slice none 0 0, .slice none 0 0]) ?_ 2 _ rfl; (with_reducible repeat (first | refine blk_drewN ?_ _ | refine blk_drew ?_ | refine blk_alloc ?_ _)); refine blk_put (cs := #[.int .i64 a0_0, .int .i64 x253001_1, .int .i64 x253002_1, .int .i64 x253003_1, .int .i64 x253004_1, .int .i64 x253005_1, .int .i64 x253006_1, .slice none 0 0, .slice none 0 0, .slice none 0 0]) ?_ 1 _ rfl; (with_reducible repeat (first | refine blk_drewN ?_ _ | refine blk_drew ?_ | refine blk_alloc ?_ _)); refine blk_put (cs := #[.int .i64 x253000_1, .int .i64 x253001_1, .int .i64 x253002_1, .int .i64 x253003_1, .int .i64 x253004_1, .int .i64 x253005_1, .int .i64 x253006_1, .slice none 0 0, .slice none 0 0, .slice none 0 0]) ?_ 0 _ rfl; (with_reducible repeat (first | refine blk_drewN ?_ _ | refine blk_drew ?_ | refine blk_alloc ?_ _)); exact BK252.out) Try.underlying37 rfl kr) rfl ?_
     exact ⟨_, _, _, er, (by (with_reducible repeat (first | apply Kd.R_alloc | apply Kd.R_drewN | apply Kd.R_drew)); exact Kd.R_mono (Kd.R_far (p := ⟨gb252, 9, none⟩) (Kd.R_far (p := ⟨gb252, 8, none⟩) (Kd.R_far (p := ⟨gb252, 7, none⟩) (Kd.R_far (p := ⟨gb252, 6, none⟩) (Kd.R_far (p := ⟨gb252, 5, none⟩) (Kd.R_far (p := ⟨gb252, 4, none⟩) (Kd.R_far (p := ⟨gb252, 3, none⟩) (Kd.R_far (p := ⟨gb252, 2, none⟩) (Kd.R_far (p := ⟨gb252, 1, none⟩) (Kd.R_far (p := ⟨gb252, 0, none⟩) (Kd.R_types HO_252007.out BK252.out (by decide)) (fun _ hk => hk.2) (.int .i64 a0_0)) (fun _ hk => hk.2) (.int .i64 a0_1)) (fun _ hk => hk.2) (.int .i64 a0_2)) (fun _ hk => hk.2) (.int .i64 a0_3)) (fun _ hk => hk.2) (.int .i64 x252004_1)) (fun _ hk => hk.2) (.int .i64 a0_5)) (fun _ hk => hk.2) (.int .i64 a0_6)) (fun _ hk => hk.2) (.slice Ao4 l0_7.length co4)) (fun _ hk => hk.2) (.slice Ao5 l0_8.length co5)) (fun _ hk => hk.2) (.slice Ao6 l0_9.length co6)) (fun _ hk => hk.1)), (by (with_reducible repeat (first | apply Kd.R_alloc | apply Kd.R_drewN | apply Kd.R_drew)); exact Kd.R_mono (Kd.R_far (p := ⟨gb252, 9, none⟩) (Kd.R_far (p := ⟨gb252, 8, none⟩) (Kd.R_far (p := ⟨gb252, 7, none⟩) (Kd.R_far (p := ⟨gb252, 6, none⟩) (Kd.R_far (p := ⟨gb252, 5, none⟩) (Kd.R_far (p := ⟨gb252, 4, none⟩) (Kd.R_far (p := ⟨gb252, 3, none⟩) (Kd.R_far (p := ⟨gb252, 2, none⟩) (Kd.R_far (p := ⟨gb252, 1, none⟩) (Kd.R_far (p := ⟨gb252, 0, none⟩) (Kd.R_types HO_252008.out BK252.out (by decide)) (fun _ hk => hk.2) (.int .i64 a0_0)) (fun _ hk => hk.2) (.int .i64 a0_1)) (fun _ hk => hk.2) (.int .i64 a0_2)) (fun _ hk => hk.2) (.int .i64 a0_3)) (fun _ hk => hk.2) (.int .i64 x252004_1)) (fun _ hk => hk.2) (.int .i64 a0_5)) (fun _ hk => hk.2) (.int .i64 a0_6)) (fun _ hk => hk.2) (.slice Ao4 l0_7.length co4)) (fun _ hk => hk.2) (.slice Ao5 l0_8.length co5)) (fun _ hk => hk.2) (.slice Ao6 l0_9.length co6)) (fun _ hk => ⟨hk.1.1, hk.1.2⟩)), (by (with_reducible repeat (first | apply Kd.R_alloc | apply Kd.R_drewN | apply Kd.R_drew)); exact Kd.R_mono (Kd.R_far (p := ⟨gb252, 9, none⟩) (Kd.R_far (p := ⟨gb252, 8, none⟩) (Kd.R_far (p := ⟨gb252, 7, none⟩) (Kd.R_far (p := ⟨gb252, 6, none⟩) (Kd.R_far (p := ⟨gb252, 5, none⟩) (Kd.R_far (p := ⟨gb252, 4, none⟩) (Kd.R_far (p := ⟨gb252, 3, none⟩) (Kd.R_far (p := ⟨gb252, 2, none⟩) (Kd.R_far (p := ⟨gb252, 1, none⟩) (Kd.R_far (p := ⟨gb252, 0, none⟩) (Kd.R_types HO_252009.out BK252.out (by decide)) (fun _ hk => hk.2) (.int .i64 a0_0)) (fun _ hk => hk.2) (.int .i64 a0_1)) (fun _ hk => hk.2) (.int .i64 a0_2)) (fun _ hk => hk.2) (.int .i64 a0_3)) (fun _ hk => hk.2) (.int .i64 x252004_1)) (fun _ hk => hk.2) (.int .i64 a0_5)) (fun _ hk => hk.2) (.int .i64 a0_6)) (fun _ hk => hk.2) (.slice Ao4 l0_7.length co4)) (fun _ hk => hk.2) (.slice Ao5 l0_8.length co5)) (fun _ hk => hk.2) (.slice Ao6 l0_9.length co6)) (fun _ hk => ⟨hk.1.1, hk.1.2⟩)), Q1, u9_0⟩
   rw [if_pos c12] at H
   have c12b0 : decide (x252004_1 < x5_1) = true := decide_eq_true c12
   clear c12
   have H' := am H
   clear H
   have hnb13 := NB251_252.out
   have hnc13 := NB252_251.out
   obtain ⟨hcz14_0, hcz14_1, hcz14_2, hcz14_3, hcz14_4, hcz14_5, hcz14_6, hcz14_7, hcz14_8, hcz14_9, hfz14_0, hfz14_1, hfz14_2, hfz14_3, hfz14_4, hfz14_5, hfz14_6, hfz14_7, hfz14_8, hfz14_9⟩ := bc10f wr BK251.out
   go_wp2
   go_loopg [6, 7] k1 (fun kq v6 v7 w' => ∃ (x6_2 : Int) (x7_2 : Int), v6 = .int .i64 x6_2 ∧ v7 = .int .i64 x7_2 ∧ Aside0 (spec_l07Commit.l1 kq a1 x5_1 x6_2 x7_2 a0_0 a0_1 a0_2 a0_3 x252004_1 a0_5 a0_6 l0_7 l0_8 l0_9 = some (r1, r2, r3, r4, r5, r6, r7, r8, r9, r10)) ∧ Aside0 (kq ≤ k1) ∧ Aside0 (Kd.R k85 85 w' w0.heap.size (fun k_ => ((P0_7_ k_ ∨ P0_8_ k_ ∨ P0_9_ k_) ∨ w.heap.size ≤ k_)) (.slice Ao4 l0_7.length co4) l0_7) ∧ Aside0 (Kd.R (Kd.int .i64) 3 w' w0.heap.size (fun k_ => ((P0_7_ k_ ∨ P0_8_ k_ ∨ P0_9_ k_) ∨ w.heap.size ≤ k_) ∧ some k_ ≠ ((.slice Ao6 l0_9.length co6) : Value).ownBlock) (.slice Ao5 l0_8.length co5) l0_8) ∧ Aside0 (Kd.R (Kd.int .i64) 3 w' w0.heap.size (fun k_ => ((P0_7_ k_ ∨ P0_8_ k_ ∨ P0_9_ k_) ∨ w.heap.size ≤ k_) ∧ some k_ ≠ ((.slice Ao5 l0_8.length co5) : Value).ownBlock) (.slice Ao6 l0_9.length co6) l0_9) ∧ Aside0 (w'.heap[gb251]? = some (.cells #[.int .i64 a0_0, .int .i64 a0_1, .int .i64 a0_2, .int .i64 a0_3, .int .i64 x252004_1, .int .i64 a0_5, .int .i64 a0_6, (.slice Ao4 l0_7.length co4), (.slice Ao5 l0_8.length co5), (.slice Ao6 l0_9.length co6)] 37 (0, 0))) ∧ Aside0 (w'.heap[gb252]? = some (.cells #[.int .i64 x253000_1, .int .i64 x253001_1, .int .i64 x253002_1, .int .i64 x253003_1, .int .i64 x253004_1, .int .i64 x253005_1, .int .i64 x253006_1, (.slice none 0 0), (.slice none 0 0), (.slice none 0 0)] 37 (0, 0))) ∧ Aside0 (Kept w w' (fun k_ => P0_7_ k_ ∨ P0_8_ k_ ∨ P0_9_ k_)) ∧ Aside0 (Below w0.heap.size w0 w'))
   case atStart => exact ⟨(0), (0), Q2, Q2, H', ⟨Nat.le_refl _⟩, ⟨u9_4⟩, ⟨u9_5⟩, ⟨u9_6⟩, ⟨u9_2⟩, ⟨u9_3⟩, ⟨u9_0⟩, ⟨Q1⟩⟩
   clear H'
   try clear c12
   try clear c12b0
   try clear hcz10_0
   try clear hcz10_1
   try clear hcz10_2
   try clear hcz10_3
   try clear hcz10_4
   try clear hcz10_5
   try clear hcz10_6
   try clear hcz10_7
   try clear hcz10_8
   try clear hcz10_9
   try clear hcz14_0
   try clear hcz14_1
   try clear hcz14_2
   try clear hcz14_3
   try clear hcz14_4
   try clear hcz14_5
   try clear hcz14_6
   try clear hcz14_7
   try clear hcz14_8
   try clear hcz14_9
   try clear hfz10_0
   try clear hfz10_1
   try clear hfz10_2
   try clear hfz10_3
   try clear hfz10_4
   try clear hfz10_5
   try clear hfz10_6
   try clear hfz10_7
   try clear hfz10_8
   try clear hfz10_9
   try clear hfz14_0
   try clear hfz14_1
   try clear hfz14_2
   try clear hfz14_3
   try clear hfz14_4
   try clear hfz14_5
   try clear hfz14_6
   try clear hfz14_7
   try clear hfz14_8
   try clear hfz14_9
   obtain ⟨x6_2, x7_2, rfl, rfl, HA, HK2, HO_252007, HO_252008, HO_252009, BK251, BK252, HK, HB⟩ := hrel
   cases gk with
   | zero => exact absurd HA.out (by simp [spec_l07Commit.l1])
   | succ k2 =>
     have H := HA.out
     clear HA
     simp only [spec_l07Commit.l1] at H
     by_cases c15 : x7_2 < a1
     · rw [if_pos c15] at H
       have c15b0 : decide (x7_2 < a1) = true := decide_eq_true c15
       clear c15
       by_cases c16 : 0 ≤ x7_2
       rotate_left
       · rw [if_neg c16] at H
         exact absurd H (by simp)
       rw [if_pos c16] at H
       have c16b0 : decide (0 ≤ x7_2) = true := decide_eq_true c16
       clear c16
       by_cases c17 : x7_2 < (l0_9.length : Int)
       rotate_left
       · rw [if_neg c17] at H
         exact absurd H (by simp)
       rw [if_pos c17] at H
       have c17b0 : decide (x7_2 < (l0_9.length : Int)) = true := decide_eq_true c17
       clear c17
       have H9 := am H
       clear H
       have hnb18 := NB251_252.out
       have hnc18 := NB252_251.out
       obtain ⟨hcz19_0, hcz19_1, hcz19_2, hcz19_3, hcz19_4, hcz19_5, hcz19_6, hcz19_7, hcz19_8, hcz19_9, hfz19_0, hfz19_1, hfz19_2, hfz19_3, hfz19_4, hfz19_5, hfz19_6, hfz19_7, hfz19_8, hfz19_9⟩ := bc10f wr BK251.out
       have p254 : 0 ≤ (x7_2 : Int) := of_decide_eq_true (by first | (with_reducible assumption) | assumption)
       have q254 : x7_2 < (l0_9.length : Int) := of_decide_eq_true (by first | (with_reducible assumption) | assumption)
       obtain ⟨ad254, e254, hx254_0⟩ := Kd.at_int (Kd.R_reads' HO_252009.out).2.2 x7_2 p254 q254
       cases e254
       replace p254 := eq_true p254
       replace q254 := eq_true q254
       go_upto_if 28 with (fail)
       have H := H9.out
       clear H9
       by_cases c20 : (rd l0_9 x7_2) ≥ x5_1
       rotate_left
       · rw [if_neg c20] at H
         have c20b0 : decide (x5_1 ≤ (rd l0_9 x7_2)) = false := decide_eq_false c20
         clear c20
         (first | rw [c20b0] | (simp only [i64_w, i32_w]; rw [c20b0]) | skip)
         have H' := am H
         clear H
         go_wp2
         go_roundg k2
         case measure => have := HK1.out; have := HK2.out; omega
         case rel => exact ⟨(x6_2), (wrap64 (x7_2 + 1)), Q2, Q2, H', ⟨u9_14⟩, ⟨u9_4⟩, ⟨u9_5⟩, ⟨u9_6⟩, ⟨u9_2⟩, ⟨u9_3⟩, ⟨u9_0⟩, ⟨Q1⟩⟩
       rw [if_pos c20] at H
       have c20b0 : decide (x5_1 ≤ (rd l0_9 x7_2)) = true := decide_eq_true c20
       clear c20
       (first | rw [c20b0] | (simp only [i64_w, i32_w]; rw [c20b0]) | skip)
       have H' := am H
       clear H
       go_wp2
       go_roundg k2
       case measure => have := HK1.out; have := HK2.out; omega
       case rel => exact ⟨(wrap64 (x6_2 + 1)), (wrap64 (x7_2 + 1)), Q2, Q2, H', ⟨u9_14⟩, ⟨u9_4⟩, ⟨u9_5⟩, ⟨u9_6⟩, ⟨u9_2⟩, ⟨u9_3⟩, ⟨u9_0⟩, ⟨Q1⟩⟩
     rw [if_neg c15] at H
     have c15b0 : decide (x7_2 < a1) = false := decide_eq_false c15
     clear c15
     by_cases c21 : (wrap64 (2 * x6_2)) > a1
     rotate_left
     · rw [if_neg c21] at H
       have c21b0 : decide (a1 < (wrap64 (2 * x6_2))) = false := decide_eq_false c21
       clear c21
       have H' := am H
       clear H
       try go_wp2
       replace HO_252007 := am (Kd.R_drew HO_252007.out)
       replace HO_252008 := am (Kd.R_drew HO_252008.out)
       replace HO_252009 := am (Kd.R_drew HO_252009.out)
       replace BK251 := am (blk_drew BK251.out)
       replace BK252 := am (blk_drew BK252.out)
       replace HK := am (Kept.drew HK.out)
       replace HB := am (below_drew1 HB.out)
       refine start_ (n := 13) (S := fun w' => True) (ds := []) #[false, false, false, false, false, false, false, false, false, false, false, false, false] kr rfl rfl trivial (fun hHeld => ?_); refine with_tabW spec_l07Commit.tab10 spec_l07Commit.bits10 (fun HT_ HW_ => ?_)
       generalize wr.drew = w29 at HO_252007 HO_252008 HO_252009 BK251 BK252 HK HB hHeld ⊢
       refine pV 0 31 (bt 1 13) ?_
       refine pV 1 32 (bt 2 13) ?_
       refine pV 2 33 (bt 3 13) ?_
       refine pV 3 34 (bt 4 13) ?_
       refine pV 4 35 (bt 5 13) ?_
       refine pU 5 36 (bt 6 13) ?_
       refine pU 6 37 (bt 7 13) ?_
       refine pU 7 38 (bt 8 13) ?_
       refine pU 8 39 (bt 9 13) ?_
       refine pU 9 40 (bt 10 13) ?_
       refine pU 10 41 (bt 11 13) ?_
       refine pU 11 42 (bt 12 13) ?_
       refine pV 12 43 (bt 13 13) ?_
       refine done_ (done_of HT_.out kr) ?_
       try go_wp2
       go_roundg k2
       case measure => have := HK1.out; have := HK2.out; omega
       case rel => exact ⟨(wrap64 (x5_1 - 1)), (x252004_1), (x253000_1), (x253001_1), (x253002_1), (x253003_1), (x253004_1), (x253005_1), (x253006_1), Q2, H', ⟨u9_14⟩, ⟨u9_4⟩, ⟨u9_5⟩, ⟨u9_6⟩, ⟨u9_2⟩, ⟨u9_3⟩, ⟨u9_0⟩, ⟨Q1⟩⟩
     rw [if_pos c21] at H
     have c21b0 : decide (a1 < (wrap64 (2 * x6_2))) = true := decide_eq_true c21
     clear c21
     replace H := Option.bind_eq_some_iff.mp H
     obtain ⟨t255, A220, H⟩ := H
     have A22 := am A220
     clear A220
     have H9 := am H
     clear H
     try go_wp2
     replace HO_252007 := am (Kd.R_drew HO_252007.out)
     replace HO_252008 := am (Kd.R_drew HO_252008.out)
     replace HO_252009 := am (Kd.R_drew HO_252009.out)
     replace BK251 := am (blk_drew BK251.out)
     replace BK252 := am (blk_drew BK252.out)
     replace HK := am (Kept.drew HK.out)
     replace HB := am (below_drew1 HB.out)
     refine start_ (n := 13) (S := fun w' => w'.cell? ⟨gb251, 0, none⟩ = some (.int .i64 a0_0) ∧ w'.cell? ⟨gb251, 1, none⟩ = some (.int .i64 a0_1) ∧ w'.cell? ⟨gb251, 2, none⟩ = some (.int .i64 a0_2) ∧ w'.cell? ⟨gb251, 3, none⟩ = some (.int .i64 a0_3) ∧ w'.cell? ⟨gb251, 4, none⟩ = some (.int .i64 x252004_1) ∧ w'.cell? ⟨gb251, 5, none⟩ = some (.int .i64 a0_5) ∧ w'.cell? ⟨gb251, 6, none⟩ = some (.int .i64 a0_6) ∧ w'.cell? ⟨gb251, 7, none⟩ = some (.slice Ao4 l0_7.length co4) ∧ w'.cell? ⟨gb251, 8, none⟩ = some (.slice Ao5 l0_8.length co5) ∧ w'.cell? ⟨gb251, 9, none⟩ = some (.slice Ao6 l0_9.length co6)) (ds := []) #[false, false, false, false, false, false, false, false, false, false, false, false, false] kr rfl rfl ⟨(blk_cell BK251.out 0).trans rfl, (blk_cell BK251.out 1).trans rfl, (blk_cell BK251.out 2).trans rfl, (blk_cell BK251.out 3).trans rfl, (blk_cell BK251.out 4).trans rfl, (blk_cell BK251.out 5).trans rfl, (blk_cell BK251.out 6).trans rfl, (blk_cell BK251.out 7).trans rfl, (blk_cell BK251.out 8).trans rfl, (blk_cell BK251.out 9).trans rfl⟩ (fun hHeld => ?_); refine with_tabW spec_l07Commit.tab10 spec_l07Commit.bits10 (fun HT_ HW_ => ?_)
     generalize wr.drew = w23 at HO_252007 HO_252008 HO_252009 BK251 BK252 HK HB hHeld ⊢
     refine pV 0 31 (bt 1 13) ?_
     refine pV 1 32 (bt 2 13) ?_
     refine pV 2 33 (bt 3 13) ?_
     refine pV 3 34 (bt 4 13) ?_
     refine pV 4 35 (bt 5 13) ?_
     refine pV 5 36 (bt 6 13) ?_
     refine pV 7 38 #[true, true, true, true, true, true, false, true, false, false, false, false, false] ?_
     refine pV 9 40 #[true, true, true, true, true, true, false, true, false, true, false, false, false] ?_
     refine tV 6 37 #[true, true, true, true, true, true, true, true, false, true, false, false, false] ?_
     refine tV 10 41 #[true, true, true, true, true, true, true, true, false, true, true, false, false] ?_
     refine one_ (i := 8) (N := some 39) #[true, true, true, true, true, true, true, true, true, true, true, false, false] rfl rfl (one_of HT_.out kr) (by decide) (fun K hK => ?_)
     refine goes_ Try.func73 kr rfl #[.agg #[.int .i64 a0_5, .int .i64 a0_6, .slice Ao4 l0_7.length co4], .int .i64 x5_1] (by rfl) rfl rfl Q3 ?_
     with_reducible refine (spec_TermAt.calls k2 a0_5 a0_6 _ _ l0_7 x5_1 t255 _ ?side1 ?side2 A22.out).mono ?_
     (case side1 => exact (by repeat (first | exact (Kd.R_reads' HO_252007.out).2.2 | (with_reducible refine Kd.C_alloc ?_ _) | (with_reducible refine Kd.C_drewN ?_ _) | (with_reducible refine Kd.C_drew ?_))))
     (case side2 => exact (Kd.R_reads' HO_252007.out).2.1)
     rintro e w24 ⟨rfl, hb⟩
     refine ⟨_, rfl, ?_⟩
     replace HO_252007 := am (Kd.R_below u9_4 hb)
     replace HO_252008 := am (Kd.R_below u9_5 hb)
     replace HO_252009 := am (Kd.R_below u9_6 hb)
     replace BK251 := am (blk_below (g := gb251) (o := .cells #[.int .i64 a0_0, .int .i64 a0_1, .int .i64 a0_2, .int .i64 a0_3, .int .i64 x252004_1, .int .i64 a0_5, .int .i64 a0_6, .slice Ao4 l0_7.length co4, .slice Ao5 l0_8.length co5, .slice Ao6 l0_9.length co6] 37 (0, 0)) u9_2 hb)
     replace BK252 := am (blk_below (g := gb252) (o := .cells #[.int .i64 x253000_1, .int .i64 x253001_1, .int .i64 x253002_1, .int .i64 x253003_1, .int .i64 x253004_1, .int .i64 x253005_1, .int .i64 x253006_1, .slice none 0 0, .slice none 0 0, .slice none 0 0] 37 (0, 0)) u9_3 hb)
     replace HK := am (Kept.below (S := (fun k_ => P0_7_ k_ ∨ P0_8_ k_ ∨ P0_9_ k_)) u9_0 hb)
     replace HB := am (below_step Q1 hb)
     (try clear hb)
     (try clear hb2)
     (try clear hk)
     (try clear hi)
     refine hK.out _ _ ⟨(blk_cell BK251.out 0).trans rfl, (blk_cell BK251.out 1).trans rfl, (blk_cell BK251.out 2).trans rfl, (blk_cell BK251.out 3).trans rfl, (blk_cell BK251.out 4).trans rfl, (blk_cell BK251.out 5).trans rfl, (blk_cell BK251.out 6).trans rfl, (blk_cell BK251.out 7).trans rfl, (blk_cell BK251.out 8).trans rfl, (blk_cell BK251.out 9).trans rfl⟩ (fun hHeld => ?_)
     clear hK K
     refine norm_ (a' := ?_) ?_ ?_
     rotate_left
     · show Act.put _ (some 39) _ = _
       simp only [Act.put, la, lb, lc, i64_w, i32_w]
       rfl
     refine pV 11 42 (bt 12 13) ?_
     refine pV 12 43 (bt 13 13) ?_
     refine done_ (done_of HT_.out kr) ?_
     go_upto_if 43 with (fail)
     have H := H9.out
     clear H9
     by_cases c25 : t255 = a0_1
     rotate_left
     · rw [if_neg c25] at H
       have c25b0 : (t255 == a0_1) = false := beq_eq_false_iff_ne.mpr c25
       have c25b1 : (t255 != a0_1) = true := bne_iff_ne.mpr c25
       (first | rw [c25b0] | (simp only [i64_w, i32_w]; rw [c25b0]) | skip)
       have H' := am H
       clear H
       go_wp2
       go_roundg k2
       case measure => have := HK1.out; have := HK2.out; omega
       case rel => exact ⟨(wrap64 (x5_1 - 1)), (x252004_1), (x253000_1), (x253001_1), (x253002_1), (x253003_1), (x253004_1), (x253005_1), (x253006_1), Q2, H', ⟨u9_14⟩, ⟨u9_4⟩, ⟨u9_5⟩, ⟨u9_6⟩, ⟨u9_2⟩, ⟨u9_3⟩, ⟨u9_0⟩, ⟨Q1⟩⟩
     rw [if_pos c25] at H
     have c25b0 : (t255 == a0_1) = true := beq_iff_eq.mpr c25
     have c25b1 : (t255 != a0_1) = false := bne_eq_false_iff_eq.mpr c25
     clear c25
     (first | rw [c25b0] | (simp only [i64_w, i32_w]; rw [c25b0]) | skip)
     simp only [Option.some.injEq, Prod.mk.injEq] at H
     obtain ⟨rfl, rfl, rfl, rfl, rfl, rfl, rfl, rfl, rfl, rfl⟩ := H
     have hnb26 := NB251_252.out
     have hnc26 := NB252_251.out
     obtain ⟨hcz27_0, hcz27_1, hcz27_2, hcz27_3, hcz27_4, hcz27_5, hcz27_6, hcz27_7, hcz27_8, hcz27_9, hfz27_0, hfz27_1, hfz27_2, hfz27_3, hfz27_4, hfz27_5, hfz27_6, hfz27_7, hfz27_8, hfz27_9⟩ := bc10f w24 BK251.out
     obtain ⟨hcz28_0, hcz28_1, hcz28_2, hcz28_3, hcz28_4, hcz28_5, hcz28_6, hcz28_7, hcz28_8, hcz28_9, hfz28_0, hfz28_1, hfz28_2, hfz28_3, hfz28_4, hfz28_5, hfz28_6, hfz28_7, hfz28_8, hfz28_9⟩ := bc10f w24 BK252.out
     go_wp2
     refine bodyPost_ret (results_cell_row rfl _ _ gb252 37 #[.int .i64 a0_0, .int .i64 a0_1, .int .i64 a0_2, .int .i64 a0_3, .int .i64 x5_1, .int .i64 a0_5, .int .i64 a0_6, .slice Ao4 l0_7.length co4, .slice Ao5 l0_8.length co5, .slice Ao6 l0_9.length co6] (0, 0) _ rfl (by (with_reducible repeat (first | refine blk_drewN ?_ _ | refine blk_drew ?_ | refine blk_alloc ?_ _)); refine blk_put (cs := #[.int .i64 a0_0, .int .i64 a0_1, .int .i64 a0_2, .int .i64 a0_3, .int .i64 x5_1, .int .i64 a0_5, .int .i64 a0_6, .slice Ao4 l0_7.length co4, .slice Ao5 l0_8.length co5, .slice none 0 0]) ?_ 9 _ rfl; (with_reducible repeat (first | refine blk_drewN ?_ _ | refine blk_drew ?_ | refine blk_alloc ?_ _)); refine blk_put (cs := #[.int .i64 a0_0, .int .i64 a0_1, .int .i64 a0_2, .int .i64 a0_3, .int .i64 x5_1, .int .i64 a0_5, .int .i64 a0_6, .slice Ao4 l0_7.length co4, .slice none 0 0, .slice none 0 0]) ?_ 8 _ rfl; (with_reducible repeat (first | refine blk_drewN ?_ _ | refine blk_drew ?_ | refine blk_alloc ?_ _)); refine blk_put (cs := #[.int .i64 a0_0, .int .i64 a0_1, .int .i64 a0_2, .int .i64 a0_3, .int .i64 x5_1, .int .i64 a0_5, .int .i64 a0_6, .slice none 0 0, .slice none 0 0, .slice none 0 0]) ?_ 7 _ rfl; (with_reducible repeat (first | refine blk_drewN ?_ _ | refine blk_drew ?_ | refine blk_alloc ?_ _)); refine blk_put (cs := #[.int .i64 a0_0, .int .i64 a0_1, .int .i64 a0_2, .int .i64 a0_3, .int .i64 x5_1, .int .i64 a0_5, .int .i64 x253006_1, .slice none 0 0, .slice none 0 0, .slice none 0 0]) ?_ 6 _ rfl; (with_reducible repeat (first | refine blk_drewN ?_ _ | refine blk_drew ?_ | refine blk_alloc ?_ _)); refine blk_put (cs := #[.int .i64 a0_0, .int .i64 a0_1, .int .i64 a0_2, .int .i64 a0_3, .int .i64 x5_1, .int .i64 x253005_1, .int .i64 x253006_1, .slice none 0 0, .slice none 0 0, .slice none 0 0]) ?_ 5 _ rfl; (with_reducible repeat (first | refine blk_drewN ?_ _ | refine blk_drew ?_ | refine blk_alloc ?_ _)); refine blk_put (cs := #[.int .i64 a0_0, .int .i64 a0_1, .int .i64 a0_2, .int .i64 a0_3, .int .i64 x253004_1, .int .i64 x253005_1, .int .i64 x253006_1, .slice none 0 0, .slice none 0 0, .slice none 0 0]) ?_ 4 _ rfl; (with_reducible repeat (first | refine blk_drewN ?_ _ | refine blk_drew ?_ | refine blk_alloc ?_ _)); refine blk_put (cs := #[.int .i64 a0_0, .int .i64 a0_1, .int .i64 a0_2, .int .i64 x253003_1, .int .i64 x253004_1, .int .i64 x253005_1, .int .i64 x253006_1, .slice none 0 0, .slice none 0 0, .slice none 0 0]) ?_ 3 _ rfl; (with_reducible repeat (first | refine blk_drewN ?_ _ | refine blk_drew ?_ | refine blk_alloc ?_ _)); refine blk_put (cs := #[.int .i64 a0_0, .int .i64 a0_1, .int .i64 x253002_1, .int .i64 x253003_1, .int .i64 x253004_1, .int .i64 x253005_1, .int .i64 x253006_1, .slice none 0 0, .slice none 0 0, .slice none 0 0]) ?_ 2 _ rfl; (with_reducible repeat (first | refine blk_drewN ?_ _ | refine blk_drew ?_ | refine blk_alloc ?_ _)); refine blk_put (cs := #[.int .i64 a0_0, .int .i64 x253001_1, .int .i64 x253002_1, .int .i64 x253003_1, .int .i64 x253004_1, .int .i64 x253005_1, .int .i64 x253006_1, .slice none 0 0, .slice none 0 0, .slice none 0 0]) ?_ 1 _ rfl; (with_reducible repeat (first | refine blk_drewN ?_ _ | refine blk_drew ?_ | refine blk_alloc ?_ _)); refine blk_put (cs := #[.int .i64 x253000_1, .int .i64 x253001_1, .int .i64 x253002_1, .int .i64 x253003_1, .int .i64 x253004_1, .int .i64 x253005_1, .int .i64 x253006_1, .slice none 0 0, .slice none 0 0, .slice none 0 0]) ?_ 0 _ rfl; (with_reducible repeat (first | refine blk_drewN ?_ _ | refine blk_drew ?_ | refine blk_alloc ?_ _)); refine blk_far ?_ NB252_251.out _; (with_reducible repeat (first | refine blk_drewN ?_ _ | refine blk_drew ?_ | refine blk_alloc ?_ _)); exact BK252.out) Try.underlying37 rfl kr) rfl ?_
     exact ⟨_, _, _, er, (by (with_reducible repeat (first | apply Kd.R_alloc | apply Kd.R_drewN | apply Kd.R_drew)); exact Kd.R_mono (Kd.R_far (p := ⟨gb252, 9, none⟩) (Kd.R_far (p := ⟨gb252, 8, none⟩) (Kd.R_far (p := ⟨gb252, 7, none⟩) (Kd.R_far (p := ⟨gb252, 6, none⟩) (Kd.R_far (p := ⟨gb252, 5, none⟩) (Kd.R_far (p := ⟨gb252, 4, none⟩) (Kd.R_far (p := ⟨gb252, 3, none⟩) (Kd.R_far (p := ⟨gb252, 2, none⟩) (Kd.R_far (p := ⟨gb252, 1, none⟩) (Kd.R_far (p := ⟨gb252, 0, none⟩) (Kd.R_far (p := ⟨gb251, 4, none⟩) (Kd.R_types (Kd.R_types HO_252007.out BK251.out (by decide)) BK252.out (by decide)) (fun _ hk => hk.1.2) (.int .i64 x5_1)) (fun _ hk => hk.2) (.int .i64 a0_0)) (fun _ hk => hk.2) (.int .i64 a0_1)) (fun _ hk => hk.2) (.int .i64 a0_2)) (fun _ hk => hk.2) (.int .i64 a0_3)) (fun _ hk => hk.2) (.int .i64 x5_1)) (fun _ hk => hk.2) (.int .i64 a0_5)) (fun _ hk => hk.2) (.int .i64 a0_6)) (fun _ hk => hk.2) (.slice Ao4 l0_7.length co4)) (fun _ hk => hk.2) (.slice Ao5 l0_8.length co5)) (fun _ hk => hk.2) (.slice Ao6 l0_9.length co6)) (fun _ hk => hk.1.1)), (by (with_reducible repeat (first | apply Kd.R_alloc | apply Kd.R_drewN | apply Kd.R_drew)); exact Kd.R_mono (Kd.R_far (p := ⟨gb252, 9, none⟩) (Kd.R_far (p := ⟨gb252, 8, none⟩) (Kd.R_far (p := ⟨gb252, 7, none⟩) (Kd.R_far (p := ⟨gb252, 6, none⟩) (Kd.R_far (p := ⟨gb252, 5, none⟩) (Kd.R_far (p := ⟨gb252, 4, none⟩) (Kd.R_far (p := ⟨gb252, 3, none⟩) (Kd.R_far (p := ⟨gb252, 2, none⟩) (Kd.R_far (p := ⟨gb252, 1, none⟩) (Kd.R_far (p := ⟨gb252, 0, none⟩) (Kd.R_far (p := ⟨gb251, 4, none⟩) (Kd.R_types (Kd.R_types HO_252008.out BK251.out (by decide)) BK252.out (by decide)) (fun _ hk => hk.1.2) (.int .i64 x5_1)) (fun _ hk => hk.2) (.int .i64 a0_0)) (fun _ hk => hk.2) (.int .i64 a0_1)) (fun _ hk => hk.2) (.int .i64 a0_2)) (fun _ hk => hk.2) (.int .i64 a0_3)) (fun _ hk => hk.2) (.int .i64 x5_1)) (fun _ hk => hk.2) (.int .i64 a0_5)) (fun _ hk => hk.2) (.int .i64 a0_6)) (fun _ hk => hk.2) (.slice Ao4 l0_7.length co4)) (fun _ hk => hk.2) (.slice Ao5 l0_8.length co5)) (fun _ hk => hk.2) (.slice Ao6 l0_9.length co6)) (fun _ hk => ⟨hk.1.1.1, hk.1.1.2⟩)), (by (with_reducible repeat (first | apply Kd.R_alloc | apply Kd.R_drewN | apply Kd.R_drew)); exact Kd.R_mono (Kd.R_far (p := ⟨gb252, 9, none⟩) (Kd.R_far (p := ⟨gb252, 8, none⟩) (Kd.R_far (p := ⟨gb252, 7, none⟩) (Kd.R_far (p := ⟨gb252, 6, none⟩) (Kd.R_far (p := ⟨gb252, 5, none⟩) (Kd.R_far (p := ⟨gb252, 4, none⟩) (Kd.R_far (p := ⟨gb252, 3, none⟩) (Kd.R_far (p := ⟨gb252, 2, none⟩) (Kd.R_far (p := ⟨gb252, 1, none⟩) (Kd.R_far (p := ⟨gb252, 0, none⟩) (Kd.R_far (p := ⟨gb251, 4, none⟩) (Kd.R_types (Kd.R_types HO_252009.out BK251.out (by decide)) BK252.out (by decide)) (fun _ hk => hk.1.2) (.int .i64 x5_1)) (fun _ hk => hk.2) (.int .i64 a0_0)) (fun _ hk => hk.2) (.int .i64 a0_1)) (fun _ hk => hk.2) (.int .i64 a0_2)) (fun _ hk => hk.2) (.int .i64 a0_3)) (fun _ hk => hk.2) (.int .i64 x5_1)) (fun _ hk => hk.2) (.int .i64 a0_5)) (fun _ hk => hk.2) (.int .i64 a0_6)) (fun _ hk => hk.2) (.slice Ao4 l0_7.length co4)) (fun _ hk => hk.2) (.slice Ao5 l0_8.length co5)) (fun _ hk => hk.2) (.slice Ao6 l0_9.length co6)) (fun _ hk => ⟨hk.1.1.1, hk.1.1.2⟩)), Q1, u9_0⟩

end Go.Proofs.Ytkcadcoohmofcaa.QFnExactPropose
