-- Printed by the session's own program wip/prx.py.
import Derived.Test.YtjdpifafijcpbaaDoorSqFnOnce
import Derived.Test.YtjdpifafijcpbaaDoorQFnOncex0
import Derived.Test.YtjdpifafijcpbaaDoorQFnOncex6
import Derived.Test.YtjdpifafijcpbaaDoorQFnOncex7
import Derived.Test.YtjdpifafijcpbaaDoorQFnOncex8
import Derived.Test.YtjdpifafijcpbaaDoorQFnOncex11
namespace Go.Proofs.YtjdpifafijcpbaaDoor.QFnOnce
open Go.RowKit Go.Proofs.YtjdpifafijcpbaaDoorW.PrintWords Go.Proofs.YtjdpifafijcpbaaDoorW.PrintLast Go.Proofs.YtjdpifafijcpbaaDoorW.PrintMore Go.Proofs.YtjdpifafijcpbaaDoor.SqFnOnce
attribute [local go_sem] max2_int min2_int max_two min_two max_three min_three max_four min_four Go.Proofs.YtjdpifafijcpbaaDoor.Set.isSome_setCell
set_option linter.unusedVariables false
set_option linter.unusedSimpArgs false

-- squeezed
theorem u12_4 {P : Prop} (h : P := by (with_reducible repeat (first | apply Kd.R_alloc | apply Kd.R_drewN | apply Kd.R_drew)); exact HO_5.out) : P := h
theorem u12_5 {P : Prop} (h : P := by repeat (first | (with_reducible first | exact HK.out | apply KeepBut.set_ | apply keep_drewN | apply keep_drew | apply keep_alloc | refine keep_far ?_ GW395.out _) | exact HK.out)) : P := h
theorem u12_8 {P : Prop} (h : P := by repeat (first | (with_reducible first | exact HB.out | apply below_alloc | apply pw_below_drewN | apply below_drew1 | refine below_set ?_ (IsS84.ge HI417.out) | refine below_set ?_ GE413.out) | exact HB.out)) : P := h
theorem u12_9 {P : Prop} (h : P := by (with_reducible repeat (first | refine blk_drewN ?_ _ | refine blk_drew ?_ | refine blk_alloc ?_ _)); exact BK413.out) : P := h
theorem u12_10 {P : Prop} (h : P := by repeat (first | (with_reducible first | exact HI0.out | apply IsS84.alloc | apply IsS84.drewN | apply IsS84.drew | apply IsS84.set_1 | apply IsS84.set_2 | refine IsS84.far ?_ NB0_395.out _) | exact HI0.out)) : P := h
theorem u12_11 {P : Prop} (h : P := by repeat (first | (with_reducible first | exact HB.out | apply below_alloc | apply pw_below_drewN | apply below_drew1 | refine below_set ?_ (IsS84.ge HI0.out) | refine below_set ?_ GE395.out) | exact HB.out)) : P := h
theorem u12_12 {P : Prop} (h : P := by (with_reducible repeat (first | refine blk_drewN ?_ _ | refine blk_drew ?_ | refine blk_alloc ?_ _)); exact BK395.out) : P := h
theorem u12_13 {P : Prop} (h : P := by repeat (first | (with_reducible first | exact HB.out | apply below_alloc | apply pw_below_drewN | apply below_drew1 | refine below_set ?_ (IsS84.ge HI417.out) | refine below_set ?_ GE413.out | refine below_set ?_ GE425.out) | exact HB.out)) : P := h
theorem u12_15 {P : Prop} (h : P := by repeat (first | (with_reducible first | exact HI417.out | apply IsS84.alloc | apply IsS84.drewN | apply IsS84.drew | apply IsS84.set_1 | apply IsS84.set_2 | refine IsS84.far ?_ NB417_413.out _) | exact HI417.out)) : P := h
theorem u12_16 {P : Prop} (h : P := by (with_reducible repeat (first | apply Kd.R_alloc | apply Kd.R_drewN | apply Kd.R_drew)); exact HO348.out) : P := h
theorem u12_18 {P : Prop} (h : P := by repeat (first | exact (Kd.C_below HR0.out HB.out) | (with_reducible refine Kd.C_alloc ?_ _) | (with_reducible refine Kd.C_drewN ?_ _) | (with_reducible refine Kd.C_drew ?_))) : P := h
theorem u12_22 {P : Prop} (h : P := by (with_reducible repeat (first | apply Kd.R_alloc | apply Kd.R_drewN | apply Kd.R_drew)); exact HO351.out) : P := h
theorem u12_23 {P : Prop} (h : P := by (with_reducible repeat (first | apply Kd.R_alloc | apply Kd.R_drewN | apply Kd.R_drew)); exact HO365.out) : P := h
theorem u12_24 {P : Prop} (h : P := by (with_reducible repeat (first | apply Kd.R_alloc | apply Kd.R_drewN | apply Kd.R_drew)); exact HO377.out) : P := h
theorem u12_25 {P : Prop} (h : P := by (with_reducible repeat (first | apply Kd.R_alloc | apply Kd.R_drewN | apply Kd.R_drew)); exact HO388.out) : P := h
theorem u12_26 {P : Prop} (h : P := by (with_reducible repeat (first | apply Kd.R_alloc | apply Kd.R_drewN | apply Kd.R_drew)); exact HO401.out) : P := h
theorem u12_27 {P : Prop} (h : P := by (with_reducible repeat (first | apply Kd.R_alloc | apply Kd.R_drewN | apply Kd.R_drew)); exact HO422.out) : P := h
/-! ### spec_l01PickText: function 61 -/
def spec_l01PickText.f (s0_0 : List Int) (s0_1 : Int) (s0_2 : Int) (l1 : List ByteArray) : Option (ByteArray × Int × Int) := (spec_l01Below.f s0_0 s0_1 s0_2 (l1.length : Int)).bind fun bt342 => (if 0 ≤ bt342.1 then (if bt342.1 < (l1.length : Int) then (some (rdOf ByteArray.empty l1 bt342.1, bt342.2.1, bt342.2.2)) else (none)) else (none))
set_option maxHeartbeats 8000000 in
set_option maxRecDepth 100000 in
theorem spec_l01PickText.calls (g : Nat) (s0_0 : List Int) (s0_1 : Int) (s0_2 : Int) (A1 : Option Addr) (c1 : Nat) (l1 : List ByteArray) (r1 : ByteArray) (r2 : Int) (r3 : Int) (w0 w : World) (hI : IsS84 w0 w g s0_0 s0_1 s0_2) (hB : Below w0.heap.size w0 w) (hr1 : Kd.C Kd.string w A1 l1.length l1) (hc1 : l1.length ≤ c1) (hf1 : ∀ ad, A1 = some ad → 0 < l1.length → ad.block ≠ g) (h : spec_l01PickText.f s0_0 s0_1 s0_2 l1 = some (r1, r2, r3)) :
   Calls Tryd.prog 61 #[.pointer (some ⟨g, 0, none⟩), .slice A1 l1.length c1] w fun e w' => e = .returned (.string r1) ∧ IsS84 w0 w' g s0_0 r2 r3 ∧ Below w0.heap.size w0 w' ∧ KeepBut w w' g none := by
 have HR1 := am hr1
 have HC1 := am hc1
 clear hr1 hc1
 have HI0 := am hI
 have HK := am (KeepBut.refl w g none)
 have HL := am hB.size
 clear hI
 have HW0 := am hB.size
 have HB := am hB
 clear hB
 have H : ((spec_l01Below.f s0_0 s0_1 s0_2 (l1.length : Int)).bind fun bt342 => (if 0 ≤ bt342.1 then (if bt342.1 < (l1.length : Int) then (some (rdOf ByteArray.empty l1 bt342.1, bt342.2.1, bt342.2.2)) else (none)) else (none))) = some (r1, r2, r3) := h
 clear h
 replace H := Option.bind_eq_some_iff.mp H
 obtain ⟨⟨t342, t343, t344⟩, A30, H⟩ := H
 (try dsimp only at H)
 have A3 := am A30
 clear A30
 by_cases c4 : 0 ≤ t342
 rotate_left
 · rw [if_neg c4] at H
   exact absurd H (by simp)
 rw [if_pos c4] at H
 have c4b0 : decide (0 ≤ t342) = true := decide_eq_true c4
 clear c4
 by_cases c5 : t342 < (l1.length : Int)
 rotate_left
 · rw [if_neg c5] at H
   exact absurd H (by simp)
 rw [if_pos c5] at H
 have c5b0 : decide (t342 < (l1.length : Int)) = true := decide_eq_true c5
 clear c5
 simp only [Option.some.injEq, Prod.mk.injEq] at H
 obtain ⟨rfl, rfl, rfl⟩ := H
 go_enter Tryd.func61, Tryd.ntmps61
 go_wp2_with (first | ((with_reducible refine gate_callee (f := 59) rfl ?_); refine goesL_ (some 9) rfl rfl Tryd.func59 kr rfl #[.pointer (some ⟨g, 0, none⟩), .int .i64 (l1.length : Int)] rfl q1 ?_; (with_reducible refine (spec_l01Below.calls g s0_0 s0_1 s0_2 (l1.length : Int) t342 t343 t344 w0 _ ?side1 ?side2 A3.out).mono ?_); (case side1 => exact q9); (case side2 => exact q7); rintro e w6 ⟨rfl, hi, hb, hk⟩; refine ⟨_, rfl, ?_⟩; replace HK := am (KeepBut.trans q8 hk (.inl rfl)); replace HB := am (hb); replace HI0 := am (hi); (try clear hb); (try clear hb2); (try clear hk); (try clear hi); have p345 : 0 ≤ (t342 : Int) := of_decide_eq_true q3; have q345 : t342 < (l1.length : Int) := of_decide_eq_true q3; obtain ⟨ad345, e345, hx345_0⟩ := Kd.at_string HR1.out t342 p345 q345; cases e345; replace hx345_0 := keep_cell HK.out hx345_0 (by first | (rw [add_block]; exact hf1 _ rfl (by omega)) | exact hf1 _ rfl (by omega) | exact hf1 ad345 rfl (by omega)); replace p345 := eq_true p345; replace q345 := eq_true q345))
 go_ret
 exact ⟨er, q9, q7, q8⟩

/-! ### spec_l09DrawCalls: function 46 -/
def spec_l09DrawCalls.l0 : Nat → List (S50) → List Int → Int → List Int → Int → Int → Option ((List (S50)) × Int × Int)
 | 0, _, _, _, _, _, _ => none
 | k + 1, x5, x6, x7, x1000, x1001, x1002 => if x7 > 0 then ((spec_l01Below.f x1000 x1001 x1002 6).bind fun bt356 => (if 0 ≤ bt356.1 then (if bt356.1 < (x6.length : Int) then ((spec_l01Below.f x1000 bt356.2.1 bt356.2.2 6).bind fun bt360 => (if bt360.1 = 0 then ((spec_l01PickText.f x1000 bt360.2.1 bt360.2.2 (([(⟨#[111, 107]⟩ : ByteArray), (⟨#[110, 111]⟩ : ByteArray), (⟨#[]⟩ : ByteArray), (⟨#[55]⟩ : ByteArray)] : List ByteArray))).bind fun bt366 => (if x5.length < 4398046511104 then (spec_l09DrawCalls.l0 k (x5 ++ [(⟨wrap64 (3 + bt356.1), wrap64 ((rd x6 bt356.1) - 1), bt366.1⟩ : S50)]) x6 (wrap64 (x7 - 1)) x1000 bt366.2.1 bt366.2.2) else (none))) else (if bt360.1 = 1 then ((spec_l01Below.f x1000 bt360.2.1 bt360.2.2 3).bind fun bt372 => ((spec_l01PickText.f x1000 bt372.2.1 bt372.2.2 (([(⟨#[111, 107]⟩ : ByteArray), (⟨#[110, 111]⟩ : ByteArray), (⟨#[]⟩ : ByteArray), (⟨#[55]⟩ : ByteArray)] : List ByteArray))).bind fun bt378 => (if x5.length < 4398046511104 then (spec_l09DrawCalls.l0 k (x5 ++ [(⟨wrap64 (3 + bt356.1), wrap64 ((wrap64 ((rd x6 bt356.1) + bt372.1)) - 1), bt378.1⟩ : S50)]) x6 (wrap64 (x7 - 1)) x1000 bt378.2.1 bt378.2.2) else (none)))) else ((spec_l01PickText.f x1000 bt360.2.1 bt360.2.2 (([(⟨#[111, 107]⟩ : ByteArray), (⟨#[110, 111]⟩ : ByteArray), (⟨#[]⟩ : ByteArray), (⟨#[55]⟩ : ByteArray)] : List ByteArray))).bind fun bt389 => (if x5.length < 4398046511104 then (spec_l09DrawCalls.l0 k (x5 ++ [(⟨wrap64 (3 + bt356.1), rd x6 bt356.1, bt389.1⟩ : S50)]) (x6.set (bt356.1 : Int).toNat (wrap64 ((rd x6 bt356.1) + 1))) (wrap64 (x7 - 1)) x1000 bt389.2.1 bt389.2.2) else (none)))))) else (none)) else (none))) else (some (x5, x1001, x1002))
def spec_l09DrawCalls.f (k : Nat) (s0_0 : List Int) (s0_1 : Int) (s0_2 : Int) (l1 : List Int) : Option ((List (S50)) × Int × Int) := (spec_l01Size.f l1 18).bind fun t352 => ((spec_l01Below.f s0_0 s0_1 s0_2 (wrap64 (2 + t352))).bind fun bt353 => (spec_l09DrawCalls.l0 k (([] : List (S50))) (([1, 1, 1, 1, 1, 1] : List Int)) bt353.1 s0_0 bt353.2.1 bt353.2.2))
theorem spec_l09DrawCalls.mono_l : ∀ k, (∀ y0 y1 y2 y3 y4 y5, LeO (spec_l09DrawCalls.l0 k y0 y1 y2 y3 y4 y5) (spec_l09DrawCalls.l0 (k + 1) y0 y1 y2 y3 y4 y5))
 | 0 => fun _ _ _ _ _ _ r h => by simp [spec_l09DrawCalls.l0] at h
 | k + 1 => by
   have ih0 := spec_l09DrawCalls.mono_l k
   · intro y0 y1 y2 y3 y4 y5
     unfold spec_l09DrawCalls.l0
     repeat' first
     | (with_reducible exact ih0 _ _ _ _ _ _)
     | (with_reducible exact LeO.refl _)
     | (with_reducible exact LeO.none _)
     | (with_reducible refine LeO.ite ?_ ?_)
     | (with_reducible refine LeO.bind ?_ (fun _ => ?_))
     | exact ih0 _ _ _ _ _ _
     | exact LeO.none _
     | refine LeO.ite ?_ ?_
     | refine LeO.bind ?_ (fun _ => ?_)
theorem spec_l09DrawCalls.mono : ∀ a0 a1 a2 a3 k, LeO (spec_l09DrawCalls.f k a0 a1 a2 a3) (spec_l09DrawCalls.f (k + 1) a0 a1 a2 a3) := by
 intro a0 a1 a2 a3 k
 have ih0 := spec_l09DrawCalls.mono_l k
 unfold spec_l09DrawCalls.f
 repeat' first
     | (with_reducible exact ih0 _ _ _ _ _ _)
     | (with_reducible exact LeO.refl _)
     | (with_reducible exact LeO.none _)
     | (with_reducible refine LeO.ite ?_ ?_)
     | (with_reducible refine LeO.bind ?_ (fun _ => ?_))
     | exact ih0 _ _ _ _ _ _
     | exact LeO.none _
     | refine LeO.ite ?_ ?_
     | refine LeO.bind ?_ (fun _ => ?_)
set_option maxHeartbeats 8000000 in
set_option maxRecDepth 100000 in
theorem spec_l09DrawCalls.calls (k : Nat) (g : Nat) (s0_0 : List Int) (s0_1 : Int) (s0_2 : Int) (A1 : Option Addr) (c1 : Nat) (l1 : List Int) (r1 : List (S50)) (r2 : Int) (r3 : Int) (w0 w : World) (hI : IsS84 w0 w g s0_0 s0_1 s0_2) (hB : Below w0.heap.size w0 w) (hr1 : Kd.C (Kd.int .u8) w A1 l1.length l1) (hc1 : l1.length ≤ c1) (hf1 : ∀ ad, A1 = some ad → 0 < l1.length → ad.block ≠ g) (h : spec_l09DrawCalls.f k s0_0 s0_1 s0_2 l1 = some (r1, r2, r3)) :
   Calls Tryd.prog 46 #[.pointer (some ⟨g, 0, none⟩), .slice A1 l1.length c1] w fun e w' => ∃ v0_ : Value, e = .returned (v0_) ∧ Kd.R k50 50 w' w.heap.size (fun _ => True) v0_ r1 ∧ IsS84 w0 w' g s0_0 r2 r3 ∧ Below w0.heap.size w0 w' ∧ KeepBut w w' g none := by
 have hu50 := Tryd.underlying50
 have HR1 := am hr1
 have HC1 := am hc1
 clear hr1 hc1
 have HI0 := am hI
 have HK := am (KeepBut.refl w g none)
 have HL := am hB.size
 clear hI
 have HW0 := am hB.size
 have HB := am hB
 clear hB
 have H : ((spec_l01Size.f l1 18).bind fun t352 => ((spec_l01Below.f s0_0 s0_1 s0_2 (wrap64 (2 + t352))).bind fun bt353 => (spec_l09DrawCalls.l0 k (([] : List (S50))) (([1, 1, 1, 1, 1, 1] : List Int)) bt353.1 s0_0 bt353.2.1 bt353.2.2))) = some (r1, r2, r3) := h
 clear h
 obtain ⟨y346, hy346⟩ : ∃ y_ : List (S50), y_ = (([] : List (S50))) := ⟨_, rfl⟩
 replace H : ((spec_l01Size.f l1 18).bind fun t352 => ((spec_l01Below.f s0_0 s0_1 s0_2 (wrap64 (2 + t352))).bind fun bt353 => (spec_l09DrawCalls.l0 k y346 (([1, 1, 1, 1, 1, 1] : List Int)) bt353.1 s0_0 bt353.2.1 bt353.2.2))) = some (r1, r2, r3) := by first | (rw [hy346]; with_reducible exact H) | (have H2_ := (Option.bind_some _ _).symm.trans H; rw [hy346]; with_reducible exact H2_) | (have H2_ := (Option.bind_some _ _).symm.trans H; with_reducible exact H2_) | with_reducible exact H | (rw [hy346]; exact H) | exact H
 have Ny346 := am hy346
 clear hy346
 obtain ⟨y349, hy349⟩ : ∃ y_ : List Int, y_ = (([1, 1, 1, 1, 1, 1] : List Int)) := ⟨_, rfl⟩
 replace H : ((spec_l01Size.f l1 18).bind fun t352 => ((spec_l01Below.f s0_0 s0_1 s0_2 (wrap64 (2 + t352))).bind fun bt353 => (spec_l09DrawCalls.l0 k y346 y349 bt353.1 s0_0 bt353.2.1 bt353.2.2))) = some (r1, r2, r3) := by first | (rw [hy349]; with_reducible exact H) | (have H2_ := (Option.bind_some _ _).symm.trans H; rw [hy349]; with_reducible exact H2_) | (have H2_ := (Option.bind_some _ _).symm.trans H; with_reducible exact H2_) | with_reducible exact H | (rw [hy349]; exact H) | exact H
 have Ny349 := am hy349
 clear hy349
 replace H := Option.bind_eq_some_iff.mp H
 obtain ⟨t352, A30, H⟩ := H
 have A3 := am A30
 clear A30
 replace H := Option.bind_eq_some_iff.mp H
 obtain ⟨⟨t353, t354, t355⟩, A40, H⟩ := H
 replace H : (spec_l09DrawCalls.l0 k y346 y349 t353 s0_0 t354 t355) = some (r1, r2, r3) := H
 have A4 := am A40
 clear A40
 have H' := am H
 clear H
 go_enter Tryd.func46, Tryd.ntmps46
 go_wp2_with (first | ((with_reducible refine gate_dst (N := 10) rfl ?_); refine Kd.R_lit k50 _ 50 ?hg (N := 10) ?hd (xs := ([] : List (S50))) (inner := []) (ok := fun _ => True) (okp := fun _ => True) ?hr ?hp (fun _ hk => hk) trivial (Below.refl _ _) (Nat.le_refl _) (by simp) ?_; (case hd => rfl); (case hg => rfl); (case hr => first | (go_simp; done) | (go_simp; rfl)); (case hp => exact (Reps.none _ _)); intro v347 w5 ho6 hb hg_ hnew_; clear hg_ hnew_; (first | rw [← Ny346.out] at ho6 | (simp only [Int.reduceToNat] at ho6; rw [← Ny346.out] at ho6)); have HO348 := am (Kd.R_lower ho6 (keep_size (w := w) (g := g) (row := none) q8)); replace HK := am (KeepBut.trans q8 (KeepBut.of_below hb g none) (.inl rfl)); replace HB := am (below_step q7 hb); replace HI0 := am (IsS84.below q9 hb); clear hb ho6) | ((with_reducible refine gate_dst (N := 11) rfl ?_); refine Kd.R_lit (Kd.int .i64) _ 3 ?hg (N := 11) ?hd (xs := ([1, 1, 1, 1, 1, 1] : List Int)) (inner := [.int .i64 1, .int .i64 1, .int .i64 1, .int .i64 1, .int .i64 1, .int .i64 1]) (ok := fun _ => True) (okp := fun _ => True) ?hr ?hp (fun _ hk => hk) trivial (Below.refl _ _) (Nat.le_refl _) (by simp) ?_; (case hd => rfl); (case hg => rfl); (case hr => first | (go_simp; done) | (go_simp; rfl)); (case hp => exact (Reps.one (show Kd.M (Kd.int .i64) _ _ _ 1 [.int .i64 1] from rfl) (Reps.one (show Kd.M (Kd.int .i64) _ _ _ 1 [.int .i64 1] from rfl) (Reps.one (show Kd.M (Kd.int .i64) _ _ _ 1 [.int .i64 1] from rfl) (Reps.one (show Kd.M (Kd.int .i64) _ _ _ 1 [.int .i64 1] from rfl) (Reps.one (show Kd.M (Kd.int .i64) _ _ _ 1 [.int .i64 1] from rfl) (Reps.one (show Kd.M (Kd.int .i64) _ _ _ 1 [.int .i64 1] from rfl) (Reps.none _ _)))))))); intro v350 w7 ho8 hb hg_ hnew_; clear hg_ hnew_; (first | rw [← Ny349.out] at ho8 | (simp only [Int.reduceToNat] at ho8; rw [← Ny349.out] at ho8)); replace HO348 := am (Kd.R_below u12_16 hb); have HO351 := am (Kd.R_lower ho8 (keep_size (w := w) (g := g) (row := none) q8)); replace HK := am (KeepBut.trans q8 (KeepBut.of_below hb g none) (.inl rfl)); replace HB := am (below_step q7 hb); replace HI0 := am (IsS84.below q9 hb); clear hb ho8) | ((with_reducible refine gate_callee (f := 60) rfl ?_); refine goesL_ (some 14) rfl rfl Tryd.func60 kr rfl #[.slice A1 l1.length c1, .int .i64 18] rfl q1 ?_; (with_reducible refine (spec_l01Size.calls _ _ l1 18 t352 _ ?side1 ?side2 A3.out).mono ?_); (case side1 => exact (by exact Kd.C_keep 0 HR1.out q8 hf1)); (case side2 => exact HC1.out); rintro e w' ⟨rfl, ⟨nd, rfl⟩⟩; refine ⟨_, rfl, ?_⟩) | ((with_reducible refine gate_callee (f := 59) rfl ?_); refine goesL_ (some 16) rfl rfl Tryd.func59 kr rfl #[.pointer (some ⟨g, 0, none⟩), .int .i64 (wrap64 (2 + t352))] rfl q1 ?_; (with_reducible refine (spec_l01Below.calls g s0_0 s0_1 s0_2 (wrap64 (2 + t352)) t353 t354 t355 w0 _ ?side1 ?side2 A4.out).mono ?_); (case side1 => exact q9); (case side2 => exact q7); rintro e w9 ⟨rfl, hi, hb, hk⟩; refine ⟨_, rfl, ?_⟩; replace HO348 := am (Kd.R_mono (Kd.R_keep (IsS84.apart (show IsS84 w0 _ g s0_0 s0_1 s0_2 from by repeat (first | (with_reducible first | exact HI0.out | apply IsS84.alloc | apply IsS84.drewN | apply IsS84.drew | apply IsS84.set_1 | apply IsS84.set_2) | exact HI0.out)) u12_16 (by decide)) hk (fun _ h => h.2)) (fun _ h => h.1)); replace HO351 := am (Kd.R_mono (Kd.R_keep (IsS84.apart (show IsS84 w0 _ g s0_0 s0_1 s0_2 from by repeat (first | (with_reducible first | exact HI0.out | apply IsS84.alloc | apply IsS84.drewN | apply IsS84.drew | apply IsS84.set_1 | apply IsS84.set_2) | exact HI0.out)) u12_22 (by decide)) hk (fun _ h => h.2)) (fun _ h => h.1)); replace HK := am (KeepBut.trans q8 hk (.inl rfl)); replace HB := am (hb); replace HI0 := am (hi); (try clear hb); (try clear hb2); (try clear hk); (try clear hi)))
 go_loopg [5, 7] k (fun kq v5 v7 w' => ∃ (x5_1 : List (S50)) (x6_1 : List Int) (x7_1 : Int) (x1001_1 : Int) (x1002_1 : Int), v7 = .int .i64 x7_1 ∧ Aside0 (spec_l09DrawCalls.l0 kq x5_1 x6_1 x7_1 s0_0 x1001_1 x1002_1 = some (r1, r2, r3)) ∧ Aside0 (kq ≤ k) ∧ Aside0 (Kd.R k50 50 w' w.heap.size (fun _ => True) v5 x5_1) ∧ Aside0 (Kd.R (Kd.int .i64) 3 w' w.heap.size (fun _ => True) v350 x6_1) ∧ Aside0 (IsS84 w0 w' g s0_0 x1001_1 x1002_1) ∧ Aside0 (KeepBut w w' g none) ∧ Aside0 (Below w0.heap.size w0 w'))
 case atStart => exact ⟨(y346), (y349), (t353), (t354), (t355), q4, H', ⟨Nat.le_refl _⟩, ⟨u12_16⟩, ⟨u12_22⟩, ⟨q9⟩, ⟨q8⟩, ⟨q7⟩⟩
 clear H'
 try clear c1
 obtain ⟨x5_1, x6_1, x7_1, x1001_1, x1002_1, rfl, HA, HK1, HO_5, HO_6, HI0, HK, HB⟩ := hrel
 cases gk with
 | zero => exact absurd HA.out (by simp [spec_l09DrawCalls.l0])
 | succ k1 =>
   have H := HA.out
   clear HA
   simp only [spec_l09DrawCalls.l0] at H
   by_cases c10 : x7_1 > 0
   rotate_left
   · rw [if_neg c10] at H
     have c10b0 : decide (0 < x7_1) = false := decide_eq_false c10
     clear c10
     simp only [Option.some.injEq, Prod.mk.injEq] at H
     obtain ⟨rfl, rfl, rfl⟩ := H
     go_wp2
     go_ret
     exact ⟨_, er, u12_4, q9, q7, q8⟩
   rw [if_pos c10] at H
   have c10b0 : decide (0 < x7_1) = true := decide_eq_true c10
   clear c10
   replace H := Option.bind_eq_some_iff.mp H
   obtain ⟨⟨t356, t357, t358⟩, A110, H⟩ := H
   (try dsimp only at H)
   have A11 := am A110
   clear A110
   by_cases c12 : 0 ≤ t356
   rotate_left
   · rw [if_neg c12] at H
     exact absurd H (by simp)
   rw [if_pos c12] at H
   have c12b0 : decide (0 ≤ t356) = true := decide_eq_true c12
   clear c12
   by_cases c13 : t356 < (x6_1.length : Int)
   rotate_left
   · rw [if_neg c13] at H
     exact absurd H (by simp)
   rw [if_pos c13] at H
   have c13b0 : decide (t356 < (x6_1.length : Int)) = true := decide_eq_true c13
   clear c13
   replace H := Option.bind_eq_some_iff.mp H
   obtain ⟨⟨t360, t361, t362⟩, A140, H⟩ := H
   (try dsimp only at H)
   have A14 := am A140
   clear A140
   have H9 := am H
   clear H
   go_upto_if 37 with (first | ((with_reducible refine gate_callee (f := 59) rfl ?_); refine goesL_ (some 22) rfl rfl Tryd.func59 kr rfl #[.pointer (some ⟨g, 0, none⟩), .int .i64 6] rfl q1 ?_; (with_reducible refine (spec_l01Below.calls g s0_0 x1001_1 x1002_1 6 t356 t357 t358 w0 _ ?side1 ?side2 A11.out).mono ?_); (case side1 => exact q9); (case side2 => exact q7); rintro e w15 ⟨rfl, hi, hb, hk⟩; refine ⟨_, rfl, ?_⟩; replace HO_5 := am (Kd.R_mono (Kd.R_keep (IsS84.apart (show IsS84 w0 _ g s0_0 x1001_1 x1002_1 from by repeat (first | (with_reducible first | exact HI0.out | apply IsS84.alloc | apply IsS84.drewN | apply IsS84.drew | apply IsS84.set_1 | apply IsS84.set_2) | exact HI0.out)) u12_4 (by decide)) hk (fun _ h => h.2)) (fun _ h => h.1)); replace HO_6 := am (Kd.R_mono (Kd.R_keep (IsS84.apart (show IsS84 w0 _ g s0_0 x1001_1 x1002_1 from by repeat (first | (with_reducible first | exact HI0.out | apply IsS84.alloc | apply IsS84.drewN | apply IsS84.drew | apply IsS84.set_1 | apply IsS84.set_2) | exact HI0.out)) q10 (by decide)) hk (fun _ h => h.2)) (fun _ h => h.1)); replace HK := am (KeepBut.trans q8 hk (.inl rfl)); replace HB := am (hb); replace HI0 := am (hi); (try clear hb); (try clear hb2); (try clear hk); (try clear hi); obtain ⟨Ao16, co16, eo16⟩ := Kd.R_slice HO_6.out; subst eo16; have p359 : 0 ≤ (t356 : Int) := of_decide_eq_true q3; have q359 : t356 < (x6_1.length : Int) := of_decide_eq_true q3; obtain ⟨ad359, e359, hx359_0⟩ := Kd.at_int (Kd.R_reads' HO_6.out).2.2 t356 p359 q359; cases e359; replace p359 := eq_true p359; replace q359 := eq_true q359) | ((with_reducible refine gate_callee (f := 59) rfl ?_); refine goesL_ (some 28) rfl rfl Tryd.func59 kr rfl #[.pointer (some ⟨g, 0, none⟩), .int .i64 6] rfl q1 ?_; (with_reducible refine (spec_l01Below.calls g s0_0 t357 t358 6 t360 t361 t362 w0 _ ?side1 ?side2 A14.out).mono ?_); (case side1 => exact q9); (case side2 => exact q7); rintro e w17 ⟨rfl, hi, hb, hk⟩; refine ⟨_, rfl, ?_⟩; replace HO_5 := am (Kd.R_mono (Kd.R_keep (IsS84.apart (show IsS84 w0 _ g s0_0 t357 t358 from by repeat (first | (with_reducible first | exact HI0.out | apply IsS84.alloc | apply IsS84.drewN | apply IsS84.drew | apply IsS84.set_1 | apply IsS84.set_2) | exact HI0.out)) u12_4 (by decide)) hk (fun _ h => h.2)) (fun _ h => h.1)); replace HO_6 := am (Kd.R_mono (Kd.R_keep (IsS84.apart (show IsS84 w0 _ g s0_0 t357 t358 from by repeat (first | (with_reducible first | exact HI0.out | apply IsS84.alloc | apply IsS84.drewN | apply IsS84.drew | apply IsS84.set_1 | apply IsS84.set_2) | exact HI0.out)) q10 (by decide)) hk (fun _ h => h.2)) (fun _ h => h.1)); replace HK := am (KeepBut.trans q8 hk (.inl rfl)); replace HB := am (hb); replace HI0 := am (hi); (try clear hb); (try clear hb2); (try clear hk); (try clear hi)))
   have H := H9.out
   clear H9
   by_cases c18 : t360 = 0
   · rw [if_pos c18] at H
     have c18b0 : (t360 == 0) = true := beq_iff_eq.mpr c18
     have c18b1 : (t360 != 0) = false := bne_eq_false_iff_eq.mpr c18
     clear c18
     (first | rw [c18b0] | (simp only [i64_w, i32_w]; rw [c18b0]) | skip)
     obtain ⟨y363, hy363⟩ : ∃ y_ : List ByteArray, y_ = (([(⟨#[111, 107]⟩ : ByteArray), (⟨#[110, 111]⟩ : ByteArray), (⟨#[]⟩ : ByteArray), (⟨#[55]⟩ : ByteArray)] : List ByteArray)) := ⟨_, rfl⟩
     replace H : ((spec_l01PickText.f s0_0 t361 t362 y363).bind fun bt366 => (if x5_1.length < 4398046511104 then (spec_l09DrawCalls.l0 k1 (x5_1 ++ [(⟨wrap64 (3 + t356), wrap64 ((rd x6_1 t356) - 1), bt366.1⟩ : S50)]) x6_1 (wrap64 (x7_1 - 1)) s0_0 bt366.2.1 bt366.2.2) else (none))) = some (r1, r2, r3) := by first | (rw [hy363]; with_reducible exact H) | (have H2_ := (Option.bind_some _ _).symm.trans H; rw [hy363]; with_reducible exact H2_) | (have H2_ := (Option.bind_some _ _).symm.trans H; with_reducible exact H2_) | with_reducible exact H | (rw [hy363]; exact H) | exact H
     have Ny363 := am hy363
     clear hy363
     replace H := Option.bind_eq_some_iff.mp H
     obtain ⟨⟨t366, t367, t368⟩, A190, H⟩ := H
     (try dsimp only at H)
     have A19 := am A190
     clear A190
     by_cases c20 : x5_1.length < 4398046511104
     rotate_left
     · rw [if_neg c20] at H
       exact absurd H (by simp)
     rw [if_pos c20] at H
     have LMc20 := am c20
     clear c20
     obtain ⟨y369, hy369⟩ : ∃ y_ : List (S50), y_ = (x5_1 ++ [(⟨wrap64 (3 + t356), wrap64 ((rd x6_1 t356) - 1), t366⟩ : S50)]) := ⟨_, rfl⟩
     replace H : (spec_l09DrawCalls.l0 k1 y369 x6_1 (wrap64 (x7_1 - 1)) s0_0 t367 t368) = some (r1, r2, r3) := by first | (rw [hy369]; with_reducible exact H) | (have H2_ := (Option.bind_some _ _).symm.trans H; rw [hy369]; with_reducible exact H2_) | (have H2_ := (Option.bind_some _ _).symm.trans H; with_reducible exact H2_) | with_reducible exact H | (rw [hy369]; exact H) | exact H
     have Ny369 := am hy369
     clear hy369
     have H' := am H
     clear H
     go_wp2_with (first | ((with_reducible refine gate_dst (N := 53) rfl ?_); refine Kd.R_lit Kd.string _ 9 ?hg (N := 53) ?hd (xs := ([(⟨#[111, 107]⟩ : ByteArray), (⟨#[110, 111]⟩ : ByteArray), (⟨#[]⟩ : ByteArray), (⟨#[55]⟩ : ByteArray)] : List ByteArray)) (inner := [.string (⟨#[111, 107]⟩ : ByteArray), .string (⟨#[110, 111]⟩ : ByteArray), .string (⟨#[]⟩ : ByteArray), .string (⟨#[55]⟩ : ByteArray)]) (ok := fun _ => True) (okp := fun _ => True) ?hr ?hp (fun _ hk => hk) trivial (Below.refl _ _) (Nat.le_refl _) (by simp) ?_; (case hd => rfl); (case hg => rfl); (case hr => first | (go_simp; done) | (go_simp; rfl)); (case hp => exact (Reps.one (show Kd.M Kd.string _ _ _ (⟨#[111, 107]⟩ : ByteArray) [.string (⟨#[111, 107]⟩ : ByteArray)] from rfl) (Reps.one (show Kd.M Kd.string _ _ _ (⟨#[110, 111]⟩ : ByteArray) [.string (⟨#[110, 111]⟩ : ByteArray)] from rfl) (Reps.one (show Kd.M Kd.string _ _ _ (⟨#[]⟩ : ByteArray) [.string (⟨#[]⟩ : ByteArray)] from rfl) (Reps.one (show Kd.M Kd.string _ _ _ (⟨#[55]⟩ : ByteArray) [.string (⟨#[55]⟩ : ByteArray)] from rfl) (Reps.none _ _)))))); intro v364 w21 ho22 hb hg_ hnew_; clear hg_ hnew_; (first | rw [← Ny363.out] at ho22 | (simp only [Int.reduceToNat] at ho22; rw [← Ny363.out] at ho22)); replace HO_5 := am (Kd.R_below u12_4 hb); replace HO_6 := am (Kd.R_below q10 hb); have HO365 := am (Kd.R_lower ho22 (keep_size (w := w) (g := g) (row := none) q8)); replace HK := am (KeepBut.trans q8 (KeepBut.of_below hb g none) (.inl rfl)); replace HB := am (below_step q7 hb); replace HI0 := am (IsS84.below q9 hb); clear hb ho22; obtain ⟨Ao23, co23, eo23⟩ := Kd.R_slice HO365.out; subst eo23) | ((with_reducible refine gate_callee (f := 61) rfl ?_); refine goesL_ (some 54) rfl rfl Tryd.func61 kr rfl #[.pointer (some ⟨g, 0, none⟩), .slice Ao23 y363.length co23] rfl q1 ?_; (with_reducible refine (spec_l01PickText.calls g s0_0 t361 t362 _ _ y363 t366 t367 t368 w0 _ ?side1 ?side2 ?side3 ?side4 ?side5 A19.out).mono ?_); (case side1 => exact q9); (case side2 => exact q7); (case side3 => exact (by repeat (first | exact (Kd.R_reads' HO365.out).2.2 | (with_reducible refine Kd.C_alloc ?_ _) | (with_reducible refine Kd.C_drewN ?_ _) | (with_reducible refine Kd.C_drew ?_)))); (case side4 => exact (Kd.R_reads' HO365.out).2.1); (case side5 => exact far_slice (IsS84.own_ne HI0.out HO365.out (by decide))); rintro e w24 ⟨rfl, hi, hb, hk⟩; refine ⟨_, rfl, ?_⟩; replace HO_5 := am (Kd.R_mono (Kd.R_keep (IsS84.apart (show IsS84 w0 _ g s0_0 t361 t362 from by repeat (first | (with_reducible first | exact HI0.out | apply IsS84.alloc | apply IsS84.drewN | apply IsS84.drew | apply IsS84.set_1 | apply IsS84.set_2) | exact HI0.out)) u12_4 (by decide)) hk (fun _ h => h.2)) (fun _ h => h.1)); replace HO_6 := am (Kd.R_mono (Kd.R_keep (IsS84.apart (show IsS84 w0 _ g s0_0 t361 t362 from by repeat (first | (with_reducible first | exact HI0.out | apply IsS84.alloc | apply IsS84.drewN | apply IsS84.drew | apply IsS84.set_1 | apply IsS84.set_2) | exact HI0.out)) q10 (by decide)) hk (fun _ h => h.2)) (fun _ h => h.1)); replace HO365 := am (Kd.R_mono (Kd.R_keep (IsS84.apart (show IsS84 w0 _ g s0_0 t361 t362 from by repeat (first | (with_reducible first | exact HI0.out | apply IsS84.alloc | apply IsS84.drewN | apply IsS84.drew | apply IsS84.set_1 | apply IsS84.set_2) | exact HI0.out)) u12_23 (by decide)) hk (fun _ h => h.2)) (fun _ h => h.1)); replace HK := am (KeepBut.trans q8 hk (.inl rfl)); replace HB := am (hb); replace HI0 := am (hi); (try clear hb); (try clear hb2); (try clear hk); (try clear hi)) | ((with_reducible refine gate_builtin (b := .append) (xs := #[.tmp 48, .tmp 56]) rfl ?_); at_builtin; refine Kd.R_append k50 w.heap.size rfl (.tmp 48) (.tmp 56) 35 50 (.agg #[(.int .i64 0), (.int .i64 0), (.string ⟨#[]⟩)]) 32 rfl Tryd.underlying35 info50 rfl (by decide) (by omega) u5 x5_1 (⟨wrap64 (3 + t356), wrap64 ((rd x6_1 t356) - 1), t366⟩ : S50) [.int .i64 (wrap64 (3 + t356)), .int .i64 (wrap64 ((rd x6_1 t356) - 1)), .string t366] (fun _ => True) (fun _ => False) rfl rfl ?aP (fun _ hk => hk.elim) ?aF ?aO (Below.refl _ _) ?aS ?aL ?_; (case aP => exact k50_mkM _ _ _ (⟨wrap64 (3 + t356), wrap64 ((rd x6_1 t356) - 1), t366⟩ : S50)); (case aF => exact (fun _ _ => trivial)); (case aO => exact u12_4); (case aS => exact (keep_size (w := w) (g := g) (row := none) q8)); (case aL => have := LMc20.out; omega); intro v370 w25 ho hb hg hat; rw [← Ny369.out] at ho; replace HO_6 := am (Kd.R_over' q10 (Kd.R_typed u12_4) (by decide) hg); replace HO365 := am (Kd.R_over' u12_23 (Kd.R_typed u12_4) (by decide) hg); replace HB := am (below_weaken q7 HL.out hb); replace HI0 := am (IsS84.grown q9 hg (IsS84.own_ne HI0.out HO_5.out (by decide))); replace HK := am (KeepBut.trans q8 (KeepBut.of_grown hg g) (Kd.R_base2 HO_5.out)); have HO371 := am (ho); clear HO_5; clear ho hb hg hat))
     go_roundg k1
     case measure => have := HK1.out; omega
     case rel => exact ⟨(y369), (x6_1), (wrap64 (x7_1 - 1)), (t367), (t368), q4, H', ⟨by have := HK1.out; omega⟩, ⟨(by (with_reducible repeat (first | apply Kd.R_alloc | apply Kd.R_drewN | apply Kd.R_drew)); exact HO371.out)⟩, ⟨q10⟩, ⟨q9⟩, ⟨q8⟩, ⟨q7⟩⟩
   rw [if_neg c18] at H
   have c18b0 : (t360 == 0) = false := beq_eq_false_iff_ne.mpr c18
   have c18b1 : (t360 != 0) = true := bne_iff_ne.mpr c18
   (first | rw [c18b0] | (simp only [i64_w, i32_w]; rw [c18b0]) | skip)
   by_cases c26 : t360 = 1
   · rw [if_pos c26] at H
     have c26b0 : (t360 == 1) = true := beq_iff_eq.mpr c26
     have c26b1 : (t360 != 1) = false := bne_eq_false_iff_eq.mpr c26
     clear c26
     replace H := Option.bind_eq_some_iff.mp H
     obtain ⟨⟨t372, t373, t374⟩, A270, H⟩ := H
     (try dsimp only at H)
     have A27 := am A270
     clear A270
     obtain ⟨y375, hy375⟩ : ∃ y_ : List ByteArray, y_ = (([(⟨#[111, 107]⟩ : ByteArray), (⟨#[110, 111]⟩ : ByteArray), (⟨#[]⟩ : ByteArray), (⟨#[55]⟩ : ByteArray)] : List ByteArray)) := ⟨_, rfl⟩
     replace H : ((spec_l01PickText.f s0_0 t373 t374 y375).bind fun bt378 => (if x5_1.length < 4398046511104 then (spec_l09DrawCalls.l0 k1 (x5_1 ++ [(⟨wrap64 (3 + t356), wrap64 ((wrap64 ((rd x6_1 t356) + t372)) - 1), bt378.1⟩ : S50)]) x6_1 (wrap64 (x7_1 - 1)) s0_0 bt378.2.1 bt378.2.2) else (none))) = some (r1, r2, r3) := by first | (rw [hy375]; with_reducible exact H) | (have H2_ := (Option.bind_some _ _).symm.trans H; rw [hy375]; with_reducible exact H2_) | (have H2_ := (Option.bind_some _ _).symm.trans H; with_reducible exact H2_) | with_reducible exact H | (rw [hy375]; exact H) | exact H
     have Ny375 := am hy375
     clear hy375
     replace H := Option.bind_eq_some_iff.mp H
     obtain ⟨⟨t378, t379, t380⟩, A280, H⟩ := H
     (try dsimp only at H)
     have A28 := am A280
     clear A280
     by_cases c29 : x5_1.length < 4398046511104
     rotate_left
     · rw [if_neg c29] at H
       exact absurd H (by simp)
     rw [if_pos c29] at H
     have LMc29 := am c29
     clear c29
     obtain ⟨y381, hy381⟩ : ∃ y_ : List (S50), y_ = (x5_1 ++ [(⟨wrap64 (3 + t356), wrap64 ((wrap64 ((rd x6_1 t356) + t372)) - 1), t378⟩ : S50)]) := ⟨_, rfl⟩
     replace H : (spec_l09DrawCalls.l0 k1 y381 x6_1 (wrap64 (x7_1 - 1)) s0_0 t379 t380) = some (r1, r2, r3) := by first | (rw [hy381]; with_reducible exact H) | (have H2_ := (Option.bind_some _ _).symm.trans H; rw [hy381]; with_reducible exact H2_) | (have H2_ := (Option.bind_some _ _).symm.trans H; with_reducible exact H2_) | with_reducible exact H | (rw [hy381]; exact H) | exact H
     have Ny381 := am hy381
     clear hy381
     have H' := am H
     clear H
     go_wp2_with (first | ((with_reducible refine gate_callee (f := 59) rfl ?_); refine goesL_ (some 45) rfl rfl Tryd.func59 kr rfl #[.pointer (some ⟨g, 0, none⟩), .int .i64 3] rfl q1 ?_; (with_reducible refine (spec_l01Below.calls g s0_0 t361 t362 3 t372 t373 t374 w0 _ ?side1 ?side2 A27.out).mono ?_); (case side1 => exact q9); (case side2 => exact q7); rintro e w30 ⟨rfl, hi, hb, hk⟩; refine ⟨_, rfl, ?_⟩; replace HO_5 := am (Kd.R_mono (Kd.R_keep (IsS84.apart (show IsS84 w0 _ g s0_0 t361 t362 from by repeat (first | (with_reducible first | exact HI0.out | apply IsS84.alloc | apply IsS84.drewN | apply IsS84.drew | apply IsS84.set_1 | apply IsS84.set_2) | exact HI0.out)) u12_4 (by decide)) hk (fun _ h => h.2)) (fun _ h => h.1)); replace HO_6 := am (Kd.R_mono (Kd.R_keep (IsS84.apart (show IsS84 w0 _ g s0_0 t361 t362 from by repeat (first | (with_reducible first | exact HI0.out | apply IsS84.alloc | apply IsS84.drewN | apply IsS84.drew | apply IsS84.set_1 | apply IsS84.set_2) | exact HI0.out)) q10 (by decide)) hk (fun _ h => h.2)) (fun _ h => h.1)); replace HK := am (KeepBut.trans q8 hk (.inl rfl)); replace HB := am (hb); replace HI0 := am (hi); (try clear hb); (try clear hb2); (try clear hk); (try clear hi)) | ((with_reducible refine gate_dst (N := 53) rfl ?_); refine Kd.R_lit Kd.string _ 9 ?hg (N := 53) ?hd (xs := ([(⟨#[111, 107]⟩ : ByteArray), (⟨#[110, 111]⟩ : ByteArray), (⟨#[]⟩ : ByteArray), (⟨#[55]⟩ : ByteArray)] : List ByteArray)) (inner := [.string (⟨#[111, 107]⟩ : ByteArray), .string (⟨#[110, 111]⟩ : ByteArray), .string (⟨#[]⟩ : ByteArray), .string (⟨#[55]⟩ : ByteArray)]) (ok := fun _ => True) (okp := fun _ => True) ?hr ?hp (fun _ hk => hk) trivial (Below.refl _ _) (Nat.le_refl _) (by simp) ?_; (case hd => rfl); (case hg => rfl); (case hr => first | (go_simp; done) | (go_simp; rfl)); (case hp => exact (Reps.one (show Kd.M Kd.string _ _ _ (⟨#[111, 107]⟩ : ByteArray) [.string (⟨#[111, 107]⟩ : ByteArray)] from rfl) (Reps.one (show Kd.M Kd.string _ _ _ (⟨#[110, 111]⟩ : ByteArray) [.string (⟨#[110, 111]⟩ : ByteArray)] from rfl) (Reps.one (show Kd.M Kd.string _ _ _ (⟨#[]⟩ : ByteArray) [.string (⟨#[]⟩ : ByteArray)] from rfl) (Reps.one (show Kd.M Kd.string _ _ _ (⟨#[55]⟩ : ByteArray) [.string (⟨#[55]⟩ : ByteArray)] from rfl) (Reps.none _ _)))))); intro v376 w31 ho32 hb hg_ hnew_; clear hg_ hnew_; (first | rw [← Ny375.out] at ho32 | (simp only [Int.reduceToNat] at ho32; rw [← Ny375.out] at ho32)); replace HO_5 := am (Kd.R_below u12_4 hb); replace HO_6 := am (Kd.R_below q10 hb); have HO377 := am (Kd.R_lower ho32 (keep_size (w := w) (g := g) (row := none) q8)); replace HK := am (KeepBut.trans q8 (KeepBut.of_below hb g none) (.inl rfl)); replace HB := am (below_step q7 hb); replace HI0 := am (IsS84.below q9 hb); clear hb ho32; obtain ⟨Ao33, co33, eo33⟩ := Kd.R_slice HO377.out; subst eo33) | ((with_reducible refine gate_callee (f := 61) rfl ?_); refine goesL_ (some 54) rfl rfl Tryd.func61 kr rfl #[.pointer (some ⟨g, 0, none⟩), .slice Ao33 y375.length co33] rfl q1 ?_; (with_reducible refine (spec_l01PickText.calls g s0_0 t373 t374 _ _ y375 t378 t379 t380 w0 _ ?side1 ?side2 ?side3 ?side4 ?side5 A28.out).mono ?_); (case side1 => exact q9); (case side2 => exact q7); (case side3 => exact (by repeat (first | exact (Kd.R_reads' HO377.out).2.2 | (with_reducible refine Kd.C_alloc ?_ _) | (with_reducible refine Kd.C_drewN ?_ _) | (with_reducible refine Kd.C_drew ?_)))); (case side4 => exact (Kd.R_reads' HO377.out).2.1); (case side5 => exact far_slice (IsS84.own_ne HI0.out HO377.out (by decide))); rintro e w34 ⟨rfl, hi, hb, hk⟩; refine ⟨_, rfl, ?_⟩; replace HO_5 := am (Kd.R_mono (Kd.R_keep (IsS84.apart (show IsS84 w0 _ g s0_0 t373 t374 from by repeat (first | (with_reducible first | exact HI0.out | apply IsS84.alloc | apply IsS84.drewN | apply IsS84.drew | apply IsS84.set_1 | apply IsS84.set_2) | exact HI0.out)) u12_4 (by decide)) hk (fun _ h => h.2)) (fun _ h => h.1)); replace HO_6 := am (Kd.R_mono (Kd.R_keep (IsS84.apart (show IsS84 w0 _ g s0_0 t373 t374 from by repeat (first | (with_reducible first | exact HI0.out | apply IsS84.alloc | apply IsS84.drewN | apply IsS84.drew | apply IsS84.set_1 | apply IsS84.set_2) | exact HI0.out)) q10 (by decide)) hk (fun _ h => h.2)) (fun _ h => h.1)); replace HO377 := am (Kd.R_mono (Kd.R_keep (IsS84.apart (show IsS84 w0 _ g s0_0 t373 t374 from by repeat (first | (with_reducible first | exact HI0.out | apply IsS84.alloc | apply IsS84.drewN | apply IsS84.drew | apply IsS84.set_1 | apply IsS84.set_2) | exact HI0.out)) u12_24 (by decide)) hk (fun _ h => h.2)) (fun _ h => h.1)); replace HK := am (KeepBut.trans q8 hk (.inl rfl)); replace HB := am (hb); replace HI0 := am (hi); (try clear hb); (try clear hb2); (try clear hk); (try clear hi)) | ((with_reducible refine gate_builtin (b := .append) (xs := #[.tmp 48, .tmp 56]) rfl ?_); at_builtin; refine Kd.R_append k50 w.heap.size rfl (.tmp 48) (.tmp 56) 35 50 (.agg #[(.int .i64 0), (.int .i64 0), (.string ⟨#[]⟩)]) 32 rfl Tryd.underlying35 info50 rfl (by decide) (by omega) u5 x5_1 (⟨wrap64 (3 + t356), wrap64 ((wrap64 ((rd x6_1 t356) + t372)) - 1), t378⟩ : S50) [.int .i64 (wrap64 (3 + t356)), .int .i64 (wrap64 ((wrap64 ((rd x6_1 t356) + t372)) - 1)), .string t378] (fun _ => True) (fun _ => False) rfl rfl ?aP (fun _ hk => hk.elim) ?aF ?aO (Below.refl _ _) ?aS ?aL ?_; (case aP => exact k50_mkM _ _ _ (⟨wrap64 (3 + t356), wrap64 ((wrap64 ((rd x6_1 t356) + t372)) - 1), t378⟩ : S50)); (case aF => exact (fun _ _ => trivial)); (case aO => exact u12_4); (case aS => exact (keep_size (w := w) (g := g) (row := none) q8)); (case aL => have := LMc29.out; omega); intro v382 w35 ho hb hg hat; rw [← Ny381.out] at ho; replace HO_6 := am (Kd.R_over' q10 (Kd.R_typed u12_4) (by decide) hg); replace HO377 := am (Kd.R_over' u12_24 (Kd.R_typed u12_4) (by decide) hg); replace HB := am (below_weaken q7 HL.out hb); replace HI0 := am (IsS84.grown q9 hg (IsS84.own_ne HI0.out HO_5.out (by decide))); replace HK := am (KeepBut.trans q8 (KeepBut.of_grown hg g) (Kd.R_base2 HO_5.out)); have HO383 := am (ho); clear HO_5; clear ho hb hg hat))
     go_roundg k1
     case measure => have := HK1.out; omega
     case rel => exact ⟨(y381), (x6_1), (wrap64 (x7_1 - 1)), (t379), (t380), q4, H', ⟨by have := HK1.out; omega⟩, ⟨(by (with_reducible repeat (first | apply Kd.R_alloc | apply Kd.R_drewN | apply Kd.R_drew)); exact HO383.out)⟩, ⟨q10⟩, ⟨q9⟩, ⟨q8⟩, ⟨q7⟩⟩
   rw [if_neg c26] at H
   have c26b0 : (t360 == 1) = false := beq_eq_false_iff_ne.mpr c26
   have c26b1 : (t360 != 1) = true := bne_iff_ne.mpr c26
   obtain ⟨y385, hy385⟩ : ∃ y_ : List Int, y_ = (x6_1.set (t356 : Int).toNat (wrap64 ((rd x6_1 t356) + 1))) := ⟨_, rfl⟩
   replace H : ((spec_l01PickText.f s0_0 t361 t362 (([(⟨#[111, 107]⟩ : ByteArray), (⟨#[110, 111]⟩ : ByteArray), (⟨#[]⟩ : ByteArray), (⟨#[55]⟩ : ByteArray)] : List ByteArray))).bind fun bt389 => (if x5_1.length < 4398046511104 then (spec_l09DrawCalls.l0 k1 (x5_1 ++ [(⟨wrap64 (3 + t356), rd x6_1 t356, bt389.1⟩ : S50)]) y385 (wrap64 (x7_1 - 1)) s0_0 bt389.2.1 bt389.2.2) else (none))) = some (r1, r2, r3) := by first | (rw [hy385]; with_reducible exact H) | (have H2_ := (Option.bind_some _ _).symm.trans H; rw [hy385]; with_reducible exact H2_) | (have H2_ := (Option.bind_some _ _).symm.trans H; with_reducible exact H2_) | with_reducible exact H | (rw [hy385]; exact H) | exact H
   have Ny385 := am hy385
   clear hy385
   obtain ⟨y386, hy386⟩ : ∃ y_ : List ByteArray, y_ = (([(⟨#[111, 107]⟩ : ByteArray), (⟨#[110, 111]⟩ : ByteArray), (⟨#[]⟩ : ByteArray), (⟨#[55]⟩ : ByteArray)] : List ByteArray)) := ⟨_, rfl⟩
   replace H : ((spec_l01PickText.f s0_0 t361 t362 y386).bind fun bt389 => (if x5_1.length < 4398046511104 then (spec_l09DrawCalls.l0 k1 (x5_1 ++ [(⟨wrap64 (3 + t356), rd x6_1 t356, bt389.1⟩ : S50)]) y385 (wrap64 (x7_1 - 1)) s0_0 bt389.2.1 bt389.2.2) else (none))) = some (r1, r2, r3) := by first | (rw [hy386]; with_reducible exact H) | (have H2_ := (Option.bind_some _ _).symm.trans H; rw [hy386]; with_reducible exact H2_) | (have H2_ := (Option.bind_some _ _).symm.trans H; with_reducible exact H2_) | with_reducible exact H | (rw [hy386]; exact H) | exact H
   have Ny386 := am hy386
   clear hy386
   replace H := Option.bind_eq_some_iff.mp H
   obtain ⟨⟨t389, t390, t391⟩, A370, H⟩ := H
   (try dsimp only at H)
   have A37 := am A370
   clear A370
   by_cases c38 : x5_1.length < 4398046511104
   rotate_left
   · rw [if_neg c38] at H
     exact absurd H (by simp)
   rw [if_pos c38] at H
   have LMc38 := am c38
   clear c38
   obtain ⟨y392, hy392⟩ : ∃ y_ : List (S50), y_ = (x5_1 ++ [(⟨wrap64 (3 + t356), rd x6_1 t356, t389⟩ : S50)]) := ⟨_, rfl⟩
   replace H : (spec_l09DrawCalls.l0 k1 y392 y385 (wrap64 (x7_1 - 1)) s0_0 t390 t391) = some (r1, r2, r3) := by first | (rw [hy392]; with_reducible exact H) | (have H2_ := (Option.bind_some _ _).symm.trans H; rw [hy392]; with_reducible exact H2_) | (have H2_ := (Option.bind_some _ _).symm.trans H; with_reducible exact H2_) | with_reducible exact H | (rw [hy392]; exact H) | exact H
   have Ny392 := am hy392
   clear hy392
   have H' := am H
   clear H
   have p384 : 0 ≤ (t356 : Int) := of_decide_eq_true q3
   have q384 : t356 < (x6_1.length : Int) := of_decide_eq_true q3
   obtain ⟨ad384, e384, hx384_0⟩ := Kd.at_int (Kd.R_reads' HO_6.out).2.2 t356 p384 q384
   obtain rfl : ad359 = ad384 := (by injection e384)
   replace p384 := eq_true p384
   replace q384 := eq_true q384
   have p36 : 0 ≤ (t356 : Int) := of_decide_eq_true q3
   have q36 : (t356 : Int) < ((x6_1.length : Int) : Int) := of_decide_eq_true q3
   obtain ⟨go36, co36, eo36, gb36, gl36, cl36, HG36⟩ := Kd.R_form HO_6.out (by omega)
   (first | cases eo36 | (injection eo36 with ea_ en_ ec_; (first | subst ea_ | (injection ea_ with ea_; subst ea_)); subst ec_; clear en_))
   have GB36 := am gb36
   have GG36 := am HG36
   clear gb36 gl36 HG36
   (first | simp only [add_plain] at hx359_0 | skip)
   (first | simp only [add_plain] at hx384_0 | skip)
   obtain ⟨hx36_0, hf36_0⟩ := Kd.R_celln 0 HO_6.out (t356 : Int) p36 q36
   replace p36 := eq_true p36
   replace q36 := eq_true q36
   have HP39 := Kd.R_putg HO_6.out (t356 : Int) (wrap64 ((rd x6_1 t356) + 1))
   go_wp2_with (first | ((with_reducible refine gate_store (t := 3) (p := 36) rfl ?_); refine store_event (t := 3) (p := 36) (v := ?vo_w40) (w1 := (w17.setCell ⟨go36, (t356 : Int).toNat, none⟩ (.int .i64 (wrap64 ((rd x6_1 t356) + 1))))) ?hg ?ho ?hn ?hr ?_; (case ho => rfl); (case hg => rfl); (case hn => rfl); (case hr => first | (go_simp; done) | (go_simp; rfl)); intro w40 hw; have hg : w17.grownBy w40 (some go36) := (by rw [hw]; exact HP39.2); have hp_ : Kd.R (Kd.int .i64) 3 w40 w.heap.size (fun _ => True) (.slice (some ⟨go36, 0, none⟩) x6_1.length co16) y385 := (by rw [hw, Ny385.out]; exact HP39.1); clear HP39; replace HO_5 := am (Kd.R_over' (v := (.slice (some ⟨go36, 0, none⟩) x6_1.length co16)) u12_4 (Kd.R_typed HO_6.out) (by decide) hg); replace HI0 := am (IsS84.grown q9 hg (IsS84.own_ne HI0.out HO_6.out (by decide))); replace HB := am ((by rw [hw]; exact below_set (HB.out) (Nat.le_trans HL.out GB36.out) : Below w0.heap.size w0 w40)); replace HK := am (KeepBut.trans q8 (KeepBut.of_grown hg g) (Kd.R_base2 HO_6.out)); replace HO_6 := am (hp_); clear hg hw hp_) | ((with_reducible refine gate_dst (N := 53) rfl ?_); refine Kd.R_lit Kd.string _ 9 ?hg (N := 53) ?hd (xs := ([(⟨#[111, 107]⟩ : ByteArray), (⟨#[110, 111]⟩ : ByteArray), (⟨#[]⟩ : ByteArray), (⟨#[55]⟩ : ByteArray)] : List ByteArray)) (inner := [.string (⟨#[111, 107]⟩ : ByteArray), .string (⟨#[110, 111]⟩ : ByteArray), .string (⟨#[]⟩ : ByteArray), .string (⟨#[55]⟩ : ByteArray)]) (ok := fun _ => True) (okp := fun _ => True) ?hr ?hp (fun _ hk => hk) trivial (Below.refl _ _) (Nat.le_refl _) (by simp) ?_; (case hd => rfl); (case hg => rfl); (case hr => first | (go_simp; done) | (go_simp; rfl)); (case hp => exact (Reps.one (show Kd.M Kd.string _ _ _ (⟨#[111, 107]⟩ : ByteArray) [.string (⟨#[111, 107]⟩ : ByteArray)] from rfl) (Reps.one (show Kd.M Kd.string _ _ _ (⟨#[110, 111]⟩ : ByteArray) [.string (⟨#[110, 111]⟩ : ByteArray)] from rfl) (Reps.one (show Kd.M Kd.string _ _ _ (⟨#[]⟩ : ByteArray) [.string (⟨#[]⟩ : ByteArray)] from rfl) (Reps.one (show Kd.M Kd.string _ _ _ (⟨#[55]⟩ : ByteArray) [.string (⟨#[55]⟩ : ByteArray)] from rfl) (Reps.none _ _)))))); intro v387 w41 ho42 hb hg_ hnew_; clear hg_ hnew_; (first | rw [← Ny386.out] at ho42 | (simp only [Int.reduceToNat] at ho42; rw [← Ny386.out] at ho42)); replace HO_5 := am (Kd.R_below u12_4 hb); replace HO_6 := am (Kd.R_below q10 hb); have HO388 := am (Kd.R_lower ho42 (keep_size (w := w) (g := g) (row := none) q8)); replace HK := am (KeepBut.trans q8 (KeepBut.of_below hb g none) (.inl rfl)); replace HB := am (below_step q7 hb); replace HI0 := am (IsS84.below q9 hb); clear hb ho42; obtain ⟨Ao43, co43, eo43⟩ := Kd.R_slice HO388.out; subst eo43) | ((with_reducible refine gate_callee (f := 61) rfl ?_); refine goesL_ (some 54) rfl rfl Tryd.func61 kr rfl #[.pointer (some ⟨g, 0, none⟩), .slice Ao43 y386.length co43] rfl q1 ?_; (with_reducible refine (spec_l01PickText.calls g s0_0 t361 t362 _ _ y386 t389 t390 t391 w0 _ ?side1 ?side2 ?side3 ?side4 ?side5 A37.out).mono ?_); (case side1 => exact q9); (case side2 => exact q7); (case side3 => exact (by repeat (first | exact (Kd.R_reads' HO388.out).2.2 | (with_reducible refine Kd.C_alloc ?_ _) | (with_reducible refine Kd.C_drewN ?_ _) | (with_reducible refine Kd.C_drew ?_)))); (case side4 => exact (Kd.R_reads' HO388.out).2.1); (case side5 => exact far_slice (IsS84.own_ne HI0.out HO388.out (by decide))); rintro e w44 ⟨rfl, hi, hb, hk⟩; refine ⟨_, rfl, ?_⟩; replace HO_5 := am (Kd.R_mono (Kd.R_keep (IsS84.apart (show IsS84 w0 _ g s0_0 t361 t362 from by repeat (first | (with_reducible first | exact HI0.out | apply IsS84.alloc | apply IsS84.drewN | apply IsS84.drew | apply IsS84.set_1 | apply IsS84.set_2) | exact HI0.out)) u12_4 (by decide)) hk (fun _ h => h.2)) (fun _ h => h.1)); replace HO_6 := am (Kd.R_mono (Kd.R_keep (IsS84.apart (show IsS84 w0 _ g s0_0 t361 t362 from by repeat (first | (with_reducible first | exact HI0.out | apply IsS84.alloc | apply IsS84.drewN | apply IsS84.drew | apply IsS84.set_1 | apply IsS84.set_2) | exact HI0.out)) q10 (by decide)) hk (fun _ h => h.2)) (fun _ h => h.1)); replace HO388 := am (Kd.R_mono (Kd.R_keep (IsS84.apart (show IsS84 w0 _ g s0_0 t361 t362 from by repeat (first | (with_reducible first | exact HI0.out | apply IsS84.alloc | apply IsS84.drewN | apply IsS84.drew | apply IsS84.set_1 | apply IsS84.set_2) | exact HI0.out)) u12_25 (by decide)) hk (fun _ h => h.2)) (fun _ h => h.1)); replace HK := am (KeepBut.trans q8 hk (.inl rfl)); replace HB := am (hb); replace HI0 := am (hi); (try clear hb); (try clear hb2); (try clear hk); (try clear hi)) | ((with_reducible refine gate_builtin (b := .append) (xs := #[.tmp 48, .tmp 56]) rfl ?_); at_builtin; refine Kd.R_append k50 w.heap.size rfl (.tmp 48) (.tmp 56) 35 50 (.agg #[(.int .i64 0), (.int .i64 0), (.string ⟨#[]⟩)]) 32 rfl Tryd.underlying35 info50 rfl (by decide) (by omega) u5 x5_1 (⟨wrap64 (3 + t356), rd x6_1 t356, t389⟩ : S50) [.int .i64 (wrap64 (3 + t356)), .int .i64 (rd x6_1 t356), .string t389] (fun _ => True) (fun _ => False) rfl rfl ?aP (fun _ hk => hk.elim) ?aF ?aO (Below.refl _ _) ?aS ?aL ?_; (case aP => exact k50_mkM _ _ _ (⟨wrap64 (3 + t356), rd x6_1 t356, t389⟩ : S50)); (case aF => exact (fun _ _ => trivial)); (case aO => exact u12_4); (case aS => exact (keep_size (w := w) (g := g) (row := none) q8)); (case aL => have := LMc38.out; omega); intro v393 w45 ho hb hg hat; rw [← Ny392.out] at ho; replace HO_6 := am (Kd.R_over' q10 (Kd.R_typed u12_4) (by decide) hg); replace HO388 := am (Kd.R_over' u12_25 (Kd.R_typed u12_4) (by decide) hg); replace HB := am (below_weaken q7 HL.out hb); replace HI0 := am (IsS84.grown q9 hg (IsS84.own_ne HI0.out HO_5.out (by decide))); replace HK := am (KeepBut.trans q8 (KeepBut.of_grown hg g) (Kd.R_base2 HO_5.out)); have HO394 := am (ho); clear HO_5; clear ho hb hg hat))
   go_roundg k1
   case measure => have := HK1.out; omega
   case rel => exact ⟨(y392), (y385), (wrap64 (x7_1 - 1)), (t390), (t391), q4, H', ⟨by have := HK1.out; omega⟩, ⟨(by (with_reducible repeat (first | apply Kd.R_alloc | apply Kd.R_drewN | apply Kd.R_drew)); exact HO394.out)⟩, ⟨q10⟩, ⟨q9⟩, ⟨q8⟩, ⟨q7⟩⟩

/-! ### spec_l09DrawRight: function 45 -/
def spec_l09DrawRight.f (k : Nat) (s0_0 : List Int) (s0_1 : Int) (s0_2 : Int) (l1 : List Int) : Option (Int × Int × (List (S54)) × Int × Int) := (spec_l01Below.f s0_0 s0_1 s0_2 5).bind fun bt396 => ((spec_l09DrawCalls.f k s0_0 bt396.2.1 bt396.2.2 l1).bind fun bt399 => ((spec_OnceEach.f k (wrap64 (1 + bt396.1)) 0 ([] : List (S54)) bt399.1).bind fun bt404 => (some (bt404.1, bt404.2.1, bt404.2.2.1, bt399.2.1, bt399.2.2))))
theorem spec_l09DrawRight.mono : ∀ a0 a1 a2 a3 k, LeO (spec_l09DrawRight.f k a0 a1 a2 a3) (spec_l09DrawRight.f (k + 1) a0 a1 a2 a3) := by
 intro a0 a1 a2 a3 k
 unfold spec_l09DrawRight.f
 repeat' first
     | (with_reducible exact spec_OnceEach.mono _ _ _ _ _)
     | (with_reducible exact spec_l09DrawCalls.mono _ _ _ _ _)
     | (with_reducible exact LeO.refl _)
     | (with_reducible exact LeO.none _)
     | (with_reducible refine LeO.ite ?_ ?_)
     | (with_reducible refine LeO.bind ?_ (fun _ => ?_))
     | exact spec_OnceEach.mono _ _ _ _ _
     | exact spec_l09DrawCalls.mono _ _ _ _ _
     | exact LeO.none _
     | refine LeO.ite ?_ ?_
     | refine LeO.bind ?_ (fun _ => ?_)
set_option maxHeartbeats 8000000 in
set_option maxRecDepth 100000 in
theorem spec_l09DrawRight.calls (k : Nat) (g : Nat) (s0_0 : List Int) (s0_1 : Int) (s0_2 : Int) (A1 : Option Addr) (c1 : Nat) (l1 : List Int) (r1 : Int) (r2 : Int) (r3 : List (S54)) (r4 : Int) (r5 : Int) (w0 w : World) (hI : IsS84 w0 w g s0_0 s0_1 s0_2) (hB : Below w0.heap.size w0 w) (hr1 : Kd.C (Kd.int .u8) w A1 l1.length l1) (hc1 : l1.length ≤ c1) (hf1 : ∀ ad, A1 = some ad → 0 < l1.length → ad.block ≠ g) (h : spec_l09DrawRight.f k s0_0 s0_1 s0_2 l1 = some (r1, r2, r3, r4, r5)) :
   Calls Tryd.prog 45 #[.pointer (some ⟨g, 0, none⟩), .slice A1 l1.length c1] w fun e w' => ∃ v2_ : Value, e = .returned (.agg #[.int .i64 r1, .int .i64 r2, v2_]) ∧ Kd.R k54 54 w' w.heap.size (fun _ => True) v2_ r3 ∧ IsS84 w0 w' g s0_0 r4 r5 ∧ Below w0.heap.size w0 w' ∧ KeepBut w w' g none := by
 have hu30 := Tryd.underlying30
 have HR1 := am hr1
 have HC1 := am hc1
 clear hr1 hc1
 have HI0 := am hI
 have HK := am (KeepBut.refl w g none)
 have HL := am hB.size
 clear hI
 have HW0 := am hB.size
 have HB := am hB
 clear hB
 have H : ((spec_l01Below.f s0_0 s0_1 s0_2 5).bind fun bt396 => ((spec_l09DrawCalls.f k s0_0 bt396.2.1 bt396.2.2 l1).bind fun bt399 => ((spec_OnceEach.f k (wrap64 (1 + bt396.1)) 0 ([] : List (S54)) bt399.1).bind fun bt404 => (some (bt404.1, bt404.2.1, bt404.2.2.1, bt399.2.1, bt399.2.2))))) = some (r1, r2, r3, r4, r5) := h
 clear h
 replace H := Option.bind_eq_some_iff.mp H
 obtain ⟨⟨t396, t397, t398⟩, A30, H⟩ := H
 (try dsimp only at H)
 have A3 := am A30
 clear A30
 replace H := Option.bind_eq_some_iff.mp H
 obtain ⟨⟨t399, t402, t403⟩, A40, H⟩ := H
 (try dsimp only at H)
 have A4 := am A40
 clear A40
 replace H := Option.bind_eq_some_iff.mp H
 obtain ⟨⟨t404, t405, t406, t409⟩, A50, H⟩ := H
 replace H : (some (t404, t405, t406, t402, t403)) = some (r1, r2, r3, r4, r5) := H
 have A5 := am A50
 clear A50
 simp only [Option.some.injEq, Prod.mk.injEq] at H
 obtain ⟨rfl, rfl, rfl, rfl, rfl⟩ := H
 go_enter Tryd.func45, Tryd.ntmps45
 go_wp2_with (first | ((with_reducible refine gate_dst (N := 4) rfl ?_); refine box_event ?hg (N := 4) ?hd (cs := #[.int .i64 0, .int .i64 0, .slice none 0 0]) (t := 30) ?hr ?_; (case hd => rfl); (case hg => rfl); (case hr => first | (go_simp; done) | (go_simp; rfl)); intro gb395 hg w6 hbox hb; replace HB := am (below_step q7 hb); have BK395 := am (hbox); have GW395 := am ((by rw [hg]; exact (keep_size (w := w) (g := g) (row := none) q8) : w.heap.size ≤ gb395)); have GE395 := am ((Nat.le_trans HW0.out (by rw [hg]; exact (keep_size (w := w) (g := g) (row := none) q8) : w.heap.size ≤ gb395) : w0.heap.size ≤ gb395)); replace HK := am (KeepBut.trans q8 (KeepBut.of_below hb g none) (.inl rfl)); have NB0_395 := am ((by rw [hg]; exact Nat.ne_of_lt (IsS84.lt (show IsS84 w0 _ g s0_0 s0_1 s0_2 from by repeat (first | (with_reducible first | exact HI0.out | apply IsS84.alloc | apply IsS84.drewN | apply IsS84.drew | apply IsS84.set_1 | apply IsS84.set_2) | exact HI0.out))) : g ≠ gb395)); have NB395_0 := am ((by rw [hg]; exact Nat.ne_of_gt (IsS84.lt (show IsS84 w0 _ g s0_0 s0_1 s0_2 from by repeat (first | (with_reducible first | exact HI0.out | apply IsS84.alloc | apply IsS84.drewN | apply IsS84.drew | apply IsS84.set_1 | apply IsS84.set_2) | exact HI0.out))) : gb395 ≠ g)); replace HI0 := am (IsS84.below q9 hb); clear hb hbox hg) | ((with_reducible refine gate_callee (f := 59) rfl ?_); refine goesL_ (some 9) rfl rfl Tryd.func59 kr rfl #[.pointer (some ⟨g, 0, none⟩), .int .i64 5] rfl q1 ?_; (with_reducible refine (spec_l01Below.calls g s0_0 s0_1 s0_2 5 t396 t397 t398 w0 _ ?side1 ?side2 A3.out).mono ?_); (case side1 => exact u12_10); (case side2 => exact u12_11); rintro e w7 ⟨rfl, hi, hb, hk⟩; refine ⟨_, rfl, ?_⟩; replace BK395 := am (KeepBut.blk hk (g' := gb395) (o := .cells #[.int .i64 0, .int .i64 0, .slice none 0 0] 30 (0, 0)) u12_12 NB395_0.out (by simp)); replace HK := am (KeepBut.trans u12_5 hk (.inl rfl)); replace HB := am (hb); replace HI0 := am (hi); (try clear hb); (try clear hb2); (try clear hk); (try clear hi)) | ((with_reducible refine gate_callee (f := 46) rfl ?_); refine goesL_ (some 14) rfl rfl Tryd.func46 kr rfl #[.pointer (some ⟨g, 0, none⟩), .slice A1 l1.length c1] rfl q1 ?_; (with_reducible refine (spec_l09DrawCalls.calls k g s0_0 t397 t398 _ _ l1 t399 t402 t403 w0 _ ?side1 ?side2 ?side3 ?side4 ?side5 A4.out).mono ?_); (case side1 => exact u12_10); (case side2 => exact u12_11); (case side3 => exact (by exact Kd.C_keep 0 HR1.out u12_5 hf1)); (case side4 => exact HC1.out); (case side5 => exact hf1); rintro e w8 ⟨v400, rfl, ho0, hi, hb, hk⟩; refine ⟨_, rfl, ?_⟩; replace BK395 := am (KeepBut.blk hk (g' := gb395) (o := .cells #[.int .i64 0, .int .i64 0, .slice none 0 0] 30 (0, 0)) u12_12 NB395_0.out (by simp)); have HO401 := am (Kd.R_lower ho0 (keep_size (w := w) (g := g) (row := none) u12_5)); replace HK := am (KeepBut.trans u12_5 hk (.inl rfl)); replace HB := am (hb); replace HI0 := am (hi); (try clear hb); (try clear hb2); (try clear hk); (try clear hi); (try clear ho0); obtain ⟨Ao9, co9, eo9⟩ := Kd.R_slice HO401.out; subst eo9) | ((with_reducible refine gate_callee (f := 8) rfl ?_); refine goesL_ (some 15) rfl rfl Tryd.func8 kr rfl #[.agg #[.int .i64 (wrap64 (1 + t396)), .int .i64 0, .slice none 0 0], .slice Ao9 t399.length co9] rfl q1 ?_; (refine (spec_OnceEach.calls k (wrap64 (1 + t396)) 0 _ _ ([] : List (S54)) _ _ t399 t404 t405 t406 t409 _ ?side1 ?side2 ?side3 ?side4 A5.out).mono ?_); (case side1 => exact Kd.C_nil _ _); (case side2 => exact Nat.le_refl _); (case side3 => exact (by repeat (first | exact (Kd.R_reads' HO401.out).2.2 | (with_reducible refine Kd.C_alloc ?_ _) | (with_reducible refine Kd.C_drewN ?_ _) | (with_reducible refine Kd.C_drew ?_)))); (case side4 => exact (Kd.R_reads' HO401.out).2.1); rintro e w10 ⟨v407, v410, rfl, ho0, ho1, hb⟩; refine ⟨_, rfl, ?_⟩; replace HO401 := am (Kd.R_below u12_26 hb); have HO408 := am (Kd.R_lower ho0 (keep_size (w := w) (g := g) (row := none) u12_5)); have HO411 := am (Kd.R_lower ho1 (keep_size (w := w) (g := g) (row := none) u12_5)); replace BK395 := am (blk_below (g := gb395) (o := .cells #[.int .i64 0, .int .i64 0, .slice none 0 0] 30 (0, 0)) u12_12 hb); replace HK := am (KeepBut.trans u12_5 (KeepBut.of_below hb g none) (.inl rfl)); replace HB := am (below_step u12_11 hb); replace HI0 := am (IsS84.below u12_10 hb); (try clear hb); (try clear hb2); (try clear hk); (try clear hi); (try clear ho0); (try clear ho1)) | ((with_reducible refine gate_dst (N := 5) rfl ?_); refine box_event ?hg (N := 5) ?hd (cs := #[.int .i64 0, .int .i64 0, .slice none 0 0]) (t := 30) ?hr ?_; (case hd => rfl); (case hg => rfl); (case hr => first | (go_simp; done) | (go_simp; rfl)); intro gb412 hg w11 hbox hb; replace HO401 := am (Kd.R_below u12_26 hb); replace HO408 := am (Kd.R_below (by (with_reducible repeat (first | apply Kd.R_alloc | apply Kd.R_drewN | apply Kd.R_drew)); exact HO408.out) hb); replace HO411 := am (Kd.R_below (by (with_reducible repeat (first | apply Kd.R_alloc | apply Kd.R_drewN | apply Kd.R_drew)); exact HO411.out) hb); replace HB := am (below_step u12_11 hb); have BK412 := am (hbox); have GW412 := am ((by rw [hg]; exact (keep_size (w := w) (g := g) (row := none) u12_5) : w.heap.size ≤ gb412)); have GE412 := am ((Nat.le_trans HW0.out (by rw [hg]; exact (keep_size (w := w) (g := g) (row := none) u12_5) : w.heap.size ≤ gb412) : w0.heap.size ≤ gb412)); replace HK := am (KeepBut.trans u12_5 (KeepBut.of_below hb g none) (.inl rfl)); have NB395_412 := am ((by rw [hg]; exact Nat.ne_of_lt (blk_lt (g := gb395) (o := .cells #[.int .i64 0, .int .i64 0, .slice none 0 0] 30 (0, 0)) u12_12) : gb395 ≠ gb412)); have NB412_395 := am ((by rw [hg]; exact Nat.ne_of_gt (blk_lt (g := gb395) (o := .cells #[.int .i64 0, .int .i64 0, .slice none 0 0] 30 (0, 0)) u12_12) : gb412 ≠ gb395)); replace BK395 := am (blk_below (g := gb395) (o := .cells #[.int .i64 0, .int .i64 0, .slice none 0 0] 30 (0, 0)) u12_12 hb); have NB0_412 := am ((by rw [hg]; exact Nat.ne_of_lt (IsS84.lt (show IsS84 w0 _ g s0_0 t402 t403 from by repeat (first | (with_reducible first | exact HI0.out | apply IsS84.alloc | apply IsS84.drewN | apply IsS84.drew | apply IsS84.set_1 | apply IsS84.set_2 | refine IsS84.far ?_ NB0_395.out _) | exact HI0.out))) : g ≠ gb412)); have NB412_0 := am ((by rw [hg]; exact Nat.ne_of_gt (IsS84.lt (show IsS84 w0 _ g s0_0 t402 t403 from by repeat (first | (with_reducible first | exact HI0.out | apply IsS84.alloc | apply IsS84.drewN | apply IsS84.drew | apply IsS84.set_1 | apply IsS84.set_2 | refine IsS84.far ?_ NB0_395.out _) | exact HI0.out))) : gb412 ≠ g)); replace HI0 := am (IsS84.below u12_10 hb); clear hb hbox hg; have hnb12 := NB412_395.out; have hnc12 := NB395_412.out; have hnb13 := NB412_0.out; have hnc13 := NB0_412.out; obtain ⟨hcz14_0, hcz14_1, hcz14_2, hfz14_0, hfz14_1, hfz14_2⟩ := bc3f w11 BK412.out; obtain ⟨Ao15, co15, eo15⟩ := Kd.R_slice HO408.out; subst eo15; have hnb16 := NB395_0.out; have hnc16 := NB0_395.out; obtain ⟨hcz17_0, hcz17_1, hcz17_2, hfz17_0, hfz17_1, hfz17_2⟩ := bc3f w11 BK395.out))
 refine bodyPost_ret (results_cell_row rfl _ _ gb395 30 #[.int .i64 t404, .int .i64 t405, .slice Ao15 t406.length co15] (0, 0) _ rfl (by (with_reducible repeat (first | refine blk_drewN ?_ _ | refine blk_drew ?_ | refine blk_alloc ?_ _)); refine blk_put (cs := #[.int .i64 t404, .int .i64 t405, .slice none 0 0]) ?_ 2 _ rfl; (with_reducible repeat (first | refine blk_drewN ?_ _ | refine blk_drew ?_ | refine blk_alloc ?_ _)); refine blk_put (cs := #[.int .i64 t404, .int .i64 0, .slice none 0 0]) ?_ 1 _ rfl; (with_reducible repeat (first | refine blk_drewN ?_ _ | refine blk_drew ?_ | refine blk_alloc ?_ _)); refine blk_put (cs := #[.int .i64 0, .int .i64 0, .slice none 0 0]) ?_ 0 _ rfl; (with_reducible repeat (first | refine blk_drewN ?_ _ | refine blk_drew ?_ | refine blk_alloc ?_ _)); refine blk_far ?_ NB395_412.out _; (with_reducible repeat (first | refine blk_drewN ?_ _ | refine blk_drew ?_ | refine blk_alloc ?_ _)); refine blk_far ?_ NB395_412.out _; (with_reducible repeat (first | refine blk_drewN ?_ _ | refine blk_drew ?_ | refine blk_alloc ?_ _)); refine blk_far ?_ NB395_412.out _; (with_reducible repeat (first | refine blk_drewN ?_ _ | refine blk_drew ?_ | refine blk_alloc ?_ _)); exact BK395.out) Tryd.underlying30 rfl kr) rfl ?_
 exact ⟨_, er, (by (with_reducible repeat (first | apply Kd.R_alloc | apply Kd.R_drewN | apply Kd.R_drew)); exact Kd.R_mono (Kd.R_far (p := ⟨gb395, 2, none⟩) (Kd.R_far (p := ⟨gb395, 1, none⟩) (Kd.R_far (p := ⟨gb395, 0, none⟩) (Kd.R_far (p := ⟨gb412, 2, none⟩) (Kd.R_far (p := ⟨gb412, 1, none⟩) (Kd.R_far (p := ⟨gb412, 0, none⟩) (Kd.R_types (Kd.R_types HO408.out BK412.out (by decide)) BK395.out (by decide)) (fun _ hk => hk.1.2) (.int .i64 t404)) (fun _ hk => hk.1.2) (.int .i64 t405)) (fun _ hk => hk.1.2) (.slice Ao15 t406.length co15)) (fun _ hk => hk.2) (.int .i64 t404)) (fun _ hk => hk.2) (.int .i64 t405)) (fun _ hk => hk.2) (.slice Ao15 t406.length co15)) (fun _ hk => trivial)), (by repeat (first | (with_reducible first | exact HI0.out | apply IsS84.alloc | apply IsS84.drewN | apply IsS84.drew | apply IsS84.set_1 | apply IsS84.set_2 | refine IsS84.far ?_ NB0_395.out _ | refine IsS84.far ?_ NB0_412.out _) | exact HI0.out)), (by repeat (first | (with_reducible first | exact HB.out | apply below_alloc | apply pw_below_drewN | apply below_drew1 | refine below_set ?_ (IsS84.ge HI0.out) | refine below_set ?_ GE395.out | refine below_set ?_ GE412.out) | exact HB.out)), (by repeat (first | (with_reducible first | exact HK.out | apply KeepBut.set_ | apply keep_drewN | apply keep_drew | apply keep_alloc | refine keep_far ?_ GW395.out _ | refine keep_far ?_ GW412.out _) | exact HK.out))⟩

/-! ### spec_DrawRightSessions: function 21 -/
def spec_DrawRightSessions.f (k : Nat) (l0 : List Int) : Option (Int × Int × (List (S54)) × (List (S50))) := (spec_l01New.f k l0).bind fun bt414 => ((spec_l09DrawRight.f k bt414.1 bt414.2.1 bt414.2.2 l0).bind fun bt418 => ((spec_l09DrawCalls.f k bt414.1 bt418.2.2.2.1 bt418.2.2.2.2 l0).bind fun bt426 => (some (bt418.1, bt418.2.1, bt418.2.2.1, bt426.1))))
theorem spec_DrawRightSessions.mono : ∀ a0 k, LeO (spec_DrawRightSessions.f k a0) (spec_DrawRightSessions.f (k + 1) a0) := by
 intro a0 k
 unfold spec_DrawRightSessions.f
 repeat' first
     | (with_reducible exact spec_l01New.mono _ _)
     | (with_reducible exact spec_l09DrawCalls.mono _ _ _ _ _)
     | (with_reducible exact spec_l09DrawRight.mono _ _ _ _ _)
     | (with_reducible exact LeO.refl _)
     | (with_reducible exact LeO.none _)
     | (with_reducible refine LeO.ite ?_ ?_)
     | (with_reducible refine LeO.bind ?_ (fun _ => ?_))
     | exact spec_l01New.mono _ _
     | exact spec_l09DrawCalls.mono _ _ _ _ _
     | exact spec_l09DrawRight.mono _ _ _ _ _
     | exact LeO.none _
     | refine LeO.ite ?_ ?_
     | refine LeO.bind ?_ (fun _ => ?_)
set_option maxHeartbeats 8000000 in
set_option maxRecDepth 100000 in
theorem spec_DrawRightSessions.calls (k : Nat) (A0 : Option Addr) (c0 : Nat) (l0 : List Int) (r1 : Int) (r2 : Int) (r3 : List (S54)) (r4 : List (S50)) (w : World) (hr0 : Kd.C (Kd.int .u8) w A0 l0.length l0) (hc0 : l0.length ≤ c0) (h : spec_DrawRightSessions.f k l0 = some (r1, r2, r3, r4)) :
   Calls Tryd.prog 21 #[.slice A0 l0.length c0] w fun e w' => ∃ v2_ v3_ : Value, e = .returned (.tuple #[.agg #[.int .i64 r1, .int .i64 r2, v2_], v3_]) ∧ Kd.R k54 54 w' w.heap.size (fun _ => True) v2_ r3 ∧ Kd.R k50 50 w' w.heap.size (fun _ => True) v3_ r4 ∧ Below w.heap.size w w' := by
 have hu30 := Tryd.underlying30
 have HR0 := am hr0
 have HC0 := am hc0
 clear hr0 hc0
 have HB := am (Below.refl w.heap.size w)
 have H : ((spec_l01New.f k l0).bind fun bt414 => ((spec_l09DrawRight.f k bt414.1 bt414.2.1 bt414.2.2 l0).bind fun bt418 => ((spec_l09DrawCalls.f k bt414.1 bt418.2.2.2.1 bt418.2.2.2.2 l0).bind fun bt426 => (some (bt418.1, bt418.2.1, bt418.2.2.1, bt426.1))))) = some (r1, r2, r3, r4) := h
 clear h
 replace H := Option.bind_eq_some_iff.mp H
 obtain ⟨⟨t414, t415, t416⟩, A20, H⟩ := H
 (try dsimp only at H)
 have A2 := am A20
 clear A20
 replace H := Option.bind_eq_some_iff.mp H
 obtain ⟨⟨t418, t419, t420, t423, t424⟩, A30, H⟩ := H
 (try dsimp only at H)
 have A3 := am A30
 clear A30
 replace H := Option.bind_eq_some_iff.mp H
 obtain ⟨⟨t426, t429, t430⟩, A40, H⟩ := H
 replace H : (some (t418, t419, t420, t426)) = some (r1, r2, r3, r4) := H
 have A4 := am A40
 clear A40
 simp only [Option.some.injEq, Prod.mk.injEq] at H
 obtain ⟨rfl, rfl, rfl, rfl⟩ := H
 go_enter Tryd.func21, Tryd.ntmps21
 try go_wp2_with (first | ((with_reducible refine gate_dst (N := 2) rfl ?_); refine box_event ?hg (N := 2) ?hd (cs := #[.int .i64 0, .int .i64 0, .slice none 0 0]) (t := 30) ?hr ?_; (case hd => rfl); (case hg => rfl); (case hr => first | (go_simp; done) | (go_simp; rfl)); intro gb413 hg w5 hbox hb; have BK413 := am (hbox); have GW413 := am ((by rw [hg]; exact (below_size q0) : w.heap.size ≤ gb413)); have GE413 := am ((by rw [hg]; exact (below_size q0) : w.heap.size ≤ gb413)); replace HB := am (below_step q0 hb); clear hb hbox hg) | ((with_reducible refine gate_callee (f := 44) rfl ?_); refine goesL_ (some 7) rfl rfl Tryd.func44 kr rfl #[.slice A0 l0.length c0] rfl q1 ?_; (with_reducible refine (spec_l01New.calls k _ _ l0 t414 t415 t416 w _ ?side1 ?side2 ?side3 A2.out).mono ?_); (case side1 => exact (by repeat (first | (with_reducible first | exact HB.out | apply below_alloc | apply pw_below_drewN | apply below_drew1 | refine below_set ?_ GE413.out) | exact HB.out))); (case side2 => exact HR0.out); (case side3 => exact HC0.out); rintro e w6 ⟨g417, rfl, hi, hb, hb2⟩; refine ⟨_, rfl, ?_⟩; replace HB := am (hb); have HI417 := am (hi); have NB417_413 := am (IsS84.ne_blk hi (blk_below (g := gb413) (o := .cells #[.int .i64 0, .int .i64 0, .slice none 0 0] 30 (0, 0)) u12_9 hb2) (by decide)); have NB413_417 := am (Ne.symm (IsS84.ne_blk hi (blk_below (g := gb413) (o := .cells #[.int .i64 0, .int .i64 0, .slice none 0 0] 30 (0, 0)) u12_9 hb2) (by decide))); replace BK413 := am (blk_below (g := gb413) (o := .cells #[.int .i64 0, .int .i64 0, .slice none 0 0] 30 (0, 0)) u12_9 hb2); (try clear hb); (try clear hb2); (try clear hk); (try clear hi)) | ((with_reducible refine gate_callee (f := 45) rfl ?_); refine goesL_ (some 10) rfl rfl Tryd.func45 kr rfl #[.pointer (some ⟨g417, 0, none⟩), .slice A0 l0.length c0] rfl q1 ?_; (with_reducible refine (spec_l09DrawRight.calls k g417 t414 t415 t416 _ _ l0 t418 t419 t420 t423 t424 w _ ?side1 ?side2 ?side3 ?side4 ?side5 A3.out).mono ?_); (case side1 => exact u12_15); (case side2 => exact u12_8); (case side3 => exact u12_18); (case side4 => exact HC0.out); (case side5 => exact Kd.far_C 0 HR0.out (IsS84.ge HI417.out)); rintro e w7 ⟨v421, rfl, ho0, hi, hb, hk⟩; refine ⟨_, rfl, ?_⟩; replace BK413 := am (KeepBut.blk hk (g' := gb413) (o := .cells #[.int .i64 0, .int .i64 0, .slice none 0 0] 30 (0, 0)) u12_9 NB413_417.out (by simp)); have HO422 := am (Kd.R_lower ho0 (below_size u12_8)); replace HB := am (hb); replace HI417 := am (hi); (try clear hb); (try clear hb2); (try clear hk); (try clear hi); (try clear ho0)) | ((with_reducible refine gate_dst (N := 5) rfl ?_); refine box_event ?hg (N := 5) ?hd (cs := #[.int .i64 0, .int .i64 0, .slice none 0 0]) (t := 30) ?hr ?_; (case hd => rfl); (case hg => rfl); (case hr => first | (go_simp; done) | (go_simp; rfl)); intro gb425 hg w8 hbox hb; replace HO422 := am (Kd.R_below u12_27 hb); have BK425 := am (hbox); have GW425 := am ((by rw [hg]; exact (below_size u12_8) : w.heap.size ≤ gb425)); have GE425 := am ((by rw [hg]; exact (below_size u12_8) : w.heap.size ≤ gb425)); replace HB := am (below_step u12_8 hb); have NB413_425 := am ((by rw [hg]; exact Nat.ne_of_lt (blk_lt (g := gb413) (o := .cells #[.int .i64 0, .int .i64 0, .slice none 0 0] 30 (0, 0)) u12_9) : gb413 ≠ gb425)); have NB425_413 := am ((by rw [hg]; exact Nat.ne_of_gt (blk_lt (g := gb413) (o := .cells #[.int .i64 0, .int .i64 0, .slice none 0 0] 30 (0, 0)) u12_9) : gb425 ≠ gb413)); replace BK413 := am (blk_below (g := gb413) (o := .cells #[.int .i64 0, .int .i64 0, .slice none 0 0] 30 (0, 0)) u12_9 hb); have NB417_425 := am ((by rw [hg]; exact Nat.ne_of_lt (IsS84.lt (show IsS84 w _ g417 t414 t423 t424 from by repeat (first | (with_reducible first | exact HI417.out | apply IsS84.alloc | apply IsS84.drewN | apply IsS84.drew | apply IsS84.set_1 | apply IsS84.set_2 | refine IsS84.far ?_ NB417_413.out _) | exact HI417.out))) : g417 ≠ gb425)); have NB425_417 := am ((by rw [hg]; exact Nat.ne_of_gt (IsS84.lt (show IsS84 w _ g417 t414 t423 t424 from by repeat (first | (with_reducible first | exact HI417.out | apply IsS84.alloc | apply IsS84.drewN | apply IsS84.drew | apply IsS84.set_1 | apply IsS84.set_2 | refine IsS84.far ?_ NB417_413.out _) | exact HI417.out))) : gb425 ≠ g417)); replace HI417 := am (IsS84.below u12_15 hb); clear hb hbox hg; have hnb9 := NB425_413.out; have hnc9 := NB413_425.out; have hnb10 := NB425_417.out; have hnc10 := NB417_425.out; obtain ⟨hcz11_0, hcz11_1, hcz11_2, hfz11_0, hfz11_1, hfz11_2⟩ := bc3f w8 BK425.out; obtain ⟨Ao12, co12, eo12⟩ := Kd.R_slice HO422.out; subst eo12))
 have n0_ : Aside0 (Kd.R k54 54 (((w8.setCell ⟨gb425, 0, none⟩ (.int .i64 t418)).setCell ⟨gb425, 1, none⟩ (.int .i64 t419)).setCell ⟨gb425, 2, none⟩ (.slice Ao12 t420.length co12)) w.heap.size (fun _ => True) (.slice Ao12 t420.length co12) t420) := ⟨by (with_reducible repeat (first | apply Kd.R_alloc | apply Kd.R_drewN | apply Kd.R_drew)); exact Kd.R_mono (Kd.R_far (p := ⟨gb425, 2, none⟩) (Kd.R_far (p := ⟨gb425, 1, none⟩) (Kd.R_far (p := ⟨gb425, 0, none⟩) (Kd.R_types HO422.out BK425.out (by decide)) (fun _ hk => hk.2) (.int .i64 t418)) (fun _ hk => hk.2) (.int .i64 t419)) (fun _ hk => hk.2) (.slice Ao12 t420.length co12)) (fun _ hk => trivial)⟩
 have n1_ : Aside0 ((((w8.setCell ⟨gb425, 0, none⟩ (.int .i64 t418)).setCell ⟨gb425, 1, none⟩ (.int .i64 t419)).setCell ⟨gb425, 2, none⟩ (.slice Ao12 t420.length co12)).heap[gb413]? = some (.cells #[.int .i64 0, .int .i64 0, .slice none 0 0] 30 (0, 0))) := ⟨by (with_reducible repeat (first | refine blk_drewN ?_ _ | refine blk_drew ?_ | refine blk_alloc ?_ _)); refine blk_far ?_ NB413_425.out _; (with_reducible repeat (first | refine blk_drewN ?_ _ | refine blk_drew ?_ | refine blk_alloc ?_ _)); refine blk_far ?_ NB413_425.out _; (with_reducible repeat (first | refine blk_drewN ?_ _ | refine blk_drew ?_ | refine blk_alloc ?_ _)); refine blk_far ?_ NB413_425.out _; (with_reducible repeat (first | refine blk_drewN ?_ _ | refine blk_drew ?_ | refine blk_alloc ?_ _)); exact BK413.out⟩
 have n2_ : Aside0 ((((w8.setCell ⟨gb425, 0, none⟩ (.int .i64 t418)).setCell ⟨gb425, 1, none⟩ (.int .i64 t419)).setCell ⟨gb425, 2, none⟩ (.slice Ao12 t420.length co12)).heap[gb425]? = some (.cells #[.int .i64 t418, .int .i64 t419, .slice Ao12 t420.length co12] 30 (0, 0))) := ⟨by (with_reducible repeat (first | refine blk_drewN ?_ _ | refine blk_drew ?_ | refine blk_alloc ?_ _)); refine blk_put (cs := #[.int .i64 t418, .int .i64 t419, .slice none 0 0]) ?_ 2 _ rfl; (with_reducible repeat (first | refine blk_drewN ?_ _ | refine blk_drew ?_ | refine blk_alloc ?_ _)); refine blk_put (cs := #[.int .i64 t418, .int .i64 0, .slice none 0 0]) ?_ 1 _ rfl; (with_reducible repeat (first | refine blk_drewN ?_ _ | refine blk_drew ?_ | refine blk_alloc ?_ _)); refine blk_put (cs := #[.int .i64 0, .int .i64 0, .slice none 0 0]) ?_ 0 _ rfl; (with_reducible repeat (first | refine blk_drewN ?_ _ | refine blk_drew ?_ | refine blk_alloc ?_ _)); exact BK425.out⟩
 have n3_ : Aside0 (IsS84 w (((w8.setCell ⟨gb425, 0, none⟩ (.int .i64 t418)).setCell ⟨gb425, 1, none⟩ (.int .i64 t419)).setCell ⟨gb425, 2, none⟩ (.slice Ao12 t420.length co12)) g417 t414 t423 t424) := ⟨by repeat (first | (with_reducible first | exact HI417.out | apply IsS84.alloc | apply IsS84.drewN | apply IsS84.drew | apply IsS84.set_1 | apply IsS84.set_2 | refine IsS84.far ?_ NB417_413.out _ | refine IsS84.far ?_ NB417_425.out _) | exact HI417.out)⟩
 have n4_ : Aside0 (Below w.heap.size w (((w8.setCell ⟨gb425, 0, none⟩ (.int .i64 t418)).setCell ⟨gb425, 1, none⟩ (.int .i64 t419)).setCell ⟨gb425, 2, none⟩ (.slice Ao12 t420.length co12))) := ⟨by repeat (first | (with_reducible first | exact HB.out | apply below_alloc | apply pw_below_drewN | apply below_drew1 | refine below_set ?_ (IsS84.ge HI417.out) | refine below_set ?_ GE413.out | refine below_set ?_ GE425.out) | exact HB.out)⟩
 (try clear HO422)
 (try clear BK413)
 (try clear BK425)
 (try clear HI417)
 (try clear HB)
 generalize (((w8.setCell ⟨gb425, 0, none⟩ (.int .i64 t418)).setCell ⟨gb425, 1, none⟩ (.int .i64 t419)).setCell ⟨gb425, 2, none⟩ (.slice Ao12 t420.length co12)) = w13 at n0_ n1_ n2_ n3_ n4_ ⊢
 have HO422 := n0_
 have BK413 := n1_
 have BK425 := n2_
 have HI417 := n3_
 have HB := n4_
 clear n0_ n1_ n2_ n3_ n4_
 replace HO422 := am (Kd.R_drew HO422.out)
 replace BK413 := am (blk_drew BK413.out)
 replace BK425 := am (blk_drew BK425.out)
 replace HI417 := am (IsS84.drew HI417.out)
 replace HB := am (below_drew1 HB.out)
 refine start_ (n := 6) (S := fun w' => w'.cell? ⟨gb425, 0, none⟩ = some (.int .i64 t418) ∧ w'.cell? ⟨gb425, 1, none⟩ = some (.int .i64 t419) ∧ w'.cell? ⟨gb425, 2, none⟩ = some (.slice Ao12 t420.length co12)) (ds := []) #[false, false, false, false, false, false] kr rfl rfl ⟨(blk_cell BK425.out 0).trans rfl, (blk_cell BK425.out 1).trans rfl, (blk_cell BK425.out 2).trans rfl⟩ (fun hHeld => ?_)
 generalize w13.drew = w14 at HO422 BK413 BK425 HI417 HB hHeld ⊢
 refine pure_ (i := 1) (N := some 12) (v := ?_) (a' := ?_) #[false, true, false, false, false, false] rfl rfl kr (fun _ _ _ h => h) (Or.inl ⟨by rfl, ?_⟩) ?_ ?_
 rotate_left; (intro w'; go_simp; with_reducible rfl); rotate_left; (simp only [Act.put, la, lb, lc, i64_w, i32_w]; rfl)
 refine pure_ (i := 2) (N := some 13) (v := ?_) (a' := ?_) #[false, true, true, false, false, false] rfl rfl kr (fun _ _ _ h => h) (Or.inl ⟨by rfl, ?_⟩) ?_ ?_
 rotate_left; (intro w'; go_simp; with_reducible rfl); rotate_left; (simp only [Act.put, la, lb, lc, i64_w, i32_w]; rfl)
 refine take_ (i := 0) (N := some 11) (v := ?_) (a' := ?_) #[true, true, true, false, false, false] rfl rfl kr (fun _ _ _ h => h) (Or.inl ⟨by rfl, ?_⟩) hHeld ?_ ?_
 rotate_left
 · rintro w' ⟨s0, s1, s2⟩
   go_simp
   with_reducible rfl
 rotate_left
 · simp only [Act.put, la, lb, lc, i64_w, i32_w]
   rfl
 refine one_ (i := 3) (N := some 14) #[true, true, true, true, false, false] rfl rfl kr (by decide) (fun K hK => ?_)
 refine goes_ Tryd.func46 kr rfl #[.pointer (some ⟨g417, 0, none⟩), .slice A0 l0.length c0] (by rfl) rfl rfl q1 ?_
 with_reducible refine (spec_l09DrawCalls.calls k g417 t414 t423 t424 _ _ l0 t426 t429 t430 w _ ?side1 ?side2 ?side3 ?side4 ?side5 A4.out).mono ?_
 (case side1 => exact (by repeat (first | (with_reducible first | exact HI417.out | apply IsS84.alloc | apply IsS84.drewN | apply IsS84.drew | apply IsS84.set_1 | apply IsS84.set_2 | refine IsS84.far ?_ NB417_413.out _ | refine IsS84.far ?_ NB417_425.out _) | exact HI417.out)))
 (case side2 => exact u12_13)
 (case side3 => exact u12_18)
 (case side4 => exact HC0.out)
 (case side5 => exact Kd.far_C 0 HR0.out (IsS84.ge HI417.out))
 rintro e w15 ⟨v427, rfl, ho0, hi, hb, hk⟩
 refine ⟨_, rfl, ?_⟩
 replace BK413 := am (KeepBut.blk hk (g' := gb413) (o := .cells #[.int .i64 0, .int .i64 0, .slice none 0 0] 30 (0, 0)) u12_9 NB413_417.out (by simp))
 replace HO422 := am (Kd.R_mono (Kd.R_keep (IsS84.apart (show IsS84 w _ g417 t414 t423 t424 from by repeat (first | (with_reducible first | exact HI417.out | apply IsS84.alloc | apply IsS84.drewN | apply IsS84.drew | apply IsS84.set_1 | apply IsS84.set_2 | refine IsS84.far ?_ NB417_413.out _ | refine IsS84.far ?_ NB417_425.out _) | exact HI417.out)) u12_27 (by decide)) hk (fun _ h => h.2)) (fun _ h => h.1))
 replace BK425 := am (KeepBut.blk hk (g' := gb425) (o := .cells #[.int .i64 t418, .int .i64 t419, .slice Ao12 t420.length co12] 30 (0, 0)) (by (with_reducible repeat (first | refine blk_drewN ?_ _ | refine blk_drew ?_ | refine blk_alloc ?_ _)); exact BK425.out) NB425_417.out (by simp))
 have HO428 := am (Kd.R_lower ho0 (below_size u12_13))
 replace HB := am (hb)
 replace HI417 := am (hi)
 (try clear hb)
 (try clear hb2)
 (try clear hk)
 (try clear hi)
 (try clear ho0)
 refine hK.out _ _ ⟨(blk_cell BK425.out 0).trans rfl, (blk_cell BK425.out 1).trans rfl, (blk_cell BK425.out 2).trans rfl⟩ (fun hHeld => ?_)
 clear hK K
 refine norm_ (a' := ?_) ?_ ?_
 rotate_left
 · show Act.put _ (some 14) _ = _
   simp only [Act.put, la, lb, lc, i64_w, i32_w]
   rfl
 refine one_ (i := 4) (N := none) #[true, true, true, true, true, false] rfl rfl kr (by decide) (fun K hK => ?_)
 have hs16 : w15.cell? ⟨gb413, 0, none⟩ = some (.int .i64 0) := (blk_cell BK413.out 0).trans rfl
 have hfs16 := blk_frozen BK413.out 0
 have hns16_1 := NB425_413.out
 have hms16_1 := NB413_425.out
 have hs17 : w15.cell? ⟨gb413, 1, none⟩ = some (.int .i64 0) := (blk_cell BK413.out 1).trans rfl
 have hfs17 := blk_frozen BK413.out 1
 have hns17_1 := NB425_413.out
 have hms17_1 := NB413_425.out
 have hs18 : w15.cell? ⟨gb413, 2, none⟩ = some (.slice none 0 0) := (blk_cell BK413.out 2).trans rfl
 have hfs18 := blk_frozen BK413.out 2
 have hns18_1 := NB425_413.out
 have hms18_1 := NB413_425.out
 refine skip_ (w1 := ?_) (by rfl) rfl ?_ ?_
 rotate_left
 · go_simp
   rfl
 refine hK.out _ _ ⟨((cell_far (p := ⟨gb413, _, none⟩) NB425_413.out _).trans (((cell_far (p := ⟨gb413, _, none⟩) NB425_413.out _).trans (((cell_far (p := ⟨gb413, _, none⟩) NB425_413.out _).trans (hHeld.1)))))), ((cell_far (p := ⟨gb413, _, none⟩) NB425_413.out _).trans (((cell_far (p := ⟨gb413, _, none⟩) NB425_413.out _).trans (((cell_far (p := ⟨gb413, _, none⟩) NB425_413.out _).trans (hHeld.2.1)))))), ((cell_far (p := ⟨gb413, _, none⟩) NB425_413.out _).trans (((cell_far (p := ⟨gb413, _, none⟩) NB425_413.out _).trans (((cell_far (p := ⟨gb413, _, none⟩) NB425_413.out _).trans (hHeld.2.2))))))⟩ (fun hHeld => ?_)
 clear hK K
 refine pure_ (i := 5) (N := some 3) (v := ?_) (a' := ?_) #[true, true, true, true, true, true] rfl rfl kr (fun _ _ _ h => h) (Or.inl ⟨by rfl, ?_⟩) ?_ ?_
 rotate_left; (intro w'; go_simp; with_reducible rfl); rotate_left; (simp only [Act.put, la, lb, lc, i64_w, i32_w]; rfl)
 refine done_ kr ?_
 try go_wp2
 refine bodyPost_ret (results_ct rfl _ _ gb413 30 #[.int .i64 t418, .int .i64 t419, .slice Ao12 t420.length co12] (0, 0) _ rfl (by (with_reducible repeat (first | refine blk_drewN ?_ _ | refine blk_drew ?_ | refine blk_alloc ?_ _)); refine blk_put (cs := #[.int .i64 t418, .int .i64 t419, .slice none 0 0]) ?_ 2 _ rfl; (with_reducible repeat (first | refine blk_drewN ?_ _ | refine blk_drew ?_ | refine blk_alloc ?_ _)); refine blk_put (cs := #[.int .i64 t418, .int .i64 0, .slice none 0 0]) ?_ 1 _ rfl; (with_reducible repeat (first | refine blk_drewN ?_ _ | refine blk_drew ?_ | refine blk_alloc ?_ _)); refine blk_put (cs := #[.int .i64 0, .int .i64 0, .slice none 0 0]) ?_ 0 _ rfl; (with_reducible repeat (first | refine blk_drewN ?_ _ | refine blk_drew ?_ | refine blk_alloc ?_ _)); exact BK413.out) Tryd.underlying30 rfl kr) rfl ?_
 exact ⟨_, _, er, (by (with_reducible repeat (first | apply Kd.R_alloc | apply Kd.R_drewN | apply Kd.R_drew)); exact Kd.R_mono (Kd.R_far (p := ⟨gb413, 2, none⟩) (Kd.R_far (p := ⟨gb413, 1, none⟩) (Kd.R_far (p := ⟨gb413, 0, none⟩) (Kd.R_types HO422.out BK413.out (by decide)) (fun _ hk => hk.2) (.int .i64 t418)) (fun _ hk => hk.2) (.int .i64 t419)) (fun _ hk => hk.2) (.slice Ao12 t420.length co12)) (fun _ hk => trivial)), (by (with_reducible repeat (first | apply Kd.R_alloc | apply Kd.R_drewN | apply Kd.R_drew)); exact Kd.R_mono (Kd.R_far (p := ⟨gb413, 2, none⟩) (Kd.R_far (p := ⟨gb413, 1, none⟩) (Kd.R_far (p := ⟨gb413, 0, none⟩) (Kd.R_types HO428.out BK413.out (by decide)) (fun _ hk => hk.2) (.int .i64 t418)) (fun _ hk => hk.2) (.int .i64 t419)) (fun _ hk => hk.2) (.slice Ao12 t420.length co12)) (fun _ hk => trivial)), u12_13⟩

/-! ### impl_SessionsOk: function 22 -/
def impl_SessionsOk.f (k : Nat) (a0_0 : Int) (a0_1 : Int) (l0_2 : List (S54)) : Option (Bool) := (impl_areSessions.f k a0_0 a0_1 l0_2).bind fun t432 => (some t432)
theorem impl_SessionsOk.mono : ∀ a0 a1 a2 k, LeO (impl_SessionsOk.f k a0 a1 a2) (impl_SessionsOk.f (k + 1) a0 a1 a2) := by
 intro a0 a1 a2 k
 unfold impl_SessionsOk.f
 repeat' first
     | (with_reducible exact impl_areSessions.mono _ _ _ _)
     | (with_reducible exact LeO.refl _)
     | (with_reducible exact LeO.none _)
     | (with_reducible refine LeO.ite ?_ ?_)
     | (with_reducible refine LeO.bind ?_ (fun _ => ?_))
     | exact impl_areSessions.mono _ _ _ _
     | exact LeO.none _
     | refine LeO.ite ?_ ?_
     | refine LeO.bind ?_ (fun _ => ?_)
set_option maxHeartbeats 8000000 in
set_option maxRecDepth 100000 in
theorem impl_SessionsOk.calls (k : Nat) (a0_0 : Int) (a0_1 : Int) (A0_2 : Option Addr) (c0_2 : Nat) (l0_2 : List (S54)) (r : Bool) (w : World) (hr0_2 : Kd.C k54 w A0_2 l0_2.length l0_2) (hc0_2 : l0_2.length ≤ c0_2) (h : impl_SessionsOk.f k a0_0 a0_1 l0_2 = some r) :
   Calls Tryd.prog 22 #[.agg #[.int .i64 a0_0, .int .i64 a0_1, .slice A0_2 l0_2.length c0_2]] w fun e w' => e = .returned (.bool r) ∧ Below w.heap.size w w' := by
 have hu30 := Tryd.underlying30
 have HR0_2 := am hr0_2
 have HC0_2 := am hc0_2
 clear hr0_2 hc0_2
 have HB := am (Below.refl w.heap.size w)
 have H : ((impl_areSessions.f k a0_0 a0_1 l0_2).bind fun t432 => (some t432)) = some r := h
 clear h
 replace H := Option.bind_eq_some_iff.mp H
 obtain ⟨t432, A20, H⟩ := H
 replace H : (some t432) = some r := H
 have A2 := am A20
 clear A20
 obtain rfl := sj H
 go_enter Tryd.func22, Tryd.ntmps22
 go_wp2_with (first | ((with_reducible refine gate_dst (N := 1) rfl ?_); refine box_event ?hg (N := 1) ?hd (cs := #[.int .i64 a0_0, .int .i64 a0_1, .slice A0_2 l0_2.length c0_2]) (t := 30) ?hr ?_; (case hd => rfl); (case hg => rfl); (case hr => first | (go_simp; done) | (go_simp; rfl)); intro gb431 hg w3 hbox hb; have BK431 := am (hbox); have GW431 := am ((by rw [hg]; exact (below_size q0) : w.heap.size ≤ gb431)); have GE431 := am ((by rw [hg]; exact (below_size q0) : w.heap.size ≤ gb431)); replace HB := am (below_step q0 hb); clear hb hbox hg; obtain ⟨hcz4_0, hcz4_1, hcz4_2⟩ := bc3 w3 BK431.out) | ((with_reducible refine gate_callee (f := 35) rfl ?_); refine goesL_ (some 4) rfl rfl Tryd.func35 kr rfl #[.agg #[.int .i64 a0_0, .int .i64 a0_1, .slice A0_2 l0_2.length c0_2]] rfl q1 ?_; (with_reducible refine (impl_areSessions.calls k a0_0 a0_1 _ _ l0_2 t432 _ ?side1 ?side2 A2.out).mono ?_); (case side1 => exact q5); (case side2 => exact HC0_2.out); rintro e w5 ⟨rfl, hb⟩; refine ⟨_, rfl, ?_⟩; replace BK431 := am (blk_below (g := gb431) (o := .cells #[.int .i64 a0_0, .int .i64 a0_1, .slice A0_2 l0_2.length c0_2] 30 (0, 0)) (by (with_reducible repeat (first | refine blk_drewN ?_ _ | refine blk_drew ?_ | refine blk_alloc ?_ _)); exact BK431.out) hb); replace HB := am (below_step q0 hb); (try clear hb); (try clear hb2); (try clear hk); (try clear hi)))
 go_ret
 exact ⟨er, q0⟩

/-! ### impl_Look: function 23 -/
def impl_Look.f (k : Nat) (a0_0 : Int) (a0_1 : Int) (l0_2 : List (S54)) (a1 : Int) (a2 : Int) : Option (Int × ByteArray) := (impl_look.f k a0_0 a0_1 l0_2 a1 a2).bind fun bt434 => (some (bt434.1, bt434.2))
theorem impl_Look.mono : ∀ a0 a1 a2 a3 a4 k, LeO (impl_Look.f k a0 a1 a2 a3 a4) (impl_Look.f (k + 1) a0 a1 a2 a3 a4) := by
 intro a0 a1 a2 a3 a4 k
 unfold impl_Look.f
 repeat' first
     | (with_reducible exact impl_look.mono _ _ _ _ _ _)
     | (with_reducible exact LeO.refl _)
     | (with_reducible exact LeO.none _)
     | (with_reducible refine LeO.ite ?_ ?_)
     | (with_reducible refine LeO.bind ?_ (fun _ => ?_))
     | exact impl_look.mono _ _ _ _ _ _
     | exact LeO.none _
     | refine LeO.ite ?_ ?_
     | refine LeO.bind ?_ (fun _ => ?_)
set_option maxHeartbeats 8000000 in
set_option maxRecDepth 100000 in
theorem impl_Look.calls (k : Nat) (a0_0 : Int) (a0_1 : Int) (A0_2 : Option Addr) (c0_2 : Nat) (l0_2 : List (S54)) (a1 : Int) (a2 : Int) (r1 : Int) (r2 : ByteArray) (w : World) (hr0_2 : Kd.C k54 w A0_2 l0_2.length l0_2) (hc0_2 : l0_2.length ≤ c0_2) (h : impl_Look.f k a0_0 a0_1 l0_2 a1 a2 = some (r1, r2)) :
   Calls Tryd.prog 23 #[.agg #[.int .i64 a0_0, .int .i64 a0_1, .slice A0_2 l0_2.length c0_2], .int .i64 a1, .int .i64 a2] w fun e w' => e = .returned (.tuple #[.int .i64 r1, .string r2]) ∧ Below w.heap.size w w' := by
 have hu30 := Tryd.underlying30
 have HR0_2 := am hr0_2
 have HC0_2 := am hc0_2
 clear hr0_2 hc0_2
 have HB := am (Below.refl w.heap.size w)
 have H : ((impl_look.f k a0_0 a0_1 l0_2 a1 a2).bind fun bt434 => (some (bt434.1, bt434.2))) = some (r1, r2) := h
 clear h
 replace H := Option.bind_eq_some_iff.mp H
 obtain ⟨⟨t434, t435⟩, A40, H⟩ := H
 replace H : (some (t434, t435)) = some (r1, r2) := H
 have A4 := am A40
 clear A40
 simp only [Option.some.injEq, Prod.mk.injEq] at H
 obtain ⟨rfl, rfl⟩ := H
 go_enter Tryd.func23, Tryd.ntmps23
 go_wp2_with (first | ((with_reducible refine gate_dst (N := 3) rfl ?_); refine box_event ?hg (N := 3) ?hd (cs := #[.int .i64 a0_0, .int .i64 a0_1, .slice A0_2 l0_2.length c0_2]) (t := 30) ?hr ?_; (case hd => rfl); (case hg => rfl); (case hr => first | (go_simp; done) | (go_simp; rfl)); intro gb433 hg w5 hbox hb; have BK433 := am (hbox); have GW433 := am ((by rw [hg]; exact (below_size q0) : w.heap.size ≤ gb433)); have GE433 := am ((by rw [hg]; exact (below_size q0) : w.heap.size ≤ gb433)); replace HB := am (below_step q0 hb); clear hb hbox hg; obtain ⟨hcz6_0, hcz6_1, hcz6_2⟩ := bc3 w5 BK433.out) | ((with_reducible refine gate_callee (f := 37) rfl ?_); refine goesL_ (some 11) rfl rfl Tryd.func37 kr rfl #[.agg #[.int .i64 a0_0, .int .i64 a0_1, .slice A0_2 l0_2.length c0_2], .int .i64 a1, .int .i64 a2] rfl q1 ?_; (with_reducible refine (impl_look.calls k a0_0 a0_1 _ _ l0_2 a1 a2 t434 t435 _ ?side1 ?side2 A4.out).mono ?_); (case side1 => exact q5); (case side2 => exact HC0_2.out); rintro e w7 ⟨rfl, hb⟩; refine ⟨_, rfl, ?_⟩; replace BK433 := am (blk_below (g := gb433) (o := .cells #[.int .i64 a0_0, .int .i64 a0_1, .slice A0_2 l0_2.length c0_2] 30 (0, 0)) (by (with_reducible repeat (first | refine blk_drewN ?_ _ | refine blk_drew ?_ | refine blk_alloc ?_ _)); exact BK433.out) hb); replace HB := am (below_step q0 hb); (try clear hb); (try clear hb2); (try clear hk); (try clear hi)))
 go_ret2
 exact ⟨er, q0⟩

end Go.Proofs.YtjdpifafijcpbaaDoor.QFnOnce
