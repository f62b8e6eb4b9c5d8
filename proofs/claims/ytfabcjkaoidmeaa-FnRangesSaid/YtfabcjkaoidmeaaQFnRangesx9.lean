-- Printed by the session's own program wip/prx.py.
import Derived.Test.YtfabcjkaoidmeaaQFnRangesx0
import Derived.Test.YtfabcjkaoidmeaaQFnRangesx1
import Derived.Test.YtfabcjkaoidmeaaQFnRangesx3
import Derived.Test.YtfabcjkaoidmeaaQFnRangesx6
import Derived.Test.YtfabcjkaoidmeaaQFnRangesx7
import Derived.Test.YtfabcjkaoidmeaaQFnRangesx8
namespace Go.Proofs.Ytfabcjkaoidmeaa.QFnRanges
open Go.RowKit Go.Proofs.YtfabcjkaoidmeaaW.PrintWords Go.Proofs.YtfabcjkaoidmeaaW.PrintLast Go.Proofs.YtfabcjkaoidmeaaW.PrintMore
attribute [local go_sem] max2_int min2_int max_two min_two max_three min_three max_four min_four Go.Proofs.Ytfabcjkaoidmeaa.Set.isSome_setCell   -- for this text's walks alone
set_option linter.unusedVariables false
set_option linter.unusedSimpArgs false

attribute [local go_sem high] eqA26
-- squeezed
theorem u9_0 {P : Prop} (h : P := by repeat (first | (with_reducible first | exact HK.out | apply KeepBut.set_ | apply keep_drewN | apply keep_drew | apply keep_alloc) | exact HK.out)) : P := h
theorem u9_1 {P : Prop} (h : P := by repeat (first | (with_reducible first | exact HB.out | apply below_alloc | apply pw_below_drewN | apply below_drew1 | refine below_set ?_ (IsS81.ge HI0.out)) | exact HB.out)) : P := h
theorem u9_2 {P : Prop} (h : P := by repeat (first | (with_reducible first | exact HI0.out | apply IsS81.alloc | apply IsS81.drewN | apply IsS81.drew | apply IsS81.set_1 | apply IsS81.set_2) | exact HI0.out)) : P := h
theorem u9_3 {P : Prop} (h : P := by (try simp only [List.map_toArray, List.map_cons, List.map_nil]); first | done | rfl | (simp only [List.length_drop, List.length_take]; rfl)) : P := h
theorem u9_4 {P : Prop} (h : P := by repeat (first | (with_reducible first | exact HB.out | apply below_alloc | apply pw_below_drewN | apply below_drew1) | exact HB.out)) : P := h
theorem u9_5 {P : Prop} (h : P := by (with_reducible repeat (first | apply Kd.R_alloc | apply Kd.R_drewN | apply Kd.R_drew)); exact HO_5.out) : P := h
theorem u9_6 {P : Prop} (h : P := by repeat (first | (with_reducible first | exact HB.out | apply below_alloc | apply pw_below_drewN | apply below_drew1 | refine below_set ?_ (IsS81.ge HI223.out)) | exact HB.out)) : P := h
theorem u9_7 {P : Prop} (h : P := by repeat (first | exact Drawn0.refl _ | apply Drawn0.step)) : P := h
theorem u9_8 {P : Prop} (h : P := by first | rfl | (simp; done) | (simp [*]; done)) : P := h
theorem u9_9 {P : Prop} (h : P := by repeat (first | (with_reducible first | exact HI223.out | apply IsS81.alloc | apply IsS81.drewN | apply IsS81.drew | apply IsS81.set_1 | apply IsS81.set_2) | exact HI223.out)) : P := h
theorem u9_10 {P : Prop} (h : P := by repeat (first | (with_reducible first | exact HB.out | apply below_alloc | apply pw_below_drewN | apply below_drew1 | refine below_set ?_ GE241.out) | exact HB.out)) : P := h
theorem u9_11 {P : Prop} (h : P := by first | (with_reducible assumption) | assumption) : P := h
theorem u9_12 {P : Prop} (h : P := by (with_reducible repeat (first | apply Kd.R_alloc | apply Kd.R_drewN | apply Kd.R_drew)); exact HO209.out) : P := h
theorem u9_13 {P : Prop} (h : P := by (with_reducible repeat (first | apply Kd.R_alloc | apply Kd.R_drewN | apply Kd.R_drew)); exact HO226.out) : P := h
theorem u9_14 {P : Prop} (h : P := by repeat (first | exact (Kd.R_reads' HO_5.out).2.2 | (with_reducible refine Kd.C_alloc ?_ _) | (with_reducible refine Kd.C_drewN ?_ _) | (with_reducible refine Kd.C_drew ?_))) : P := h
theorem u9_15 {P : Prop} (h : P := by (with_reducible repeat (first | apply Kd.R_alloc | apply Kd.R_drewN | apply Kd.R_drew)); exact Kd.R_mono HO_5.out (fun _ hk => trivial)) : P := h
theorem u9_16 {P : Prop} (h : P := by (with_reducible repeat (first | apply Kd.R_alloc | apply Kd.R_drewN | apply Kd.R_drew)); exact HO195.out) : P := h
/-! ### spec_l11DrawRight: function 61 -/
def spec_l11DrawRight.l0 : Nat → List (S26) → Int → List Int → Int → Int → Option ((List (S26)) × Int × Int)
  | 0, _, _, _, _, _ => none
  | k + 1, x5, x6, x1000, x1001, x1002 => if x6 > 0 then ((spec_l11DrawAt.f x1000 x1001 x1002).bind fun bt200 => ((spec_l01Below.f x1000 bt200.2.1 bt200.2.2 3).bind fun bt203 => ((spec_SplitRange.f k x5 bt200.1 bt203.1).bind fun bt206 => ((spec_l01Once.f x1000 bt203.2.1 bt203.2.2 4).bind fun bt210 => (if bt210.1 = true then ((spec_l01Below.f x1000 bt210.2.1 bt210.2.2 (x5.length : Int)).bind fun bt213 => ((spec_MergeRange.f k x5 bt213.1).bind fun bt216 => (if bt216.2 = true then (spec_l11DrawRight.l0 k bt216.1 (wrap64 (x6 - 1)) x1000 bt213.2.1 bt213.2.2) else (spec_l11DrawRight.l0 k x5 (wrap64 (x6 - 1)) x1000 bt213.2.1 bt213.2.2)))) else (if bt206.2 = true then (spec_l11DrawRight.l0 k bt206.1 (wrap64 (x6 - 1)) x1000 bt210.2.1 bt210.2.2) else (spec_l11DrawRight.l0 k x5 (wrap64 (x6 - 1)) x1000 bt210.2.1 bt210.2.2))))))) else (some (x5, x1001, x1002))
def spec_l11DrawRight.f (k : Nat) (s0_0 : List Int) (s0_1 : Int) (s0_2 : Int) (l1 : List Int) : Option ((List (S26)) × Int × Int) := (spec_l01Below.f s0_0 s0_1 s0_2 3).bind fun bt190 => ((spec_l01Size.f l1 9).bind fun t196 => ((spec_l01Below.f s0_0 bt190.2.1 bt190.2.2 t196).bind fun bt197 => (spec_l11DrawRight.l0 k (([(⟨0, 18446744073709551615, bt190.1⟩ : S26)] : List (S26))) bt197.1 s0_0 bt197.2.1 bt197.2.2)))
theorem spec_l11DrawRight.mono_l : ∀ k, (∀ y0 y1 y2 y3 y4, LeO (spec_l11DrawRight.l0 k y0 y1 y2 y3 y4) (spec_l11DrawRight.l0 (k + 1) y0 y1 y2 y3 y4))
  | 0 => fun _ _ _ _ _ r h => by simp [spec_l11DrawRight.l0] at h
  | k + 1 => by
    have ih0 := spec_l11DrawRight.mono_l k
    · intro y0 y1 y2 y3 y4
      unfold spec_l11DrawRight.l0
      repeat' first
      | (with_reducible exact ih0 _ _ _ _ _)
      | (with_reducible exact spec_MergeRange.mono _ _ _)
      | (with_reducible exact spec_SplitRange.mono _ _ _ _)
      | (with_reducible exact LeO.refl _)
      | (with_reducible exact LeO.none _)
      | (with_reducible refine LeO.ite ?_ ?_)
      | (with_reducible refine LeO.bind ?_ (fun _ => ?_))
      | exact ih0 _ _ _ _ _
      | exact spec_MergeRange.mono _ _ _
      | exact spec_SplitRange.mono _ _ _ _
      | exact LeO.none _
      | refine LeO.ite ?_ ?_
      | refine LeO.bind ?_ (fun _ => ?_)
theorem spec_l11DrawRight.mono : ∀ a0 a1 a2 a3 k, LeO (spec_l11DrawRight.f k a0 a1 a2 a3) (spec_l11DrawRight.f (k + 1) a0 a1 a2 a3) := by
  intro a0 a1 a2 a3 k
  have ih0 := spec_l11DrawRight.mono_l k
  unfold spec_l11DrawRight.f
  repeat' first
      | (with_reducible exact ih0 _ _ _ _ _)
      | (with_reducible exact spec_MergeRange.mono _ _ _)
      | (with_reducible exact spec_SplitRange.mono _ _ _ _)
      | (with_reducible exact LeO.refl _)
      | (with_reducible exact LeO.none _)
      | (with_reducible refine LeO.ite ?_ ?_)
      | (with_reducible refine LeO.bind ?_ (fun _ => ?_))
      | exact ih0 _ _ _ _ _
      | exact spec_MergeRange.mono _ _ _
      | exact spec_SplitRange.mono _ _ _ _
      | exact LeO.none _
      | refine LeO.ite ?_ ?_
      | refine LeO.bind ?_ (fun _ => ?_)
set_option maxHeartbeats 8000000 in
set_option maxRecDepth 100000 in
theorem spec_l11DrawRight.calls (k : Nat) (g : Nat) (s0_0 : List Int) (s0_1 : Int) (s0_2 : Int) (A1 : Option Addr) (c1 : Nat) (l1 : List Int) (r1 : List (S26)) (r2 : Int) (r3 : Int) (w0 w : World) (hI : IsS81 w0 w g s0_0 s0_1 s0_2) (hB : Below w0.heap.size w0 w) (hr1 : Kd.C (Kd.int .u8) w A1 l1.length l1) (hc1 : l1.length ≤ c1) (hf1 : ∀ ad, A1 = some ad → 0 < l1.length → ad.block ≠ g) (h : spec_l11DrawRight.f k s0_0 s0_1 s0_2 l1 = some (r1, r2, r3)) :
    Calls Try.prog 61 #[.pointer (some ⟨g, 0, none⟩), .slice A1 l1.length c1] w fun e w' => ∃ v0_ : Value, e = .returned (v0_) ∧ Kd.R k26 26 w' w.heap.size (fun _ => True) v0_ r1 ∧ IsS81 w0 w' g s0_0 r2 r3 ∧ Below w0.heap.size w0 w' ∧ KeepBut w w' g none := by
  have hu26 := Try.underlying26
  have HR1 := Aside0.mk hr1
  have HC1 := Aside0.mk hc1
  clear hr1 hc1
  have HI0 := Aside0.mk hI
  have HK := Aside0.mk (KeepBut.refl w g none)
  have HL := Aside0.mk hB.size
  clear hI
  have HW0 := Aside0.mk hB.size
  have HB := Aside0.mk hB
  clear hB
  have H : ((spec_l01Below.f s0_0 s0_1 s0_2 3).bind fun bt190 => ((spec_l01Size.f l1 9).bind fun t196 => ((spec_l01Below.f s0_0 bt190.2.1 bt190.2.2 t196).bind fun bt197 => (spec_l11DrawRight.l0 k (([(⟨0, 18446744073709551615, bt190.1⟩ : S26)] : List (S26))) bt197.1 s0_0 bt197.2.1 bt197.2.2)))) = some (r1, r2, r3) := h
  clear h
  replace H := Option.bind_eq_some_iff.mp H
  obtain ⟨⟨t190, t191, t192⟩, A30, H⟩ := H
  (try dsimp only at H)
  have A3 := Aside0.mk A30
  clear A30
  obtain ⟨y193, hy193⟩ : ∃ y_ : List (S26), y_ = (([(⟨0, 18446744073709551615, t190⟩ : S26)] : List (S26))) := ⟨_, rfl⟩
  replace H : ((spec_l01Size.f l1 9).bind fun t196 => ((spec_l01Below.f s0_0 t191 t192 t196).bind fun bt197 => (spec_l11DrawRight.l0 k y193 bt197.1 s0_0 bt197.2.1 bt197.2.2))) = some (r1, r2, r3) := by first | (rw [hy193]; with_reducible exact H) | (have H2_ := (Option.bind_some _ _).symm.trans H; rw [hy193]; with_reducible exact H2_) | (have H2_ := (Option.bind_some _ _).symm.trans H; with_reducible exact H2_) | with_reducible exact H | (rw [hy193]; exact H) | exact H
  have Ny193 := Aside0.mk hy193
  clear hy193
  replace H := Option.bind_eq_some_iff.mp H
  obtain ⟨t196, A40, H⟩ := H
  have A4 := Aside0.mk A40
  clear A40
  replace H := Option.bind_eq_some_iff.mp H
  obtain ⟨⟨t197, t198, t199⟩, A50, H⟩ := H
  replace H : (spec_l11DrawRight.l0 k y193 t197 s0_0 t198 t199) = some (r1, r2, r3) := H
  have A5 := Aside0.mk A50
  clear A50
  have H' := Aside0.mk H
  clear H
  go_enter Try.func61, Try.ntmps61
  go_wp2_with (first | ((with_reducible refine gate_callee (f := 63) rfl ?_); refine goesL_ (some 10) rfl rfl Try.func63 (by kernel_rfl) rfl #[.pointer (some ⟨g, 0, none⟩), .int .i64 3] rfl u9_3 ?_; (with_reducible refine (spec_l01Below.calls g s0_0 s0_1 s0_2 3 t190 t191 t192 w0 _ ?side1 ?side2 A3.out).mono ?_); (case side1 => exact u9_2); (case side2 => exact u9_1); rintro e w6 ⟨rfl, hi, hb, hk⟩; refine ⟨_, rfl, ?_⟩; have n0_ := Aside0.mk (KeepBut.trans u9_0 hk (.inl rfl)); have n1_ := Aside0.mk (hb); have n2_ := Aside0.mk (hi); clear HK; clear HB; clear HI0; have HK := n0_; have HB := n1_; have HI0 := n2_; clear n0_ n1_ n2_; (try clear hb); (try clear hb2); (try clear hk); (try clear hi)) | ((with_reducible refine gate_dst (N := 12) rfl ?_); refine Kd.R_lit k26 _ 26 ?hg (N := 12) ?hd (xs := ([(⟨0, 18446744073709551615, t190⟩ : S26)] : List (S26))) (inner := [.int .u64 0, .int .u64 18446744073709551615, .int .i64 t190]) (ok := fun _ => True) (okp := fun _ => True) ?hr ?hp (fun _ hk => hk) trivial (Below.refl _ _) (Nat.le_refl _) (by simp) ?_; (case hd => rfl); (case hg => rfl); (case hr => first | (go_simp; done) | (go_simp; rfl)); (case hp => exact (Reps.c3 (show Kd.M k26 _ _ _ (⟨0, 18446744073709551615, t190⟩ : S26) [.int .u64 0, .int .u64 18446744073709551615, .int .i64 t190] from (k26_mkM _ _ _ (⟨0, 18446744073709551615, t190⟩ : S26) )) (Reps.none _ _))); intro v194 w7 ho8 hb hg_ hnew_; clear hg_ hnew_; (first | rw [← Ny193.out] at ho8 | (simp only [Int.reduceToNat] at ho8; rw [← Ny193.out] at ho8)); have n0_ := Aside0.mk (Kd.R_lower ho8 (keep_size (w := w) (g := g) (row := none) u9_0)); have n1_ := Aside0.mk (IsS81.below u9_2 hb); have n2_ := Aside0.mk (KeepBut.trans u9_0 (KeepBut.of_below hb g none) (.inl rfl)); have n3_ := Aside0.mk (below_step u9_1 hb); clear HI0; clear HK; clear HB; have HO195 := n0_; have HI0 := n1_; have HK := n2_; have HB := n3_; clear n0_ n1_ n2_ n3_; clear hb ho8) | ((with_reducible refine gate_callee (f := 75) rfl ?_); refine goesL_ (some 15) rfl rfl Try.func75 (by kernel_rfl) rfl #[.slice A1 l1.length c1, .int .i64 9] rfl u9_3 ?_; (with_reducible refine (spec_l01Size.calls _ _ l1 9 t196 _ ?side1 ?side2 A4.out).mono ?_); (case side1 => exact (by exact Kd.C_keep 0 HR1.out u9_0 hf1)); (case side2 => exact HC1.out); rintro e w' ⟨rfl, ⟨nd, rfl⟩⟩; refine ⟨_, rfl, ?_⟩) | ((with_reducible refine gate_callee (f := 63) rfl ?_); refine goesL_ (some 16) rfl rfl Try.func63 (by kernel_rfl) rfl #[.pointer (some ⟨g, 0, none⟩), .int .i64 t196] rfl u9_3 ?_; (with_reducible refine (spec_l01Below.calls g s0_0 t191 t192 t196 t197 t198 t199 w0 _ ?side1 ?side2 A5.out).mono ?_); (case side1 => exact u9_2); (case side2 => exact u9_1); rintro e w9 ⟨rfl, hi, hb, hk⟩; refine ⟨_, rfl, ?_⟩; have n0_ := Aside0.mk (Kd.R_mono (Kd.R_keep (IsS81.apart (show IsS81 w0 _ g s0_0 t191 t192 from by repeat (first | (with_reducible first | exact HI0.out | apply IsS81.alloc | apply IsS81.drewN | apply IsS81.drew | apply IsS81.set_1 | apply IsS81.set_2) | exact HI0.out)) u9_16 (by decide)) hk (fun _ h => h.2)) (fun _ h => h.1)); have n1_ := Aside0.mk (KeepBut.trans u9_0 hk (.inl rfl)); have n2_ := Aside0.mk (hb); have n3_ := Aside0.mk (hi); clear HO195; clear HK; clear HB; clear HI0; have HO195 := n0_; have HK := n1_; have HB := n2_; have HI0 := n3_; clear n0_ n1_ n2_ n3_; (try clear hb); (try clear hb2); (try clear hk); (try clear hi)))
  go_loopg [5, 6] k (fun kq v5 v6 w' => ∃ (x5_1 : List (S26)) (x6_1 : Int) (x1001_1 : Int) (x1002_1 : Int), v6 = .int .i64 x6_1 ∧ Aside0 (spec_l11DrawRight.l0 kq x5_1 x6_1 s0_0 x1001_1 x1002_1 = some (r1, r2, r3)) ∧ Aside0 (kq ≤ k) ∧ Aside0 (Kd.R k26 26 w' w.heap.size (fun _ => True) v5 x5_1) ∧ Aside0 (IsS81 w0 w' g s0_0 x1001_1 x1002_1) ∧ Aside0 (KeepBut w w' g none) ∧ Aside0 (Below w0.heap.size w0 w'))
  case atStart => exact ⟨(y193), (t197), (t198), (t199), u9_8, H', ⟨Nat.le_refl _⟩, ⟨u9_16⟩, ⟨u9_2⟩, ⟨u9_0⟩, ⟨u9_1⟩⟩
  clear H'
  try clear c1
  try clear p2
  try clear c3
  try clear c6
  try clear c7
  obtain ⟨x5_1, x6_1, x1001_1, x1002_1, rfl, HA, HK1, HO_5, HI0, HK, HB⟩ := hrel
  cases gk with
  | zero => exact absurd HA.out (by simp [spec_l11DrawRight.l0])
  | succ k1 =>
    have H := HA.out
    clear HA
    simp only [spec_l11DrawRight.l0] at H
    by_cases c10 : x6_1 > 0
    rotate_left
    · rw [if_neg c10] at H
      have c10b0 : decide (0 < x6_1) = false := decide_eq_false c10
      clear c10
      simp only [Option.some.injEq, Prod.mk.injEq] at H
      obtain ⟨rfl, rfl, rfl⟩ := H
      go_wp2
      go_ret
      exact ⟨_, by first | rfl | (simp [errW_none, errW_some] <;> rfl) | (simp [*, errW_none, errW_some] <;> rfl), u9_5, u9_2, u9_1, u9_0⟩
    rw [if_pos c10] at H
    have c10b0 : decide (0 < x6_1) = true := decide_eq_true c10
    clear c10
    replace H := Option.bind_eq_some_iff.mp H
    obtain ⟨⟨t200, t201, t202⟩, A110, H⟩ := H
    (try dsimp only at H)
    have A11 := Aside0.mk A110
    clear A110
    replace H := Option.bind_eq_some_iff.mp H
    obtain ⟨⟨t203, t204, t205⟩, A120, H⟩ := H
    (try dsimp only at H)
    have A12 := Aside0.mk A120
    clear A120
    replace H := Option.bind_eq_some_iff.mp H
    obtain ⟨⟨t206, t207⟩, A130, H⟩ := H
    (try dsimp only at H)
    have A13 := Aside0.mk A130
    clear A130
    replace H := Option.bind_eq_some_iff.mp H
    obtain ⟨⟨t210, t211, t212⟩, A140, H⟩ := H
    (try dsimp only at H)
    have A14 := Aside0.mk A140
    clear A140
    have H9 := Aside0.mk H
    clear H
    go_upto_if 31 with (first | ((with_reducible refine gate_callee (f := 62) rfl ?_); refine goesL_ (some 24) rfl rfl Try.func62 (by kernel_rfl) rfl #[.pointer (some ⟨g, 0, none⟩)] rfl u9_3 ?_; (with_reducible refine (spec_l11DrawAt.calls g s0_0 x1001_1 x1002_1 t200 t201 t202 w0 _ ?side1 ?side2 A11.out).mono ?_); (case side1 => exact u9_2); (case side2 => exact u9_1); rintro e w15 ⟨rfl, hi, hb, hk⟩; refine ⟨_, rfl, ?_⟩; have n0_ := Aside0.mk (Kd.R_mono (Kd.R_keep (IsS81.apart (show IsS81 w0 _ g s0_0 x1001_1 x1002_1 from by repeat (first | (with_reducible first | exact HI0.out | apply IsS81.alloc | apply IsS81.drewN | apply IsS81.drew | apply IsS81.set_1 | apply IsS81.set_2) | exact HI0.out)) u9_5 (by decide)) hk (fun _ h => h.2)) (fun _ h => h.1)); have n1_ := Aside0.mk (KeepBut.trans u9_0 hk (.inl rfl)); have n2_ := Aside0.mk (hb); have n3_ := Aside0.mk (hi); clear HO_5; clear HK; clear HB; clear HI0; have HO_5 := n0_; have HK := n1_; have HB := n2_; have HI0 := n3_; clear n0_ n1_ n2_ n3_; (try clear hb); (try clear hb2); (try clear hk); (try clear hi)) | ((with_reducible refine gate_callee (f := 63) rfl ?_); refine goesL_ (some 26) rfl rfl Try.func63 (by kernel_rfl) rfl #[.pointer (some ⟨g, 0, none⟩), .int .i64 3] rfl u9_3 ?_; (with_reducible refine (spec_l01Below.calls g s0_0 t201 t202 3 t203 t204 t205 w0 _ ?side1 ?side2 A12.out).mono ?_); (case side1 => exact u9_2); (case side2 => exact u9_1); rintro e w16 ⟨rfl, hi, hb, hk⟩; refine ⟨_, rfl, ?_⟩; have n0_ := Aside0.mk (Kd.R_mono (Kd.R_keep (IsS81.apart (show IsS81 w0 _ g s0_0 t201 t202 from by repeat (first | (with_reducible first | exact HI0.out | apply IsS81.alloc | apply IsS81.drewN | apply IsS81.drew | apply IsS81.set_1 | apply IsS81.set_2) | exact HI0.out)) u9_5 (by decide)) hk (fun _ h => h.2)) (fun _ h => h.1)); have n1_ := Aside0.mk (KeepBut.trans u9_0 hk (.inl rfl)); have n2_ := Aside0.mk (hb); have n3_ := Aside0.mk (hi); clear HO_5; clear HK; clear HB; clear HI0; have HO_5 := n0_; have HK := n1_; have HB := n2_; have HI0 := n3_; clear n0_ n1_ n2_ n3_; (try clear hb); (try clear hb2); (try clear hk); (try clear hi); obtain ⟨Ao17, co17, eo17⟩ := Kd.R_slice HO_5.out; subst eo17) | ((with_reducible refine gate_callee (f := 50) rfl ?_); refine goesL_ (some 27) rfl rfl Try.func50 (by kernel_rfl) rfl #[.slice Ao17 x5_1.length co17, .int .u64 t200, .int .i64 t203] rfl u9_3 ?_; (with_reducible refine (spec_SplitRange.calls k1 _ _ x5_1 t200 t203 t206 t207 _ ?side1 ?side2 A13.out).mono ?_); (case side1 => exact u9_14); (case side2 => exact (Kd.R_reads' HO_5.out).2.1); rintro e w18 ⟨v208, rfl, ho0, hb⟩; refine ⟨_, rfl, ?_⟩; have n0_ := Aside0.mk (Kd.R_elder' u9_5 (Kd.R_base ho0) hb); have n1_ := Aside0.mk (Kd.R_lower (Kd.R_new' ho0 (Kd.R_lt u9_5)) (keep_size (w := w) (g := g) (row := none) u9_0)); have n2_ := Aside0.mk (IsS81.below u9_2 hb); have n3_ := Aside0.mk (KeepBut.trans u9_0 (KeepBut.of_below hb g none) (.inl rfl)); have n4_ := Aside0.mk (below_step u9_1 hb); clear HO_5; clear HI0; clear HK; clear HB; have HO_5 := n0_; have HO209 := n1_; have HI0 := n2_; have HK := n3_; have HB := n4_; clear n0_ n1_ n2_ n3_ n4_; (try clear hb); (try clear hb2); (try clear hk); (try clear hi); (try clear ho0)) | ((with_reducible refine gate_callee (f := 76) rfl ?_); refine goesL_ (some 31) rfl rfl Try.func76 (by kernel_rfl) rfl #[.pointer (some ⟨g, 0, none⟩), .int .i64 4] rfl u9_3 ?_; (with_reducible refine (spec_l01Once.calls g s0_0 t204 t205 4 t210 t211 t212 w0 _ ?side1 ?side2 A14.out).mono ?_); (case side1 => exact u9_2); (case side2 => exact u9_1); rintro e w19 ⟨rfl, hi, hb, hk⟩; refine ⟨_, rfl, ?_⟩; have n0_ := Aside0.mk (Kd.R_mono (Kd.R_keep (IsS81.apart (show IsS81 w0 _ g s0_0 t204 t205 from by repeat (first | (with_reducible first | exact HI0.out | apply IsS81.alloc | apply IsS81.drewN | apply IsS81.drew | apply IsS81.set_1 | apply IsS81.set_2) | exact HI0.out)) u9_5 (by decide)) hk (fun _ h => h.2)) (fun _ h => h.1)); have n1_ := Aside0.mk (Kd.R_mono (Kd.R_keep (IsS81.apart (show IsS81 w0 _ g s0_0 t204 t205 from by repeat (first | (with_reducible first | exact HI0.out | apply IsS81.alloc | apply IsS81.drewN | apply IsS81.drew | apply IsS81.set_1 | apply IsS81.set_2) | exact HI0.out)) u9_12 (by decide)) hk (fun _ h => h.2)) (fun _ h => h.1)); have n2_ := Aside0.mk (KeepBut.trans u9_0 hk (.inl rfl)); have n3_ := Aside0.mk (hb); have n4_ := Aside0.mk (hi); clear HO_5; clear HO209; clear HK; clear HB; clear HI0; have HO_5 := n0_; have HO209 := n1_; have HK := n2_; have HB := n3_; have HI0 := n4_; clear n0_ n1_ n2_ n3_ n4_; (try clear hb); (try clear hb2); (try clear hk); (try clear hi)))
    have H := H9.out
    clear H9
    by_cases c20 : t210 = true
    rotate_left
    · replace c20 := Bool.eq_false_iff.mpr c20
      subst c20
      rw [if_neg (show ¬ (false = true) by decide)] at H
      by_cases c26 : t207 = true
      · subst c26
        rw [if_pos rfl] at H
        have H' := Aside0.mk H
        clear H
        go_wp2
        go_roundg k1
        case measure => have := HK1.out; omega
        case rel => exact ⟨(t206), (wrap64 (x6_1 - 1)), (t211), (t212), u9_8, H', ⟨by have := HK1.out; omega⟩, ⟨(by (with_reducible repeat (first | apply Kd.R_alloc | apply Kd.R_drewN | apply Kd.R_drew)); exact Kd.R_mono HO209.out (fun _ hk => trivial))⟩, ⟨u9_2⟩, ⟨u9_0⟩, ⟨u9_1⟩⟩
      replace c26 := Bool.eq_false_iff.mpr c26
      subst c26
      rw [if_neg (show ¬ (false = true) by decide)] at H
      have H' := Aside0.mk H
      clear H
      go_wp2
      go_roundg k1
      case measure => have := HK1.out; omega
      case rel => exact ⟨(x5_1), (wrap64 (x6_1 - 1)), (t211), (t212), u9_8, H', ⟨by have := HK1.out; omega⟩, ⟨u9_15⟩, ⟨u9_2⟩, ⟨u9_0⟩, ⟨u9_1⟩⟩
    subst c20
    rw [if_pos rfl] at H
    replace H := Option.bind_eq_some_iff.mp H
    obtain ⟨⟨t213, t214, t215⟩, A210, H⟩ := H
    (try dsimp only at H)
    have A21 := Aside0.mk A210
    clear A210
    replace H := Option.bind_eq_some_iff.mp H
    obtain ⟨⟨t216, t217⟩, A220, H⟩ := H
    (try dsimp only at H)
    have A22 := Aside0.mk A220
    clear A220
    have H9 := Aside0.mk H
    clear H
    go_upto_if 41 with (first | ((with_reducible refine gate_callee (f := 63) rfl ?_); refine goesL_ (some 37) rfl rfl Try.func63 (by kernel_rfl) rfl #[.pointer (some ⟨g, 0, none⟩), .int .i64 (x5_1.length : Int)] rfl u9_3 ?_; (with_reducible refine (spec_l01Below.calls g s0_0 t211 t212 (x5_1.length : Int) t213 t214 t215 w0 _ ?side1 ?side2 A21.out).mono ?_); (case side1 => exact u9_2); (case side2 => exact u9_1); rintro e w23 ⟨rfl, hi, hb, hk⟩; refine ⟨_, rfl, ?_⟩; have n0_ := Aside0.mk (Kd.R_mono (Kd.R_keep (IsS81.apart (show IsS81 w0 _ g s0_0 t211 t212 from by repeat (first | (with_reducible first | exact HI0.out | apply IsS81.alloc | apply IsS81.drewN | apply IsS81.drew | apply IsS81.set_1 | apply IsS81.set_2) | exact HI0.out)) u9_5 (by decide)) hk (fun _ h => h.2)) (fun _ h => h.1)); have n1_ := Aside0.mk (Kd.R_mono (Kd.R_keep (IsS81.apart (show IsS81 w0 _ g s0_0 t211 t212 from by repeat (first | (with_reducible first | exact HI0.out | apply IsS81.alloc | apply IsS81.drewN | apply IsS81.drew | apply IsS81.set_1 | apply IsS81.set_2) | exact HI0.out)) u9_12 (by decide)) hk (fun _ h => h.2)) (fun _ h => h.1)); have n2_ := Aside0.mk (KeepBut.trans u9_0 hk (.inl rfl)); have n3_ := Aside0.mk (hb); have n4_ := Aside0.mk (hi); clear HO_5; clear HO209; clear HK; clear HB; clear HI0; have HO_5 := n0_; have HO209 := n1_; have HK := n2_; have HB := n3_; have HI0 := n4_; clear n0_ n1_ n2_ n3_ n4_; (try clear hb); (try clear hb2); (try clear hk); (try clear hi)) | ((with_reducible refine gate_callee (f := 45) rfl ?_); refine goesL_ (some 38) rfl rfl Try.func45 (by kernel_rfl) rfl #[.slice Ao17 x5_1.length co17, .int .i64 t213] rfl u9_3 ?_; (with_reducible refine (spec_MergeRange.calls k1 _ _ x5_1 t213 t216 t217 _ ?side1 ?side2 A22.out).mono ?_); (case side1 => exact u9_14); (case side2 => exact (Kd.R_reads' HO_5.out).2.1); rintro e w24 ⟨v218, rfl, ho0, hb⟩; refine ⟨_, rfl, ?_⟩; have n0_ := Aside0.mk (Kd.R_elder' u9_5 (Kd.R_base ho0) hb); have n1_ := Aside0.mk (Kd.R_elder' u9_12 (Kd.R_base ho0) hb); have n2_ := Aside0.mk (Kd.R_lower (Kd.R_new' (Kd.R_new' ho0 (Kd.R_lt u9_5)) (Kd.R_lt u9_12)) (keep_size (w := w) (g := g) (row := none) u9_0)); have n3_ := Aside0.mk (IsS81.below u9_2 hb); have n4_ := Aside0.mk (KeepBut.trans u9_0 (KeepBut.of_below hb g none) (.inl rfl)); have n5_ := Aside0.mk (below_step u9_1 hb); clear HO_5; clear HO209; clear HI0; clear HK; clear HB; have HO_5 := n0_; have HO209 := n1_; have HO219 := n2_; have HI0 := n3_; have HK := n4_; have HB := n5_; clear n0_ n1_ n2_ n3_ n4_ n5_; (try clear hb); (try clear hb2); (try clear hk); (try clear hi); (try clear ho0)))
    have H := H9.out
    clear H9
    by_cases c25 : t217 = true
    · subst c25
      rw [if_pos rfl] at H
      have H' := Aside0.mk H
      clear H
      go_wp2
      go_roundg k1
      case measure => have := HK1.out; omega
      case rel => exact ⟨(t216), (wrap64 (x6_1 - 1)), (t214), (t215), u9_8, H', ⟨by have := HK1.out; omega⟩, ⟨(by (with_reducible repeat (first | apply Kd.R_alloc | apply Kd.R_drewN | apply Kd.R_drew)); exact Kd.R_mono HO219.out (fun _ hk => trivial))⟩, ⟨u9_2⟩, ⟨u9_0⟩, ⟨u9_1⟩⟩
    replace c25 := Bool.eq_false_iff.mpr c25
    subst c25
    rw [if_neg (show ¬ (false = true) by decide)] at H
    have H' := Aside0.mk H
    clear H
    go_wp2
    go_roundg k1
    case measure => have := HK1.out; omega
    case rel => exact ⟨(x5_1), (wrap64 (x6_1 - 1)), (t214), (t215), u9_8, H', ⟨by have := HK1.out; omega⟩, ⟨u9_15⟩, ⟨u9_2⟩, ⟨u9_0⟩, ⟨u9_1⟩⟩

/-! ### spec_DrawRightRanges: function 35 -/
def spec_DrawRightRanges.f (k : Nat) (l0 : List Int) : Option ((List (S26)) × Int × Int) := (spec_l01New.f k l0).bind fun bt220 => ((spec_l11DrawRight.f k bt220.1 bt220.2.1 bt220.2.2 l0).bind fun bt224 => ((spec_l11DrawAt.f bt220.1 bt224.2.1 bt224.2.2).bind fun bt229 => ((spec_l01Below.f bt220.1 bt229.2.1 bt229.2.2 3).bind fun bt232 => (some (bt224.1, bt229.1, bt232.1)))))
theorem spec_DrawRightRanges.mono : ∀ a0 k, LeO (spec_DrawRightRanges.f k a0) (spec_DrawRightRanges.f (k + 1) a0) := by
  intro a0 k
  unfold spec_DrawRightRanges.f
  repeat' first
      | (with_reducible exact spec_l01New.mono _ _)
      | (with_reducible exact spec_l11DrawRight.mono _ _ _ _ _)
      | (with_reducible exact LeO.refl _)
      | (with_reducible exact LeO.none _)
      | (with_reducible refine LeO.ite ?_ ?_)
      | (with_reducible refine LeO.bind ?_ (fun _ => ?_))
      | exact spec_l01New.mono _ _
      | exact spec_l11DrawRight.mono _ _ _ _ _
      | exact LeO.none _
      | refine LeO.ite ?_ ?_
      | refine LeO.bind ?_ (fun _ => ?_)
set_option maxHeartbeats 8000000 in
set_option maxRecDepth 100000 in
theorem spec_DrawRightRanges.calls (k : Nat) (A0 : Option Addr) (c0 : Nat) (l0 : List Int) (r1 : List (S26)) (r2 : Int) (r3 : Int) (w : World) (hr0 : Kd.C (Kd.int .u8) w A0 l0.length l0) (hc0 : l0.length ≤ c0) (h : spec_DrawRightRanges.f k l0 = some (r1, r2, r3)) :
    Calls Try.prog 35 #[.slice A0 l0.length c0] w fun e w' => ∃ v0_ : Value, e = .returned (.tuple #[v0_, .int .u64 r2, .int .i64 r3]) ∧ Kd.R k26 26 w' w.heap.size (fun _ => True) v0_ r1 ∧ Below w.heap.size w w' := by
  have HR0 := Aside0.mk hr0
  have HC0 := Aside0.mk hc0
  clear hr0 hc0
  have HB := Aside0.mk (Below.refl w.heap.size w)
  have H : ((spec_l01New.f k l0).bind fun bt220 => ((spec_l11DrawRight.f k bt220.1 bt220.2.1 bt220.2.2 l0).bind fun bt224 => ((spec_l11DrawAt.f bt220.1 bt224.2.1 bt224.2.2).bind fun bt229 => ((spec_l01Below.f bt220.1 bt229.2.1 bt229.2.2 3).bind fun bt232 => (some (bt224.1, bt229.1, bt232.1)))))) = some (r1, r2, r3) := h
  clear h
  replace H := Option.bind_eq_some_iff.mp H
  obtain ⟨⟨t220, t221, t222⟩, A20, H⟩ := H
  (try dsimp only at H)
  have A2 := Aside0.mk A20
  clear A20
  replace H := Option.bind_eq_some_iff.mp H
  obtain ⟨⟨t224, t227, t228⟩, A30, H⟩ := H
  (try dsimp only at H)
  have A3 := Aside0.mk A30
  clear A30
  replace H := Option.bind_eq_some_iff.mp H
  obtain ⟨⟨t229, t230, t231⟩, A40, H⟩ := H
  replace H : ((spec_l01Below.f t220 t230 t231 3).bind fun bt232 => (some (t224, t229, bt232.1))) = some (r1, r2, r3) := H
  have A4 := Aside0.mk A40
  clear A40
  replace H := Option.bind_eq_some_iff.mp H
  obtain ⟨⟨t232, t233, t234⟩, A50, H⟩ := H
  replace H : (some (t224, t229, t232)) = some (r1, r2, r3) := H
  have A5 := Aside0.mk A50
  clear A50
  simp only [Option.some.injEq, Prod.mk.injEq] at H
  obtain ⟨rfl, rfl, rfl⟩ := H
  go_enter Try.func35, Try.ntmps35
  go_wp2_with (first | ((with_reducible refine gate_callee (f := 60) rfl ?_); refine goesL_ (some 9) rfl rfl Try.func60 (by kernel_rfl) rfl #[.slice A0 l0.length c0] rfl u9_3 ?_; (with_reducible refine (spec_l01New.calls k _ _ l0 t220 t221 t222 w _ ?side1 ?side2 ?side3 A2.out).mono ?_); (case side1 => exact u9_4); (case side2 => exact HR0.out); (case side3 => exact HC0.out); rintro e w6 ⟨g223, rfl, hi, hb, hb2⟩; refine ⟨_, rfl, ?_⟩; have n0_ := Aside0.mk (hb); have n1_ := Aside0.mk (hi); clear HB; have HB := n0_; have HI223 := n1_; clear n0_ n1_; (try clear hb); (try clear hb2); (try clear hk); (try clear hi)) | ((with_reducible refine gate_callee (f := 61) rfl ?_); refine goesL_ (some 12) rfl rfl Try.func61 (by kernel_rfl) rfl #[.pointer (some ⟨g223, 0, none⟩), .slice A0 l0.length c0] rfl u9_3 ?_; (with_reducible refine (spec_l11DrawRight.calls k g223 t220 t221 t222 _ _ l0 t224 t227 t228 w _ ?side1 ?side2 ?side3 ?side4 ?side5 A3.out).mono ?_); (case side1 => exact u9_9); (case side2 => exact u9_6); (case side3 => exact (by repeat (first | exact (Kd.C_below HR0.out HB.out) | (with_reducible refine Kd.C_alloc ?_ _) | (with_reducible refine Kd.C_drewN ?_ _) | (with_reducible refine Kd.C_drew ?_)))); (case side4 => exact HC0.out); (case side5 => exact Kd.far_C 0 HR0.out (IsS81.ge HI223.out)); rintro e w7 ⟨v225, rfl, ho0, hi, hb, hk⟩; refine ⟨_, rfl, ?_⟩; have n0_ := Aside0.mk (Kd.R_lower ho0 (below_size u9_6)); have n1_ := Aside0.mk (hb); have n2_ := Aside0.mk (hi); clear HB; clear HI223; have HO226 := n0_; have HB := n1_; have HI223 := n2_; clear n0_ n1_ n2_; (try clear hb); (try clear hb2); (try clear hk); (try clear hi); (try clear ho0)) | ((with_reducible refine gate_callee (f := 62) rfl ?_); refine goesL_ (some 14) rfl rfl Try.func62 (by kernel_rfl) rfl #[.pointer (some ⟨g223, 0, none⟩)] rfl u9_3 ?_; (with_reducible refine (spec_l11DrawAt.calls g223 t220 t227 t228 t229 t230 t231 w _ ?side1 ?side2 A4.out).mono ?_); (case side1 => exact u9_9); (case side2 => exact u9_6); rintro e w8 ⟨rfl, hi, hb, hk⟩; refine ⟨_, rfl, ?_⟩; have n0_ := Aside0.mk (Kd.R_mono (Kd.R_keep (IsS81.apart (show IsS81 w _ g223 t220 t227 t228 from by repeat (first | (with_reducible first | exact HI223.out | apply IsS81.alloc | apply IsS81.drewN | apply IsS81.drew | apply IsS81.set_1 | apply IsS81.set_2) | exact HI223.out)) u9_13 (by decide)) hk (fun _ h => h.2)) (fun _ h => h.1)); have n1_ := Aside0.mk (hb); have n2_ := Aside0.mk (hi); clear HO226; clear HB; clear HI223; have HO226 := n0_; have HB := n1_; have HI223 := n2_; clear n0_ n1_ n2_; (try clear hb); (try clear hb2); (try clear hk); (try clear hi)) | ((with_reducible refine gate_callee (f := 63) rfl ?_); refine goesL_ (some 18) rfl rfl Try.func63 (by kernel_rfl) rfl #[.pointer (some ⟨g223, 0, none⟩), .int .i64 3] rfl u9_3 ?_; (with_reducible refine (spec_l01Below.calls g223 t220 t230 t231 3 t232 t233 t234 w _ ?side1 ?side2 A5.out).mono ?_); (case side1 => exact u9_9); (case side2 => exact u9_6); rintro e w9 ⟨rfl, hi, hb, hk⟩; refine ⟨_, rfl, ?_⟩; have n0_ := Aside0.mk (Kd.R_mono (Kd.R_keep (IsS81.apart (show IsS81 w _ g223 t220 t230 t231 from by repeat (first | (with_reducible first | exact HI223.out | apply IsS81.alloc | apply IsS81.drewN | apply IsS81.drew | apply IsS81.set_1 | apply IsS81.set_2) | exact HI223.out)) u9_13 (by decide)) hk (fun _ h => h.2)) (fun _ h => h.1)); have n1_ := Aside0.mk (hb); have n2_ := Aside0.mk (hi); clear HO226; clear HB; clear HI223; have HO226 := n0_; have HB := n1_; have HI223 := n2_; clear n0_ n1_ n2_; (try clear hb); (try clear hb2); (try clear hk); (try clear hi)))
  go_ret3
  exact ⟨_, by first | rfl | (simp [errW_none, errW_some] <;> rfl) | (simp [*, errW_none, errW_some] <;> rfl), u9_13, u9_6⟩

/-! ### laws_within: function 36 -/
def laws_within.l0 : Nat → List Int → Int → Int → Option (Bool)
  | 0, _, _, _ => none
  | k + 1, x0, x1, x5 => if x5 < (x0.length : Int) then (if 0 ≤ x5 then (if (rd x0 x5) = x1 then (some true) else (laws_within.l0 k x0 x1 (wrap64 (x5 + 1)))) else (none)) else (some false)
def laws_within.f (k : Nat) (l0 : List Int) (a1 : Int) : Option (Bool) := laws_within.l0 k l0 a1 0
theorem laws_within.mono_l : ∀ k, (∀ y0 y1 y2, LeO (laws_within.l0 k y0 y1 y2) (laws_within.l0 (k + 1) y0 y1 y2))
  | 0 => fun _ _ _ r h => by simp [laws_within.l0] at h
  | k + 1 => by
    have ih0 := laws_within.mono_l k
    · intro y0 y1 y2
      unfold laws_within.l0
      repeat' first
      | (with_reducible exact ih0 _ _ _)
      | (with_reducible exact LeO.refl _)
      | (with_reducible exact LeO.none _)
      | (with_reducible refine LeO.ite ?_ ?_)
      | (with_reducible refine LeO.bind ?_ (fun _ => ?_))
      | exact ih0 _ _ _
      | exact LeO.none _
      | refine LeO.ite ?_ ?_
      | refine LeO.bind ?_ (fun _ => ?_)
theorem laws_within.mono : ∀ a0 a1 k, LeO (laws_within.f k a0 a1) (laws_within.f (k + 1) a0 a1) := by
  intro a0 a1 k
  have ih0 := laws_within.mono_l k
  unfold laws_within.f
  repeat' first
      | (with_reducible exact ih0 _ _ _)
      | (with_reducible exact LeO.refl _)
      | (with_reducible exact LeO.none _)
      | (with_reducible refine LeO.ite ?_ ?_)
      | (with_reducible refine LeO.bind ?_ (fun _ => ?_))
      | exact ih0 _ _ _
      | exact LeO.none _
      | refine LeO.ite ?_ ?_
      | refine LeO.bind ?_ (fun _ => ?_)
set_option maxHeartbeats 8000000 in
set_option maxRecDepth 100000 in
theorem laws_within.calls (k : Nat) (A0 : Option Addr) (c0 : Nat) (l0 : List Int) (a1 : Int) (r : Bool) (w : World) (hr0 : Kd.C (Kd.int .i64) w A0 l0.length l0) (hc0 : l0.length ≤ c0) (h : laws_within.f k l0 a1 = some r) :
    Calls Try.prog 36 #[.slice A0 l0.length c0, .int .i64 a1] w fun e w' => e = .returned (.bool r) ∧ Drawn0 w w' := by
  have HR0 := Aside0.mk hr0
  have HC0 := Aside0.mk hc0
  clear hr0 hc0
  have H : (laws_within.l0 k l0 a1 0) = some r := h
  clear h
  have H' := Aside0.mk H
  clear H
  go_enter Try.func36, Try.ntmps36
  go_wp2
  go_loopg [5] k (fun kq v5 w' => ∃ (x5_1 : Int), v5 = .int .i64 x5_1 ∧ Aside0 (laws_within.l0 kq l0 a1 x5_1 = some r) ∧ Aside0 (kq ≤ k) ∧ Drawn0 w w')
  case atStart => exact ⟨(0), u9_8, H', ⟨Nat.le_refl _⟩, u9_7⟩
  clear H'
  try clear p2
  obtain ⟨x5_1, rfl, HA, HK1, ⟨m1, rfl⟩⟩ := hrel
  cases gk with
  | zero => exact absurd HA.out (by simp [laws_within.l0])
  | succ k1 =>
    have H := HA.out
    clear HA
    simp only [laws_within.l0] at H
    by_cases c3 : x5_1 < (l0.length : Int)
    rotate_left
    · rw [if_neg c3] at H
      have c3b0 : decide (x5_1 < (l0.length : Int)) = false := decide_eq_false c3
      clear c3
      obtain rfl := Option.some.inj H
      go_wp2
      go_ret
      exact ⟨by first | rfl | (simp; done) | (simp [*]; done), u9_7⟩
    rw [if_pos c3] at H
    have c3b0 : decide (x5_1 < (l0.length : Int)) = true := decide_eq_true c3
    clear c3
    by_cases c4 : 0 ≤ x5_1
    rotate_left
    · rw [if_neg c4] at H
      exact absurd H (by simp)
    rw [if_pos c4] at H
    have c4b0 : decide (0 ≤ x5_1) = true := decide_eq_true c4
    clear c4
    have H9 := Aside0.mk H
    clear H
    have p235 : 0 ≤ (x5_1 : Int) := of_decide_eq_true u9_11
    have q235 : x5_1 < (l0.length : Int) := of_decide_eq_true u9_11
    obtain ⟨ad235, e235, hx235_0⟩ := Kd.at_int HR0.out x5_1 p235 q235
    cases e235
    replace p235 := eq_true p235
    replace q235 := eq_true q235
    go_upto_if 17 with (fail)
    have H := H9.out
    clear H9
    by_cases c5 : (rd l0 x5_1) = a1
    · rw [if_pos c5] at H
      have c5b0 : ((rd l0 x5_1) == a1) = true := beq_iff_eq.mpr c5
      have c5b1 : ((rd l0 x5_1) != a1) = false := bne_eq_false_iff_eq.mpr c5
      clear c5
      (first | rw [c5b0] | (simp only [i64_w, i32_w]; rw [c5b0]) | skip)
      obtain rfl := Option.some.inj H
      go_wp2
      go_ret
      exact ⟨by first | rfl | (simp; done) | (simp [*]; done), u9_7⟩
    rw [if_neg c5] at H
    have c5b0 : ((rd l0 x5_1) == a1) = false := beq_eq_false_iff_ne.mpr c5
    have c5b1 : ((rd l0 x5_1) != a1) = true := bne_iff_ne.mpr c5
    (first | rw [c5b0] | (simp only [i64_w, i32_w]; rw [c5b0]) | skip)
    have H' := Aside0.mk H
    clear H
    go_wp2
    go_roundg k1
    case measure => have := HK1.out; omega
    case rel => exact ⟨(wrap64 (x5_1 + 1)), u9_8, H', ⟨by have := HK1.out; omega⟩, u9_7⟩

/-! ### slices_Sort_int_int: function 64 -/
def slices_Sort_int_int.enc (x : Int) : List Value := [.int .i64 x]
theorem slices_Sort_int_int.flat : Go.Proofs.Ytfabcjkaoidmeaa.Slc.Flat (Kd.int .i64) slices_Sort_int_int.enc := ⟨fun w base ok x => rfl, fun h => h⟩
theorem slices_Sort_int_int.cells (l : List Int) : Go.Proofs.Ytfabcjkaoidmeaa.Slc.cellsOf slices_Sort_int_int.enc l = l.map (Value.int .i64) := by
  induction l with
  | nil => rfl
  | cons x l ih => simpa [Go.Proofs.Ytfabcjkaoidmeaa.Slc.cellsOf, slices_Sort_int_int.enc] using ih
theorem slices_Sort_int_int.holds {w : World} {g n : Nat} {cur : Array Value} {l : List Int} (hb : w.heap[g]? = some (.cells cur 3 (0, 0))) (ht : cur.toList.take (l.length * 1) = Go.Proofs.Ytfabcjkaoidmeaa.Slc.cellsOf slices_Sort_int_int.enc l) : Go.Sort.Holds (Value.int .i64) w g 0 l.toArray := by
  intro j hj
  have hj' : j < l.length := by simpa using hj
  rw [slices_Sort_int_int.cells] at ht
  refine ⟨?_, by rw [Nat.zero_add]; exact blk_frozen hb j⟩
  rw [Nat.zero_add, blk_cell hb]
  have h1 : cur[j]? = (l.map (Value.int .i64))[j]? := by rw [← ht, List.getElem?_take_of_lt (by omega), Array.getElem?_toList]
  rw [h1, List.getElem?_map, List.getElem?_eq_getElem hj', getElem!_pos _ j hj]
  simp
/-- The row when its first cells are written. -/
theorem slices_Sort_int_int.put {w w0 : World} {P : Nat → Prop} {g n c m q : Nat} {cur : Array Value} {ys ws : List Int} {os : Array Obj} (hB : Below w0.heap.size w0 w) (hg : w0.heap.size ≤ g) (hP : P g) (hb : w.heap[g]? = some (.cells cur 3 (0, 0))) (hs : cur.size = c * 1) (hn : n ≤ c) (hm : c ≤ maxLen) (hy : ys.length = n) (hw : ws = ys.take m) (hmn : m ≤ n) :
    Kd.R (Kd.int .i64) 3 (Go.Sort.grow ((w.drewN q).setCells g 0 (ys.map (Value.int .i64))) os) w0.heap.size (fun k_ => (P k_ ∨ w.heap.size ≤ k_)) (.slice (some ⟨g, 0, none⟩) m c) ws ∧ Below w0.heap.size w0 (Go.Sort.grow ((w.drewN q).setCells g 0 (ys.map (Value.int .i64))) os) ∧ Kept w (Go.Sort.grow ((w.drewN q).setCells g 0 (ys.map (Value.int .i64))) os) (fun k_ => P k_) := by
  obtain ⟨W, hW⟩ : ∃ W, W = (w.drewN q).setCells g 0 (ys.map (Value.int .i64)) := ⟨_, rfl⟩
  obtain ⟨cur', h1, h2, h3, h4⟩ := Go.Proofs.Ytfabcjkaoidmeaa.Slc.setCells_blk g 3 (ys.map (Value.int .i64)) 0 (w.drewN q) cur hb
  have hBW : Below w0.heap.size w0 W := by rw [hW]; exact Go.Proofs.Ytfabcjkaoidmeaa.Slc.below_setCells hg _ _ (pw_below_drewN hB q)
  have hKW : Kept w W (fun k_ => P k_) := by rw [hW]; exact Go.Proofs.Ytfabcjkaoidmeaa.Slc.kept_setCells (.inl hP) _ _ (Kept.drewN (Kept.refl w _) q)
  rw [← hW] at h1 ⊢
  have hlt : g < W.heap.size := blk_lt h1
  have up : ∀ i, i < W.heap.size → (Go.Sort.grow W os).heap[i]? = W.heap[i]? := fun i hi => Array.getElem?_append_left hi
  have hsz : W.heap.size ≤ (Go.Sort.grow W os).heap.size := by simp [Go.Sort.grow]
  refine ⟨slices_Sort_int_int.flat.row ((up g hlt).trans h1) hg (.inl hP) (by rw [hw, List.length_take]; omega) (by omega) hm (h2.trans hs) ?_, ⟨hBW.os, hBW.tape, hBW.output, Nat.le_trans hBW.size hsz, fun i hi => (up i (Nat.lt_of_lt_of_le hi hBW.size)).trans (hBW.block i hi)⟩, ⟨Nat.le_trans hKW.1 hsz, fun i hi hn => (up i (Nat.lt_of_lt_of_le hi hKW.1)).trans (hKW.2 i hi hn)⟩⟩
  rw [slices_Sort_int_int.cells, hw]
  show cur'.toList.take (m * 1) = _
  rw [Nat.mul_one]
  apply List.ext_getElem?
  intro j
  by_cases hj : j < m
  rotate_left
  · rw [List.getElem?_eq_none (by rw [List.length_take]; omega), List.getElem?_eq_none (by rw [List.length_map, List.length_take]; omega)]
  have := h4 j (by rw [List.length_map]; omega) (by omega)
  rw [Nat.zero_add] at this
  rw [List.getElem?_take_of_lt hj, Array.getElem?_toList, this, List.map_take, List.getElem?_take_of_lt hj]
def slices_Sort_int_int.f (l0 : List Int) : Option (List Int) := if l0.length < 4611686018427387904 then some (l0.mergeSort fun x y => decide (x ≤ y)) else none
theorem slices_Sort_int_int.calls (P0_ : Nat → Prop) (u9000_ : Value) (l0 : List Int) (r : List Int) (w0 w : World) (hB : Below w0.heap.size w0 w) (ho0 : Kd.R (Kd.int .i64) 3 w w0.heap.size P0_ u9000_ l0) (h : slices_Sort_int_int.f l0 = some r) :
    Calls Try.prog 64 #[u9000_] w fun e w' => e = .returned (.tuple #[]) ∧ Kd.R (Kd.int .i64) 3 w' w0.heap.size (fun k_ => (P0_ k_ ∨ w.heap.size ≤ k_)) u9000_ r ∧ Below w0.heap.size w0 w' ∧ Kept w w' (fun k_ => P0_ k_) := by
  unfold slices_Sort_int_int.f at h
  by_cases hl : l0.length < 4611686018427387904
  rotate_left
  · rw [if_neg hl] at h; cases h
  rw [if_pos hl] at h
  obtain rfl := Option.some.inj h
  by_cases h0 : 0 < l0.length
  rotate_left
  · have hn : l0 = [] := List.eq_nil_of_length_eq_zero (by omega)
    subst hn
    obtain ⟨A0, c0, rfl, _, _⟩ := Kd.R_reads ho0
    refine (Go.Proofs.Ytfabcjkaoidmeaa.Shelf.Try.slices_Sort_int_none A0 c0 w).mono ?_
    rintro e w' ⟨rfl, rfl⟩
    exact ⟨rfl, (by simpa using Kd.R_mono ho0 (fun k hk => .inl hk)), hB, Kept.refl _ _⟩
  obtain ⟨g, c, cur, rfl, hg, hP, hb, hc, hm, hs, ht⟩ := slices_Sort_int_int.flat.block ho0 h0
  have hH := slices_Sort_int_int.holds (n := 0) hb ht
  refine (Go.Proofs.Ytfabcjkaoidmeaa.Shelf.Try.slices_Sort_int g 0 c l0 w hH (blk_lt hb) hl).mono ?_
  rintro e w' ⟨rfl, q, os, rfl⟩
  rw [Lib.putRow_eq_setCells _ w g 0 _ _ q hH (by simp)]
  have hp := slices_Sort_int_int.put (q := q) (os := os) (m := l0.length) hB hg hP hb hs hc hm (ys := l0.mergeSort fun x y => decide (x ≤ y)) (n := l0.length) (by simp) (ws := l0.mergeSort fun x y => decide (x ≤ y)) (by rw [List.take_of_length_le (by simp)]) (Nat.le_refl _)
  exact ⟨rfl, hp⟩


/-! ### slices_Compact_int_int: function 65 -/
def slices_Compact_int_int.enc (x : Int) : List Value := [.int .i64 x]
theorem slices_Compact_int_int.flat : Go.Proofs.Ytfabcjkaoidmeaa.Slc.Flat (Kd.int .i64) slices_Compact_int_int.enc := ⟨fun w base ok x => rfl, fun h => h⟩
theorem slices_Compact_int_int.cells (l : List Int) : Go.Proofs.Ytfabcjkaoidmeaa.Slc.cellsOf slices_Compact_int_int.enc l = l.map (Value.int .i64) := by
  induction l with
  | nil => rfl
  | cons x l ih => simpa [Go.Proofs.Ytfabcjkaoidmeaa.Slc.cellsOf, slices_Compact_int_int.enc] using ih
theorem slices_Compact_int_int.holds {w : World} {g n : Nat} {cur : Array Value} {l : List Int} (hb : w.heap[g]? = some (.cells cur 3 (0, 0))) (ht : cur.toList.take (l.length * 1) = Go.Proofs.Ytfabcjkaoidmeaa.Slc.cellsOf slices_Compact_int_int.enc l) : Go.Sort.Holds (Value.int .i64) w g 0 l.toArray := by
  intro j hj
  have hj' : j < l.length := by simpa using hj
  rw [slices_Compact_int_int.cells] at ht
  refine ⟨?_, by rw [Nat.zero_add]; exact blk_frozen hb j⟩
  rw [Nat.zero_add, blk_cell hb]
  have h1 : cur[j]? = (l.map (Value.int .i64))[j]? := by rw [← ht, List.getElem?_take_of_lt (by omega), Array.getElem?_toList]
  rw [h1, List.getElem?_map, List.getElem?_eq_getElem hj', getElem!_pos _ j hj]
  simp
/-- The row when its first cells are written. -/
theorem slices_Compact_int_int.put {w w0 : World} {P : Nat → Prop} {g n c m q : Nat} {cur : Array Value} {ys ws : List Int} {os : Array Obj} (hB : Below w0.heap.size w0 w) (hg : w0.heap.size ≤ g) (hP : P g) (hb : w.heap[g]? = some (.cells cur 3 (0, 0))) (hs : cur.size = c * 1) (hn : n ≤ c) (hm : c ≤ maxLen) (hy : ys.length = n) (hw : ws = ys.take m) (hmn : m ≤ n) :
    Kd.R (Kd.int .i64) 3 (Go.Sort.grow ((w.drewN q).setCells g 0 (ys.map (Value.int .i64))) os) w0.heap.size (fun k_ => (P k_ ∨ w.heap.size ≤ k_)) (.slice (some ⟨g, 0, none⟩) m c) ws ∧ Below w0.heap.size w0 (Go.Sort.grow ((w.drewN q).setCells g 0 (ys.map (Value.int .i64))) os) ∧ Kept w (Go.Sort.grow ((w.drewN q).setCells g 0 (ys.map (Value.int .i64))) os) (fun k_ => P k_) := by
  obtain ⟨W, hW⟩ : ∃ W, W = (w.drewN q).setCells g 0 (ys.map (Value.int .i64)) := ⟨_, rfl⟩
  obtain ⟨cur', h1, h2, h3, h4⟩ := Go.Proofs.Ytfabcjkaoidmeaa.Slc.setCells_blk g 3 (ys.map (Value.int .i64)) 0 (w.drewN q) cur hb
  have hBW : Below w0.heap.size w0 W := by rw [hW]; exact Go.Proofs.Ytfabcjkaoidmeaa.Slc.below_setCells hg _ _ (pw_below_drewN hB q)
  have hKW : Kept w W (fun k_ => P k_) := by rw [hW]; exact Go.Proofs.Ytfabcjkaoidmeaa.Slc.kept_setCells (.inl hP) _ _ (Kept.drewN (Kept.refl w _) q)
  rw [← hW] at h1 ⊢
  have hlt : g < W.heap.size := blk_lt h1
  have up : ∀ i, i < W.heap.size → (Go.Sort.grow W os).heap[i]? = W.heap[i]? := fun i hi => Array.getElem?_append_left hi
  have hsz : W.heap.size ≤ (Go.Sort.grow W os).heap.size := by simp [Go.Sort.grow]
  refine ⟨slices_Compact_int_int.flat.row ((up g hlt).trans h1) hg (.inl hP) (by rw [hw, List.length_take]; omega) (by omega) hm (h2.trans hs) ?_, ⟨hBW.os, hBW.tape, hBW.output, Nat.le_trans hBW.size hsz, fun i hi => (up i (Nat.lt_of_lt_of_le hi hBW.size)).trans (hBW.block i hi)⟩, ⟨Nat.le_trans hKW.1 hsz, fun i hi hn => (up i (Nat.lt_of_lt_of_le hi hKW.1)).trans (hKW.2 i hi hn)⟩⟩
  rw [slices_Compact_int_int.cells, hw]
  show cur'.toList.take (m * 1) = _
  rw [Nat.mul_one]
  apply List.ext_getElem?
  intro j
  by_cases hj : j < m
  rotate_left
  · rw [List.getElem?_eq_none (by rw [List.length_take]; omega), List.getElem?_eq_none (by rw [List.length_map, List.length_take]; omega)]
  have := h4 j (by rw [List.length_map]; omega) (by omega)
  rw [Nat.zero_add] at this
  rw [List.getElem?_take_of_lt hj, Array.getElem?_toList, this, List.map_take, List.getElem?_take_of_lt hj]
def slices_Compact_int_int.f (l0 : List Int) : Option (List Int) := if l0.length < 4611686018427387904 then some (Lib.compact l0) else none
theorem slices_Compact_int_int.calls (P0_ : Nat → Prop) (u9000_ : Value) (l0 : List Int) (r : List Int) (w0 w : World) (hB : Below w0.heap.size w0 w) (ho0 : Kd.R (Kd.int .i64) 3 w w0.heap.size P0_ u9000_ l0) (h : slices_Compact_int_int.f l0 = some r) :
    Calls Try.prog 65 #[u9000_] w fun e w' => ∃ v0_ : Value, e = .returned (v0_) ∧ Kd.R (Kd.int .i64) 3 w' w0.heap.size (fun k_ => (P0_ k_ ∨ w.heap.size ≤ k_)) v0_ r ∧ Below w0.heap.size w0 w' ∧ Kept w w' (fun k_ => P0_ k_) := by
  unfold slices_Compact_int_int.f at h
  by_cases hl : l0.length < 4611686018427387904
  rotate_left
  · rw [if_neg hl] at h; cases h
  rw [if_pos hl] at h
  obtain rfl := Option.some.inj h
  by_cases h0 : 0 < l0.length
  rotate_left
  · have hn : l0 = [] := List.eq_nil_of_length_eq_zero (by omega)
    subst hn
    obtain ⟨A0, c0, rfl, _, _⟩ := Kd.R_reads ho0
    refine (Go.Proofs.Ytfabcjkaoidmeaa.Shelf.Try.slices_Compact_int_empty A0 c0 w).mono ?_
    rintro e w' ⟨rfl, rfl⟩
    refine ⟨_, rfl, ?_, hB, Kept.refl _ _⟩
    rw [show Lib.compact ([] : List Int) = [] from rfl]
    simpa using Kd.R_mono (ok' := fun k_ => (P0_ k_ ∨ w'.heap.size ≤ k_)) ho0 (fun k hk => .inl hk)
  obtain ⟨g, c, cur, rfl, hg, hP, hb, hc, hm, hs, ht⟩ := slices_Compact_int_int.flat.block ho0 h0
  have hH := slices_Compact_int_int.holds (n := 0) hb ht
  refine (Go.Proofs.Ytfabcjkaoidmeaa.Shelf.Try.slices_Compact_int g 0 c l0 w hH (by omega) hc).mono ?_
  rintro e w' ⟨rfl, q, rfl⟩
  have hcl : (Lib.compact l0).length ≤ l0.length := Lib.compact_length_le l0
  rw [Lib.putRow_eq_setCells _ w g 0 _ _ q hH (by simp; omega)]
  have hp := slices_Compact_int_int.put (q := q) (os := #[]) (m := (Lib.compact l0).length) hB hg hP hb hs hc hm (ys := Lib.compact l0 ++ List.replicate (l0.length - (Lib.compact l0).length) 0) (n := l0.length) (by simp; omega) (ws := Lib.compact l0) (by simp) hcl
  rw [Go.Sort.grow_empty] at hp
  exact ⟨_, rfl, hp⟩


/-! ### impl_Owners: function 37 -/
def impl_Owners.l0 : Nat → List Int → List (S26) → Int → Int → Option (List Int)
  | 0, _, _, _, _ => none
  | k + 1, x3, x10, x11, x12 => if x12 < x11 then (if 0 ≤ x12 then (if x12 < (x10.length : Int) then (if x3.length < 17592186044416 then (impl_Owners.l0 k (x3 ++ [(rd_T26 x10 x12).f2]) x10 x11 (wrap64 (x12 + 1))) else (none)) else (none)) else (none)) else ((slices_Sort_int_int.f x3).bind fun t245 => ((slices_Compact_int_int.f t245).bind fun t246 => (some t246)))
def impl_Owners.f (k : Nat) (l0 : List (S26)) : Option (List Int) := (impl_areRanges.f k l0).bind fun t236 => (if t236 = true then (impl_Owners.l0 k (([] : List Int)) l0 (l0.length : Int) 0) else (some ([] : List Int)))
theorem impl_Owners.mono_l : ∀ k, (∀ y0 y1 y2 y3, LeO (impl_Owners.l0 k y0 y1 y2 y3) (impl_Owners.l0 (k + 1) y0 y1 y2 y3))
  | 0 => fun _ _ _ _ r h => by simp [impl_Owners.l0] at h
  | k + 1 => by
    have ih0 := impl_Owners.mono_l k
    · intro y0 y1 y2 y3
      unfold impl_Owners.l0
      repeat' first
      | (with_reducible exact ih0 _ _ _ _)
      | (with_reducible exact impl_areRanges.mono _ _)
      | (with_reducible exact LeO.refl _)
      | (with_reducible exact LeO.none _)
      | (with_reducible refine LeO.ite ?_ ?_)
      | (with_reducible refine LeO.bind ?_ (fun _ => ?_))
      | exact ih0 _ _ _ _
      | exact impl_areRanges.mono _ _
      | exact LeO.none _
      | refine LeO.ite ?_ ?_
      | refine LeO.bind ?_ (fun _ => ?_)
theorem impl_Owners.mono : ∀ a0 k, LeO (impl_Owners.f k a0) (impl_Owners.f (k + 1) a0) := by
  intro a0 k
  have ih0 := impl_Owners.mono_l k
  unfold impl_Owners.f
  repeat' first
      | (with_reducible exact ih0 _ _ _ _)
      | (with_reducible exact impl_areRanges.mono _ _)
      | (with_reducible exact LeO.refl _)
      | (with_reducible exact LeO.none _)
      | (with_reducible refine LeO.ite ?_ ?_)
      | (with_reducible refine LeO.bind ?_ (fun _ => ?_))
      | exact ih0 _ _ _ _
      | exact impl_areRanges.mono _ _
      | exact LeO.none _
      | refine LeO.ite ?_ ?_
      | refine LeO.bind ?_ (fun _ => ?_)
set_option maxHeartbeats 8000000 in
set_option maxRecDepth 100000 in
theorem impl_Owners.calls (k : Nat) (A0 : Option Addr) (c0 : Nat) (l0 : List (S26)) (r : List Int) (w : World) (hr0 : Kd.C k26 w A0 l0.length l0) (hc0 : l0.length ≤ c0) (h : impl_Owners.f k l0 = some r) :
    Calls Try.prog 37 #[.slice A0 l0.length c0] w fun e w' => ∃ v0_ : Value, e = .returned (v0_) ∧ Kd.R (Kd.int .i64) 3 w' w.heap.size (fun _ => True) v0_ r ∧ Below w.heap.size w w' := by
  have hu26 := Try.underlying26
  have HR0 := Aside0.mk hr0
  have HC0 := Aside0.mk hc0
  clear hr0 hc0
  have HB := Aside0.mk (Below.refl w.heap.size w)
  have H : ((impl_areRanges.f k l0).bind fun t236 => (if t236 = true then (impl_Owners.l0 k (([] : List Int)) l0 (l0.length : Int) 0) else (some ([] : List Int)))) = some r := h
  clear h
  replace H := Option.bind_eq_some_iff.mp H
  obtain ⟨t236, A20, H⟩ := H
  have A2 := Aside0.mk A20
  clear A20
  have H9 := Aside0.mk H
  clear H
  go_enter Try.func37, Try.ntmps37
  go_upto_if 8 with (first | ((with_reducible refine gate_callee (f := 56) rfl ?_); refine goesL_ (some 7) rfl rfl Try.func56 (by kernel_rfl) rfl #[.slice A0 l0.length c0] rfl u9_3 ?_; (with_reducible refine (impl_areRanges.calls k _ _ l0 t236 _ ?side1 ?side2 A2.out).mono ?_); (case side1 => exact (by repeat (first | exact HR0.out | (with_reducible refine Kd.C_alloc ?_ _) | (with_reducible refine Kd.C_drewN ?_ _) | (with_reducible refine Kd.C_drew ?_)))); (case side2 => exact HC0.out); rintro e w3 ⟨rfl, hb⟩; refine ⟨_, rfl, ?_⟩; have n0_ := Aside0.mk (below_step u9_4 hb); clear HB; have HB := n0_; clear n0_; (try clear hb); (try clear hb2); (try clear hk); (try clear hi)))
  have H := H9.out
  clear H9
  by_cases c4 : t236 = true
  rotate_left
  · replace c4 := Bool.eq_false_iff.mpr c4
    subst c4
    rw [if_neg (show ¬ (false = true) by decide)] at H
    obtain rfl := Option.some.inj H
    go_wp2
    go_ret
    exact ⟨_, by first | rfl | (simp [errW_none, errW_some] <;> rfl) | (simp [*, errW_none, errW_some] <;> rfl), (by first | exact Kd.R_nil _ _ _ _ _ | exact Kd.N_nil _ _ _ _ _ | exact Kd.V_nil _ _ _ _ _ | exact Kd.Q_nil _ _ _ _ _ | exact Kd.S_nil _ _ _ _ _), u9_4⟩
  subst c4
  rw [if_pos rfl] at H
  obtain ⟨y237, hy237⟩ : ∃ y_ : List Int, y_ = (([] : List Int)) := ⟨_, rfl⟩
  replace H : (impl_Owners.l0 k y237 l0 (l0.length : Int) 0) = some r := by first | (rw [hy237]; with_reducible exact H) | (have H2_ := (Option.bind_some _ _).symm.trans H; rw [hy237]; with_reducible exact H2_) | (have H2_ := (Option.bind_some _ _).symm.trans H; with_reducible exact H2_) | with_reducible exact H | (rw [hy237]; exact H) | exact H
  have Ny237 := Aside0.mk hy237
  clear hy237
  have H' := Aside0.mk H
  clear H
  go_wp2_with (first | ((with_reducible refine gate_dst (N := 9) rfl ?_); refine Kd.R_lit (Kd.int .i64) _ 3 ?hg (N := 9) ?hd (xs := ([] : List Int)) (inner := []) (ok := fun _ => True) (okp := fun _ => True) ?hr ?hp (fun _ hk => hk) trivial (Below.refl _ _) (Nat.le_refl _) (by simp) ?_; (case hd => rfl); (case hg => rfl); (case hr => first | (go_simp; done) | (go_simp; rfl)); (case hp => exact (Reps.none _ _)); intro v238 w5 ho6 hb hg_ hnew_; clear hg_ hnew_; (first | rw [← Ny237.out] at ho6 | (simp only [Int.reduceToNat] at ho6; rw [← Ny237.out] at ho6)); have n0_ := Aside0.mk (Kd.R_lower ho6 (below_size u9_4)); have n1_ := Aside0.mk (below_step u9_4 hb); clear HB; have HO239 := n0_; have HB := n1_; clear n0_ n1_; clear hb ho6))
  go_loopg [3, 12] k (fun kq v3 v12 w' => ∃ (x3_1 : List Int) (x12_1 : Int), v12 = .int .i64 x12_1 ∧ Aside0 (impl_Owners.l0 kq x3_1 l0 (l0.length : Int) x12_1 = some r) ∧ Aside0 (kq ≤ k) ∧ Aside0 (Kd.R (Kd.int .i64) 3 w' w.heap.size (fun _ => True) v3 x3_1) ∧ Aside0 (Below w.heap.size w w'))
  case atStart => exact ⟨(y237), (0), u9_8, H', ⟨Nat.le_refl _⟩, ⟨(by (with_reducible repeat (first | apply Kd.R_alloc | apply Kd.R_drewN | apply Kd.R_drew)); exact HO239.out)⟩, ⟨u9_4⟩⟩
  clear H'
  try clear p2
  try clear c3
  try clear c4
  try clear c5
  obtain ⟨x3_1, x12_1, rfl, HA, HK1, HO_3, HB⟩ := hrel
  cases gk with
  | zero => exact absurd HA.out (by simp [impl_Owners.l0])
  | succ k1 =>
    have H := HA.out
    clear HA
    simp only [impl_Owners.l0] at H
    by_cases c7 : x12_1 < (l0.length : Int)
    rotate_left
    · rw [if_neg c7] at H
      have c7b0 : decide (x12_1 < (l0.length : Int)) = false := decide_eq_false c7
      clear c7
      (first | rw [c7b0] | (simp only [i64_w, i32_w]; rw [c7b0]) | skip)
      replace H := Option.bind_eq_some_iff.mp H
      obtain ⟨t245, A140, H⟩ := H
      replace H : ((slices_Compact_int_int.f t245).bind fun t246 => (some t246)) = some r := H
      have A14 := Aside0.mk A140
      clear A140
      replace H := Option.bind_eq_some_iff.mp H
      obtain ⟨t246, A150, H⟩ := H
      replace H : (some t246) = some r := H
      have A15 := Aside0.mk A150
      clear A150
      obtain rfl := Option.some.inj H
      obtain ⟨Ao16, co16, eo16⟩ := Kd.R_slice HO_3.out
      subst eo16
      go_wp2_with (first | ((with_reducible refine gate_callee (f := 64) rfl ?_); refine goesL_ (some 23) rfl rfl Try.func64 (by kernel_rfl) rfl #[.slice Ao16 x3_1.length co16] rfl u9_3 ?_; (with_reducible refine (slices_Sort_int_int.calls (fun k_ => some k_ = (.slice Ao16 x3_1.length co16 : Value).ownBlock) (.slice Ao16 x3_1.length co16) x3_1 t245 w _ ?side1 ?side2 A14.out).mono ?_); (case side1 => exact u9_4); (case side2 => exact Kd.R_tight rfl HO_3.out); rintro e w17 ⟨rfl, hy0, hb, hkp⟩; refine ⟨_, rfl, ?_⟩; have n0_ := Aside0.mk (Kd.R_reok rfl hy0 (fun k_ e_ => HO_3.out.1 k_ e_)); have n1_ := Aside0.mk (hb); clear HO_3; clear HB; have HO_3 := n0_; have HB := n1_; clear n0_ n1_; (try clear hb); (try clear hkp); (try clear hy0)) | ((with_reducible refine gate_callee (f := 65) rfl ?_); refine goesL_ (some 25) rfl rfl Try.func65 (by kernel_rfl) rfl #[.slice Ao16 x3_1.length co16] rfl u9_3 ?_; (with_reducible refine (slices_Compact_int_int.calls (fun k_ => some k_ = (.slice Ao16 x3_1.length co16 : Value).ownBlock) (.slice Ao16 x3_1.length co16) t245 t246 w _ ?side1 ?side2 A15.out).mono ?_); (case side1 => exact u9_4); (case side2 => exact Kd.R_tight rfl HO_3.out); rintro e w18 ⟨v247, rfl, ho0, hb, hkp⟩; refine ⟨_, rfl, ?_⟩; have n0_ := Aside0.mk (Kd.R_mono (ok' := fun k_ => True) ho0 (fun k_ hk_ => trivial)); have n1_ := Aside0.mk (hb); clear HB; clear HO_3; have HO248 := n0_; have HB := n1_; clear n0_ n1_; (try clear hb); (try clear hkp); (try clear ho0)))
      go_ret
      exact ⟨_, by first | rfl | (simp [errW_none, errW_some] <;> rfl) | (simp [*, errW_none, errW_some] <;> rfl), (by (with_reducible repeat (first | apply Kd.R_alloc | apply Kd.R_drewN | apply Kd.R_drew)); exact HO248.out), u9_4⟩
    rw [if_pos c7] at H
    have c7b0 : decide (x12_1 < (l0.length : Int)) = true := decide_eq_true c7
    clear c7
    (first | rw [c7b0] | (simp only [i64_w, i32_w]; rw [c7b0]) | skip)
    by_cases c8 : 0 ≤ x12_1
    rotate_left
    · rw [if_neg c8] at H
      exact absurd H (by simp)
    rw [if_pos c8] at H
    have c8b0 : decide (0 ≤ x12_1) = true := decide_eq_true c8
    clear c8
    by_cases c9 : x12_1 < (l0.length : Int)
    rotate_left
    · rw [if_neg c9] at H
      exact absurd H (by simp)
    rw [if_pos c9] at H
    have c9b0 : decide (x12_1 < (l0.length : Int)) = true := decide_eq_true c9
    clear c9
    by_cases c10 : x3_1.length < 17592186044416
    rotate_left
    · rw [if_neg c10] at H
      exact absurd H (by simp)
    rw [if_pos c10] at H
    have LMc10 := Aside0.mk c10
    clear c10
    obtain ⟨y242, hy242⟩ : ∃ y_ : List Int, y_ = (x3_1 ++ [(rd_T26 l0 x12_1).f2]) := ⟨_, rfl⟩
    replace H : (impl_Owners.l0 k1 y242 l0 (l0.length : Int) (wrap64 (x12_1 + 1))) = some r := by first | (rw [hy242]; with_reducible exact H) | (have H2_ := (Option.bind_some _ _).symm.trans H; rw [hy242]; with_reducible exact H2_) | (have H2_ := (Option.bind_some _ _).symm.trans H; with_reducible exact H2_) | with_reducible exact H | (rw [hy242]; exact H) | exact H
    have Ny242 := Aside0.mk hy242
    clear hy242
    have H' := Aside0.mk H
    clear H
    have p240 : 0 ≤ (x12_1 : Int) := of_decide_eq_true u9_11
    have q240 : x12_1 < (l0.length : Int) := of_decide_eq_true u9_11
    obtain ⟨ad240, e240, hx240_0, hx240_1, hx240_2⟩ := at_T26 HR0.out x12_1 p240 q240
    cases e240
    replace hx240_0 := (HB.out.cell (World.block_lt_of_cell? w _ hx240_0)).trans hx240_0
    replace hx240_1 := (HB.out.cell (World.block_lt_of_cell? w _ hx240_1)).trans hx240_1
    replace hx240_2 := (HB.out.cell (World.block_lt_of_cell? w _ hx240_2)).trans hx240_2
    replace p240 := eq_true p240
    replace q240 := eq_true q240
    go_wp2_with (first | ((with_reducible refine gate_dst (N := 5) rfl ?_); refine box_event ?hg (N := 5) ?hd (cs := #[.int .u64 0, .int .u64 0, .int .i64 0]) (t := 26) ?hr ?_; (case hd => rfl); (case hg => rfl); (case hr => first | (go_simp; done) | (go_simp; rfl)); intro gb241 hg w11 hbox hb; have n0_ := Aside0.mk (Kd.R_below (by (with_reducible repeat (first | apply Kd.R_alloc | apply Kd.R_drewN | apply Kd.R_drew)); exact HO_3.out) hb); have n1_ := Aside0.mk (below_step u9_4 hb); have n2_ := Aside0.mk (hbox); have n3_ := Aside0.mk ((by rw [hg]; exact (below_size u9_4) : w.heap.size ≤ gb241)); have n4_ := Aside0.mk ((by rw [hg]; exact (below_size u9_4) : w.heap.size ≤ gb241)); clear HO_3; clear HB; have HO_3 := n0_; have HB := n1_; have BK241 := n2_; have GW241 := n3_; have GE241 := n4_; clear n0_ n1_ n2_ n3_ n4_; clear hb hbox hg; have hcz12_0 : w11.cell? ⟨gb241, 0, none⟩ = some (.int .u64 0) := (blk_cell BK241.out 0).trans rfl; have hcz12_1 : w11.cell? ⟨gb241, 1, none⟩ = some (.int .u64 0) := (blk_cell BK241.out 1).trans rfl; have hcz12_2 : w11.cell? ⟨gb241, 2, none⟩ = some (.int .i64 0) := (blk_cell BK241.out 2).trans rfl; have hfz12_0 := blk_frozen BK241.out 0; have hfz12_1 := blk_frozen BK241.out 1; have hfz12_2 := blk_frozen BK241.out 2) | ((with_reducible refine gate_builtin (b := .append) (xs := #[.tmp 16, .tmp 19]) rfl ?_); at_builtin; refine Kd.R_append (Kd.int .i64) (w0 := w) w.heap.size rfl (.tmp 16) (.tmp 19) 53 3 (.int .i64 0) 8 rfl Try.underlying53 info3 rfl (by decide) (by omega) u3 x3_1 ((rd_T26 l0 x12_1).f2) [.int .i64 ((rd_T26 l0 x12_1).f2)] (fun _ => True) (fun _ => False) rfl (by first | (go_simp; done) | (go_simp; rfl)) ?aP (fun _ hk => hk.elim) ?aF ?aO ?aB ?aS ?aL ?_; (case aP => exact rfl); (case aB => exact u9_10); (case aF => exact (fun _ _ => trivial)); (case aO => exact (by (with_reducible repeat (first | apply Kd.R_alloc | apply Kd.R_drewN | apply Kd.R_drew)); exact Kd.R_mono (Kd.R_far (p := ⟨gb241, 2, none⟩) (Kd.R_far (p := ⟨gb241, 1, none⟩) (Kd.R_far (p := ⟨gb241, 0, none⟩) (Kd.R_types HO_3.out BK241.out (by decide)) (fun _ hk => hk.2) (.int .u64 ((rd_T26 l0 x12_1).f0))) (fun _ hk => hk.2) (.int .u64 ((rd_T26 l0 x12_1).f1))) (fun _ hk => hk.2) (.int .i64 ((rd_T26 l0 x12_1).f2))) (fun _ hk => trivial))); (case aS => exact (below_size u9_10)); (case aL => have := LMc10.out; omega); intro v243 w13 ho hb hg hat; rw [← Ny242.out] at ho; have n0_ := Aside0.mk (blk_grown (g := gb241) (o := .cells #[.int .u64 ((rd_T26 l0 x12_1).f0), .int .u64 ((rd_T26 l0 x12_1).f1), .int .i64 ((rd_T26 l0 x12_1).f2)] 26 (0, 0)) (by (with_reducible repeat (first | refine blk_drewN ?_ _ | refine blk_drew ?_ | refine blk_alloc ?_ _)); refine blk_put (cs := #[.int .u64 ((rd_T26 l0 x12_1).f0), .int .u64 ((rd_T26 l0 x12_1).f1), .int .i64 0]) ?_ 2 _ rfl; (with_reducible repeat (first | refine blk_drewN ?_ _ | refine blk_drew ?_ | refine blk_alloc ?_ _)); refine blk_put (cs := #[.int .u64 ((rd_T26 l0 x12_1).f0), .int .u64 0, .int .i64 0]) ?_ 1 _ rfl; (with_reducible repeat (first | refine blk_drewN ?_ _ | refine blk_drew ?_ | refine blk_alloc ?_ _)); refine blk_put (cs := #[.int .u64 0, .int .u64 0, .int .i64 0]) ?_ 0 _ rfl; (with_reducible repeat (first | refine blk_drewN ?_ _ | refine blk_drew ?_ | refine blk_alloc ?_ _)); exact BK241.out) hg (Kd.R_ne HO_3.out BK241.out (by decide))); have n1_ := Aside0.mk (hb); have n2_ := Aside0.mk (ho); clear BK241; clear HB; clear HO_3; have BK241 := n0_; have HB := n1_; have HO244 := n2_; clear n0_ n1_ n2_; clear ho hb hg hat))
    go_roundg k1
    case measure => have := HK1.out; omega
    case rel => exact ⟨(y242), (wrap64 (x12_1 + 1)), u9_8, H', ⟨by have := HK1.out; omega⟩, ⟨(by (with_reducible repeat (first | apply Kd.R_alloc | apply Kd.R_drewN | apply Kd.R_drew)); exact HO244.out)⟩, ⟨u9_10⟩⟩

/-! ### impl_Range_66: function 66 -/
def impl_Range_66.l0 : Nat → List (S26) → List (S26) → Int → Int → Option (Bool)
  | 0, _, _, _, _ => none
  | k + 1, x0, x1, x12, x13 => if x13 < x12 then (if 0 ≤ x13 then (if x13 < (x0.length : Int) then (if x13 < (x1.length : Int) then (if (!(((rd_T26 x0 x13).f0) == ((rd_T26 x1 x13).f0)) || (!(((rd_T26 x0 x13).f1) == ((rd_T26 x1 x13).f1)) || (!(((rd_T26 x0 x13).f2) == ((rd_T26 x1 x13).f2))))) = true then (some false) else (impl_Range_66.l0 k x0 x1 x12 (wrap64 (x13 + 1)))) else (none)) else (none)) else (none)) else (some true)
def impl_Range_66.f (k : Nat) (l0 : List (S26)) (l1 : List (S26)) : Option (Bool) := if (l0.length : Int) = (l1.length : Int) then (impl_Range_66.l0 k l0 l1 (l0.length : Int) 0) else (some false)
theorem impl_Range_66.mono_l : ∀ k, (∀ y0 y1 y2 y3, LeO (impl_Range_66.l0 k y0 y1 y2 y3) (impl_Range_66.l0 (k + 1) y0 y1 y2 y3))
  | 0 => fun _ _ _ _ r h => by simp [impl_Range_66.l0] at h
  | k + 1 => by
    have ih0 := impl_Range_66.mono_l k
    · intro y0 y1 y2 y3
      unfold impl_Range_66.l0
      repeat' first
      | (with_reducible exact ih0 _ _ _ _)
      | (with_reducible exact LeO.refl _)
      | (with_reducible exact LeO.none _)
      | (with_reducible refine LeO.ite ?_ ?_)
      | (with_reducible refine LeO.bind ?_ (fun _ => ?_))
      | exact ih0 _ _ _ _
      | exact LeO.none _
      | refine LeO.ite ?_ ?_
      | refine LeO.bind ?_ (fun _ => ?_)
theorem impl_Range_66.mono : ∀ a0 a1 k, LeO (impl_Range_66.f k a0 a1) (impl_Range_66.f (k + 1) a0 a1) := by
  intro a0 a1 k
  have ih0 := impl_Range_66.mono_l k
  unfold impl_Range_66.f
  repeat' first
      | (with_reducible exact ih0 _ _ _ _)
      | (with_reducible exact LeO.refl _)
      | (with_reducible exact LeO.none _)
      | (with_reducible refine LeO.ite ?_ ?_)
      | (with_reducible refine LeO.bind ?_ (fun _ => ?_))
      | exact ih0 _ _ _ _
      | exact LeO.none _
      | refine LeO.ite ?_ ?_
      | refine LeO.bind ?_ (fun _ => ?_)
set_option maxHeartbeats 8000000 in
set_option maxRecDepth 100000 in
theorem impl_Range_66.calls (k : Nat) (A0 : Option Addr) (c0 : Nat) (l0 : List (S26)) (A1 : Option Addr) (c1 : Nat) (l1 : List (S26)) (r : Bool) (w : World) (hr0 : Kd.C k26 w A0 l0.length l0) (hc0 : l0.length ≤ c0) (hr1 : Kd.C k26 w A1 l1.length l1) (hc1 : l1.length ≤ c1) (h : impl_Range_66.f k l0 l1 = some r) :
    Calls Try.prog 66 #[.slice A0 l0.length c0, .slice A1 l1.length c1] w fun e w' => e = .returned (.bool r) ∧ Drawn0 w w' := by
  have hu26 := Try.underlying26
  have HR0 := Aside0.mk hr0
  have HC0 := Aside0.mk hc0
  clear hr0 hc0
  have HR1 := Aside0.mk hr1
  have HC1 := Aside0.mk hc1
  clear hr1 hc1
  have H : (if (l0.length : Int) = (l1.length : Int) then (impl_Range_66.l0 k l0 l1 (l0.length : Int) 0) else (some false)) = some r := h
  clear h
  by_cases c3 : (l0.length : Int) = (l1.length : Int)
  rotate_left
  · rw [if_neg c3] at H
    have c3b0 : ((l0.length : Int) == (l1.length : Int)) = false := beq_eq_false_iff_ne.mpr c3
    have c3b1 : ((l0.length : Int) != (l1.length : Int)) = true := bne_iff_ne.mpr c3
    have c3b2 : (l0.length == l1.length) = false := by first | simpa using c3 | (simp at c3 ⊢; omega)
    obtain rfl := Option.some.inj H
    go_enter Try.func66, Try.ntmps66
    go_wp2
    repeat (go_quiet (fail); try go_wp2)
    go_ret
    exact ⟨by first | rfl | (simp; done) | (simp [*]; done), u9_7⟩
  rw [if_pos c3] at H
  have c3b0 : ((l0.length : Int) == (l1.length : Int)) = true := beq_iff_eq.mpr c3
  have c3b1 : ((l0.length : Int) != (l1.length : Int)) = false := bne_eq_false_iff_eq.mpr c3
  have c3b2 : (l0.length == l1.length) = true := by first | simpa using c3 | (simp at c3 ⊢; omega)
  clear c3
  have H' := Aside0.mk H
  clear H
  go_enter Try.func66, Try.ntmps66
  go_wp2
  repeat (go_quiet (fail); try go_wp2)
  go_loopg [13] k (fun kq v13 w' => ∃ (x13_1 : Int), v13 = .int .i64 x13_1 ∧ Aside0 (impl_Range_66.l0 kq l0 l1 (l0.length : Int) x13_1 = some r) ∧ Aside0 (kq ≤ k) ∧ Drawn0 w w')
  case atStart => exact ⟨(0), u9_8, H', ⟨Nat.le_refl _⟩, u9_7⟩
  clear H'
  try clear c1
  try clear p2
  try clear c3
  try clear c3b0
  try clear c3b1
  try clear c3b2
  obtain ⟨x13_1, rfl, HA, HK1, ⟨m1, rfl⟩⟩ := hrel
  cases gk with
  | zero => exact absurd HA.out (by simp [impl_Range_66.l0])
  | succ k1 =>
    have H := HA.out
    clear HA
    simp only [impl_Range_66.l0] at H
    by_cases c4 : x13_1 < (l0.length : Int)
    rotate_left
    · rw [if_neg c4] at H
      have c4b0 : decide (x13_1 < (l0.length : Int)) = false := decide_eq_false c4
      clear c4
      obtain rfl := Option.some.inj H
      go_wp2
      repeat (go_quiet (fail); try go_wp2)
      go_ret
      exact ⟨by first | rfl | (simp; done) | (simp [*]; done), u9_7⟩
    rw [if_pos c4] at H
    have c4b0 : decide (x13_1 < (l0.length : Int)) = true := decide_eq_true c4
    clear c4
    by_cases c5 : 0 ≤ x13_1
    rotate_left
    · rw [if_neg c5] at H
      exact absurd H (by simp)
    rw [if_pos c5] at H
    have c5b0 : decide (0 ≤ x13_1) = true := decide_eq_true c5
    clear c5
    by_cases c6 : x13_1 < (l0.length : Int)
    rotate_left
    · rw [if_neg c6] at H
      exact absurd H (by simp)
    rw [if_pos c6] at H
    have c6b0 : decide (x13_1 < (l0.length : Int)) = true := decide_eq_true c6
    clear c6
    by_cases c7 : x13_1 < (l1.length : Int)
    rotate_left
    · rw [if_neg c7] at H
      exact absurd H (by simp)
    rw [if_pos c7] at H
    have c7b0 : decide (x13_1 < (l1.length : Int)) = true := decide_eq_true c7
    clear c7
    have H9 := Aside0.mk H
    clear H
    have p249 : 0 ≤ (x13_1 : Int) := of_decide_eq_true u9_11
    have q249 : x13_1 < (l0.length : Int) := of_decide_eq_true u9_11
    obtain ⟨ad249, e249, hx249_0, hx249_1, hx249_2⟩ := at_T26 HR0.out x13_1 p249 q249
    cases e249
    replace p249 := eq_true p249
    replace q249 := eq_true q249
    have p250 : 0 ≤ (x13_1 : Int) := of_decide_eq_true u9_11
    have q250 : x13_1 < (l1.length : Int) := of_decide_eq_true u9_11
    obtain ⟨ad250, e250, hx250_0, hx250_1, hx250_2⟩ := at_T26 HR1.out x13_1 p250 q250
    cases e250
    replace p250 := eq_true p250
    replace q250 := eq_true q250
    go_upto_if 24 with (fail)
    repeat (go_quiet (fail); go_upto_if 24 with (fail))
    have H := H9.out
    clear H9
    by_cases c8 : (!(((rd_T26 l0 x13_1).f0) == ((rd_T26 l1 x13_1).f0)) || (!(((rd_T26 l0 x13_1).f1) == ((rd_T26 l1 x13_1).f1)) || (!(((rd_T26 l0 x13_1).f2) == ((rd_T26 l1 x13_1).f2))))) = true
    · rw [if_pos c8] at H
      have c8b0 : (!(((rd_T26 l0 x13_1).f0) == ((rd_T26 l1 x13_1).f0)) || (!(((rd_T26 l0 x13_1).f1) == ((rd_T26 l1 x13_1).f1)) || (!(((rd_T26 l0 x13_1).f2) == ((rd_T26 l1 x13_1).f2))))) = true := c8
      clear c8
      (first | rw [c8b0] | (simp only [i64_w, i32_w]; rw [c8b0]) | skip)
      obtain rfl := Option.some.inj H
      go_wp2
      repeat (go_quiet (fail); try go_wp2)
      go_ret
      exact ⟨by first | rfl | (simp; done) | (simp [*]; done), u9_7⟩
    rw [if_neg c8] at H
    have c8b0 : (!(((rd_T26 l0 x13_1).f0) == ((rd_T26 l1 x13_1).f0)) || (!(((rd_T26 l0 x13_1).f1) == ((rd_T26 l1 x13_1).f1)) || (!(((rd_T26 l0 x13_1).f2) == ((rd_T26 l1 x13_1).f2))))) = false := by simpa using c8
    clear c8
    (first | rw [c8b0] | (simp only [i64_w, i32_w]; rw [c8b0]) | skip)
    have H' := Aside0.mk H
    clear H
    go_wp2
    repeat (go_quiet (fail); try go_wp2)
    go_roundg k1
    case measure => have := HK1.out; omega
    case rel => exact ⟨(wrap64 (x13_1 + 1)), u9_8, H', ⟨by have := HK1.out; omega⟩, u9_7⟩

end Go.Proofs.Ytfabcjkaoidmeaa.QFnRanges
