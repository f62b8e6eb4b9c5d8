import Derived.Test.YtkcadcoohmofcaaSqFnExactSettled
import Derived.Test.YtkcadcoohmofcaaQFnExactSettledx0
import Derived.Test.YtkcadcoohmofcaaQFnExactSettledx7
namespace Go.Proofs.Ytkcadcoohmofcaa.QFnExactSettled
open Go.RowKit Go.Proofs.YtkcadcoohmofcaaW.PrintWords Go.Proofs.YtkcadcoohmofcaaW.PrintLast Go.Proofs.YtkcadcoohmofcaaW.PrintMore Go.Proofs.Ytkcadcoohmofcaa.SqFnExactSettled
attribute [local go_sem] max2_int min2_int max_two min_two max_three min_three max_four min_four Go.Proofs.Ytkcadcoohmofcaa.Set.isSome_setCell
set_option linter.unusedVariables false
set_option linter.unusedSimpArgs false
theorem u8_2 {P : Prop} (h : P := by (with_reducible repeat (first | apply b1_ | apply b2_ | apply b3_)); exact BK267.out) : P := h
mutual
def spec_MsgOk.j0 : Nat → Bool → Int → Int → Int → Int → Int → Int → Int → Bool → List (S85) → Option (Bool)
 | 0, _, _, _, _, _, _, _, _, _, _ => none
 | k + 1, x43, x268000, x268001, x268002, x268003, x268004, x268005, x268006, x268007, x268008 => if x43 = true then (some false) else ((spec_l01In.f x268004 0 60).bind fun t273 => (if t273 = true then ((spec_l01In.f x268005 0 1000000).bind fun t274 => (if t274 = true then ((spec_l01In.f x268006 0 1000000).bind fun t275 => (if t275 = true then (spec_MsgOk.j1 k (decide ((x268008.length : Int) > 10)) x268000 x268001 x268002 x268003 x268004 x268005 x268006 x268007 x268008) else (spec_MsgOk.j1 k true x268000 x268001 x268002 x268003 x268004 x268005 x268006 x268007 x268008))) else (spec_MsgOk.j1 k true x268000 x268001 x268002 x268003 x268004 x268005 x268006 x268007 x268008))) else (spec_MsgOk.j1 k true x268000 x268001 x268002 x268003 x268004 x268005 x268006 x268007 x268008)))
def spec_MsgOk.j1 : Nat → Bool → Int → Int → Int → Int → Int → Int → Int → Bool → List (S85) → Option (Bool)
 | 0, _, _, _, _, _, _, _, _, _, _ => none
 | k + 1, x65, x268000, x268001, x268002, x268003, x268004, x268005, x268006, x268007, x268008 => if x65 = true then (some false) else (spec_MsgOk.l0 k 0 x268000 x268001 x268002 x268003 x268004 x268005 x268006 x268007 x268008)
def spec_MsgOk.l0 : Nat → Int → Int → Int → Int → Int → Int → Int → Int → Bool → List (S85) → Option (Bool)
 | 0, _, _, _, _, _, _, _, _, _, _ => none
 | k + 1, x5, x268000, x268001, x268002, x268003, x268004, x268005, x268006, x268007, x268008 => if x5 < (x268008.length : Int) then (if 0 ≤ x5 then ((spec_l05Entry.f ((rd_T85 x268008 x5).f0) ((rd_T85 x268008 x5).f1)).bind fun t277 => (if t277 = true then (if ((rd_T85 x268008 x5).f0) > x268003 then (some false) else (spec_MsgOk.l0 k (wrap64 (x5 + 1)) x268000 x268001 x268002 x268003 x268004 x268005 x268006 x268007 x268008)) else (some false))) else (none)) else (if x268000 = 0 then (if x268006 = 0 then (if x268007 = true then (some false) else (some ((x268008.length : Int) == 0))) else (some false)) else (if x268000 = 1 then (if x268004 = 0 then (if x268005 = 0 then (if x268006 = 0 then (some ((x268008.length : Int) == 0)) else (some false)) else (some false)) else (some false)) else (if x268000 = 2 then (some (!x268007)) else (if x268005 = 0 then (if x268006 = 0 then (some ((x268008.length : Int) == 0)) else (some false)) else (some false)))))
end
def spec_MsgOk.f (k : Nat) (a0_0 : Int) (a0_1 : Int) (a0_2 : Int) (a0_3 : Int) (a0_4 : Int) (a0_5 : Int) (a0_6 : Int) (a0_7 : Bool) (l0_8 : List (S85)) (a1 : Int) : Option (Bool) := (spec_l07Size.f a1).bind fun t268 => (if t268 = true then ((spec_l01In.f a0_0 0 3).bind fun t269 => (if t269 = true then ((spec_l01In.f a0_1 0 (wrap64 (a1 - 1))).bind fun t270 => (if t270 = true then ((spec_l01In.f a0_2 0 (wrap64 (a1 - 1))).bind fun t271 => (if t271 = true then (if a0_1 = a0_2 then (spec_MsgOk.j0 k true a0_0 a0_1 a0_2 a0_3 a0_4 a0_5 a0_6 a0_7 l0_8) else ((spec_l01In.f a0_3 1 1000000).bind fun t272 => (spec_MsgOk.j0 k (!t272) a0_0 a0_1 a0_2 a0_3 a0_4 a0_5 a0_6 a0_7 l0_8))) else (spec_MsgOk.j0 k true a0_0 a0_1 a0_2 a0_3 a0_4 a0_5 a0_6 a0_7 l0_8))) else (spec_MsgOk.j0 k true a0_0 a0_1 a0_2 a0_3 a0_4 a0_5 a0_6 a0_7 l0_8))) else (spec_MsgOk.j0 k true a0_0 a0_1 a0_2 a0_3 a0_4 a0_5 a0_6 a0_7 l0_8))) else (spec_MsgOk.j0 k true a0_0 a0_1 a0_2 a0_3 a0_4 a0_5 a0_6 a0_7 l0_8))
theorem spec_MsgOk.mono_l : ∀ k, (∀ y0 y1 y2 y3 y4 y5 y6 y7 y8 y9, LeO (spec_MsgOk.j0 k y0 y1 y2 y3 y4 y5 y6 y7 y8 y9) (spec_MsgOk.j0 (k + 1) y0 y1 y2 y3 y4 y5 y6 y7 y8 y9)) ∧ (∀ y0 y1 y2 y3 y4 y5 y6 y7 y8 y9, LeO (spec_MsgOk.j1 k y0 y1 y2 y3 y4 y5 y6 y7 y8 y9) (spec_MsgOk.j1 (k + 1) y0 y1 y2 y3 y4 y5 y6 y7 y8 y9)) ∧ (∀ y0 y1 y2 y3 y4 y5 y6 y7 y8 y9, LeO (spec_MsgOk.l0 k y0 y1 y2 y3 y4 y5 y6 y7 y8 y9) (spec_MsgOk.l0 (k + 1) y0 y1 y2 y3 y4 y5 y6 y7 y8 y9))
 | 0 => ⟨fun _ _ _ _ _ _ _ _ _ _ r h => by simp [spec_MsgOk.j0] at h, fun _ _ _ _ _ _ _ _ _ _ r h => by simp [spec_MsgOk.j1] at h, fun _ _ _ _ _ _ _ _ _ _ r h => by simp [spec_MsgOk.l0] at h⟩
 | k + 1 => by
   obtain ⟨ih0, ih1, ih2⟩ := spec_MsgOk.mono_l k
   refine ⟨?_, ?_, ?_⟩ <;> intros <;> (first | unfold spec_MsgOk.j0 | unfold spec_MsgOk.j1 | unfold spec_MsgOk.l0) <;> repeat' first
   | (with_reducible exact ih0 _ _ _ _ _ _ _ _ _ _)
   | (with_reducible exact ih1 _ _ _ _ _ _ _ _ _ _)
   | (with_reducible exact ih2 _ _ _ _ _ _ _ _ _ _)
   | (with_reducible exact LeO.refl _)
   | (with_reducible exact LeO.none _)
   | (with_reducible refine LeO.ite ?_ ?_)
   | (with_reducible refine LeO.bind ?_ (fun _ => ?_))
   | exact ih0 _ _ _ _ _ _ _ _ _ _
   | exact ih1 _ _ _ _ _ _ _ _ _ _
   | exact ih2 _ _ _ _ _ _ _ _ _ _
   | exact LeO.none _
   | refine LeO.ite ?_ ?_
   | refine LeO.bind ?_ (fun _ => ?_)
theorem spec_MsgOk.mono : ∀ a0 a1 a2 a3 a4 a5 a6 a7 a8 a9 k, LeO (spec_MsgOk.f k a0 a1 a2 a3 a4 a5 a6 a7 a8 a9) (spec_MsgOk.f (k + 1) a0 a1 a2 a3 a4 a5 a6 a7 a8 a9) := by
 intro a0 a1 a2 a3 a4 a5 a6 a7 a8 a9 k
 obtain ⟨ih0, ih1, ih2⟩ := spec_MsgOk.mono_l k
 unfold spec_MsgOk.f
 repeat' first
     | (with_reducible exact ih0 _ _ _ _ _ _ _ _ _ _)
     | (with_reducible exact ih1 _ _ _ _ _ _ _ _ _ _)
     | (with_reducible exact ih2 _ _ _ _ _ _ _ _ _ _)
     | (with_reducible exact LeO.refl _)
     | (with_reducible exact LeO.none _)
     | (with_reducible refine LeO.ite ?_ ?_)
     | (with_reducible refine LeO.bind ?_ (fun _ => ?_))
     | exact ih0 _ _ _ _ _ _ _ _ _ _
     | exact ih1 _ _ _ _ _ _ _ _ _ _
     | exact ih2 _ _ _ _ _ _ _ _ _ _
     | exact LeO.none _
     | refine LeO.ite ?_ ?_
     | refine LeO.bind ?_ (fun _ => ?_)
def spec_MsgOk.T8 : Bool × List (List Nat × List Nat) := (true, [([], []), ([0], [0]), ([], []), ([1, 2], [1, 2]), ([3], [3]), ([4], [4]), ([5], [5]), ([6, 5], [6]), ([7], [7]), ([8, 7], [7, 8]), ([7], [7]), ([9, 10, 7], [7, 9, 10]), ([11, 7], [7, 11]), ([12, 7], [7, 12]), ([7], [7]), ([14, 7], [7, 14]), ([13, 15, 7], [7, 13, 15]), ([7, 16], [7, 16])])
def spec_MsgOk.B8 : List Nat := [0, 1, 0, 7, 15, 31, 63, 127, 255, 511, 255, 2047, 4095, 8191, 255, 16639, 65535, 131071]
theorem spec_MsgOk.tab8 : rtab .any (opsOf Try.f16 8) = spec_MsgOk.T8 := by kernel_rfl
theorem spec_MsgOk.bits8 : waitsOk spec_MsgOk.T8.2 spec_MsgOk.B8 = true := by kernel_rfl
set_option maxHeartbeats 8000000 in
set_option maxRecDepth 100000 in
theorem spec_MsgOk.calls (k : Nat) (a0_0 : Int) (a0_1 : Int) (a0_2 : Int) (a0_3 : Int) (a0_4 : Int) (a0_5 : Int) (a0_6 : Int) (a0_7 : Bool) (A0_8 : Option Addr) (c0_8 : Nat) (l0_8 : List (S85)) (a1 : Int) (r : Bool) (w : World) (hr0_8 : Kd.C k85 w A0_8 l0_8.length l0_8) (hc0_8 : l0_8.length ≤ c0_8) (h : spec_MsgOk.f k a0_0 a0_1 a0_2 a0_3 a0_4 a0_5 a0_6 a0_7 l0_8 a1 = some r) :
   Calls Try.prog 16 #[.agg #[.int .i64 a0_0, .int .i64 a0_1, .int .i64 a0_2, .int .i64 a0_3, .int .i64 a0_4, .int .i64 a0_5, .int .i64 a0_6, .bool a0_7, .slice A0_8 l0_8.length c0_8], .int .i64 a1] w fun e w' => e = .returned (.bool r) ∧ Below w.heap.size w w' := by
 have hu29 := Try.underlying29
 have hu85 := Try.underlying85
 have HR0_8 := am hr0_8
 have HC0_8 := am hc0_8
 clear hr0_8 hc0_8
 have HB := am (Below.refl w.heap.size w)
 have H : ((spec_l07Size.f a1).bind fun t268 => (if t268 = true then ((spec_l01In.f a0_0 0 3).bind fun t269 => (if t269 = true then ((spec_l01In.f a0_1 0 (wrap64 (a1 - 1))).bind fun t270 => (if t270 = true then ((spec_l01In.f a0_2 0 (wrap64 (a1 - 1))).bind fun t271 => (if t271 = true then (if a0_1 = a0_2 then (spec_MsgOk.j0 k true a0_0 a0_1 a0_2 a0_3 a0_4 a0_5 a0_6 a0_7 l0_8) else ((spec_l01In.f a0_3 1 1000000).bind fun t272 => (spec_MsgOk.j0 k (!t272) a0_0 a0_1 a0_2 a0_3 a0_4 a0_5 a0_6 a0_7 l0_8))) else (spec_MsgOk.j0 k true a0_0 a0_1 a0_2 a0_3 a0_4 a0_5 a0_6 a0_7 l0_8))) else (spec_MsgOk.j0 k true a0_0 a0_1 a0_2 a0_3 a0_4 a0_5 a0_6 a0_7 l0_8))) else (spec_MsgOk.j0 k true a0_0 a0_1 a0_2 a0_3 a0_4 a0_5 a0_6 a0_7 l0_8))) else (spec_MsgOk.j0 k true a0_0 a0_1 a0_2 a0_3 a0_4 a0_5 a0_6 a0_7 l0_8))) = some r := h
 clear h
 have HC3 := am H
 clear H
 go_enter Try.func16, Try.ntmps16
 go_upto_region 1 with (first | ((with_reducible refine gate_dst (N := 2) rfl ?_); (try (refine gate_guard (by rfl) ?_; dsimp only)); refine box_event ?hg (N := 2) ?hd (cs := #[.int .i64 a0_0, .int .i64 a0_1, .int .i64 a0_2, .int .i64 a0_3, .int .i64 a0_4, .int .i64 a0_5, .int .i64 a0_6, .bool a0_7, .slice A0_8 l0_8.length c0_8]) (t := 29) ?hr ?_; (case hd => rfl); (case hg => rfl); (case hr => first | (go_simp; done) | (go_simp; rfl)); intro gb267 hg w4 hbox hb; have BK267 := am (hbox); have GW267 := am ((by rw [hg]; exact (below_size Q2) : w.heap.size ≤ gb267)); have GE267 := am ((by rw [hg]; exact (below_size Q2) : w.heap.size ≤ gb267)); replace HB := am (below_step Q2 hb); clear hb hbox hg))
 (try simp only [Act.put, la, lb, lc])
 go_cut [43] (fun v43 wc => ∃ (kq : Nat) (x43_2 : Bool), v43 = .bool x43_2 ∧ Aside0 (spec_MsgOk.j0 kq x43_2 a0_0 a0_1 a0_2 a0_3 a0_4 a0_5 a0_6 a0_7 l0_8 = some r) ∧ Aside0 (kq ≤ k) ∧ Aside0 (wc.heap[gb267]? = some (.cells #[.int .i64 a0_0, .int .i64 a0_1, .int .i64 a0_2, .int .i64 a0_3, .int .i64 a0_4, .int .i64 a0_5, .int .i64 a0_6, .bool a0_7, (.slice A0_8 l0_8.length c0_8)] 29 (0, 0))) ∧ Aside0 (Below w.heap.size w wc))
 case first =>
   have H := HC3.out
   clear HC3
   replace H := Option.bind_eq_some_iff.mp H
   obtain ⟨t268, A50, H⟩ := H
   have A5 := am A50
   clear A50
   by_cases c6 : t268 = true
   rotate_left
   · replace c6 := Bool.eq_false_iff.mpr c6
     subst c6
     rw [nf] at H
     have H' := am H
     clear H
     go_wp2_with (first | ((with_reducible refine gate_callee (f := 62) rfl ?_); refine goesL_ (some 7) rfl rfl Try.func62 kr rfl #[.int .i64 a1] rfl Q0 ?_; (with_reducible refine (spec_l07Size.calls a1 false _ A5.out).mono ?_); rintro e w' ⟨rfl, ⟨nd, rfl⟩⟩; refine ⟨_, rfl, ?_⟩))
     go_meet
     case rel => exact ⟨_, (true), Q3, H', ⟨by first | omega | exact Nat.le_refl _⟩, ⟨u8_2⟩, ⟨Q2⟩⟩
   subst c6
   rw [if_pos rfl] at H
   replace H := Option.bind_eq_some_iff.mp H
   obtain ⟨t269, A70, H⟩ := H
   have A7 := am A70
   clear A70
   by_cases c8 : t269 = true
   rotate_left
   · replace c8 := Bool.eq_false_iff.mpr c8
     subst c8
     rw [nf] at H
     have H' := am H
     clear H
     go_wp2_with (first | ((with_reducible refine gate_callee (f := 62) rfl ?_); refine goesL_ (some 7) rfl rfl Try.func62 kr rfl #[.int .i64 a1] rfl Q0 ?_; (with_reducible refine (spec_l07Size.calls a1 true _ A5.out).mono ?_); rintro e w' ⟨rfl, ⟨nd, rfl⟩⟩; refine ⟨_, rfl, ?_⟩; obtain ⟨hcz19_0, hcz19_1, hcz19_2, hcz19_3, hcz19_4, hcz19_5, hcz19_6, hcz19_7, hcz19_8⟩ := bc9 w4 BK267.out) | (go_at_call 63; (with_reducible refine (spec_l01In.calls a0_0 0 3 false _ A7.out).mono ?_); rintro e w' ⟨rfl, ⟨nd, rfl⟩⟩))
     go_meet
     case rel => exact ⟨_, (true), Q3, H', ⟨by first | omega | exact Nat.le_refl _⟩, ⟨u8_2⟩, ⟨Q2⟩⟩
   subst c8
   rw [if_pos rfl] at H
   replace H := Option.bind_eq_some_iff.mp H
   obtain ⟨t270, A90, H⟩ := H
   have A9 := am A90
   clear A90
   by_cases c10 : t270 = true
   rotate_left
   · replace c10 := Bool.eq_false_iff.mpr c10
     subst c10
     rw [nf] at H
     have H' := am H
     clear H
     go_wp2_with (first | ((with_reducible refine gate_callee (f := 62) rfl ?_); refine goesL_ (some 7) rfl rfl Try.func62 kr rfl #[.int .i64 a1] rfl Q0 ?_; (with_reducible refine (spec_l07Size.calls a1 true _ A5.out).mono ?_); rintro e w' ⟨rfl, ⟨nd, rfl⟩⟩; refine ⟨_, rfl, ?_⟩; obtain ⟨hcz18_0, hcz18_1, hcz18_2, hcz18_3, hcz18_4, hcz18_5, hcz18_6, hcz18_7, hcz18_8⟩ := bc9 w4 BK267.out) | (go_at_call 63; (with_reducible refine (spec_l01In.calls a0_0 0 3 true _ A7.out).mono ?_); rintro e w' ⟨rfl, ⟨nd, rfl⟩⟩) | (go_at_call 63; (with_reducible refine (spec_l01In.calls a0_1 0 (wrap64 (a1 - 1)) false _ A9.out).mono ?_); rintro e w' ⟨rfl, ⟨nd, rfl⟩⟩))
     go_meet
     case rel => exact ⟨_, (true), Q3, H', ⟨by first | omega | exact Nat.le_refl _⟩, ⟨u8_2⟩, ⟨Q2⟩⟩
   subst c10
   rw [if_pos rfl] at H
   replace H := Option.bind_eq_some_iff.mp H
   obtain ⟨t271, A110, H⟩ := H
   have A11 := am A110
   clear A110
   by_cases c12 : t271 = true
   rotate_left
   · replace c12 := Bool.eq_false_iff.mpr c12
     subst c12
     rw [nf] at H
     have H' := am H
     clear H
     go_wp2_with (first | ((with_reducible refine gate_callee (f := 62) rfl ?_); refine goesL_ (some 7) rfl rfl Try.func62 kr rfl #[.int .i64 a1] rfl Q0 ?_; (with_reducible refine (spec_l07Size.calls a1 true _ A5.out).mono ?_); rintro e w' ⟨rfl, ⟨nd, rfl⟩⟩; refine ⟨_, rfl, ?_⟩; obtain ⟨hcz17_0, hcz17_1, hcz17_2, hcz17_3, hcz17_4, hcz17_5, hcz17_6, hcz17_7, hcz17_8⟩ := bc9 w4 BK267.out) | (go_at_call 63; (with_reducible refine (spec_l01In.calls a0_0 0 3 true _ A7.out).mono ?_); rintro e w' ⟨rfl, ⟨nd, rfl⟩⟩) | (go_at_call 63; (with_reducible refine (spec_l01In.calls a0_1 0 (wrap64 (a1 - 1)) true _ A9.out).mono ?_); rintro e w' ⟨rfl, ⟨nd, rfl⟩⟩) | (go_at_call 63; (with_reducible refine (spec_l01In.calls a0_2 0 (wrap64 (a1 - 1)) false _ A11.out).mono ?_); rintro e w' ⟨rfl, ⟨nd, rfl⟩⟩))
     go_meet
     case rel => exact ⟨_, (true), Q3, H', ⟨by first | omega | exact Nat.le_refl _⟩, ⟨u8_2⟩, ⟨Q2⟩⟩
   subst c12
   rw [if_pos rfl] at H
   by_cases c13 : a0_1 = a0_2
   · rw [if_pos c13] at H
     have c13b0 : (a0_1 == a0_2) = true := beq_iff_eq.mpr c13
     have c13b1 : (a0_1 != a0_2) = false := bne_eq_false_iff_eq.mpr c13
     clear c13
     (first | rw [c13b0] | (simp only [i64_w, i32_w]; rw [c13b0]) | skip)
     have H' := am H
     clear H
     go_wp2_with (first | ((with_reducible refine gate_callee (f := 62) rfl ?_); refine goesL_ (some 7) rfl rfl Try.func62 kr rfl #[.int .i64 a1] rfl Q0 ?_; (with_reducible refine (spec_l07Size.calls a1 true _ A5.out).mono ?_); rintro e w' ⟨rfl, ⟨nd, rfl⟩⟩; refine ⟨_, rfl, ?_⟩; obtain ⟨hcz14_0, hcz14_1, hcz14_2, hcz14_3, hcz14_4, hcz14_5, hcz14_6, hcz14_7, hcz14_8⟩ := bc9 w4 BK267.out) | (go_at_call 63; (with_reducible refine (spec_l01In.calls a0_0 0 3 true _ A7.out).mono ?_); rintro e w' ⟨rfl, ⟨nd, rfl⟩⟩) | (go_at_call 63; (with_reducible refine (spec_l01In.calls a0_1 0 (wrap64 (a1 - 1)) true _ A9.out).mono ?_); rintro e w' ⟨rfl, ⟨nd, rfl⟩⟩) | (go_at_call 63; (with_reducible refine (spec_l01In.calls a0_2 0 (wrap64 (a1 - 1)) true _ A11.out).mono ?_); rintro e w' ⟨rfl, ⟨nd, rfl⟩⟩))
     go_meet
     case rel => exact ⟨_, (true), Q3, H', ⟨by first | omega | exact Nat.le_refl _⟩, ⟨u8_2⟩, ⟨Q2⟩⟩
   rw [if_neg c13] at H
   have c13b0 : (a0_1 == a0_2) = false := beq_eq_false_iff_ne.mpr c13
   have c13b1 : (a0_1 != a0_2) = true := bne_iff_ne.mpr c13
   (first | rw [c13b0] | (simp only [i64_w, i32_w]; rw [c13b0]) | skip)
   replace H := Option.bind_eq_some_iff.mp H
   obtain ⟨t272, A150, H⟩ := H
   replace H : (spec_MsgOk.j0 k (!t272) a0_0 a0_1 a0_2 a0_3 a0_4 a0_5 a0_6 a0_7 l0_8) = some r := H
   have A15 := am A150
   clear A150
   have H' := am H
   clear H
   go_wp2_with (first | ((with_reducible refine gate_callee (f := 62) rfl ?_); refine goesL_ (some 7) rfl rfl Try.func62 kr rfl #[.int .i64 a1] rfl Q0 ?_; (with_reducible refine (spec_l07Size.calls a1 true _ A5.out).mono ?_); rintro e w' ⟨rfl, ⟨nd, rfl⟩⟩; refine ⟨_, rfl, ?_⟩; obtain ⟨hcz16_0, hcz16_1, hcz16_2, hcz16_3, hcz16_4, hcz16_5, hcz16_6, hcz16_7, hcz16_8⟩ := bc9 w4 BK267.out) | (go_at_call 63; (with_reducible refine (spec_l01In.calls a0_0 0 3 true _ A7.out).mono ?_); rintro e w' ⟨rfl, ⟨nd, rfl⟩⟩) | (go_at_call 63; (with_reducible refine (spec_l01In.calls a0_1 0 (wrap64 (a1 - 1)) true _ A9.out).mono ?_); rintro e w' ⟨rfl, ⟨nd, rfl⟩⟩) | (go_at_call 63; (with_reducible refine (spec_l01In.calls a0_2 0 (wrap64 (a1 - 1)) true _ A11.out).mono ?_); rintro e w' ⟨rfl, ⟨nd, rfl⟩⟩) | (go_at_call 63; (with_reducible refine (spec_l01In.calls a0_3 1 1000000 t272 _ A15.out).mono ?_); rintro e w' ⟨rfl, ⟨nd, rfl⟩⟩))
   go_meet
   case rel => exact ⟨_, (!t272), Q3, H', ⟨by first | omega | exact Nat.le_refl _⟩, ⟨u8_2⟩, ⟨Q2⟩⟩
 clear HC3
 obtain ⟨kq, x43_2, rfl, HA, HJ2, BK267, HB⟩ := hcut
 cases kq with
 | zero => exact absurd HA.out (by simp [spec_MsgOk.j0])
 | succ kj2 =>
   have H := HA.out
   clear HA
   simp only [spec_MsgOk.j0] at H
   by_cases c20 : x43_2 = true
   · subst c20
     rw [if_pos rfl] at H
     obtain rfl := sj H
     go_wp2
     go_ret
     exact ⟨er, Q2⟩
   replace c20 := Bool.eq_false_iff.mpr c20
   subst c20
   rw [nf] at H
   have HC21 := am H
   clear H
   go_upto_region 3 with (fail)
   go_cut [65] (fun v65 wc => ∃ (kq : Nat) (x65_20 : Bool), v65 = .bool x65_20 ∧ Aside0 (spec_MsgOk.j1 kq x65_20 a0_0 a0_1 a0_2 a0_3 a0_4 a0_5 a0_6 a0_7 l0_8 = some r) ∧ Aside0 (kq ≤ kj2) ∧ Aside0 (wc.heap[gb267]? = some (.cells #[.int .i64 a0_0, .int .i64 a0_1, .int .i64 a0_2, .int .i64 a0_3, .int .i64 a0_4, .int .i64 a0_5, .int .i64 a0_6, .bool a0_7, (.slice A0_8 l0_8.length c0_8)] 29 (0, 0))) ∧ Aside0 (Below w.heap.size w wc))
   case first =>
     have H := HC21.out
     clear HC21
     replace H := Option.bind_eq_some_iff.mp H
     obtain ⟨t273, A220, H⟩ := H
     have A22 := am A220
     clear A220
     by_cases c23 : t273 = true
     rotate_left
     · replace c23 := Bool.eq_false_iff.mpr c23
       subst c23
       rw [nf] at H
       have H' := am H
       clear H
       obtain ⟨hcz31_0, hcz31_1, hcz31_2, hcz31_3, hcz31_4, hcz31_5, hcz31_6, hcz31_7, hcz31_8⟩ := bc9 wc BK267.out
       go_wp2_with (first | ((with_reducible refine gate_callee (f := 63) rfl ?_); refine goesL_ (some 46) rfl rfl Try.func63 kr rfl #[.int .i64 a0_4, .int .i64 0, .int .i64 60] rfl Q0 ?_; (with_reducible refine (spec_l01In.calls a0_4 0 60 false _ A22.out).mono ?_); rintro e w' ⟨rfl, ⟨nd, rfl⟩⟩; refine ⟨_, rfl, ?_⟩))
       go_meet
       case rel => exact ⟨_, (true), Q3, H', ⟨Q10⟩, ⟨u8_2⟩, ⟨Q2⟩⟩
     subst c23
     rw [if_pos rfl] at H
     replace H := Option.bind_eq_some_iff.mp H
     obtain ⟨t274, A240, H⟩ := H
     have A24 := am A240
     clear A240
     by_cases c25 : t274 = true
     rotate_left
     · replace c25 := Bool.eq_false_iff.mpr c25
       subst c25
       rw [nf] at H
       have H' := am H
       clear H
       obtain ⟨hcz30_0, hcz30_1, hcz30_2, hcz30_3, hcz30_4, hcz30_5, hcz30_6, hcz30_7, hcz30_8⟩ := bc9 wc BK267.out
       go_wp2_with (first | ((with_reducible refine gate_callee (f := 63) rfl ?_); refine goesL_ (some 46) rfl rfl Try.func63 kr rfl #[.int .i64 a0_4, .int .i64 0, .int .i64 60] rfl Q0 ?_; (with_reducible refine (spec_l01In.calls a0_4 0 60 true _ A22.out).mono ?_); rintro e w' ⟨rfl, ⟨nd, rfl⟩⟩; refine ⟨_, rfl, ?_⟩) | (go_at_call 63; (with_reducible refine (spec_l01In.calls a0_5 0 1000000 false _ A24.out).mono ?_); rintro e w' ⟨rfl, ⟨nd, rfl⟩⟩))
       go_meet
       case rel => exact ⟨_, (true), Q3, H', ⟨Q10⟩, ⟨u8_2⟩, ⟨Q2⟩⟩
     subst c25
     rw [if_pos rfl] at H
     replace H := Option.bind_eq_some_iff.mp H
     obtain ⟨t275, A260, H⟩ := H
     have A26 := am A260
     clear A260
     by_cases c27 : t275 = true
     · subst c27
       rw [if_pos rfl] at H
       have H' := am H
       clear H
       obtain ⟨hcz28_0, hcz28_1, hcz28_2, hcz28_3, hcz28_4, hcz28_5, hcz28_6, hcz28_7, hcz28_8⟩ := bc9 wc BK267.out
       go_wp2_with (first | ((with_reducible refine gate_callee (f := 63) rfl ?_); refine goesL_ (some 46) rfl rfl Try.func63 kr rfl #[.int .i64 a0_4, .int .i64 0, .int .i64 60] rfl Q0 ?_; (with_reducible refine (spec_l01In.calls a0_4 0 60 true _ A22.out).mono ?_); rintro e w' ⟨rfl, ⟨nd, rfl⟩⟩; refine ⟨_, rfl, ?_⟩) | (go_at_call 63; (with_reducible refine (spec_l01In.calls a0_5 0 1000000 true _ A24.out).mono ?_); rintro e w' ⟨rfl, ⟨nd, rfl⟩⟩) | (go_at_call 63; (with_reducible refine (spec_l01In.calls a0_6 0 1000000 true _ A26.out).mono ?_); rintro e w' ⟨rfl, ⟨nd, rfl⟩⟩))
       go_meet
       case rel => exact ⟨_, (decide ((l0_8.length : Int) > 10)), Q3, H', ⟨Q10⟩, ⟨u8_2⟩, ⟨Q2⟩⟩
     replace c27 := Bool.eq_false_iff.mpr c27
     subst c27
     rw [nf] at H
     have H' := am H
     clear H
     obtain ⟨hcz29_0, hcz29_1, hcz29_2, hcz29_3, hcz29_4, hcz29_5, hcz29_6, hcz29_7, hcz29_8⟩ := bc9 wc BK267.out
     go_wp2_with (first | ((with_reducible refine gate_callee (f := 63) rfl ?_); refine goesL_ (some 46) rfl rfl Try.func63 kr rfl #[.int .i64 a0_4, .int .i64 0, .int .i64 60] rfl Q0 ?_; (with_reducible refine (spec_l01In.calls a0_4 0 60 true _ A22.out).mono ?_); rintro e w' ⟨rfl, ⟨nd, rfl⟩⟩; refine ⟨_, rfl, ?_⟩) | (go_at_call 63; (with_reducible refine (spec_l01In.calls a0_5 0 1000000 true _ A24.out).mono ?_); rintro e w' ⟨rfl, ⟨nd, rfl⟩⟩) | (go_at_call 63; (with_reducible refine (spec_l01In.calls a0_6 0 1000000 false _ A26.out).mono ?_); rintro e w' ⟨rfl, ⟨nd, rfl⟩⟩))
     go_meet
     case rel => exact ⟨_, (true), Q3, H', ⟨Q10⟩, ⟨u8_2⟩, ⟨Q2⟩⟩
   clear HC21
   try clear c20
   obtain ⟨kq, x65_20, rfl, HA, HJ20, BK267, HB⟩ := hcut
   cases kq with
   | zero => exact absurd HA.out (by simp [spec_MsgOk.j1])
   | succ kj20 =>
     have H := HA.out
     clear HA
     simp only [spec_MsgOk.j1] at H
     by_cases c32 : x65_20 = true
     · subst c32
       rw [if_pos rfl] at H
       obtain rfl := sj H
       go_wp2
       go_ret
       exact ⟨er, Q2⟩
     replace c32 := Bool.eq_false_iff.mpr c32
     subst c32
     rw [nf] at H
     have H' := am H
     clear H
     go_wp2
     go_loopg [5] kj20 (fun kq v5 w' => ∃ (x5_3 : Int), v5 = .int .i64 x5_3 ∧ Aside0 (spec_MsgOk.l0 kq x5_3 a0_0 a0_1 a0_2 a0_3 a0_4 a0_5 a0_6 a0_7 l0_8 = some r) ∧ Aside0 (kq ≤ kj20) ∧ Aside0 (w'.heap[gb267]? = some (.cells #[.int .i64 a0_0, .int .i64 a0_1, .int .i64 a0_2, .int .i64 a0_3, .int .i64 a0_4, .int .i64 a0_5, .int .i64 a0_6, .bool a0_7, (.slice A0_8 l0_8.length c0_8)] 29 (0, 0))) ∧ Aside0 (Below w.heap.size w w'))
     case atStart => exact ⟨(0), Q3, H', ⟨Nat.le_refl _⟩, ⟨u8_2⟩, ⟨Q2⟩⟩
     clear H'
     try clear c20
     try clear c32
     obtain ⟨x5_3, rfl, HA, HK3, BK267, HB⟩ := hrel
     cases gk with
     | zero => exact absurd HA.out (by simp [spec_MsgOk.l0])
     | succ k3 =>
       have H := HA.out
       clear HA
       simp only [spec_MsgOk.l0] at H
       by_cases c33 : x5_3 < (l0_8.length : Int)
       rotate_left
       · rw [if_neg c33] at H
         have c33b0 : decide (x5_3 < (l0_8.length : Int)) = false := decide_eq_false c33
         clear c33
         by_cases c44 : a0_0 = 0
         · rw [if_pos c44] at H
           have c44b0 : (a0_0 == 0) = true := beq_iff_eq.mpr c44
           have c44b1 : (a0_0 != 0) = false := bne_eq_false_iff_eq.mpr c44
           clear c44
           by_cases c45 : a0_6 = 0
           rotate_left
           · rw [if_neg c45] at H
             have c45b0 : (a0_6 == 0) = false := beq_eq_false_iff_ne.mpr c45
             have c45b1 : (a0_6 != 0) = true := bne_iff_ne.mpr c45
             obtain rfl := sj H
             obtain ⟨hcz49_0, hcz49_1, hcz49_2, hcz49_3, hcz49_4, hcz49_5, hcz49_6, hcz49_7, hcz49_8⟩ := bc9 wr BK267.out
             go_wp2
             go_ret
             exact ⟨er, Q2⟩
           rw [if_pos c45] at H
           have c45b0 : (a0_6 == 0) = true := beq_iff_eq.mpr c45
           have c45b1 : (a0_6 != 0) = false := bne_eq_false_iff_eq.mpr c45
           clear c45
           by_cases c46 : a0_7 = true
           · subst c46
             rw [if_pos rfl] at H
             obtain rfl := sj H
             obtain ⟨hcz47_0, hcz47_1, hcz47_2, hcz47_3, hcz47_4, hcz47_5, hcz47_6, hcz47_7, hcz47_8⟩ := bc9 wr BK267.out
             go_wp2
             go_ret
             exact ⟨er, Q2⟩
           replace c46 := Bool.eq_false_iff.mpr c46
           subst c46
           rw [nf] at H
           obtain rfl := sj H
           obtain ⟨hcz48_0, hcz48_1, hcz48_2, hcz48_3, hcz48_4, hcz48_5, hcz48_6, hcz48_7, hcz48_8⟩ := bc9 wr BK267.out
           go_wp2
           go_ret
           exact ⟨er, Q2⟩
         rw [if_neg c44] at H
         have c44b0 : (a0_0 == 0) = false := beq_eq_false_iff_ne.mpr c44
         have c44b1 : (a0_0 != 0) = true := bne_iff_ne.mpr c44
         by_cases c50 : a0_0 = 1
         rotate_left
         · rw [if_neg c50] at H
           have c50b0 : (a0_0 == 1) = false := beq_eq_false_iff_ne.mpr c50
           have c50b1 : (a0_0 != 1) = true := bne_iff_ne.mpr c50
           by_cases c58 : a0_0 = 2
           · rw [if_pos c58] at H
             have c58b0 : (a0_0 == 2) = true := beq_iff_eq.mpr c58
             have c58b1 : (a0_0 != 2) = false := bne_eq_false_iff_eq.mpr c58
             clear c58
             obtain rfl := sj H
             obtain ⟨hcz59_0, hcz59_1, hcz59_2, hcz59_3, hcz59_4, hcz59_5, hcz59_6, hcz59_7, hcz59_8⟩ := bc9 wr BK267.out
             go_wp2
             go_ret
             exact ⟨er, Q2⟩
           rw [if_neg c58] at H
           have c58b0 : (a0_0 == 2) = false := beq_eq_false_iff_ne.mpr c58
           have c58b1 : (a0_0 != 2) = true := bne_iff_ne.mpr c58
           by_cases c60 : a0_5 = 0
           rotate_left
           · rw [if_neg c60] at H
             have c60b0 : (a0_5 == 0) = false := beq_eq_false_iff_ne.mpr c60
             have c60b1 : (a0_5 != 0) = true := bne_iff_ne.mpr c60
             obtain rfl := sj H
             obtain ⟨hcz64_0, hcz64_1, hcz64_2, hcz64_3, hcz64_4, hcz64_5, hcz64_6, hcz64_7, hcz64_8⟩ := bc9 wr BK267.out
             go_wp2
             go_ret
             exact ⟨er, Q2⟩
           rw [if_pos c60] at H
           have c60b0 : (a0_5 == 0) = true := beq_iff_eq.mpr c60
           have c60b1 : (a0_5 != 0) = false := bne_eq_false_iff_eq.mpr c60
           clear c60
           by_cases c61 : a0_6 = 0
           rotate_left
           · rw [if_neg c61] at H
             have c61b0 : (a0_6 == 0) = false := beq_eq_false_iff_ne.mpr c61
             have c61b1 : (a0_6 != 0) = true := bne_iff_ne.mpr c61
             obtain rfl := sj H
             obtain ⟨hcz63_0, hcz63_1, hcz63_2, hcz63_3, hcz63_4, hcz63_5, hcz63_6, hcz63_7, hcz63_8⟩ := bc9 wr BK267.out
             go_wp2
             go_ret
             exact ⟨er, Q2⟩
           rw [if_pos c61] at H
           have c61b0 : (a0_6 == 0) = true := beq_iff_eq.mpr c61
           have c61b1 : (a0_6 != 0) = false := bne_eq_false_iff_eq.mpr c61
           clear c61
           obtain rfl := sj H
           obtain ⟨hcz62_0, hcz62_1, hcz62_2, hcz62_3, hcz62_4, hcz62_5, hcz62_6, hcz62_7, hcz62_8⟩ := bc9 wr BK267.out
           go_wp2
           go_ret
           exact ⟨er, Q2⟩
         rw [if_pos c50] at H
         have c50b0 : (a0_0 == 1) = true := beq_iff_eq.mpr c50
         have c50b1 : (a0_0 != 1) = false := bne_eq_false_iff_eq.mpr c50
         clear c50
         by_cases c51 : a0_4 = 0
         rotate_left
         · rw [if_neg c51] at H
           have c51b0 : (a0_4 == 0) = false := beq_eq_false_iff_ne.mpr c51
           have c51b1 : (a0_4 != 0) = true := bne_iff_ne.mpr c51
           obtain rfl := sj H
           obtain ⟨hcz57_0, hcz57_1, hcz57_2, hcz57_3, hcz57_4, hcz57_5, hcz57_6, hcz57_7, hcz57_8⟩ := bc9 wr BK267.out
           go_wp2
           go_ret
           exact ⟨er, Q2⟩
         rw [if_pos c51] at H
         have c51b0 : (a0_4 == 0) = true := beq_iff_eq.mpr c51
         have c51b1 : (a0_4 != 0) = false := bne_eq_false_iff_eq.mpr c51
         clear c51
         by_cases c52 : a0_5 = 0
         rotate_left
         · rw [if_neg c52] at H
           have c52b0 : (a0_5 == 0) = false := beq_eq_false_iff_ne.mpr c52
           have c52b1 : (a0_5 != 0) = true := bne_iff_ne.mpr c52
           obtain rfl := sj H
           obtain ⟨hcz56_0, hcz56_1, hcz56_2, hcz56_3, hcz56_4, hcz56_5, hcz56_6, hcz56_7, hcz56_8⟩ := bc9 wr BK267.out
           go_wp2
           go_ret
           exact ⟨er, Q2⟩
         rw [if_pos c52] at H
         have c52b0 : (a0_5 == 0) = true := beq_iff_eq.mpr c52
         have c52b1 : (a0_5 != 0) = false := bne_eq_false_iff_eq.mpr c52
         clear c52
         by_cases c53 : a0_6 = 0
         rotate_left
         · rw [if_neg c53] at H
           have c53b0 : (a0_6 == 0) = false := beq_eq_false_iff_ne.mpr c53
           have c53b1 : (a0_6 != 0) = true := bne_iff_ne.mpr c53
           obtain rfl := sj H
           obtain ⟨hcz55_0, hcz55_1, hcz55_2, hcz55_3, hcz55_4, hcz55_5, hcz55_6, hcz55_7, hcz55_8⟩ := bc9 wr BK267.out
           go_wp2
           go_ret
           exact ⟨er, Q2⟩
         rw [if_pos c53] at H
         have c53b0 : (a0_6 == 0) = true := beq_iff_eq.mpr c53
         have c53b1 : (a0_6 != 0) = false := bne_eq_false_iff_eq.mpr c53
         clear c53
         obtain rfl := sj H
         obtain ⟨hcz54_0, hcz54_1, hcz54_2, hcz54_3, hcz54_4, hcz54_5, hcz54_6, hcz54_7, hcz54_8⟩ := bc9 wr BK267.out
         go_wp2
         go_ret
         exact ⟨er, Q2⟩
       rw [if_pos c33] at H
       have c33b0 : decide (x5_3 < (l0_8.length : Int)) = true := decide_eq_true c33
       clear c33
       by_cases c34 : 0 ≤ x5_3
       rotate_left
       · rw [if_neg c34] at H
         exact absurd H (by simp)
       rw [if_pos c34] at H
       have c34b0 : decide (0 ≤ x5_3) = true := decide_eq_true c34
       clear c34
       replace H := Option.bind_eq_some_iff.mp H
       obtain ⟨t277, A350, H⟩ := H
       have A35 := am A350
       clear A350
       by_cases c36 : t277 = true
       rotate_left
       · replace c36 := Bool.eq_false_iff.mpr c36
         subst c36
         rw [nf] at H
         obtain rfl := sj H
         obtain ⟨hcz41_0, hcz41_1, hcz41_2, hcz41_3, hcz41_4, hcz41_5, hcz41_6, hcz41_7, hcz41_8⟩ := bc9 wr BK267.out
         try go_wp2
         replace BK267 := am (blk_drew BK267.out)
         replace HB := am (below_drew1 HB.out)
         have p276 : 0 ≤ (x5_3 : Int) := of_decide_eq_true Q1
         have q276 : x5_3 < (l0_8.length : Int) := of_decide_eq_true Q1
         obtain ⟨ad276, e276, hx276_0, hx276_1⟩ := at_T85 HR0_8.out x5_3 p276 q276
         have hw276_1 := hx276_1
         have hw276_0 := hx276_0
         cases e276
         replace hx276_0 := cm HB.out hx276_0
         replace hx276_1 := cm HB.out hx276_1
         replace p276 := eq_true p276
         replace q276 := eq_true q276
         refine start_ (n := 18) (S := fun w' => w'.cell? ⟨gb267, 0, none⟩ = some (.int .i64 a0_0) ∧ w'.cell? ⟨gb267, 1, none⟩ = some (.int .i64 a0_1) ∧ w'.cell? ⟨gb267, 2, none⟩ = some (.int .i64 a0_2) ∧ w'.cell? ⟨gb267, 3, none⟩ = some (.int .i64 a0_3) ∧ w'.cell? ⟨gb267, 4, none⟩ = some (.int .i64 a0_4) ∧ w'.cell? ⟨gb267, 5, none⟩ = some (.int .i64 a0_5) ∧ w'.cell? ⟨gb267, 6, none⟩ = some (.int .i64 a0_6) ∧ w'.cell? ⟨gb267, 7, none⟩ = some (.bool a0_7) ∧ w'.cell? ⟨gb267, 8, none⟩ = some (.slice (some ad276) l0_8.length c0_8) ∧ w'.cell? (ad276.add ((x5_3).toNat * 2)) = some (.int .i64 ((rd_T85 l0_8 x5_3).f0)) ∧ w'.cell? ⟨(ad276.add ((x5_3).toNat * 2)).block, (ad276.add ((x5_3).toNat * 2)).off + 1, none⟩ = some (.string ((rd_T85 l0_8 x5_3).f1))) (ds := []) b0_18 kr rfl rfl ⟨(blk_cell BK267.out 0).trans rfl, (blk_cell BK267.out 1).trans rfl, (blk_cell BK267.out 2).trans rfl, (blk_cell BK267.out 3).trans rfl, (blk_cell BK267.out 4).trans rfl, (blk_cell BK267.out 5).trans rfl, (blk_cell BK267.out 6).trans rfl, (blk_cell BK267.out 7).trans rfl, (blk_cell BK267.out 8).trans rfl, (cm HB.out hw276_0), (cm HB.out hw276_1)⟩ (fun hHeld => ?_); refine with_tabW spec_MsgOk.tab8 spec_MsgOk.bits8 (fun HT_ HW_ => ?_)
         generalize wr.drew = w42 at BK267 HB hx276_0 hx276_1 hHeld ⊢
         refine pV 0 73 (bt 1 18) ?_
         refine pV 2 75 bx34 ?_
         refine tV 1 74 (bt 3 18) ?_
         refine pV 3 76 (bt 4 18) ?_
         refine tV 4 77 (bt 5 18) ?_
         refine one_ (i := 5) (N := some 78) #[true, true, true, true, true, true, false, false, false, false, false, false, false, false, false, false, false, false] rfl rfl (one_of HT_.out kr) (by decide) (fun K hK => ?_)
         refine goes_ Try.func64 kr rfl #[.agg #[.int .i64 ((rd_T85 l0_8 x5_3).f0), .string ((rd_T85 l0_8 x5_3).f1)]] (by rfl) rfl rfl Q0 ?_
         with_reducible refine (spec_l05Entry.calls ((rd_T85 l0_8 x5_3).f0) ((rd_T85 l0_8 x5_3).f1) false _ A35.out).mono ?_
         rintro e w43 ⟨rfl, hb⟩
         refine ⟨_, rfl, ?_⟩
         replace BK267 := am (bb_ BK267.out u8_2 hb)
         replace HB := am (below_step Q2 hb)
         (try clear hb)
         (try clear hb2)
         (try clear hk)
         (try clear hi)
         refine hK.out _ _ ⟨(blk_cell BK267.out 0).trans rfl, (blk_cell BK267.out 1).trans rfl, (blk_cell BK267.out 2).trans rfl, (blk_cell BK267.out 3).trans rfl, (blk_cell BK267.out 4).trans rfl, (blk_cell BK267.out 5).trans rfl, (blk_cell BK267.out 6).trans rfl, (blk_cell BK267.out 7).trans rfl, (blk_cell BK267.out 8).trans rfl, (cm HB.out hw276_0), (cm HB.out hw276_1)⟩ (fun hHeld => ?_)
         clear hK K
         refine norm_ (a' := ?_) ?_ ?_
         rotate_left
         · show Act.put _ (some 78) _ = _
           simp only [Act.put, la, lb, lc, i64_w, i32_w]
           rfl
         refine pV 6 79 (bt 7 18) ?_
         refine pV 7 80 (bt 8 18) ?_
         refine pU 8 81 (bt 9 18) ?_
         refine pU 9 82 (bt 10 18) ?_
         refine pU 10 83 (bt 11 18) ?_
         refine pU 11 84 (bt 12 18) ?_
         refine pU 12 85 (bt 13 18) ?_
         refine pU 13 86 (bt 14 18) ?_
         refine pU 14 87 (bt 15 18) ?_
         refine pU 15 88 (bt 16 18) ?_
         refine pU 16 89 (bt 17 18) ?_
         refine pV 17 90 (bt 18 18) ?_
         refine done_ (done_of HT_.out kr) ?_
         try go_wp2
         go_ret
         exact ⟨er, Q2⟩
       subst c36
       rw [if_pos rfl] at H
       have H9 := am H
       clear H
       obtain ⟨hcz37_0, hcz37_1, hcz37_2, hcz37_3, hcz37_4, hcz37_5, hcz37_6, hcz37_7, hcz37_8⟩ := bc9 wr BK267.out
       try go_wp2
       replace BK267 := am (blk_drew BK267.out)
       replace HB := am (below_drew1 HB.out)
       have p276 : 0 ≤ (x5_3 : Int) := of_decide_eq_true Q1
       have q276 : x5_3 < (l0_8.length : Int) := of_decide_eq_true Q1
       obtain ⟨ad276, e276, hx276_0, hx276_1⟩ := at_T85 HR0_8.out x5_3 p276 q276
       have hw276_1 := hx276_1
       have hw276_0 := hx276_0
       cases e276
       replace hx276_0 := cm HB.out hx276_0
       replace hx276_1 := cm HB.out hx276_1
       replace p276 := eq_true p276
       replace q276 := eq_true q276
       have p278 : 0 ≤ (x5_3 : Int) := of_decide_eq_true Q1
       have q278 : x5_3 < (l0_8.length : Int) := of_decide_eq_true Q1
       obtain ⟨ad278, e278, hx278_0, hx278_1⟩ := at_T85 HR0_8.out x5_3 p278 q278
       have hw278_1 := hx278_1
       have hw278_0 := hx278_0
       obtain rfl : ad276 = ad278 := (by injection e278)
       replace hx278_0 := cm HB.out hx278_0
       replace hx278_1 := cm HB.out hx278_1
       replace p278 := eq_true p278
       replace q278 := eq_true q278
       refine start_ (n := 18) (S := fun w' => w'.cell? ⟨gb267, 0, none⟩ = some (.int .i64 a0_0) ∧ w'.cell? ⟨gb267, 1, none⟩ = some (.int .i64 a0_1) ∧ w'.cell? ⟨gb267, 2, none⟩ = some (.int .i64 a0_2) ∧ w'.cell? ⟨gb267, 3, none⟩ = some (.int .i64 a0_3) ∧ w'.cell? ⟨gb267, 4, none⟩ = some (.int .i64 a0_4) ∧ w'.cell? ⟨gb267, 5, none⟩ = some (.int .i64 a0_5) ∧ w'.cell? ⟨gb267, 6, none⟩ = some (.int .i64 a0_6) ∧ w'.cell? ⟨gb267, 7, none⟩ = some (.bool a0_7) ∧ w'.cell? ⟨gb267, 8, none⟩ = some (.slice (some ad276) l0_8.length c0_8) ∧ w'.cell? (ad276.add ((x5_3).toNat * 2)) = some (.int .i64 ((rd_T85 l0_8 x5_3).f0)) ∧ w'.cell? ⟨(ad276.add ((x5_3).toNat * 2)).block, (ad276.add ((x5_3).toNat * 2)).off + 1, none⟩ = some (.string ((rd_T85 l0_8 x5_3).f1)) ∧ w'.cell? (ad276.add ((x5_3).toNat * 2)) = some (.int .i64 ((rd_T85 l0_8 x5_3).f0)) ∧ w'.cell? ⟨(ad276.add ((x5_3).toNat * 2)).block, (ad276.add ((x5_3).toNat * 2)).off + 1, none⟩ = some (.string ((rd_T85 l0_8 x5_3).f1))) (ds := []) b0_18 kr rfl rfl ⟨(blk_cell BK267.out 0).trans rfl, (blk_cell BK267.out 1).trans rfl, (blk_cell BK267.out 2).trans rfl, (blk_cell BK267.out 3).trans rfl, (blk_cell BK267.out 4).trans rfl, (blk_cell BK267.out 5).trans rfl, (blk_cell BK267.out 6).trans rfl, (blk_cell BK267.out 7).trans rfl, (blk_cell BK267.out 8).trans rfl, (cm HB.out hw276_0), (cm HB.out hw276_1), (cm HB.out hw278_0), (cm HB.out hw278_1)⟩ (fun hHeld => ?_); refine with_tabW spec_MsgOk.tab8 spec_MsgOk.bits8 (fun HT_ HW_ => ?_)
       generalize wr.drew = w38 at BK267 HB hx276_0 hx276_1 hx278_0 hx278_1 hHeld ⊢
       refine pV 0 73 (bt 1 18) ?_
       refine pV 2 75 bx34 ?_
       refine tV 1 74 (bt 3 18) ?_
       refine pV 3 76 (bt 4 18) ?_
       refine tV 4 77 (bt 5 18) ?_
       refine one_ (i := 5) (N := some 78) #[true, true, true, true, true, true, false, false, false, false, false, false, false, false, false, false, false, false] rfl rfl (one_of HT_.out kr) (by decide) (fun K hK => ?_)
       refine goes_ Try.func64 kr rfl #[.agg #[.int .i64 ((rd_T85 l0_8 x5_3).f0), .string ((rd_T85 l0_8 x5_3).f1)]] (by rfl) rfl rfl Q0 ?_
       with_reducible refine (spec_l05Entry.calls ((rd_T85 l0_8 x5_3).f0) ((rd_T85 l0_8 x5_3).f1) true _ A35.out).mono ?_
       rintro e w39 ⟨rfl, hb⟩
       refine ⟨_, rfl, ?_⟩
       replace BK267 := am (bb_ BK267.out u8_2 hb)
       replace HB := am (below_step Q2 hb)
       (try clear hb)
       (try clear hb2)
       (try clear hk)
       (try clear hi)
       refine hK.out _ _ ⟨(blk_cell BK267.out 0).trans rfl, (blk_cell BK267.out 1).trans rfl, (blk_cell BK267.out 2).trans rfl, (blk_cell BK267.out 3).trans rfl, (blk_cell BK267.out 4).trans rfl, (blk_cell BK267.out 5).trans rfl, (blk_cell BK267.out 6).trans rfl, (blk_cell BK267.out 7).trans rfl, (blk_cell BK267.out 8).trans rfl, (cm HB.out hw276_0), (cm HB.out hw276_1), (cm HB.out hw278_0), (cm HB.out hw278_1)⟩ (fun hHeld => ?_)
       clear hK K
       refine norm_ (a' := ?_) ?_ ?_
       rotate_left
       · show Act.put _ (some 78) _ = _
         simp only [Act.put, la, lb, lc, i64_w, i32_w]
         rfl
       refine pV 6 79 (bt 7 18) ?_
       refine pV 7 80 (bt 8 18) ?_
       refine pV 8 81 (bt 9 18) ?_
       refine pV 10 83 #[true, true, true, true, true, true, true, true, true, false, true, false, false, false, false, false, false, false] ?_
       refine pV 14 87 #[true, true, true, true, true, true, true, true, true, false, true, false, false, false, true, false, false, false] ?_
       refine tV 9 82 #[true, true, true, true, true, true, true, true, true, true, true, false, false, false, true, false, false, false] ?_
       refine pV 11 84 #[true, true, true, true, true, true, true, true, true, true, true, true, false, false, true, false, false, false] ?_
       refine pV 12 85 #[true, true, true, true, true, true, true, true, true, true, true, true, true, false, true, false, false, false] ?_
       refine tV 13 86 (bt 15 18) ?_
       refine tV 15 88 (bt 16 18) ?_
       refine pV 16 89 (bt 17 18) ?_
       refine pV 17 90 (bt 18 18) ?_
       refine done_ (done_of HT_.out kr) ?_
       go_upto_if 90 with (fail)
       have H := H9.out
       clear H9
       by_cases c40 : ((rd_T85 l0_8 x5_3).f0) > a0_3
       · rw [if_pos c40] at H
         have c40b0 : decide (a0_3 < ((rd_T85 l0_8 x5_3).f0)) = true := decide_eq_true c40
         clear c40
         (first | rw [c40b0] | (simp only [i64_w, i32_w]; rw [c40b0]) | skip)
         obtain rfl := sj H
         go_wp2
         go_ret
         exact ⟨er, Q2⟩
       rw [if_neg c40] at H
       have c40b0 : decide (a0_3 < ((rd_T85 l0_8 x5_3).f0)) = false := decide_eq_false c40
       clear c40
       (first | rw [c40b0] | (simp only [i64_w, i32_w]; rw [c40b0]) | skip)
       have H' := am H
       clear H
       go_wp2
       go_roundg k3
       case measure => have := HJ2.out; have := HJ20.out; have := HK3.out; omega
       case rel => exact ⟨(wrap64 (x5_3 + 1)), Q3, H', ⟨(by have := HJ2.out; have := HJ20.out; have := HK3.out; omega)⟩, ⟨u8_2⟩, ⟨Q2⟩⟩
end Go.Proofs.Ytkcadcoohmofcaa.QFnExactSettled
