-- Printed by the session's own program wip/prx.py.
import Derived.Test.YtkcadcoohmofcaaSqFnExactSafeGroup
import Derived.Test.YtkcadcoohmofcaaQFnExactSafeGroupx0
import Derived.Test.YtkcadcoohmofcaaQFnExactSafeGroupx5
import Derived.Test.YtkcadcoohmofcaaQFnExactSafeGroupx6
import Derived.Test.YtkcadcoohmofcaaQFnExactSafeGroupx14
import Derived.Test.YtkcadcoohmofcaaQFnExactSafeGroupx22
namespace Go.Proofs.Ytkcadcoohmofcaa.QFnExactSafeGroup
open Go.RowKit Go.Proofs.YtkcadcoohmofcaaW.PrintWords Go.Proofs.YtkcadcoohmofcaaW.PrintLast Go.Proofs.YtkcadcoohmofcaaW.PrintMore Go.Proofs.Ytkcadcoohmofcaa.SqFnExactSafeGroup
attribute [local go_sem] max2_int min2_int max_two min_two max_three min_three max_four min_four Go.Proofs.Ytkcadcoohmofcaa.Set.isSome_setCell
set_option linter.unusedVariables false
set_option linter.unusedSimpArgs false

-- squeezed
theorem u23_2 {P : Prop} (h : P := by (with_reducible repeat (first | refine blk_drewN ?_ _ | refine blk_drew ?_ | refine blk_alloc ?_ _)); exact BK377.out) : P := h
theorem u23_4 {P : Prop} (h : P := by (with_reducible repeat (first | apply Kd.S_alloc | apply Kd.S_drewN | apply Kd.S_drew)); exact HO382.out) : P := h
theorem u23_5 {P : Prop} (h : P := by (with_reducible repeat (first | apply Kd.S_alloc | apply Kd.S_drewN | apply Kd.S_drew)); exact HO385.out) : P := h
theorem u23_6 {P : Prop} (h : P := by repeat (first | exact (Kd.C_below HR0_1.out HB.out) | (with_reducible refine Kd.C_alloc ?_ _) | (with_reducible refine Kd.C_drewN ?_ _) | (with_reducible refine Kd.C_drew ?_))) : P := h
theorem u23_8 {P : Prop} (h : P := by (with_reducible repeat (first | apply Kd.S_alloc | apply Kd.S_drewN | apply Kd.S_drew)); exact (Kd.S_mono (Kd.S_far (p := ⟨gb394, 2, none⟩) (Kd.S_far (p := ⟨gb394, 1, none⟩) (Kd.S_far (p := ⟨gb394, 0, none⟩) (Kd.S_types HO390.out BK394.out (by decide)) (fun _ hk => hk.2) (.int .i64 t387)) (fun _ hk => hk.2) (.slice Ao25 t388.length co25)) (fun _ hk => hk.2) (.slice Ao26 t391.length co26)) (fun _ h_ => h_.1))) : P := h
theorem u23_9 {P : Prop} (h : P := by (with_reducible repeat (first | apply Kd.S_alloc | apply Kd.S_drewN | apply Kd.S_drew)); exact (Kd.S_mono (Kd.S_far (p := ⟨gb394, 2, none⟩) (Kd.S_far (p := ⟨gb394, 1, none⟩) (Kd.S_far (p := ⟨gb394, 0, none⟩) (Kd.S_types HO393.out BK394.out (by decide)) (fun _ hk => hk.2) (.int .i64 t387)) (fun _ hk => hk.2) (.slice Ao25 t388.length co25)) (fun _ hk => hk.2) (.slice Ao26 t391.length co26)) (fun _ h_ => h_.1))) : P := h
theorem u23_10 {P : Prop} (h : P := by (with_reducible repeat (first | apply Kd.S_alloc | apply Kd.S_drewN | apply Kd.S_drew)); exact HO390.out) : P := h
theorem u23_11 {P : Prop} (h : P := by (with_reducible repeat (first | apply Kd.S_alloc | apply Kd.S_drewN | apply Kd.S_drew)); exact HO393.out) : P := h
theorem u23_13 {P : Prop} (h : P := by (with_reducible repeat (first | refine blk_drewN ?_ _ | refine blk_drew ?_ | refine blk_alloc ?_ _)); exact BK394.out) : P := h
/-! ### laws_FnExactSafeGroup: function 12 -/
def laws_FnExactSafeGroup.f (k : Nat) (a0_0 : Int) (l0_1 : List (S45)) (l0_2 : List (S24)) : Option (Bool) := (laws_szGroup.f k a0_0 l0_1 l0_2 1048576).bind fun t378 => (if t378 < 0 then (some true) else ((laws_toGroup.f k a0_0 l0_1 l0_2).bind fun bt379 => ((spec_SafeGroup.f k bt379.1 bt379.2.1 bt379.2.2).bind fun t386 => ((laws_toGroup.f k a0_0 l0_1 l0_2).bind fun bt387 => ((impl_SafeGroup.f k bt387.1 bt387.2.1 bt387.2.2).bind fun t395 => (if (t395 != t386) = true then (some false) else ((laws_toGroup.f k a0_0 l0_1 l0_2).bind fun bt396 => ((laws_eqGroup.f k bt387.1 bt387.2.1 bt387.2.2 bt396.1 bt396.2.1 bt396.2.2).bind fun t403 => (if t403 = true then (some true) else (some false))))))))))
theorem laws_FnExactSafeGroup.mono : ∀ a0 a1 a2 k, LeO (laws_FnExactSafeGroup.f k a0 a1 a2) (laws_FnExactSafeGroup.f (k + 1) a0 a1 a2) := by
 intro a0 a1 a2 k
 unfold laws_FnExactSafeGroup.f
 repeat' first
     | (with_reducible exact impl_SafeGroup.mono _ _ _ _)
     | (with_reducible exact laws_eqGroup.mono _ _ _ _ _ _ _)
     | (with_reducible exact laws_szGroup.mono _ _ _ _ _)
     | (with_reducible exact laws_toGroup.mono _ _ _ _)
     | (with_reducible exact spec_SafeGroup.mono _ _ _ _)
     | (with_reducible exact LeO.refl _)
     | (with_reducible exact LeO.none _)
     | (with_reducible refine LeO.ite ?_ ?_)
     | (with_reducible refine LeO.bind ?_ (fun _ => ?_))
     | exact impl_SafeGroup.mono _ _ _ _
     | exact laws_eqGroup.mono _ _ _ _ _ _ _
     | exact laws_szGroup.mono _ _ _ _ _
     | exact laws_toGroup.mono _ _ _ _
     | exact spec_SafeGroup.mono _ _ _ _
     | exact LeO.none _
     | refine LeO.ite ?_ ?_
     | refine LeO.bind ?_ (fun _ => ?_)
set_option maxHeartbeats 8000000 in
set_option maxRecDepth 100000 in
theorem laws_FnExactSafeGroup.calls (k : Nat) (a0_0 : Int) (A0_1 : Option Addr) (c0_1 : Nat) (l0_1 : List (S45)) (A0_2 : Option Addr) (c0_2 : Nat) (l0_2 : List (S24)) (r : Bool) (w : World) (hr0_1 : Kd.C k45 w A0_1 l0_1.length l0_1) (hc0_1 : l0_1.length ≤ c0_1) (hr0_2 : Kd.C k24 w A0_2 l0_2.length l0_2) (hc0_2 : l0_2.length ≤ c0_2) (h : laws_FnExactSafeGroup.f k a0_0 l0_1 l0_2 = some r) (hr_ : Aside0 (r = true)) :
   Calls Try.prog 12 #[.agg #[.int .i64 a0_0, .slice A0_1 l0_1.length c0_1, .slice A0_2 l0_2.length c0_2]] w fun e w' => e = .returned (.bool r) ∧ Below w.heap.size w w' := by
 have hu68 := Try.underlying68
 have hu53 := Try.underlying53
 have HR0_1 := am hr0_1
 have HC0_1 := am hc0_1
 clear hr0_1 hc0_1
 have HR0_2 := am hr0_2
 have HC0_2 := am hc0_2
 clear hr0_2 hc0_2
 have HB := am (Below.refl w.heap.size w)
 have H : ((laws_szGroup.f k a0_0 l0_1 l0_2 1048576).bind fun t378 => (if t378 < 0 then (some true) else ((laws_toGroup.f k a0_0 l0_1 l0_2).bind fun bt379 => ((spec_SafeGroup.f k bt379.1 bt379.2.1 bt379.2.2).bind fun t386 => ((laws_toGroup.f k a0_0 l0_1 l0_2).bind fun bt387 => ((impl_SafeGroup.f k bt387.1 bt387.2.1 bt387.2.2).bind fun t395 => (if (t395 != t386) = true then (some false) else ((laws_toGroup.f k a0_0 l0_1 l0_2).bind fun bt396 => ((laws_eqGroup.f k bt387.1 bt387.2.1 bt387.2.2 bt396.1 bt396.2.1 bt396.2.2).bind fun t403 => (if t403 = true then (some true) else (some false))))))))))) = some r := h
 clear h
 replace H := Option.bind_eq_some_iff.mp H
 obtain ⟨t378, A20, H⟩ := H
 have A2 := am A20
 clear A20
 have H9 := am H
 clear H
 go_enter Try.func12, Try.ntmps12
 go_upto_if 11 with (first | ((with_reducible refine gate_dst (N := 1) rfl ?_); refine box_event ?hg (N := 1) ?hd (cs := #[.int .i64 a0_0, .slice A0_1 l0_1.length c0_1, .slice A0_2 l0_2.length c0_2]) (t := 68) ?hr ?_; (case hd => rfl); (case hg => rfl); (case hr => first | (go_simp; done) | (go_simp; rfl)); intro gb377 hg w3 hbox hb; have BK377 := am (hbox); have GW377 := am ((by rw [hg]; exact (below_size q2) : w.heap.size ≤ gb377)); have GE377 := am ((by rw [hg]; exact (below_size q2) : w.heap.size ≤ gb377)); replace HB := am (below_step q2 hb); clear hb hbox hg; obtain ⟨hcz4_0, hcz4_1, hcz4_2, hfz4_0, hfz4_1, hfz4_2⟩ := bc3f w3 BK377.out) | ((with_reducible refine gate_callee (f := 43) rfl ?_); refine goesL_ (some 9) rfl rfl Try.func43 kr rfl #[.agg #[.int .i64 a0_0, .slice A0_1 l0_1.length c0_1, .slice A0_2 l0_2.length c0_2], .int .i64 1048576] rfl q0 ?_; (with_reducible refine (laws_szGroup.calls k a0_0 _ _ l0_1 _ _ l0_2 1048576 t378 _ ?side1 ?side2 ?side3 ?side4 A2.out).mono ?_); (case side1 => exact u23_6); (case side2 => exact HC0_1.out); (case side3 => exact q5); (case side4 => exact HC0_2.out); rintro e w5 ⟨rfl, hb⟩; refine ⟨_, rfl, ?_⟩; replace BK377 := am (blk_below (g := gb377) (o := .cells #[.int .i64 a0_0, .slice A0_1 l0_1.length c0_1, .slice A0_2 l0_2.length c0_2] 68 (0, 0)) u23_2 hb); replace HB := am (below_step q2 hb); (try clear hb); (try clear hb2); (try clear hk); (try clear hi)))
 have H := H9.out
 clear H9
 by_cases c6 : t378 < 0
 · rw [if_pos c6] at H
   have c6b0 : decide (t378 < 0) = true := decide_eq_true c6
   clear c6
   (first | rw [c6b0] | (simp only [i64_w, i32_w]; rw [c6b0]) | skip)
   obtain rfl := sj H
   go_wp2
   go_ret
   exact ⟨er, q2⟩
 rw [if_neg c6] at H
 have c6b0 : decide (t378 < 0) = false := decide_eq_false c6
 clear c6
 (first | rw [c6b0] | (simp only [i64_w, i32_w]; rw [c6b0]) | skip)
 replace H := Option.bind_eq_some_iff.mp H
 obtain ⟨⟨t379, t380, t383⟩, A70, H⟩ := H
 (try dsimp only at H)
 have A7 := am A70
 clear A70
 replace H := Option.bind_eq_some_iff.mp H
 obtain ⟨t386, A80, H⟩ := H
 have A8 := am A80
 clear A80
 replace H := Option.bind_eq_some_iff.mp H
 obtain ⟨⟨t387, t388, t391⟩, A90, H⟩ := H
 (try dsimp only at H)
 have A9 := am A90
 clear A90
 replace H := Option.bind_eq_some_iff.mp H
 obtain ⟨t395, A100, H⟩ := H
 have A10 := am A100
 clear A100
 by_cases c11 : (t395 != t386) = true
 · rw [if_pos c11] at H
   have c11b0 : (t395 != t386) = true := c11
   (try (have c11b1 : decide (t395 = t386) = false := by simpa using c11))
   (try (have c11b2 : (t395 == t386) = false := by simpa using c11))
   (try (have c11b3 : ¬ (t395 = t386) := by simpa using c11))
   clear c11
   exact absurd ((Option.some.inj H).trans hr_.out) (by decide)
 rw [if_neg c11] at H
 have c11b0 : (t395 != t386) = false := by simpa using c11
 (try (have c11b1 : decide (t395 = t386) = true := by simpa using c11))
 (try (have c11b2 : (t395 == t386) = true := by simpa using c11))
 clear c11
 replace H := Option.bind_eq_some_iff.mp H
 obtain ⟨⟨t396, t397, t400⟩, A120, H⟩ := H
 (try dsimp only at H)
 have A12 := am A120
 clear A120
 replace H := Option.bind_eq_some_iff.mp H
 obtain ⟨t403, A130, H⟩ := H
 replace H : (if t403 = true then (some true) else (some false)) = some r := H
 have A13 := am A130
 clear A130
 by_cases c14 : t403 = true
 rotate_left
 · replace c14 := Bool.eq_false_iff.mpr c14
   subst c14
   rw [nf] at H
   exact absurd ((Option.some.inj H).trans hr_.out) (by decide)
 subst c14
 rw [if_pos rfl] at H
 obtain rfl := sj H
 obtain ⟨hcz15_0, hcz15_1, hcz15_2, hfz15_0, hfz15_1, hfz15_2⟩ := bc3f w5 BK377.out
 try go_wp2_with (first | ((with_reducible refine gate_callee (f := 45) rfl ?_); refine goesL_ (some 13) rfl rfl Try.func45 kr rfl #[.agg #[.int .i64 a0_0, .slice A0_1 l0_1.length c0_1, .slice A0_2 l0_2.length c0_2]] rfl q0 ?_; (with_reducible refine (laws_toGroup.calls k a0_0 _ _ l0_1 _ _ l0_2 t379 t380 t383 _ ?side1 ?side2 ?side3 ?side4 A7.out).mono ?_); (case side1 => exact u23_6); (case side2 => exact HC0_1.out); (case side3 => exact q5); (case side4 => exact HC0_2.out); rintro e w16 ⟨v381, v384, rfl, ho0, ho1, hb⟩; refine ⟨_, rfl, ?_⟩; have HO382 := am (Kd.S_lower ho0 (below_size q2)); have HO385 := am (Kd.S_lower ho1 (below_size q2)); replace BK377 := am (blk_below (g := gb377) (o := .cells #[.int .i64 a0_0, .slice A0_1 l0_1.length c0_1, .slice A0_2 l0_2.length c0_2] 68 (0, 0)) u23_2 hb); replace HB := am (below_step q2 hb); (try clear hb); (try clear hb2); (try clear hk); (try clear hi); (try clear ho0); (try clear ho1); obtain ⟨Ao17, co17, eo17⟩ := Kd.S_slice HO382.out; subst eo17; obtain ⟨Ao18, co18, eo18⟩ := Kd.S_slice HO385.out; subst eo18) | ((with_reducible refine gate_callee (f := 49) rfl ?_); refine goesL_ (some 14) rfl rfl Try.func49 kr rfl #[.agg #[.int .i64 t379, .slice Ao17 t380.length co17, .slice Ao18 t383.length co18]] rfl q0 ?_; (with_reducible refine (spec_SafeGroup.calls k t379 _ _ t380 _ _ t383 t386 _ ?side1 ?side2 ?side3 ?side4 A8.out).mono ?_); (case side1 => exact (by repeat (first | exact (Kd.S_reads' HO382.out).2.2 | (with_reducible refine Kd.C_alloc ?_ _) | (with_reducible refine Kd.C_drewN ?_ _) | (with_reducible refine Kd.C_drew ?_)))); (case side2 => exact (Kd.S_reads' HO382.out).2.1); (case side3 => exact (by repeat (first | exact (Kd.S_reads' HO385.out).2.2 | (with_reducible refine Kd.C_alloc ?_ _) | (with_reducible refine Kd.C_drewN ?_ _) | (with_reducible refine Kd.C_drew ?_)))); (case side4 => exact (Kd.S_reads' HO385.out).2.1); rintro e w19 ⟨rfl, hb⟩; refine ⟨_, rfl, ?_⟩; replace HO382 := am (Kd.S_below u23_4 hb); replace HO385 := am (Kd.S_below u23_5 hb); replace BK377 := am (blk_below (g := gb377) (o := .cells #[.int .i64 a0_0, .slice A0_1 l0_1.length c0_1, .slice A0_2 l0_2.length c0_2] 68 (0, 0)) u23_2 hb); replace HB := am (below_step q2 hb); (try clear hb); (try clear hb2); (try clear hk); (try clear hi); obtain ⟨hcz20_0, hcz20_1, hcz20_2, hfz20_0, hfz20_1, hfz20_2⟩ := bc3f w19 BK377.out) | ((with_reducible refine gate_callee (f := 45) rfl ?_); refine goesL_ (some 16) rfl rfl Try.func45 kr rfl #[.agg #[.int .i64 a0_0, .slice A0_1 l0_1.length c0_1, .slice A0_2 l0_2.length c0_2]] rfl q0 ?_; (with_reducible refine (laws_toGroup.calls k a0_0 _ _ l0_1 _ _ l0_2 t387 t388 t391 _ ?side1 ?side2 ?side3 ?side4 A9.out).mono ?_); (case side1 => exact u23_6); (case side2 => exact HC0_1.out); (case side3 => exact q5); (case side4 => exact HC0_2.out); rintro e w21 ⟨v389, v392, rfl, ho0, ho1, hb⟩; refine ⟨_, rfl, ?_⟩; have HO390 := am (Kd.S_lower (Kd.S_new' ho0 (Kd.S_lt u23_4)) (below_size q2)); replace HO382 := am (Kd.S_elder' u23_4 (Kd.S_base ho0) hb); have HO393 := am (Kd.S_lower (Kd.S_new' ho1 (Kd.S_lt u23_5)) (below_size q2)); replace HO385 := am (Kd.S_elder' u23_5 (Kd.S_base ho1) hb); replace BK377 := am (blk_below (g := gb377) (o := .cells #[.int .i64 a0_0, .slice A0_1 l0_1.length c0_1, .slice A0_2 l0_2.length c0_2] 68 (0, 0)) u23_2 hb); replace HB := am (below_step q2 hb); (try clear hb); (try clear hb2); (try clear hk); (try clear hi); (try clear ho0); (try clear ho1)) | ((with_reducible refine gate_dst (N := 5) rfl ?_); refine box_event ?hg (N := 5) ?hd (cs := #[.int .i64 0, .slice none 0 0, .slice none 0 0]) (t := 53) ?hr ?_; (case hd => rfl); (case hg => rfl); (case hr => first | (go_simp; done) | (go_simp; rfl)); intro gb394 hg w22 hbox hb; replace HO382 := am (Kd.S_below u23_4 hb); replace HO385 := am (Kd.S_below u23_5 hb); replace HO390 := am (Kd.S_below u23_10 hb); replace HO393 := am (Kd.S_below u23_11 hb); have BK394 := am (hbox); have GW394 := am ((by rw [hg]; exact (below_size q2) : w.heap.size ≤ gb394)); have GE394 := am ((by rw [hg]; exact (below_size q2) : w.heap.size ≤ gb394)); replace HB := am (below_step q2 hb); have NB377_394 := am ((by rw [hg]; exact Nat.ne_of_lt (blk_lt (g := gb377) (o := .cells #[.int .i64 a0_0, .slice A0_1 l0_1.length c0_1, .slice A0_2 l0_2.length c0_2] 68 (0, 0)) u23_2) : gb377 ≠ gb394)); have NB394_377 := am ((by rw [hg]; exact Nat.ne_of_gt (blk_lt (g := gb377) (o := .cells #[.int .i64 a0_0, .slice A0_1 l0_1.length c0_1, .slice A0_2 l0_2.length c0_2] 68 (0, 0)) u23_2) : gb394 ≠ gb377)); replace BK377 := am (blk_below (g := gb377) (o := .cells #[.int .i64 a0_0, .slice A0_1 l0_1.length c0_1, .slice A0_2 l0_2.length c0_2] 68 (0, 0)) u23_2 hb); clear hb hbox hg; have hnb23 := NB394_377.out; have hnc23 := NB377_394.out; obtain ⟨hcz24_0, hcz24_1, hcz24_2, hfz24_0, hfz24_1, hfz24_2⟩ := bc3f w22 BK394.out; obtain ⟨Ao25, co25, eo25⟩ := Kd.S_slice HO390.out; subst eo25; obtain ⟨Ao26, co26, eo26⟩ := Kd.S_slice HO393.out; subst eo26) | ((with_reducible refine gate_callee (f := 50) rfl ?_); refine goesL_ (some 18) rfl rfl Try.func50 kr rfl #[.agg #[.int .i64 t387, .slice Ao25 t388.length co25, .slice Ao26 t391.length co26]] rfl q0 ?_; (with_reducible refine (impl_SafeGroup.calls k t387 _ _ t388 _ _ t391 t395 _ ?side1 ?side2 ?side3 ?side4 A10.out).mono ?_); (case side1 => exact (by refine (Kd.S_reads' (e := 37) (base := w.heap.size) (ok := fun k_ => (True ∧ some k_ ≠ (.slice Ao17 t380.length co17 : Value).ownBlock)) (n := t388.length) (c := co25) ?_).2.2; exact u23_8)); (case side2 => exact (Kd.S_reads' HO390.out).2.1); (case side3 => exact (by refine (Kd.S_reads' (e := 29) (base := w.heap.size) (ok := fun k_ => (True ∧ some k_ ≠ (.slice Ao18 t383.length co18 : Value).ownBlock)) (n := t391.length) (c := co26) ?_).2.2; exact u23_9)); (case side4 => exact (Kd.S_reads' HO393.out).2.1); rintro e w27 ⟨rfl, hb⟩; refine ⟨_, rfl, ?_⟩; replace HO382 := am (Kd.S_below (by (with_reducible repeat (first | apply Kd.S_alloc | apply Kd.S_drewN | apply Kd.S_drew)); exact (Kd.S_mono (Kd.S_far (p := ⟨gb394, 2, none⟩) (Kd.S_far (p := ⟨gb394, 1, none⟩) (Kd.S_far (p := ⟨gb394, 0, none⟩) (Kd.S_types HO382.out BK394.out (by decide)) (fun _ hk => hk.2) (.int .i64 t387)) (fun _ hk => hk.2) (.slice Ao25 t388.length co25)) (fun _ hk => hk.2) (.slice Ao26 t391.length co26)) (fun _ h_ => h_.1))) hb); replace HO385 := am (Kd.S_below (by (with_reducible repeat (first | apply Kd.S_alloc | apply Kd.S_drewN | apply Kd.S_drew)); exact (Kd.S_mono (Kd.S_far (p := ⟨gb394, 2, none⟩) (Kd.S_far (p := ⟨gb394, 1, none⟩) (Kd.S_far (p := ⟨gb394, 0, none⟩) (Kd.S_types HO385.out BK394.out (by decide)) (fun _ hk => hk.2) (.int .i64 t387)) (fun _ hk => hk.2) (.slice Ao25 t388.length co25)) (fun _ hk => hk.2) (.slice Ao26 t391.length co26)) (fun _ h_ => h_.1))) hb); replace HO390 := am (Kd.S_below u23_8 hb); replace HO393 := am (Kd.S_below u23_9 hb); replace BK377 := am (blk_below (g := gb377) (o := .cells #[.int .i64 a0_0, .slice A0_1 l0_1.length c0_1, .slice A0_2 l0_2.length c0_2] 68 (0, 0)) (by (with_reducible repeat (first | refine blk_drewN ?_ _ | refine blk_drew ?_ | refine blk_alloc ?_ _)); refine blk_far ?_ NB377_394.out _; (with_reducible repeat (first | refine blk_drewN ?_ _ | refine blk_drew ?_ | refine blk_alloc ?_ _)); refine blk_far ?_ NB377_394.out _; (with_reducible repeat (first | refine blk_drewN ?_ _ | refine blk_drew ?_ | refine blk_alloc ?_ _)); refine blk_far ?_ NB377_394.out _; (with_reducible repeat (first | refine blk_drewN ?_ _ | refine blk_drew ?_ | refine blk_alloc ?_ _)); exact BK377.out) hb); replace BK394 := am (blk_below (g := gb394) (o := .cells #[.int .i64 t387, .slice Ao25 t388.length co25, .slice Ao26 t391.length co26] 53 (0, 0)) (by (with_reducible repeat (first | refine blk_drewN ?_ _ | refine blk_drew ?_ | refine blk_alloc ?_ _)); refine blk_put (cs := #[.int .i64 t387, .slice Ao25 t388.length co25, .slice none 0 0]) ?_ 2 _ rfl; (with_reducible repeat (first | refine blk_drewN ?_ _ | refine blk_drew ?_ | refine blk_alloc ?_ _)); refine blk_put (cs := #[.int .i64 t387, .slice none 0 0, .slice none 0 0]) ?_ 1 _ rfl; (with_reducible repeat (first | refine blk_drewN ?_ _ | refine blk_drew ?_ | refine blk_alloc ?_ _)); refine blk_put (cs := #[.int .i64 0, .slice none 0 0, .slice none 0 0]) ?_ 0 _ rfl; (with_reducible repeat (first | refine blk_drewN ?_ _ | refine blk_drew ?_ | refine blk_alloc ?_ _)); exact BK394.out) hb); replace HB := am (below_step q2 hb); (try clear hb); (try clear hb2); (try clear hk); (try clear hi)))
 replace HO382 := am (Kd.S_drew HO382.out)
 replace HO385 := am (Kd.S_drew HO385.out)
 replace HO390 := am (Kd.S_drew HO390.out)
 replace HO393 := am (Kd.S_drew HO393.out)
 replace BK377 := am (blk_drew BK377.out)
 replace BK394 := am (blk_drew BK394.out)
 replace HB := am (below_drew1 HB.out)
 refine start_ (n := 5) (S := fun w' => w'.cell? ⟨gb394, 0, none⟩ = some (.int .i64 t387) ∧ w'.cell? ⟨gb394, 1, none⟩ = some (.slice Ao25 t388.length co25) ∧ w'.cell? ⟨gb394, 2, none⟩ = some (.slice Ao26 t391.length co26) ∧ w'.cell? ⟨gb377, 0, none⟩ = some (.int .i64 a0_0) ∧ w'.cell? ⟨gb377, 1, none⟩ = some (.slice A0_1 l0_1.length c0_1) ∧ w'.cell? ⟨gb377, 2, none⟩ = some (.slice A0_2 l0_2.length c0_2)) (ds := []) #[false, false, false, false, false] kr rfl rfl ⟨(blk_cell BK394.out 0).trans rfl, (blk_cell BK394.out 1).trans rfl, (blk_cell BK394.out 2).trans rfl, (blk_cell BK377.out 0).trans rfl, (blk_cell BK377.out 1).trans rfl, (blk_cell BK377.out 2).trans rfl⟩ (fun hHeld => ?_)
 generalize w27.drew = w28 at HO382 HO385 HO390 HO393 BK377 BK394 HB hHeld ⊢
 refine take_ (i := 0) (N := some 22) (v := ?_) (a' := ?_) #[true, false, false, false, false] rfl rfl kr (fun _ _ _ h => h) (Or.inl ⟨by rfl, ?_⟩) hHeld ?_ ?_
 rotate_left
 · rintro w' ⟨s0, s1, s2, s3, s4, s5⟩
   go_simp
   with_reducible rfl
 rotate_left
 · simp only [Act.put, la, lb, lc, i64_w, i32_w]
   rfl
 refine take_ (i := 1) (N := some 23) (v := ?_) (a' := ?_) #[true, true, false, false, false] rfl rfl kr (fun _ _ _ h => h) (Or.inl ⟨by rfl, ?_⟩) hHeld ?_ ?_
 rotate_left
 · rintro w' ⟨s0, s1, s2, s3, s4, s5⟩
   go_simp
   with_reducible rfl
 rotate_left
 · simp only [Act.put, la, lb, lc, i64_w, i32_w]
   rfl
 refine one_ (i := 2) (N := some 24) #[true, true, true, false, false] rfl rfl kr (by decide) (fun K hK => ?_)
 refine goes_ Try.func45 kr rfl #[.agg #[.int .i64 a0_0, .slice A0_1 l0_1.length c0_1, .slice A0_2 l0_2.length c0_2]] (by rfl) rfl rfl q0 ?_
 with_reducible refine (laws_toGroup.calls k a0_0 _ _ l0_1 _ _ l0_2 t396 t397 t400 _ ?side1 ?side2 ?side3 ?side4 A12.out).mono ?_
 (case side1 => exact u23_6)
 (case side2 => exact HC0_1.out)
 (case side3 => exact q5)
 (case side4 => exact HC0_2.out)
 rintro e w29 ⟨v398, v401, rfl, ho0, ho1, hb⟩
 refine ⟨_, rfl, ?_⟩
 have HO399 := am (Kd.S_lower (Kd.S_new' (Kd.S_new' ho0 (Kd.S_lt u23_4)) (Kd.S_lt u23_10)) (below_size q2))
 replace HO382 := am (Kd.S_elder' u23_4 (Kd.S_base ho0) hb)
 replace HO390 := am (Kd.S_elder' u23_10 (Kd.S_base ho0) hb)
 have HO402 := am (Kd.S_lower (Kd.S_new' (Kd.S_new' ho1 (Kd.S_lt u23_5)) (Kd.S_lt u23_11)) (below_size q2))
 replace HO385 := am (Kd.S_elder' u23_5 (Kd.S_base ho1) hb)
 replace HO393 := am (Kd.S_elder' u23_11 (Kd.S_base ho1) hb)
 replace BK377 := am (blk_below (g := gb377) (o := .cells #[.int .i64 a0_0, .slice A0_1 l0_1.length c0_1, .slice A0_2 l0_2.length c0_2] 68 (0, 0)) u23_2 hb)
 replace BK394 := am (blk_below (g := gb394) (o := .cells #[.int .i64 t387, .slice Ao25 t388.length co25, .slice Ao26 t391.length co26] 53 (0, 0)) u23_13 hb)
 replace HB := am (below_step q2 hb)
 (try clear hb)
 (try clear hb2)
 (try clear hk)
 (try clear hi)
 (try clear ho0)
 (try clear ho1)
 obtain ⟨Ao30, co30, eo30⟩ := Kd.S_slice HO399.out
 (first | subst eo30 | (injection eo30 with f1_ f2_ f3_; have f4_ := f1_.symm; have f5_ := f3_.symm; clear f1_ f2_ f3_; subst f4_; subst f5_))
 obtain ⟨Ao31, co31, eo31⟩ := Kd.S_slice HO402.out
 (first | subst eo31 | (injection eo31 with f1_ f2_ f3_; have f4_ := f1_.symm; have f5_ := f3_.symm; clear f1_ f2_ f3_; subst f4_; subst f5_))
 refine hK.out _ _ ⟨(blk_cell BK394.out 0).trans rfl, (blk_cell BK394.out 1).trans rfl, (blk_cell BK394.out 2).trans rfl, (blk_cell BK377.out 0).trans rfl, (blk_cell BK377.out 1).trans rfl, (blk_cell BK377.out 2).trans rfl⟩ (fun hHeld => ?_)
 clear hK K
 refine norm_ (a' := ?_) ?_ ?_
 rotate_left
 · show Act.put _ (some 24) _ = _
   simp only [Act.put, la, lb, lc, i64_w, i32_w]
   rfl
 refine one_ (i := 3) (N := some 25) #[true, true, true, true, false] rfl rfl kr (by decide) (fun K hK => ?_)
 refine goes_ Try.func31 kr rfl #[.agg #[.int .i64 t387, .slice Ao25 t388.length co25, .slice Ao26 t391.length co26], .agg #[.int .i64 t396, .slice Ao30 t397.length co30, .slice Ao31 t400.length co31]] (by rfl) rfl rfl q0 ?_
 with_reducible refine (laws_eqGroup.calls k t387 _ _ t388 _ _ t391 t396 _ _ t397 _ _ t400 true _ ?side1 ?side2 ?side3 ?side4 ?side5 ?side6 ?side7 ?side8 A13.out).mono ?_
 (case side1 => exact (by repeat (first | exact (Kd.S_reads' HO390.out).2.2 | (with_reducible refine Kd.C_alloc ?_ _) | (with_reducible refine Kd.C_drewN ?_ _) | (with_reducible refine Kd.C_drew ?_))))
 (case side2 => exact (Kd.S_reads' HO390.out).2.1)
 (case side3 => exact (by repeat (first | exact (Kd.S_reads' HO393.out).2.2 | (with_reducible refine Kd.C_alloc ?_ _) | (with_reducible refine Kd.C_drewN ?_ _) | (with_reducible refine Kd.C_drew ?_))))
 (case side4 => exact (Kd.S_reads' HO393.out).2.1)
 (case side5 => exact (by repeat (first | exact (Kd.S_reads' HO399.out).2.2 | (with_reducible refine Kd.C_alloc ?_ _) | (with_reducible refine Kd.C_drewN ?_ _) | (with_reducible refine Kd.C_drew ?_))))
 (case side6 => exact (Kd.S_reads' HO399.out).2.1)
 (case side7 => exact (by repeat (first | exact (Kd.S_reads' HO402.out).2.2 | (with_reducible refine Kd.C_alloc ?_ _) | (with_reducible refine Kd.C_drewN ?_ _) | (with_reducible refine Kd.C_drew ?_))))
 (case side8 => exact (Kd.S_reads' HO402.out).2.1)
 rintro e w32 ⟨rfl, hb⟩
 refine ⟨_, rfl, ?_⟩
 replace HO382 := am (Kd.S_below u23_4 hb)
 replace HO385 := am (Kd.S_below u23_5 hb)
 replace HO390 := am (Kd.S_below u23_10 hb)
 replace HO393 := am (Kd.S_below u23_11 hb)
 replace HO399 := am (Kd.S_below (by (with_reducible repeat (first | apply Kd.S_alloc | apply Kd.S_drewN | apply Kd.S_drew)); exact HO399.out) hb)
 replace HO402 := am (Kd.S_below (by (with_reducible repeat (first | apply Kd.S_alloc | apply Kd.S_drewN | apply Kd.S_drew)); exact HO402.out) hb)
 replace BK377 := am (blk_below (g := gb377) (o := .cells #[.int .i64 a0_0, .slice A0_1 l0_1.length c0_1, .slice A0_2 l0_2.length c0_2] 68 (0, 0)) u23_2 hb)
 replace BK394 := am (blk_below (g := gb394) (o := .cells #[.int .i64 t387, .slice Ao25 t388.length co25, .slice Ao26 t391.length co26] 53 (0, 0)) u23_13 hb)
 replace HB := am (below_step q2 hb)
 (try clear hb)
 (try clear hb2)
 (try clear hk)
 (try clear hi)
 refine hK.out _ _ ⟨(blk_cell BK394.out 0).trans rfl, (blk_cell BK394.out 1).trans rfl, (blk_cell BK394.out 2).trans rfl, (blk_cell BK377.out 0).trans rfl, (blk_cell BK377.out 1).trans rfl, (blk_cell BK377.out 2).trans rfl⟩ (fun hHeld => ?_)
 clear hK K
 refine norm_ (a' := ?_) ?_ ?_
 rotate_left
 · show Act.put _ (some 25) _ = _
   simp only [Act.put, la, lb, lc, i64_w, i32_w]
   rfl
 refine pure_ (i := 4) (N := some 26) (v := ?_) (a' := ?_) #[true, true, true, true, true] rfl rfl kr (fun _ _ _ h => h) (Or.inl ⟨by rfl, ?_⟩) ?_ ?_
 rotate_left; (intro w'; go_simp; with_reducible rfl); rotate_left; (simp only [Act.put, la, lb, lc, i64_w, i32_w]; rfl)
 refine done_ kr ?_
 try go_wp2
 go_ret
 exact ⟨er, q2⟩

end Go.Proofs.Ytkcadcoohmofcaa.QFnExactSafeGroup
