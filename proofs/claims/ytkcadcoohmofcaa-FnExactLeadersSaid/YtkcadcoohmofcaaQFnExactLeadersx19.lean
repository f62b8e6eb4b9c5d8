-- Printed by the session's own program wip/prx.py.
import Derived.Test.YtkcadcoohmofcaaSqFnExactLeaders
import Derived.Test.YtkcadcoohmofcaaQFnExactLeadersx0
import Derived.Test.YtkcadcoohmofcaaQFnExactLeadersx2
import Derived.Test.YtkcadcoohmofcaaQFnExactLeadersx4
import Derived.Test.YtkcadcoohmofcaaQFnExactLeadersx5
import Derived.Test.YtkcadcoohmofcaaQFnExactLeadersx6
import Derived.Test.YtkcadcoohmofcaaQFnExactLeadersx7
import Derived.Test.YtkcadcoohmofcaaQFnExactLeadersx13
import Derived.Test.YtkcadcoohmofcaaQFnExactLeadersx18
namespace Go.Proofs.Ytkcadcoohmofcaa.QFnExactLeaders
open Go.RowKit Go.Proofs.YtkcadcoohmofcaaW.PrintWords Go.Proofs.YtkcadcoohmofcaaW.PrintLast Go.Proofs.YtkcadcoohmofcaaW.PrintMore Go.Proofs.Ytkcadcoohmofcaa.SqFnExactLeaders
attribute [local go_sem] max2_int min2_int max_two min_two max_three min_three max_four min_four Go.Proofs.Ytkcadcoohmofcaa.Set.isSome_setCell
set_option linter.unusedVariables false
set_option linter.unusedSimpArgs false

-- squeezed
theorem u19_3 {P : Prop} (h : P := by (with_reducible repeat (first | refine blk_drewN ?_ _ | refine blk_drew ?_ | refine blk_alloc ?_ _)); exact BK372.out) : P := h
theorem u19_4 {P : Prop} (h : P := by (with_reducible repeat (first | apply Kd.R_alloc | apply Kd.R_drewN | apply Kd.R_drew)); exact HO383.out) : P := h
theorem u19_5 {P : Prop} (h : P := by (with_reducible repeat (first | apply Kd.R_alloc | apply Kd.R_drewN | apply Kd.R_drew)); exact HO394.out) : P := h
theorem u19_6 {P : Prop} (h : P := by (with_reducible repeat (first | refine blk_drewN ?_ _ | refine blk_drew ?_ | refine blk_alloc ?_ _)); exact BK391.out) : P := h
theorem u19_9 {P : Prop} (h : P := by repeat (first | exact (Kd.R_reads' HO394.out).2.2 | (with_reducible refine Kd.C_alloc ?_ _) | (with_reducible refine Kd.C_drewN ?_ _) | (with_reducible refine Kd.C_drew ?_))) : P := h
theorem u19_10 {P : Prop} (h : P := by (with_reducible repeat (first | apply Kd.S_alloc | apply Kd.S_drewN | apply Kd.S_drew)); exact (Kd.S_mono (Kd.S_far (p := ⟨gb391, 2, none⟩) (Kd.S_far (p := ⟨gb391, 1, none⟩) (Kd.S_far (p := ⟨gb391, 0, none⟩) (Kd.S_types HO387.out BK391.out (by decide)) (fun _ hk => hk.2) (.int .i64 t384)) (fun _ hk => hk.2) (.slice Ao41 t385.length co41)) (fun _ hk => hk.2) (.slice Ao42 t388.length co42)) (fun _ h_ => h_.1))) : P := h
theorem u19_11 {P : Prop} (h : P := by (with_reducible repeat (first | apply Kd.S_alloc | apply Kd.S_drewN | apply Kd.S_drew)); exact (Kd.S_mono (Kd.S_far (p := ⟨gb391, 2, none⟩) (Kd.S_far (p := ⟨gb391, 1, none⟩) (Kd.S_far (p := ⟨gb391, 0, none⟩) (Kd.S_types HO390.out BK391.out (by decide)) (fun _ hk => hk.2) (.int .i64 t384)) (fun _ hk => hk.2) (.slice Ao41 t385.length co41)) (fun _ hk => hk.2) (.slice Ao42 t388.length co42)) (fun _ h_ => h_.1))) : P := h
theorem u19_12 {P : Prop} (h : P := by (with_reducible repeat (first | apply Kd.R_alloc | apply Kd.R_drewN | apply Kd.R_drew)); exact (Kd.R_mono (Kd.R_far (p := ⟨gb391, 2, none⟩) (Kd.R_far (p := ⟨gb391, 1, none⟩) (Kd.R_far (p := ⟨gb391, 0, none⟩) (Kd.R_types HO383.out BK391.out (by decide)) (fun _ hk => hk.2) (.int .i64 t384)) (fun _ hk => hk.2) (.slice Ao41 t385.length co41)) (fun _ hk => hk.2) (.slice Ao42 t388.length co42)) (fun _ h_ => h_.1))) : P := h
theorem u19_13 {P : Prop} (h : P := by repeat (first | exact (Kd.R_reads' HO383.out).2.2 | (with_reducible refine Kd.C_alloc ?_ _) | (with_reducible refine Kd.C_drewN ?_ _) | (with_reducible refine Kd.C_drew ?_))) : P := h
theorem u19_14 {P : Prop} (h : P := by (with_reducible repeat (first | apply Kd.S_alloc | apply Kd.S_drewN | apply Kd.S_drew)); exact HO387.out) : P := h
theorem u19_15 {P : Prop} (h : P := by (with_reducible repeat (first | apply Kd.S_alloc | apply Kd.S_drewN | apply Kd.S_drew)); exact HO390.out) : P := h
theorem u19_17 {P : Prop} (h : P := by (try simp only [List.map_toArray, List.map_cons, List.map_nil]); first | done | (rw [show t409.length = t392.length from (Kd.R_reads' HO394.out).1.symm] <;> rfl) | rfl | (simp only [List.length_drop, List.length_take]; rfl)) : P := h
theorem u19_18 {P : Prop} (h : P := by rw [show t409.length = t392.length from (Kd.R_reads' HO394.out).1.symm]; exact (Kd.R_reads' HO394.out).2.1) : P := h
theorem untyped_ {w : World} {k t : Nat} {L : List Nat} (h : ∃ q_, q_ ∈ L ∧ ∃ cells_, w.heap[k]? = some (.cells cells_ q_ (0, 0))) (h2 : ∃ cells_, w.heap[k]? = some (.cells cells_ t (0, 0))) (hn : ∀ q ∈ L, q ≠ t) : False := by
 obtain ⟨q, hq, c, e⟩ := h
 obtain ⟨c2, e2⟩ := h2
 rw [e] at e2
 injection e2 with e2
 injection e2 with _ e3
 exact hn q hq e3
theorem pair_ {α β : Type} {d : Kd α} {d' : Kd β} {e e' b0 : Nat} {W w1 : World} {okA okB : Nat → Prop} {u v z : Value} {xs : List α} {ys : List β} (hA : Kd.S d e w1 W.heap.size okA u xs) (hB : Kd.S d' e' w1 W.heap.size okB v ys) (hc : ∀ k, z.ownBlock = some k → k < W.heap.size) (hl : b0 ≤ W.heap.size) : ∃ lo : Nat, Kd.S d e w1 b0 (fun k => lo ≤ k ∧ okA k) u xs ∧ Kd.S d' e' w1 b0 (fun k => lo ≤ k ∧ okB k) v ys ∧ ∀ k, z.ownBlock = some k → k < lo :=
 ⟨W.heap.size, Kd.S_lower (Kd.S_mono (Kd.S_bound hA) (fun k h => ⟨h.2.1, h.1⟩)) hl, Kd.S_lower (Kd.S_mono (Kd.S_bound hB) (fun k h => ⟨h.2.1, h.1⟩)) hl, hc⟩
theorem old2_ {α β : Type} {d : Kd α} {d' : Kd β} {e e' b b' : Nat} {W w1 : World} {okA okB : Nat → Prop} {u v z : Value} {xs : List α} {ys : List β} (hb : Below W.heap.size W w1) (hA : Kd.S d e W b okA u xs) (hB : Kd.S d' e' W b' okB v ys) (hc : ∀ k, z.ownBlock = some k → W.heap.size ≤ k) : ∃ hi : Nat, Kd.S d e w1 b (fun k => okA k ∧ k < hi) u xs ∧ Kd.S d' e' w1 b' (fun k => okB k ∧ k < hi) v ys ∧ ∀ k, z.ownBlock = some k → hi ≤ k :=
 ⟨W.heap.size, Kd.S_old hA hb, Kd.S_old hB hb, hc⟩
/-! ### laws_FnExactLeaders: function 13 -/
def laws_FnExactLeaders.f (k : Nat) (a0_0 : Int) (l0_1 : List (S45)) (l0_2 : List (S24)) : Option (Bool) := (laws_szGroup.f k a0_0 l0_1 l0_2 1048576).bind fun t373 => (if t373 < 0 then (some true) else ((laws_toGroup.f k a0_0 l0_1 l0_2).bind fun bt374 => ((spec_Leaders.f k bt374.1 bt374.2.1 bt374.2.2).bind fun t381 => ((laws_toGroup.f k a0_0 l0_1 l0_2).bind fun bt384 => ((impl_Leaders.f k bt384.1 bt384.2.1 bt384.2.2).bind fun t392 => ((laws_eqIntS.f k t392 t381).bind fun t395 => (if t395 = true then ((laws_toGroup.f k a0_0 l0_1 l0_2).bind fun bt396 => ((laws_eqGroup.f k bt384.1 bt384.2.1 bt384.2.2 bt396.1 bt396.2.1 bt396.2.2).bind fun t403 => (if t403 = true then ((laws_markGroup.f k bt384.1 bt384.2.1 bt384.2.2 1).bind fun bt404 => (if bt404.1 < 0 then (some false) else ((laws_eqIntS.f k t392 t381).bind fun t407 => (if t407 = true then ((laws_markIntS.f k t392 1).bind fun bt408 => ((laws_heldIntS.f k bt408.2 1).bind fun t410 => (if t410 < 0 then (some false) else (if t410 = bt408.1 then ((laws_toGroup.f k a0_0 l0_1 l0_2).bind fun bt411 => ((impl_Leaders.f k bt411.1 bt411.2.1 bt411.2.2).bind fun t418 => ((laws_eqIntS.f k t418 t381).bind fun t421 => (if t421 = true then ((laws_heldIntS.f k bt408.2 1).bind fun t422 => (if t422 < 0 then (some false) else (if t422 = bt408.1 then (some true) else (some false)))) else (some false))))) else (some false))))) else (some false))))) else (some false)))) else (some false))))))))
theorem laws_FnExactLeaders.mono : ∀ a0 a1 a2 k, LeO (laws_FnExactLeaders.f k a0 a1 a2) (laws_FnExactLeaders.f (k + 1) a0 a1 a2) := by
 intro a0 a1 a2 k
 unfold laws_FnExactLeaders.f
 repeat' first
     | (with_reducible exact impl_Leaders.mono _ _ _ _)
     | (with_reducible exact laws_eqGroup.mono _ _ _ _ _ _ _)
     | (with_reducible exact laws_eqIntS.mono _ _ _)
     | (with_reducible exact laws_heldIntS.mono _ _ _)
     | (with_reducible exact laws_markGroup.mono _ _ _ _ _)
     | (with_reducible exact laws_markIntS.mono _ _ _)
     | (with_reducible exact laws_szGroup.mono _ _ _ _ _)
     | (with_reducible exact laws_toGroup.mono _ _ _ _)
     | (with_reducible exact spec_Leaders.mono _ _ _ _)
     | (with_reducible exact LeO.refl _)
     | (with_reducible exact LeO.none _)
     | (with_reducible refine LeO.ite ?_ ?_)
     | (with_reducible refine LeO.bind ?_ (fun _ => ?_))
     | exact impl_Leaders.mono _ _ _ _
     | exact laws_eqGroup.mono _ _ _ _ _ _ _
     | exact laws_eqIntS.mono _ _ _
     | exact laws_heldIntS.mono _ _ _
     | exact laws_markGroup.mono _ _ _ _ _
     | exact laws_markIntS.mono _ _ _
     | exact laws_szGroup.mono _ _ _ _ _
     | exact laws_toGroup.mono _ _ _ _
     | exact spec_Leaders.mono _ _ _ _
     | exact LeO.none _
     | refine LeO.ite ?_ ?_
     | refine LeO.bind ?_ (fun _ => ?_)
set_option maxHeartbeats 8000000 in
set_option maxRecDepth 100000 in
theorem laws_FnExactLeaders.calls (k : Nat) (a0_0 : Int) (A0_1 : Option Addr) (c0_1 : Nat) (l0_1 : List (S45)) (A0_2 : Option Addr) (c0_2 : Nat) (l0_2 : List (S24)) (r : Bool) (w : World) (hr0_1 : Kd.C k45 w A0_1 l0_1.length l0_1) (hc0_1 : l0_1.length ≤ c0_1) (hr0_2 : Kd.C k24 w A0_2 l0_2.length l0_2) (hc0_2 : l0_2.length ≤ c0_2) (h : laws_FnExactLeaders.f k a0_0 l0_1 l0_2 = some r) (hr_ : Aside0 (r = true)) :
   Calls Try.prog 13 #[.agg #[.int .i64 a0_0, .slice A0_1 l0_1.length c0_1, .slice A0_2 l0_2.length c0_2]] w fun e w' => e = .returned (.bool r) ∧ Below w.heap.size w w' := by
 have hu68 := Try.underlying68
 have hu53 := Try.underlying53
 have HR0_1 := am hr0_1
 have HC0_1 := am hc0_1
 clear hr0_1 hc0_1
 have HR0_2 := am hr0_2
 have HC0_2 := am hc0_2
 clear hr0_2 hc0_2
 have HB := am (Below.refl w.heap.size w)
 have H : ((laws_szGroup.f k a0_0 l0_1 l0_2 1048576).bind fun t373 => (if t373 < 0 then (some true) else ((laws_toGroup.f k a0_0 l0_1 l0_2).bind fun bt374 => ((spec_Leaders.f k bt374.1 bt374.2.1 bt374.2.2).bind fun t381 => ((laws_toGroup.f k a0_0 l0_1 l0_2).bind fun bt384 => ((impl_Leaders.f k bt384.1 bt384.2.1 bt384.2.2).bind fun t392 => ((laws_eqIntS.f k t392 t381).bind fun t395 => (if t395 = true then ((laws_toGroup.f k a0_0 l0_1 l0_2).bind fun bt396 => ((laws_eqGroup.f k bt384.1 bt384.2.1 bt384.2.2 bt396.1 bt396.2.1 bt396.2.2).bind fun t403 => (if t403 = true then ((laws_markGroup.f k bt384.1 bt384.2.1 bt384.2.2 1).bind fun bt404 => (if bt404.1 < 0 then (some false) else ((laws_eqIntS.f k t392 t381).bind fun t407 => (if t407 = true then ((laws_markIntS.f k t392 1).bind fun bt408 => ((laws_heldIntS.f k bt408.2 1).bind fun t410 => (if t410 < 0 then (some false) else (if t410 = bt408.1 then ((laws_toGroup.f k a0_0 l0_1 l0_2).bind fun bt411 => ((impl_Leaders.f k bt411.1 bt411.2.1 bt411.2.2).bind fun t418 => ((laws_eqIntS.f k t418 t381).bind fun t421 => (if t421 = true then ((laws_heldIntS.f k bt408.2 1).bind fun t422 => (if t422 < 0 then (some false) else (if t422 = bt408.1 then (some true) else (some false)))) else (some false))))) else (some false))))) else (some false))))) else (some false)))) else (some false))))))))) = some r := h
 clear h
 replace H := Option.bind_eq_some_iff.mp H
 obtain ⟨t373, A20, H⟩ := H
 have A2 := am A20
 clear A20
 have H9 := am H
 clear H
 go_enter Try.func13, Try.ntmps13
 go_upto_if 15 with (first | ((with_reducible refine gate_dst (N := 1) rfl ?_); refine box_event ?hg (N := 1) ?hd (cs := #[.int .i64 a0_0, .slice A0_1 l0_1.length c0_1, .slice A0_2 l0_2.length c0_2]) (t := 68) ?hr ?_; (case hd => rfl); (case hg => rfl); (case hr => first | (go_simp; done) | (go_simp; rfl)); intro gb372 hg w3 hbox hb; have BK372 := am (hbox); have GW372 := am ((by rw [hg]; exact (below_size Q0) : w.heap.size ≤ gb372)); have GE372 := am ((by rw [hg]; exact (below_size Q0) : w.heap.size ≤ gb372)); replace HB := am (below_step Q0 hb); clear hb hbox hg; obtain ⟨hcz4_0, hcz4_1, hcz4_2, hfz4_0, hfz4_1, hfz4_2⟩ := bc3f w3 BK372.out) | ((with_reducible refine gate_callee (f := 43) rfl ?_); refine goesL_ (some 13) rfl rfl Try.func43 kr rfl #[.agg #[.int .i64 a0_0, .slice A0_1 l0_1.length c0_1, .slice A0_2 l0_2.length c0_2], .int .i64 1048576] rfl Q2 ?_; (with_reducible refine (laws_szGroup.calls k a0_0 _ _ l0_1 _ _ l0_2 1048576 t373 _ ?side1 ?side2 ?side3 ?side4 A2.out).mono ?_); (case side1 => exact Q14); (case side2 => exact HC0_1.out); (case side3 => exact Q12); (case side4 => exact HC0_2.out); rintro e w5 ⟨rfl, hb⟩; refine ⟨_, rfl, ?_⟩; replace BK372 := am (blk_below (g := gb372) (o := .cells #[.int .i64 a0_0, .slice A0_1 l0_1.length c0_1, .slice A0_2 l0_2.length c0_2] 68 (0, 0)) u19_3 hb); replace HB := am (below_step Q0 hb); (try clear hb); (try clear hb2); (try clear hk); (try clear hi)))
 have H := H9.out
 clear H9
 by_cases c6 : t373 < 0
 · rw [if_pos c6] at H
   have c6b0 : decide (t373 < 0) = true := decide_eq_true c6
   clear c6
   (first | rw [c6b0] | (simp only [i64_w, i32_w]; rw [c6b0]) | skip)
   obtain rfl := sj H
   go_wp2
   go_ret
   exact ⟨er, Q0⟩
 rw [if_neg c6] at H
 have c6b0 : decide (t373 < 0) = false := decide_eq_false c6
 clear c6
 (first | rw [c6b0] | (simp only [i64_w, i32_w]; rw [c6b0]) | skip)
 replace H := Option.bind_eq_some_iff.mp H
 obtain ⟨⟨t374, t375, t378⟩, A70, H⟩ := H
 (try dsimp only at H)
 have A7 := am A70
 clear A70
 replace H := Option.bind_eq_some_iff.mp H
 obtain ⟨t381, A80, H⟩ := H
 have A8 := am A80
 clear A80
 replace H := Option.bind_eq_some_iff.mp H
 obtain ⟨⟨t384, t385, t388⟩, A90, H⟩ := H
 (try dsimp only at H)
 have A9 := am A90
 clear A90
 replace H := Option.bind_eq_some_iff.mp H
 obtain ⟨t392, A100, H⟩ := H
 have A10 := am A100
 clear A100
 replace H := Option.bind_eq_some_iff.mp H
 obtain ⟨t395, A110, H⟩ := H
 have A11 := am A110
 clear A110
 by_cases c12 : t395 = true
 rotate_left
 · replace c12 := Bool.eq_false_iff.mpr c12
   subst c12
   rw [nf] at H
   exact absurd ((Option.some.inj H).trans hr_.out) (by decide)
 subst c12
 rw [if_pos rfl] at H
 replace H := Option.bind_eq_some_iff.mp H
 obtain ⟨⟨t396, t397, t400⟩, A130, H⟩ := H
 (try dsimp only at H)
 have A13 := am A130
 clear A130
 replace H := Option.bind_eq_some_iff.mp H
 obtain ⟨t403, A140, H⟩ := H
 have A14 := am A140
 clear A140
 by_cases c15 : t403 = true
 rotate_left
 · replace c15 := Bool.eq_false_iff.mpr c15
   subst c15
   rw [nf] at H
   exact absurd ((Option.some.inj H).trans hr_.out) (by decide)
 subst c15
 rw [if_pos rfl] at H
 replace H := Option.bind_eq_some_iff.mp H
 obtain ⟨⟨t404, t405, t406⟩, A160, H⟩ := H
 (try dsimp only at H)
 have A16 := am A160
 clear A160
 by_cases c17 : t404 < 0
 · rw [if_pos c17] at H
   have c17b0 : decide (t404 < 0) = true := decide_eq_true c17
   clear c17
   exact absurd ((Option.some.inj H).trans hr_.out) (by decide)
 rw [if_neg c17] at H
 have c17b0 : decide (t404 < 0) = false := decide_eq_false c17
 clear c17
 replace H := Option.bind_eq_some_iff.mp H
 obtain ⟨t407, A180, H⟩ := H
 have A18 := am A180
 clear A180
 by_cases c19 : t407 = true
 rotate_left
 · replace c19 := Bool.eq_false_iff.mpr c19
   subst c19
   rw [nf] at H
   exact absurd ((Option.some.inj H).trans hr_.out) (by decide)
 subst c19
 rw [if_pos rfl] at H
 replace H := Option.bind_eq_some_iff.mp H
 obtain ⟨⟨t408, t409⟩, A200, H⟩ := H
 (try dsimp only at H)
 have A20 := am A200
 clear A200
 replace H := Option.bind_eq_some_iff.mp H
 obtain ⟨t410, A210, H⟩ := H
 have A21 := am A210
 clear A210
 by_cases c22 : t410 < 0
 · rw [if_pos c22] at H
   have c22b0 : decide (t410 < 0) = true := decide_eq_true c22
   clear c22
   exact absurd ((Option.some.inj H).trans hr_.out) (by decide)
 rw [if_neg c22] at H
 have c22b0 : decide (t410 < 0) = false := decide_eq_false c22
 clear c22
 by_cases c23 : t410 = t408
 rotate_left
 · rw [if_neg c23] at H
   have c23b0 : (t410 == t408) = false := beq_eq_false_iff_ne.mpr c23
   have c23b1 : (t410 != t408) = true := bne_iff_ne.mpr c23
   exact absurd ((Option.some.inj H).trans hr_.out) (by decide)
 rw [if_pos c23] at H
 have c23b0 : (t410 == t408) = true := beq_iff_eq.mpr c23
 have c23b1 : (t410 != t408) = false := bne_eq_false_iff_eq.mpr c23
 clear c23
 replace H := Option.bind_eq_some_iff.mp H
 obtain ⟨⟨t411, t412, t415⟩, A240, H⟩ := H
 (try dsimp only at H)
 have A24 := am A240
 clear A240
 replace H := Option.bind_eq_some_iff.mp H
 obtain ⟨t418, A250, H⟩ := H
 have A25 := am A250
 clear A250
 replace H := Option.bind_eq_some_iff.mp H
 obtain ⟨t421, A260, H⟩ := H
 have A26 := am A260
 clear A260
 by_cases c27 : t421 = true
 rotate_left
 · replace c27 := Bool.eq_false_iff.mpr c27
   subst c27
   rw [nf] at H
   exact absurd ((Option.some.inj H).trans hr_.out) (by decide)
 subst c27
 rw [if_pos rfl] at H
 replace H := Option.bind_eq_some_iff.mp H
 obtain ⟨t422, A280, H⟩ := H
 replace H : (if t422 < 0 then (some false) else (if t422 = t408 then (some true) else (some false))) = some r := H
 have A28 := am A280
 clear A280
 by_cases c29 : t422 < 0
 · rw [if_pos c29] at H
   have c29b0 : decide (t422 < 0) = true := decide_eq_true c29
   clear c29
   exact absurd ((Option.some.inj H).trans hr_.out) (by decide)
 rw [if_neg c29] at H
 have c29b0 : decide (t422 < 0) = false := decide_eq_false c29
 clear c29
 by_cases c30 : t422 = t408
 rotate_left
 · rw [if_neg c30] at H
   have c30b0 : (t422 == t408) = false := beq_eq_false_iff_ne.mpr c30
   have c30b1 : (t422 != t408) = true := bne_iff_ne.mpr c30
   exact absurd ((Option.some.inj H).trans hr_.out) (by decide)
 rw [if_pos c30] at H
 have c30b0 : (t422 == t408) = true := beq_iff_eq.mpr c30
 have c30b1 : (t422 != t408) = false := bne_eq_false_iff_eq.mpr c30
 clear c30
 obtain rfl := sj H
 obtain ⟨hcz31_0, hcz31_1, hcz31_2, hfz31_0, hfz31_1, hfz31_2⟩ := bc3f w5 BK372.out
 try go_wp2_with (first | ((with_reducible refine gate_callee (f := 45) rfl ?_); refine goesL_ (some 17) rfl rfl Try.func45 kr rfl #[.agg #[.int .i64 a0_0, .slice A0_1 l0_1.length c0_1, .slice A0_2 l0_2.length c0_2]] rfl Q2 ?_; (with_reducible refine (laws_toGroup.calls k a0_0 _ _ l0_1 _ _ l0_2 t374 t375 t378 _ ?side1 ?side2 ?side3 ?side4 A7.out).mono ?_); (case side1 => exact Q14); (case side2 => exact HC0_1.out); (case side3 => exact Q12); (case side4 => exact HC0_2.out); rintro e w32 ⟨v376, v379, rfl, ho0, ho1, hb⟩; refine ⟨_, rfl, ?_⟩; have HO377 := am (Kd.S_lower ho0 (below_size Q0)); have HO380 := am (Kd.S_lower ho1 (below_size Q0)); replace BK372 := am (blk_below (g := gb372) (o := .cells #[.int .i64 a0_0, .slice A0_1 l0_1.length c0_1, .slice A0_2 l0_2.length c0_2] 68 (0, 0)) u19_3 hb); replace HB := am (below_step Q0 hb); (try clear hb); (try clear hb2); (try clear hk); (try clear hi); (try clear ho0); (try clear ho1); obtain ⟨Ao33, co33, eo33⟩ := Kd.S_slice HO377.out; subst eo33; obtain ⟨Ao34, co34, eo34⟩ := Kd.S_slice HO380.out; subst eo34) | ((with_reducible refine gate_callee (f := 51) rfl ?_); refine goesL_ (some 18) rfl rfl Try.func51 kr rfl #[.agg #[.int .i64 t374, .slice Ao33 t375.length co33, .slice Ao34 t378.length co34]] rfl Q2 ?_; (with_reducible refine (spec_Leaders.calls k t374 _ _ t375 _ _ t378 t381 _ ?side1 ?side2 ?side3 ?side4 A8.out).mono ?_); (case side1 => exact (by repeat (first | exact (Kd.S_reads' HO377.out).2.2 | (with_reducible refine Kd.C_alloc ?_ _) | (with_reducible refine Kd.C_drewN ?_ _) | (with_reducible refine Kd.C_drew ?_)))); (case side2 => exact (Kd.S_reads' HO377.out).2.1); (case side3 => exact (by repeat (first | exact (Kd.S_reads' HO380.out).2.2 | (with_reducible refine Kd.C_alloc ?_ _) | (with_reducible refine Kd.C_drewN ?_ _) | (with_reducible refine Kd.C_drew ?_)))); (case side4 => exact (Kd.S_reads' HO380.out).2.1); rintro e w35 ⟨v382, rfl, ho0, hb⟩; refine ⟨_, rfl, ?_⟩; replace HO377 := am (Kd.S_elder' (by (with_reducible repeat (first | apply Kd.S_alloc | apply Kd.S_drewN | apply Kd.S_drew)); exact HO377.out) (Kd.R_base ho0) hb); replace HO380 := am (Kd.S_below (by (with_reducible repeat (first | apply Kd.S_alloc | apply Kd.S_drewN | apply Kd.S_drew)); exact HO380.out) hb); have HO383 := am (Kd.R_lower ho0 (below_size Q0)); replace BK372 := am (blk_below (g := gb372) (o := .cells #[.int .i64 a0_0, .slice A0_1 l0_1.length c0_1, .slice A0_2 l0_2.length c0_2] 68 (0, 0)) u19_3 hb); replace HB := am (below_step Q0 hb); (try clear hb); (try clear hb2); (try clear hk); (try clear hi); (try clear ho0); obtain ⟨hcz36_0, hcz36_1, hcz36_2, hfz36_0, hfz36_1, hfz36_2⟩ := bc3f w35 BK372.out; clear HO377 HO380) | ((with_reducible refine gate_callee (f := 45) rfl ?_); refine goesL_ (some 20) rfl rfl Try.func45 kr rfl #[.agg #[.int .i64 a0_0, .slice A0_1 l0_1.length c0_1, .slice A0_2 l0_2.length c0_2]] rfl Q2 ?_; (with_reducible refine (laws_toGroup.callsQ k a0_0 _ _ l0_1 _ _ l0_2 t384 t385 t388 _ ?side1 ?side2 ?side3 ?side4 A9.out).mono ?_); (case side1 => exact Q14); (case side2 => exact HC0_1.out); (case side3 => exact Q12); (case side4 => exact HC0_2.out); rintro e w37 ⟨v386, v389, rfl, ho0, ho1, hb, hq_⟩; refine ⟨_, rfl, ?_⟩; have n0_ := am (Kd.R_below u19_4 hb); have n1_ := am (Kd.S_lower (Kd.S_new' ho0 (Kd.R_lt u19_4)) (below_size Q0)); have n2_ := am (Kd.S_lower ho1 (below_size Q0)); have n3_ := am (blk_below (g := gb372) (o := .cells #[.int .i64 a0_0, .slice A0_1 l0_1.length c0_1, .slice A0_2 l0_2.length c0_2] 68 (0, 0)) u19_3 hb); have n4_ := am (below_step Q0 hb); obtain ⟨N_, g0_, g1_⟩ := hq_; obtain ⟨lo_, q0_, q1_, q2_⟩ := pair_ g0_ g1_ (Kd.R_lt u19_4) (below_size Q0); have HQ387 := am q0_; have HQ390 := am q1_; have LTW := am q2_; clear g0_ g1_ q0_ q1_ q2_; clear HO383; clear BK372; clear HB; have HO383 := n0_; have HO387 := n1_; have HO390 := n2_; have BK372 := n3_; have HB := n4_; clear n0_ n1_ n2_ n3_ n4_; (try clear hb); (try clear hb2); (try clear hk); (try clear hi); (try clear ho0); (try clear ho1)) | ((with_reducible refine gate_dst (N := 5) rfl ?_); refine box_event ?hg (N := 5) ?hd (cs := #[.int .i64 0, .slice none 0 0, .slice none 0 0]) (t := 53) ?hr ?_; (case hd => rfl); (case hg => rfl); (case hr => first | (go_simp; done) | (go_simp; rfl)); intro gb391 hg w38 hbox hb; have n0_ := am (Kd.R_below u19_4 hb); have n1_ := am (Kd.S_below u19_14 hb); have n2_ := am (Kd.S_below u19_15 hb); have n3_ := am (blk_below (g := gb372) (o := .cells #[.int .i64 a0_0, .slice A0_1 l0_1.length c0_1, .slice A0_2 l0_2.length c0_2] 68 (0, 0)) u19_3 hb); have n4_ := am (below_step Q0 hb); have n5_ := am (hbox); have n6_ := am ((by rw [hg]; exact (below_size Q0) : w.heap.size ≤ gb391)); have n7_ := am ((by rw [hg]; exact (below_size Q0) : w.heap.size ≤ gb391)); have n8_ := am ((by rw [hg]; exact Nat.ne_of_lt (blk_lt (g := gb372) (o := .cells #[.int .i64 a0_0, .slice A0_1 l0_1.length c0_1, .slice A0_2 l0_2.length c0_2] 68 (0, 0)) u19_3) : gb372 ≠ gb391)); have n9_ := am ((by rw [hg]; exact Nat.ne_of_gt (blk_lt (g := gb372) (o := .cells #[.int .i64 a0_0, .slice A0_1 l0_1.length c0_1, .slice A0_2 l0_2.length c0_2] 68 (0, 0)) u19_3) : gb391 ≠ gb372)); have q0_ := am (Kd.S_below (by (with_reducible repeat (first | apply Kd.S_alloc | apply Kd.S_drewN | apply Kd.S_drew)); exact HQ387.out) hb); have q1_ := am (Kd.S_below (by (with_reducible repeat (first | apply Kd.S_alloc | apply Kd.S_drewN | apply Kd.S_drew)); exact HQ390.out) hb); clear HQ387 HQ390; have HQ387 := q0_; have HQ390 := q1_; clear q0_ q1_; clear HO383; clear HO387; clear HO390; clear BK372; clear HB; have HO383 := n0_; have HO387 := n1_; have HO390 := n2_; have BK372 := n3_; have HB := n4_; have BK391 := n5_; have GW391 := n6_; have GE391 := n7_; have NB372_391 := n8_; have NB391_372 := n9_; clear n0_ n1_ n2_ n3_ n4_ n5_ n6_ n7_ n8_ n9_; clear hb hbox hg; have hnb39 := NB391_372.out; have hnc39 := NB372_391.out; obtain ⟨hcz40_0, hcz40_1, hcz40_2, hfz40_0, hfz40_1, hfz40_2⟩ := bc3f w38 BK391.out; obtain ⟨Ao41, co41, eo41⟩ := Kd.S_slice HO387.out; subst eo41; obtain ⟨Ao42, co42, eo42⟩ := Kd.S_slice HO390.out; subst eo42) | ((with_reducible refine gate_callee (f := 52) rfl ?_); refine goesL_ (some 22) rfl rfl Try.func52 kr rfl #[.agg #[.int .i64 t384, .slice Ao41 t385.length co41, .slice Ao42 t388.length co42]] rfl Q2 ?_; (with_reducible refine (impl_Leaders.calls k t384 _ _ t385 _ _ t388 t392 _ ?side1 ?side2 ?side3 ?side4 A10.out).mono ?_); (case side1 => exact (by refine (Kd.S_reads' (e := 37) (base := w.heap.size) (ok := fun k_ => (True ∧ some k_ ≠ (v382 : Value).ownBlock)) (n := t385.length) (c := co41) ?_).2.2; exact u19_10)); (case side2 => exact (Kd.S_reads' HO387.out).2.1); (case side3 => exact (by refine (Kd.S_reads' (e := 29) (base := w.heap.size) (ok := fun k_ => True) (n := t388.length) (c := co42) ?_).2.2; exact u19_11)); (case side4 => exact (Kd.S_reads' HO390.out).2.1); rintro e w43 ⟨v393, rfl, ho0, hb⟩; refine ⟨_, rfl, ?_⟩; have n0_ := am (Kd.R_elder' u19_12 (Kd.R_base ho0) hb); have n1_ := am (Kd.S_elder' u19_10 (Kd.R_base ho0) hb); have n2_ := am (Kd.S_below u19_11 hb); have n3_ := am (Kd.R_lower (Kd.R_new' ho0 (Kd.R_lt u19_12)) (below_size Q0)); have n4_ := am (blk_below (g := gb372) (o := .cells #[.int .i64 a0_0, .slice A0_1 l0_1.length c0_1, .slice A0_2 l0_2.length c0_2] 68 (0, 0)) (by (with_reducible repeat (first | refine blk_drewN ?_ _ | refine blk_drew ?_ | refine blk_alloc ?_ _)); refine blk_far ?_ NB372_391.out _; (with_reducible repeat (first | refine blk_drewN ?_ _ | refine blk_drew ?_ | refine blk_alloc ?_ _)); refine blk_far ?_ NB372_391.out _; (with_reducible repeat (first | refine blk_drewN ?_ _ | refine blk_drew ?_ | refine blk_alloc ?_ _)); refine blk_far ?_ NB372_391.out _; (with_reducible repeat (first | refine blk_drewN ?_ _ | refine blk_drew ?_ | refine blk_alloc ?_ _)); exact BK372.out) hb); have n5_ := am (blk_below (g := gb391) (o := .cells #[.int .i64 t384, .slice Ao41 t385.length co41, .slice Ao42 t388.length co42] 53 (0, 0)) (by (with_reducible repeat (first | refine blk_drewN ?_ _ | refine blk_drew ?_ | refine blk_alloc ?_ _)); refine blk_put (cs := #[.int .i64 t384, .slice Ao41 t385.length co41, .slice none 0 0]) ?_ 2 _ rfl; (with_reducible repeat (first | refine blk_drewN ?_ _ | refine blk_drew ?_ | refine blk_alloc ?_ _)); refine blk_put (cs := #[.int .i64 t384, .slice none 0 0, .slice none 0 0]) ?_ 1 _ rfl; (with_reducible repeat (first | refine blk_drewN ?_ _ | refine blk_drew ?_ | refine blk_alloc ?_ _)); refine blk_put (cs := #[.int .i64 0, .slice none 0 0, .slice none 0 0]) ?_ 0 _ rfl; (with_reducible repeat (first | refine blk_drewN ?_ _ | refine blk_drew ?_ | refine blk_alloc ?_ _)); exact BK391.out) hb); have n6_ := am (below_step Q0 hb); obtain ⟨hi_, q0_, q1_, q2_⟩ := old2_ hb (by (with_reducible repeat (first | apply Kd.S_alloc | apply Kd.S_drewN | apply Kd.S_drew)); exact (Kd.S_mono (Kd.S_far (p := ⟨gb391, 2, none⟩) (Kd.S_far (p := ⟨gb391, 1, none⟩) (Kd.S_far (p := ⟨gb391, 0, none⟩) (Kd.S_types HQ387.out BK391.out (by decide)) (fun _ hk => hk.2) (.int .i64 t384)) (fun _ hk => hk.2) (.slice Ao41 t385.length co41)) (fun _ hk => hk.2) (.slice Ao42 t388.length co42)) (fun _ h_ => h_.1))) (by (with_reducible repeat (first | apply Kd.S_alloc | apply Kd.S_drewN | apply Kd.S_drew)); exact (Kd.S_mono (Kd.S_far (p := ⟨gb391, 2, none⟩) (Kd.S_far (p := ⟨gb391, 1, none⟩) (Kd.S_far (p := ⟨gb391, 0, none⟩) (Kd.S_types HQ390.out BK391.out (by decide)) (fun _ hk => hk.2) (.int .i64 t384)) (fun _ hk => hk.2) (.slice Ao41 t385.length co41)) (fun _ hk => hk.2) (.slice Ao42 t388.length co42)) (fun _ h_ => h_.1))) (Kd.R_base ho0); clear HQ387 HQ390; have HQ387 := am q0_; have HQ390 := am q1_; have GEW := am q2_; clear q0_ q1_ q2_; clear HO383; clear HO387; clear HO390; clear BK372; clear BK391; clear HB; have HO383 := n0_; have HO387 := n1_; have HO390 := n2_; have HO394 := n3_; have BK372 := n4_; have BK391 := n5_; have HB := n6_; clear n0_ n1_ n2_ n3_ n4_ n5_ n6_; (try clear hb); (try clear hb2); (try clear hk); (try clear hi); (try clear ho0); obtain ⟨Ao44, co44, eo44⟩ := Kd.R_slice HO394.out; subst eo44; obtain ⟨Ao45, co45, eo45⟩ := Kd.R_slice HO383.out; subst eo45) | ((with_reducible refine gate_callee (f := 53) rfl ?_); refine goesL_ (some 25) rfl rfl Try.func53 kr rfl #[.slice Ao44 t392.length co44, .slice Ao45 t381.length co45] rfl Q2 ?_; (with_reducible refine (laws_eqIntS.calls k _ _ t392 _ _ t381 true _ ?side1 ?side2 ?side3 ?side4 A11.out).mono ?_); (case side1 => exact u19_9); (case side2 => exact (Kd.R_reads' HO394.out).2.1); (case side3 => exact u19_13); (case side4 => exact (Kd.R_reads' HO383.out).2.1); rintro e w' ⟨rfl, ⟨nd, rfl⟩⟩; refine ⟨_, rfl, ?_⟩))
 (first | (rw [drewN_self w43]; generalize hq_ : World.drewN w43 _ = w43; have n0_ := am (Kd.R_at hq_ HO383.out); have n1_ := am (Kd.S_at hq_ HO387.out); have n2_ := am (Kd.S_at hq_ HO390.out); have n3_ := am (Kd.R_at hq_ HO394.out); have n4_ := am (blk_at hq_ BK372.out); have n5_ := am (blk_at hq_ BK391.out); have n6_ := am (below_at hq_ HB.out); have q0_ := am (Kd.S_at hq_ HQ387.out); have q1_ := am (Kd.S_at hq_ HQ390.out); clear hq_ HO383 HO387 HO390 HO394 BK372 BK391 HB HQ387 HQ390; have HQ387 := q0_; have HQ390 := q1_; clear q0_ q1_; have HO383 := n0_; have HO387 := n1_; have HO390 := n2_; have HO394 := n3_; have BK372 := n4_; have BK391 := n5_; have HB := n6_; clear n0_ n1_ n2_ n3_ n4_ n5_ n6_) | skip)
 have n0_ := am (Kd.R_drew HO383.out)
 have n1_ := am (Kd.S_drew HO387.out)
 have n2_ := am (Kd.S_drew HO390.out)
 have n3_ := am (Kd.R_drew HO394.out)
 have n4_ := am (blk_drew BK372.out)
 have n5_ := am (blk_drew BK391.out)
 have n6_ := am (below_drew1 HB.out)
 have q0_ := am (Kd.S_drew HQ387.out)
 have q1_ := am (Kd.S_drew HQ390.out)
 clear HQ387 HQ390
 have HQ387 := q0_
 have HQ390 := q1_
 clear q0_ q1_
 clear HO383
 clear HO387
 clear HO390
 clear HO394
 clear BK372
 clear BK391
 clear HB
 have HO383 := n0_
 have HO387 := n1_
 have HO390 := n2_
 have HO394 := n3_
 have BK372 := n4_
 have BK391 := n5_
 have HB := n6_
 clear n0_ n1_ n2_ n3_ n4_ n5_ n6_
 refine start_ (n := 5) (S := fun w' => w'.cell? ⟨gb391, 0, none⟩ = some (.int .i64 t384) ∧ w'.cell? ⟨gb391, 1, none⟩ = some (.slice Ao41 t385.length co41) ∧ w'.cell? ⟨gb391, 2, none⟩ = some (.slice Ao42 t388.length co42) ∧ w'.cell? ⟨gb372, 0, none⟩ = some (.int .i64 a0_0) ∧ w'.cell? ⟨gb372, 1, none⟩ = some (.slice A0_1 l0_1.length c0_1) ∧ w'.cell? ⟨gb372, 2, none⟩ = some (.slice A0_2 l0_2.length c0_2)) (ds := []) #[false, false, false, false, false] kr rfl rfl ⟨(blk_cell BK391.out 0).trans rfl, (blk_cell BK391.out 1).trans rfl, (blk_cell BK391.out 2).trans rfl, (blk_cell BK372.out 0).trans rfl, (blk_cell BK372.out 1).trans rfl, (blk_cell BK372.out 2).trans rfl⟩ (fun hHeld => ?_)
 generalize w43.drew = w46 at HO383 HO387 HO390 HQ387 HQ390 HO394 BK372 BK391 HB hHeld ⊢
 refine take_ (i := 0) (N := some 27) (v := ?_) (a' := ?_) #[true, false, false, false, false] rfl rfl kr (fun _ _ _ h => h) (Or.inl ⟨by rfl, ?_⟩) hHeld ?_ ?_
 rotate_left
 · rintro w' ⟨s0, s1, s2, s3, s4, s5⟩
   go_simp
   with_reducible rfl
 rotate_left
 · simp only [Act.put, la, lb, lc, i64_w, i32_w]
   rfl
 refine take_ (i := 1) (N := some 28) (v := ?_) (a' := ?_) #[true, true, false, false, false] rfl rfl kr (fun _ _ _ h => h) (Or.inl ⟨by rfl, ?_⟩) hHeld ?_ ?_
 rotate_left
 · rintro w' ⟨s0, s1, s2, s3, s4, s5⟩
   go_simp
   with_reducible rfl
 rotate_left
 · simp only [Act.put, la, lb, lc, i64_w, i32_w]
   rfl
 refine one_ (i := 2) (N := some 29) #[true, true, true, false, false] rfl rfl kr (by decide) (fun K hK => ?_)
 refine goes_ Try.func45 kr rfl #[.agg #[.int .i64 a0_0, .slice A0_1 l0_1.length c0_1, .slice A0_2 l0_2.length c0_2]] (by rfl) rfl rfl Q2 ?_
 with_reducible refine (laws_toGroup.calls k a0_0 _ _ l0_1 _ _ l0_2 t396 t397 t400 _ ?side1 ?side2 ?side3 ?side4 A13.out).mono ?_
 (case side1 => exact Q14)
 (case side2 => exact HC0_1.out)
 (case side3 => exact Q12)
 (case side4 => exact HC0_2.out)
 rintro e w47 ⟨v398, v401, rfl, ho0, ho1, hb⟩
 refine ⟨_, rfl, ?_⟩
 have n0_ := am (Kd.R_below u19_4 hb)
 have n1_ := am (Kd.S_elder' u19_14 (Kd.S_base ho0) hb)
 have n2_ := am (Kd.S_elder' u19_15 (Kd.S_base ho1) hb)
 have n3_ := am (Kd.R_below u19_5 hb)
 have n4_ := am (Kd.S_lower (Kd.S_new' (Kd.S_new' (Kd.S_new' ho0 (Kd.R_lt u19_4)) (Kd.S_lt u19_14)) (Kd.R_lt u19_5)) (below_size Q0))
 have n5_ := am (Kd.S_lower (Kd.S_new' ho1 (Kd.S_lt u19_15)) (below_size Q0))
 have n6_ := am (blk_below (g := gb372) (o := .cells #[.int .i64 a0_0, .slice A0_1 l0_1.length c0_1, .slice A0_2 l0_2.length c0_2] 68 (0, 0)) u19_3 hb)
 have n7_ := am (blk_below (g := gb391) (o := .cells #[.int .i64 t384, .slice Ao41 t385.length co41, .slice Ao42 t388.length co42] 53 (0, 0)) u19_6 hb)
 have n8_ := am (below_step Q0 hb)
 have q0_ := am (Kd.S_below (by (with_reducible repeat (first | apply Kd.S_alloc | apply Kd.S_drewN | apply Kd.S_drew)); exact HQ387.out) hb)
 have q1_ := am (Kd.S_below (by (with_reducible repeat (first | apply Kd.S_alloc | apply Kd.S_drewN | apply Kd.S_drew)); exact HQ390.out) hb)
 clear HQ387 HQ390
 have HQ387 := q0_
 have HQ390 := q1_
 clear q0_ q1_
 clear HO383
 clear HO387
 clear HO390
 clear HO394
 clear BK372
 clear BK391
 clear HB
 have HO383 := n0_
 have HO387 := n1_
 have HO390 := n2_
 have HO394 := n3_
 have HO399 := n4_
 have HO402 := n5_
 have BK372 := n6_
 have BK391 := n7_
 have HB := n8_
 clear n0_ n1_ n2_ n3_ n4_ n5_ n6_ n7_ n8_
 (try clear hb)
 (try clear hb2)
 (try clear hk)
 (try clear hi)
 (try clear ho0)
 (try clear ho1)
 obtain ⟨Ao48, co48, eo48⟩ := Kd.S_slice HO399.out
 (first | subst eo48 | (injection eo48 with f1_ f2_ f3_; have f4_ := f1_.symm; have f5_ := f3_.symm; clear f1_ f2_ f3_; subst f4_; subst f5_))
 obtain ⟨Ao49, co49, eo49⟩ := Kd.S_slice HO402.out
 (first | subst eo49 | (injection eo49 with f1_ f2_ f3_; have f4_ := f1_.symm; have f5_ := f3_.symm; clear f1_ f2_ f3_; subst f4_; subst f5_))
 refine hK.out _ _ ⟨(blk_cell BK391.out 0).trans rfl, (blk_cell BK391.out 1).trans rfl, (blk_cell BK391.out 2).trans rfl, (blk_cell BK372.out 0).trans rfl, (blk_cell BK372.out 1).trans rfl, (blk_cell BK372.out 2).trans rfl⟩ (fun hHeld => ?_)
 clear hK K
 refine norm_ (a' := ?_) ?_ ?_
 rotate_left
 · show Act.put _ (some 29) _ = _
   simp only [Act.put, la, lb, lc, i64_w, i32_w]
   rfl
 refine one_ (i := 3) (N := some 30) #[true, true, true, true, false] rfl rfl kr (by decide) (fun K hK => ?_)
 refine goes_ Try.func31 kr rfl #[.agg #[.int .i64 t384, .slice Ao41 t385.length co41, .slice Ao42 t388.length co42], .agg #[.int .i64 t396, .slice Ao48 t397.length co48, .slice Ao49 t400.length co49]] (by rfl) rfl rfl Q2 ?_
 with_reducible refine (laws_eqGroup.calls k t384 _ _ t385 _ _ t388 t396 _ _ t397 _ _ t400 true _ ?side1 ?side2 ?side3 ?side4 ?side5 ?side6 ?side7 ?side8 A14.out).mono ?_
 (case side1 => exact (by repeat (first | exact (Kd.S_reads' HO387.out).2.2 | (with_reducible refine Kd.C_alloc ?_ _) | (with_reducible refine Kd.C_drewN ?_ _) | (with_reducible refine Kd.C_drew ?_))))
 (case side2 => exact (Kd.S_reads' HO387.out).2.1)
 (case side3 => exact (by repeat (first | exact (Kd.S_reads' HO390.out).2.2 | (with_reducible refine Kd.C_alloc ?_ _) | (with_reducible refine Kd.C_drewN ?_ _) | (with_reducible refine Kd.C_drew ?_))))
 (case side4 => exact (Kd.S_reads' HO390.out).2.1)
 (case side5 => exact (by repeat (first | exact (Kd.S_reads' HO399.out).2.2 | (with_reducible refine Kd.C_alloc ?_ _) | (with_reducible refine Kd.C_drewN ?_ _) | (with_reducible refine Kd.C_drew ?_))))
 (case side6 => exact (Kd.S_reads' HO399.out).2.1)
 (case side7 => exact (by repeat (first | exact (Kd.S_reads' HO402.out).2.2 | (with_reducible refine Kd.C_alloc ?_ _) | (with_reducible refine Kd.C_drewN ?_ _) | (with_reducible refine Kd.C_drew ?_))))
 (case side8 => exact (Kd.S_reads' HO402.out).2.1)
 rintro e w50 ⟨rfl, hb⟩
 refine ⟨_, rfl, ?_⟩
 have n0_ := am (Kd.R_below u19_4 hb)
 have n1_ := am (Kd.S_below u19_14 hb)
 have n2_ := am (Kd.S_below u19_15 hb)
 have n3_ := am (Kd.R_below u19_5 hb)
 have n4_ := am (Kd.S_below (by (with_reducible repeat (first | apply Kd.S_alloc | apply Kd.S_drewN | apply Kd.S_drew)); exact HO399.out) hb)
 have n5_ := am (Kd.S_below (by (with_reducible repeat (first | apply Kd.S_alloc | apply Kd.S_drewN | apply Kd.S_drew)); exact HO402.out) hb)
 have n6_ := am (blk_below (g := gb372) (o := .cells #[.int .i64 a0_0, .slice A0_1 l0_1.length c0_1, .slice A0_2 l0_2.length c0_2] 68 (0, 0)) u19_3 hb)
 have n7_ := am (blk_below (g := gb391) (o := .cells #[.int .i64 t384, .slice Ao41 t385.length co41, .slice Ao42 t388.length co42] 53 (0, 0)) u19_6 hb)
 have n8_ := am (below_step Q0 hb)
 have q0_ := am (Kd.S_below (by (with_reducible repeat (first | apply Kd.S_alloc | apply Kd.S_drewN | apply Kd.S_drew)); exact HQ387.out) hb)
 have q1_ := am (Kd.S_below (by (with_reducible repeat (first | apply Kd.S_alloc | apply Kd.S_drewN | apply Kd.S_drew)); exact HQ390.out) hb)
 clear HQ387 HQ390
 have HQ387 := q0_
 have HQ390 := q1_
 clear q0_ q1_
 clear HO383
 clear HO387
 clear HO390
 clear HO394
 clear HO399
 clear HO402
 clear BK372
 clear BK391
 clear HB
 have HO383 := n0_
 have HO387 := n1_
 have HO390 := n2_
 have HO394 := n3_
 have HO399 := n4_
 have HO402 := n5_
 have BK372 := n6_
 have BK391 := n7_
 have HB := n8_
 clear n0_ n1_ n2_ n3_ n4_ n5_ n6_ n7_ n8_
 (try clear hb)
 (try clear hb2)
 (try clear hk)
 (try clear hi)
 refine hK.out _ _ ⟨(blk_cell BK391.out 0).trans rfl, (blk_cell BK391.out 1).trans rfl, (blk_cell BK391.out 2).trans rfl, (blk_cell BK372.out 0).trans rfl, (blk_cell BK372.out 1).trans rfl, (blk_cell BK372.out 2).trans rfl⟩ (fun hHeld => ?_)
 clear hK K
 refine norm_ (a' := ?_) ?_ ?_
 rotate_left
 · show Act.put _ (some 30) _ = _
   simp only [Act.put, la, lb, lc, i64_w, i32_w]
   rfl
 refine pure_ (i := 4) (N := some 31) (v := ?_) (a' := ?_) #[true, true, true, true, true] rfl rfl kr (fun _ _ _ h => h) (Or.inl ⟨by rfl, ?_⟩) ?_ ?_
 rotate_left; (intro w'; go_simp; with_reducible rfl); rotate_left; (simp only [Act.put, la, lb, lc, i64_w, i32_w]; rfl)
 refine done_ kr ?_
 obtain ⟨hcz51_0, hcz51_1, hcz51_2, hfz51_0, hfz51_1, hfz51_2⟩ := bc3f w50 BK391.out
 have n_ := am (Kd.S_mono (ok' := (fun k_ => some k_ ≠ (.slice Ao45 t381.length co45 : Value).ownBlock ∧ some k_ ≠ (.slice Ao44 t392.length co44 : Value).ownBlock)) HO387.out (fun k_ hk => ⟨hk.1.1.2, hk.1.2⟩))
 clear HO387
 have HO387 := n_
 clear n_
 have n_ := am (Kd.S_mono (ok' := (fun _ => True)) HO390.out (fun k_ hk => trivial))
 clear HO390
 have HO390 := n_
 clear n_
 clear HO399 HO402
 try go_wp2_with (first | ((with_reducible refine gate_callee (f := 32) rfl ?_); refine goesL_ (some 34) rfl rfl Try.func32 kr rfl #[.agg #[.int .i64 t384, .slice Ao41 t385.length co41, .slice Ao42 t388.length co42], .int .i64 1] rfl Q2 ?_; (with_reducible refine (laws_markGroup.calls k t384 (fun k_ => ((lo_ ≤ k_ ∧ k_ < N_) ∧ k_ < hi_) ∧ ∃ q_, q_ ∈ (37 :: Kd.E k37) ∧ ∃ cells_, w50.heap[k_]? = some (.cells cells_ q_ (0, 0))) (.slice Ao41 t385.length co41) t385 (fun k_ => ((lo_ ≤ k_ ∧ N_ ≤ k_) ∧ k_ < hi_) ∧ ∃ q_, q_ ∈ (29 :: Kd.E k29) ∧ ∃ cells_, w50.heap[k_]? = some (.cells cells_ q_ (0, 0))) (.slice Ao42 t388.length co42) t388 1 t404 t405 t406 w _ ?side1 ?side2 ?side3 (fun k_ h1_ h2_ => absurd (Nat.lt_of_lt_of_le h1_.1.1.2 h2_.1.1.2) (Nat.lt_irrefl _)) A16.out).mono ?_); (case side1 => exact Q0); (case side2 => exact Kd.S_mono (Kd.S_bound HQ387.out) (fun _ h_ => ⟨h_.1, h_.2.2.2⟩)); (case side3 => exact Kd.S_mono (Kd.S_bound HQ390.out) (fun _ h_ => ⟨h_.1, h_.2.2.2⟩)); rintro e w52 ⟨rfl, hy0, hy1, hb, hkp⟩; refine ⟨_, rfl, ?_⟩; replace BK372 := am (blk_kept u19_3 hkp (fun hs_ => Or.elim hs_ (fun e_ => untyped_ e_.2 ⟨_, BK372.out⟩ (by decide)) (fun e_ => untyped_ e_.2 ⟨_, BK372.out⟩ (by decide)))); replace HO383 := am (Kd.R_mono (ok' := fun k_ => some k_ ≠ (.slice Ao44 t392.length co44 : Value).ownBlock) (Kd.R_keptB (Kd.R_mono (Kd.R_tight2 rfl HO383.out) (fun _ h_ => And.intro h_.2 h_.1)) hkp (fun k_ hk_ hs_ => Or.elim hs_ (fun e_ => by first | exact Nat.lt_irrefl _ (Nat.lt_of_lt_of_le (LTW.out k_ hk_.2.symm) e_.1.1.1) | exact Nat.lt_irrefl _ (Nat.lt_of_lt_of_le e_.1.2 (GEW.out k_ hk_.2.symm))) (fun e_ => by first | exact Nat.lt_irrefl _ (Nat.lt_of_lt_of_le (LTW.out k_ hk_.2.symm) e_.1.1.1) | exact Nat.lt_irrefl _ (Nat.lt_of_lt_of_le e_.1.2 (GEW.out k_ hk_.2.symm))))) (fun k_ hk_ => hk_.1.1.2)); replace HO387 := am (hy0); replace HO390 := am (hy1); replace BK391 := am (blk_kept u19_6 hkp (fun hs_ => Or.elim hs_ (fun e_ => untyped_ e_.2 ⟨_, BK391.out⟩ (by decide)) (fun e_ => untyped_ e_.2 ⟨_, BK391.out⟩ (by decide)))); replace HO394 := am (Kd.R_mono (ok' := fun k_ => some k_ ≠ (.slice Ao45 t381.length co45 : Value).ownBlock) (Kd.R_keptB (Kd.R_mono (Kd.R_tight2 rfl HO394.out) (fun _ h_ => And.intro h_.2 h_.1)) hkp (fun k_ hk_ hs_ => Or.elim hs_ (fun e_ => by first | exact Nat.lt_irrefl _ (Nat.lt_of_lt_of_le (LTW.out k_ hk_.2.symm) e_.1.1.1) | exact Nat.lt_irrefl _ (Nat.lt_of_lt_of_le e_.1.2 (GEW.out k_ hk_.2.symm))) (fun e_ => by first | exact Nat.lt_irrefl _ (Nat.lt_of_lt_of_le (LTW.out k_ hk_.2.symm) e_.1.1.1) | exact Nat.lt_irrefl _ (Nat.lt_of_lt_of_le e_.1.2 (GEW.out k_ hk_.2.symm))))) (fun k_ hk_ => hk_.1.1.2)); replace HB := am (hb); (try clear hb); (try clear hkp); (try clear hy0); (try clear hy1); clear HO387 HO390; clear HQ387 HQ390 LTW GEW) | (go_at_call 53; (with_reducible refine (laws_eqIntS.calls k _ _ t392 _ _ t381 true _ ?side1 ?side2 ?side3 ?side4 A18.out).mono ?_); (case side1 => exact u19_9); (case side2 => exact (Kd.R_reads' HO394.out).2.1); (case side3 => exact u19_13); (case side4 => exact (Kd.R_reads' HO383.out).2.1); rintro e w' ⟨rfl, ⟨nd, rfl⟩⟩) | ((with_reducible refine gate_callee (f := 54) rfl ?_); refine goesL_ (some 45) rfl rfl Try.func54 kr rfl #[.slice Ao44 t392.length co44, .int .i64 1] rfl Q2 ?_; (with_reducible refine (laws_markIntS.calls k (fun k_ => some k_ = (.slice Ao44 t392.length co44 : Value).ownBlock) (.slice Ao44 t392.length co44) t392 1 t408 t409 w _ ?side1 ?side2 A20.out).mono ?_); (case side1 => exact Q0); (case side2 => exact Kd.R_tight rfl HO394.out); rintro e w53 ⟨rfl, hy0, hb, hkp⟩; refine ⟨_, rfl, ?_⟩; replace BK372 := am (blk_kept u19_3 hkp (fun hs_ => (fun e_ => (Kd.R_ne HO394.out BK372.out (by decide)) e_) hs_)); replace HO383 := am (Kd.R_mono (ok' := fun k_ => some k_ ≠ (.slice Ao44 t392.length co44 : Value).ownBlock) (Kd.R_keptB (HO383.out) hkp (fun k_ hk_ hs_ => (hk_) hs_)) (fun k_ hk_ => hk_.1)); replace BK391 := am (blk_kept u19_6 hkp (fun hs_ => (fun e_ => (Kd.R_ne HO394.out BK391.out (by decide)) e_) hs_)); replace HO394 := am (Kd.R_reok rfl hy0 (fun k_ e_ => HO394.out.1 k_ e_)); replace HB := am (hb); (try clear hb); (try clear hkp); (try clear hy0)) | ((with_reducible refine gate_callee (f := 55) rfl ?_); refine goesL_ (some 48) rfl rfl Try.func55 kr rfl #[.slice Ao44 t409.length co44, .int .i64 1] rfl u19_17 ?_; (with_reducible refine (laws_heldIntS.calls k _ _ t409 1 t410 _ ?side1 ?side2 A21.out).mono ?_); (case side1 => exact u19_9); (case side2 => exact u19_18); rintro e w' ⟨rfl, ⟨nd, rfl⟩⟩; refine ⟨_, rfl, ?_⟩; obtain ⟨hcz54_0, hcz54_1, hcz54_2, hfz54_0, hfz54_1, hfz54_2⟩ := bc3f w53 BK372.out) | ((with_reducible refine gate_callee (f := 45) rfl ?_); refine goesL_ (some 55) rfl rfl Try.func45 kr rfl #[.agg #[.int .i64 a0_0, .slice A0_1 l0_1.length c0_1, .slice A0_2 l0_2.length c0_2]] rfl Q2 ?_; (with_reducible refine (laws_toGroup.calls k a0_0 _ _ l0_1 _ _ l0_2 t411 t412 t415 _ ?side1 ?side2 ?side3 ?side4 A24.out).mono ?_); (case side1 => exact (by repeat (first | exact (Kd.C_below HR0_1.out Q0) | (with_reducible refine Kd.C_alloc ?_ _) | (with_reducible refine Kd.C_drewN ?_ _) | (with_reducible refine Kd.C_drew ?_)))); (case side2 => exact HC0_1.out); (case side3 => exact (by repeat (first | exact (Kd.C_below HR0_2.out Q0) | (with_reducible refine Kd.C_alloc ?_ _) | (with_reducible refine Kd.C_drewN ?_ _) | (with_reducible refine Kd.C_drew ?_)))); (case side4 => exact HC0_2.out); rintro e w55 ⟨v413, v416, rfl, ho0, ho1, hb⟩; refine ⟨_, rfl, ?_⟩; have HO414 := am (Kd.S_lower (Kd.S_new' (Kd.S_new' ho0 (Kd.R_lt u19_4)) (Kd.R_lt u19_5)) (below_size Q0)); replace HO383 := am (Kd.R_below u19_4 hb); replace HO394 := am (Kd.R_below u19_5 hb); have HO417 := am (Kd.S_lower ho1 (below_size Q0)); replace BK372 := am (blk_below (g := gb372) (o := .cells #[.int .i64 a0_0, .slice A0_1 l0_1.length c0_1, .slice A0_2 l0_2.length c0_2] 68 (0, 0)) u19_3 hb); replace BK391 := am (blk_below (g := gb391) (o := .cells #[.int .i64 t384, .slice Ao41 t385.length co41, .slice Ao42 t388.length co42] 53 (0, 0)) u19_6 hb); replace HB := am (below_step Q0 hb); (try clear hb); (try clear hb2); (try clear hk); (try clear hi); (try clear ho0); (try clear ho1); obtain ⟨Ao56, co56, eo56⟩ := Kd.S_slice HO414.out; subst eo56; obtain ⟨Ao57, co57, eo57⟩ := Kd.S_slice HO417.out; subst eo57) | ((with_reducible refine gate_callee (f := 52) rfl ?_); refine goesL_ (some 56) rfl rfl Try.func52 kr rfl #[.agg #[.int .i64 t411, .slice Ao56 t412.length co56, .slice Ao57 t415.length co57]] rfl Q2 ?_; (with_reducible refine (impl_Leaders.calls k t411 _ _ t412 _ _ t415 t418 _ ?side1 ?side2 ?side3 ?side4 A25.out).mono ?_); (case side1 => exact (by repeat (first | exact (Kd.S_reads' HO414.out).2.2 | (with_reducible refine Kd.C_alloc ?_ _) | (with_reducible refine Kd.C_drewN ?_ _) | (with_reducible refine Kd.C_drew ?_)))); (case side2 => exact (Kd.S_reads' HO414.out).2.1); (case side3 => exact (by repeat (first | exact (Kd.S_reads' HO417.out).2.2 | (with_reducible refine Kd.C_alloc ?_ _) | (with_reducible refine Kd.C_drewN ?_ _) | (with_reducible refine Kd.C_drew ?_)))); (case side4 => exact (Kd.S_reads' HO417.out).2.1); rintro e w58 ⟨v419, rfl, ho0, hb⟩; refine ⟨_, rfl, ?_⟩; replace HO414 := am (Kd.S_elder' (by (with_reducible repeat (first | apply Kd.S_alloc | apply Kd.S_drewN | apply Kd.S_drew)); exact HO414.out) (Kd.R_base ho0) hb); replace HO417 := am (Kd.S_below (by (with_reducible repeat (first | apply Kd.S_alloc | apply Kd.S_drewN | apply Kd.S_drew)); exact HO417.out) hb); have HO420 := am (Kd.R_lower (Kd.R_new' (Kd.R_new' ho0 (Kd.R_lt u19_4)) (Kd.R_lt u19_5)) (below_size Q0)); replace HO383 := am (Kd.R_elder' u19_4 (Kd.R_base ho0) hb); replace HO394 := am (Kd.R_elder' u19_5 (Kd.R_base ho0) hb); replace BK372 := am (blk_below (g := gb372) (o := .cells #[.int .i64 a0_0, .slice A0_1 l0_1.length c0_1, .slice A0_2 l0_2.length c0_2] 68 (0, 0)) u19_3 hb); replace BK391 := am (blk_below (g := gb391) (o := .cells #[.int .i64 t384, .slice Ao41 t385.length co41, .slice Ao42 t388.length co42] 53 (0, 0)) u19_6 hb); replace HB := am (below_step Q0 hb); (try clear hb); (try clear hb2); (try clear hk); (try clear hi); (try clear ho0); clear HO414 HO417; obtain ⟨Ao59, co59, eo59⟩ := Kd.R_slice HO420.out; subst eo59) | ((with_reducible refine gate_callee (f := 53) rfl ?_); refine goesL_ (some 59) rfl rfl Try.func53 kr rfl #[.slice Ao59 t418.length co59, .slice Ao45 t381.length co45] rfl Q2 ?_; (with_reducible refine (laws_eqIntS.calls k _ _ t418 _ _ t381 true _ ?side1 ?side2 ?side3 ?side4 A26.out).mono ?_); (case side1 => exact (by repeat (first | exact (Kd.R_reads' HO420.out).2.2 | (with_reducible refine Kd.C_alloc ?_ _) | (with_reducible refine Kd.C_drewN ?_ _) | (with_reducible refine Kd.C_drew ?_)))); (case side2 => exact (Kd.R_reads' HO420.out).2.1); (case side3 => exact u19_13); (case side4 => exact (Kd.R_reads' HO383.out).2.1); rintro e w' ⟨rfl, ⟨nd, rfl⟩⟩; refine ⟨_, rfl, ?_⟩; have n_ := am (Kd.R_mono (ok' := (fun _ => True)) HO394.out (fun k_ hk => trivial)); clear HO394; have HO394 := n_; clear n_; clear HO383 HO420) | ((with_reducible refine gate_callee (f := 55) rfl ?_); refine goesL_ (some 63) rfl rfl Try.func55 kr rfl #[.slice Ao44 t409.length co44, .int .i64 1] rfl u19_17 ?_; (with_reducible refine (laws_heldIntS.calls k _ _ t409 1 t422 _ ?side1 ?side2 A28.out).mono ?_); (case side1 => exact u19_9); (case side2 => exact u19_18); rintro e w' ⟨rfl, ⟨nd, rfl⟩⟩; refine ⟨_, rfl, ?_⟩))
 go_ret
 exact ⟨er, Q0⟩

end Go.Proofs.Ytkcadcoohmofcaa.QFnExactLeaders
