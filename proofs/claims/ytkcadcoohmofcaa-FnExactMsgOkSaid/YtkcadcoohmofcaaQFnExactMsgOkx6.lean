-- Printed by the session's own program wip/prx.py.
import Derived.Test.YtkcadcoohmofcaaQFnExactMsgOkx0
import Derived.Test.YtkcadcoohmofcaaQFnExactMsgOkx1
import Derived.Test.YtkcadcoohmofcaaQFnExactMsgOkx2
import Derived.Test.YtkcadcoohmofcaaQFnExactMsgOkx3
import Derived.Test.YtkcadcoohmofcaaQFnExactMsgOkx5
namespace Go.Proofs.Ytkcadcoohmofcaa.QFnExactMsgOk
open Go.RowKit Go.Proofs.YtkcadcoohmofcaaW.PrintWords Go.Proofs.YtkcadcoohmofcaaW.PrintLast Go.Proofs.YtkcadcoohmofcaaW.PrintMore
attribute [local go_sem] max2_int min2_int max_two min_two max_three min_three max_four min_four Go.Proofs.Ytkcadcoohmofcaa.Set.isSome_setCell   -- for this text's walks alone
set_option linter.unusedVariables false
set_option linter.unusedSimpArgs false

-- squeezed
theorem u6_0 {P : Prop} (h : P := by repeat (first | (with_reducible first | exact HB.out | apply below_alloc | apply pw_below_drewN | apply below_drew1 | refine below_set ?_ GE150.out) | exact HB.out)) : P := h
theorem u6_1 {P : Prop} (h : P := by (with_reducible repeat (first | refine blk_drewN ?_ _ | refine blk_drew ?_ | refine blk_alloc ?_ _)); exact BK150.out) : P := h
theorem u6_2 {P : Prop} (h : P := by (try simp only [List.map_toArray, List.map_cons, List.map_nil]); first | done | rfl | (simp only [List.length_drop, List.length_take]; rfl)) : P := h
theorem u6_3 {P : Prop} (h : P := by (with_reducible repeat (first | apply Kd.R_alloc | apply Kd.R_drewN | apply Kd.R_drew)); exact (Kd.R_mono (Kd.R_far (p := ⟨gb175, 8, none⟩) (Kd.R_far (p := ⟨gb175, 7, none⟩) (Kd.R_far (p := ⟨gb175, 6, none⟩) (Kd.R_far (p := ⟨gb175, 5, none⟩) (Kd.R_far (p := ⟨gb175, 4, none⟩) (Kd.R_far (p := ⟨gb175, 3, none⟩) (Kd.R_far (p := ⟨gb175, 2, none⟩) (Kd.R_far (p := ⟨gb175, 1, none⟩) (Kd.R_far (p := ⟨gb175, 0, none⟩) (Kd.R_types HO174.out BK175.out (by decide)) (fun _ hk => hk.2) (.int .i64 t164)) (fun _ hk => hk.2) (.int .i64 t165)) (fun _ hk => hk.2) (.int .i64 t166)) (fun _ hk => hk.2) (.int .i64 t167)) (fun _ hk => hk.2) (.int .i64 t168)) (fun _ hk => hk.2) (.int .i64 t169)) (fun _ hk => hk.2) (.int .i64 t170)) (fun _ hk => hk.2) (.bool t171)) (fun _ hk => hk.2) (.slice Ao25 t172.length co25)) (fun _ h_ => h_.1))) : P := h
theorem u6_4 {P : Prop} (h : P := by repeat (first | (with_reducible first | exact HB.out | apply below_alloc | apply pw_below_drewN | apply below_drew1 | refine below_set ?_ GE150.out | refine below_set ?_ GE175.out) | exact HB.out)) : P := h
theorem u6_5 {P : Prop} (h : P := by (with_reducible repeat (first | apply Kd.R_alloc | apply Kd.R_drewN | apply Kd.R_drew)); exact HO162.out) : P := h
theorem u6_6 {P : Prop} (h : P := by repeat (first | exact (Kd.C_below HR0_8.out HB.out) | (with_reducible refine Kd.C_alloc ?_ _) | (with_reducible refine Kd.C_drewN ?_ _) | (with_reducible refine Kd.C_drew ?_))) : P := h
theorem u6_7 {P : Prop} (h : P := by (with_reducible repeat (first | apply Kd.R_alloc | apply Kd.R_drewN | apply Kd.R_drew)); exact HO174.out) : P := h
theorem u6_8 {P : Prop} (h : P := by repeat (first | (with_reducible first | exact HB.out | apply below_alloc | apply pw_below_drewN | apply below_drew1) | exact HB.out)) : P := h
theorem u6_9 {P : Prop} (h : P := by (with_reducible repeat (first | refine blk_drewN ?_ _ | refine blk_drew ?_ | refine blk_alloc ?_ _)); exact BK175.out) : P := h
/-! ### laws_FnExactMsgOk: function 3 -/
def laws_FnExactMsgOk.f (k : Nat) (a0_0 : Int) (a0_1 : Int) (a0_2 : Int) (a0_3 : Int) (a0_4 : Int) (a0_5 : Int) (a0_6 : Int) (a0_7 : Bool) (l0_8 : List (S112)) (a1 : Int) : Option (Bool) := (laws_szMsg.f k a0_0 a0_1 a0_2 a0_3 a0_4 a0_5 a0_6 a0_7 l0_8 1048576).bind fun t151 => (if t151 < 0 then (some true) else ((laws_toMsg.f k a0_0 a0_1 a0_2 a0_3 a0_4 a0_5 a0_6 a0_7 l0_8).bind fun bt152 => ((spec_MsgOk.f k bt152.1 bt152.2.1 bt152.2.2.1 bt152.2.2.2.1 bt152.2.2.2.2.1 bt152.2.2.2.2.2.1 bt152.2.2.2.2.2.2.1 bt152.2.2.2.2.2.2.2.1 bt152.2.2.2.2.2.2.2.2 a1).bind fun t163 => ((laws_toMsg.f k a0_0 a0_1 a0_2 a0_3 a0_4 a0_5 a0_6 a0_7 l0_8).bind fun bt164 => ((impl_MsgOk.f k bt164.1 bt164.2.1 bt164.2.2.1 bt164.2.2.2.1 bt164.2.2.2.2.1 bt164.2.2.2.2.2.1 bt164.2.2.2.2.2.2.1 bt164.2.2.2.2.2.2.2.1 bt164.2.2.2.2.2.2.2.2 a1).bind fun t176 => (if (t176 != t163) = true then (some false) else ((laws_toMsg.f k a0_0 a0_1 a0_2 a0_3 a0_4 a0_5 a0_6 a0_7 l0_8).bind fun bt177 => ((laws_eqMsg.f k bt164.1 bt164.2.1 bt164.2.2.1 bt164.2.2.2.1 bt164.2.2.2.2.1 bt164.2.2.2.2.2.1 bt164.2.2.2.2.2.2.1 bt164.2.2.2.2.2.2.2.1 bt164.2.2.2.2.2.2.2.2 bt177.1 bt177.2.1 bt177.2.2.1 bt177.2.2.2.1 bt177.2.2.2.2.1 bt177.2.2.2.2.2.1 bt177.2.2.2.2.2.2.1 bt177.2.2.2.2.2.2.2.1 bt177.2.2.2.2.2.2.2.2).bind fun t188 => (if t188 = true then (some true) else (some false))))))))))
theorem laws_FnExactMsgOk.mono : ∀ a0 a1 a2 a3 a4 a5 a6 a7 a8 a9 k, LeO (laws_FnExactMsgOk.f k a0 a1 a2 a3 a4 a5 a6 a7 a8 a9) (laws_FnExactMsgOk.f (k + 1) a0 a1 a2 a3 a4 a5 a6 a7 a8 a9) := by
  intro a0 a1 a2 a3 a4 a5 a6 a7 a8 a9 k
  unfold laws_FnExactMsgOk.f
  repeat' first
      | (with_reducible exact impl_MsgOk.mono _ _ _ _ _ _ _ _ _ _ _)
      | (with_reducible exact laws_eqMsg.mono _ _ _ _ _ _ _ _ _ _ _ _ _ _ _ _ _ _ _)
      | (with_reducible exact laws_szMsg.mono _ _ _ _ _ _ _ _ _ _ _)
      | (with_reducible exact laws_toMsg.mono _ _ _ _ _ _ _ _ _ _)
      | (with_reducible exact spec_MsgOk.mono _ _ _ _ _ _ _ _ _ _ _)
      | (with_reducible exact LeO.refl _)
      | (with_reducible exact LeO.none _)
      | (with_reducible refine LeO.ite ?_ ?_)
      | (with_reducible refine LeO.bind ?_ (fun _ => ?_))
      | exact impl_MsgOk.mono _ _ _ _ _ _ _ _ _ _ _
      | exact laws_eqMsg.mono _ _ _ _ _ _ _ _ _ _ _ _ _ _ _ _ _ _ _
      | exact laws_szMsg.mono _ _ _ _ _ _ _ _ _ _ _
      | exact laws_toMsg.mono _ _ _ _ _ _ _ _ _ _
      | exact spec_MsgOk.mono _ _ _ _ _ _ _ _ _ _ _
      | exact LeO.none _
      | refine LeO.ite ?_ ?_
      | refine LeO.bind ?_ (fun _ => ?_)
set_option maxHeartbeats 8000000 in
set_option maxRecDepth 100000 in
theorem laws_FnExactMsgOk.calls (k : Nat) (a0_0 : Int) (a0_1 : Int) (a0_2 : Int) (a0_3 : Int) (a0_4 : Int) (a0_5 : Int) (a0_6 : Int) (a0_7 : Bool) (A0_8 : Option Addr) (c0_8 : Nat) (l0_8 : List (S112)) (a1 : Int) (r : Bool) (w : World) (hr0_8 : Kd.C k112 w A0_8 l0_8.length l0_8) (hc0_8 : l0_8.length ≤ c0_8) (h : laws_FnExactMsgOk.f k a0_0 a0_1 a0_2 a0_3 a0_4 a0_5 a0_6 a0_7 l0_8 a1 = some r) (hr_ : Aside0 (r = true)) :
    Calls Try.prog 3 #[.agg #[.int .i64 a0_0, .int .i64 a0_1, .int .i64 a0_2, .int .i64 a0_3, .int .i64 a0_4, .int .i64 a0_5, .int .i64 a0_6, .bool a0_7, .slice A0_8 l0_8.length c0_8], .int .i64 a1] w fun e w' => e = .returned (.bool r) ∧ Below w.heap.size w w' := by
  have hu24 := Try.underlying24
  have hu29 := Try.underlying29
  have HR0_8 := Aside0.mk hr0_8
  have HC0_8 := Aside0.mk hc0_8
  clear hr0_8 hc0_8
  have HB := Aside0.mk (Below.refl w.heap.size w)
  have H : ((laws_szMsg.f k a0_0 a0_1 a0_2 a0_3 a0_4 a0_5 a0_6 a0_7 l0_8 1048576).bind fun t151 => (if t151 < 0 then (some true) else ((laws_toMsg.f k a0_0 a0_1 a0_2 a0_3 a0_4 a0_5 a0_6 a0_7 l0_8).bind fun bt152 => ((spec_MsgOk.f k bt152.1 bt152.2.1 bt152.2.2.1 bt152.2.2.2.1 bt152.2.2.2.2.1 bt152.2.2.2.2.2.1 bt152.2.2.2.2.2.2.1 bt152.2.2.2.2.2.2.2.1 bt152.2.2.2.2.2.2.2.2 a1).bind fun t163 => ((laws_toMsg.f k a0_0 a0_1 a0_2 a0_3 a0_4 a0_5 a0_6 a0_7 l0_8).bind fun bt164 => ((impl_MsgOk.f k bt164.1 bt164.2.1 bt164.2.2.1 bt164.2.2.2.1 bt164.2.2.2.2.1 bt164.2.2.2.2.2.1 bt164.2.2.2.2.2.2.1 bt164.2.2.2.2.2.2.2.1 bt164.2.2.2.2.2.2.2.2 a1).bind fun t176 => (if (t176 != t163) = true then (some false) else ((laws_toMsg.f k a0_0 a0_1 a0_2 a0_3 a0_4 a0_5 a0_6 a0_7 l0_8).bind fun bt177 => ((laws_eqMsg.f k bt164.1 bt164.2.1 bt164.2.2.1 bt164.2.2.2.1 bt164.2.2.2.2.1 bt164.2.2.2.2.2.1 bt164.2.2.2.2.2.2.1 bt164.2.2.2.2.2.2.2.1 bt164.2.2.2.2.2.2.2.2 bt177.1 bt177.2.1 bt177.2.2.1 bt177.2.2.2.1 bt177.2.2.2.2.1 bt177.2.2.2.2.2.1 bt177.2.2.2.2.2.2.1 bt177.2.2.2.2.2.2.2.1 bt177.2.2.2.2.2.2.2.2).bind fun t188 => (if t188 = true then (some true) else (some false))))))))))) = some r := h
  clear h
  replace H := Option.bind_eq_some_iff.mp H
  obtain ⟨t151, A30, H⟩ := H
  have A3 := Aside0.mk A30
  clear A30
  have H9 := Aside0.mk H
  clear H
  go_enter Try.func3, Try.ntmps3
  go_upto_if 13 with (first | ((with_reducible refine gate_dst (N := 2) rfl ?_); refine box_event ?hg (N := 2) ?hd (cs := #[.int .i64 a0_0, .int .i64 a0_1, .int .i64 a0_2, .int .i64 a0_3, .int .i64 a0_4, .int .i64 a0_5, .int .i64 a0_6, .bool a0_7, .slice A0_8 l0_8.length c0_8]) (t := 24) ?hr ?_; (case hd => rfl); (case hg => rfl); (case hr => first | (go_simp; done) | (go_simp; rfl)); intro gb150 hg w4 hbox hb; have n0_ := Aside0.mk (below_step u6_8 hb); have n1_ := Aside0.mk (hbox); have n2_ := Aside0.mk ((by rw [hg]; exact (below_size u6_8) : w.heap.size ≤ gb150)); have n3_ := Aside0.mk ((by rw [hg]; exact (below_size u6_8) : w.heap.size ≤ gb150)); clear HB; have HB := n0_; have BK150 := n1_; have GW150 := n2_; have GE150 := n3_; clear n0_ n1_ n2_ n3_; clear hb hbox hg; have hcz5_0 : w4.cell? ⟨gb150, 0, none⟩ = some (.int .i64 a0_0) := (blk_cell BK150.out 0).trans rfl; have hcz5_1 : w4.cell? ⟨gb150, 1, none⟩ = some (.int .i64 a0_1) := (blk_cell BK150.out 1).trans rfl; have hcz5_2 : w4.cell? ⟨gb150, 2, none⟩ = some (.int .i64 a0_2) := (blk_cell BK150.out 2).trans rfl; have hcz5_3 : w4.cell? ⟨gb150, 3, none⟩ = some (.int .i64 a0_3) := (blk_cell BK150.out 3).trans rfl; have hcz5_4 : w4.cell? ⟨gb150, 4, none⟩ = some (.int .i64 a0_4) := (blk_cell BK150.out 4).trans rfl; have hcz5_5 : w4.cell? ⟨gb150, 5, none⟩ = some (.int .i64 a0_5) := (blk_cell BK150.out 5).trans rfl; have hcz5_6 : w4.cell? ⟨gb150, 6, none⟩ = some (.int .i64 a0_6) := (blk_cell BK150.out 6).trans rfl; have hcz5_7 : w4.cell? ⟨gb150, 7, none⟩ = some (.bool a0_7) := (blk_cell BK150.out 7).trans rfl; have hcz5_8 : w4.cell? ⟨gb150, 8, none⟩ = some (.slice A0_8 l0_8.length c0_8) := (blk_cell BK150.out 8).trans rfl; have hfz5_0 := blk_frozen BK150.out 0; have hfz5_1 := blk_frozen BK150.out 1; have hfz5_2 := blk_frozen BK150.out 2; have hfz5_3 := blk_frozen BK150.out 3; have hfz5_4 := blk_frozen BK150.out 4; have hfz5_5 := blk_frozen BK150.out 5; have hfz5_6 := blk_frozen BK150.out 6; have hfz5_7 := blk_frozen BK150.out 7; have hfz5_8 := blk_frozen BK150.out 8) | ((with_reducible refine gate_callee (f := 15) rfl ?_); refine goesL_ (some 11) rfl rfl Try.func15 (by kernel_rfl) rfl #[.agg #[.int .i64 a0_0, .int .i64 a0_1, .int .i64 a0_2, .int .i64 a0_3, .int .i64 a0_4, .int .i64 a0_5, .int .i64 a0_6, .bool a0_7, .slice A0_8 l0_8.length c0_8], .int .i64 1048576] rfl u6_2 ?_; (with_reducible refine (laws_szMsg.calls k a0_0 a0_1 a0_2 a0_3 a0_4 a0_5 a0_6 a0_7 _ _ l0_8 1048576 t151 _ ?side1 ?side2 A3.out).mono ?_); (case side1 => exact u6_6); (case side2 => exact HC0_8.out); rintro e w6 ⟨rfl, hb⟩; refine ⟨_, rfl, ?_⟩; have n0_ := Aside0.mk (blk_below (g := gb150) (o := .cells #[.int .i64 a0_0, .int .i64 a0_1, .int .i64 a0_2, .int .i64 a0_3, .int .i64 a0_4, .int .i64 a0_5, .int .i64 a0_6, .bool a0_7, .slice A0_8 l0_8.length c0_8] 24 (0, 0)) u6_1 hb); have n1_ := Aside0.mk (below_step u6_0 hb); clear BK150; clear HB; have BK150 := n0_; have HB := n1_; clear n0_ n1_; (try clear hb); (try clear hb2); (try clear hk); (try clear hi)))
  have H := H9.out
  clear H9
  by_cases c7 : t151 < 0
  · rw [if_pos c7] at H
    have c7b0 : decide (t151 < 0) = true := decide_eq_true c7
    clear c7
    (first | rw [c7b0] | (simp only [i64_w, i32_w]; rw [c7b0]) | skip)
    obtain rfl := Option.some.inj H
    go_wp2
    go_ret
    exact ⟨by first | rfl | (simp [errW_none, errW_some] <;> rfl) | (simp [*, errW_none, errW_some] <;> rfl), u6_0⟩
  rw [if_neg c7] at H
  have c7b0 : decide (t151 < 0) = false := decide_eq_false c7
  clear c7
  (first | rw [c7b0] | (simp only [i64_w, i32_w]; rw [c7b0]) | skip)
  replace H := Option.bind_eq_some_iff.mp H
  obtain ⟨⟨t152, t153, t154, t155, t156, t157, t158, t159, t160⟩, A80, H⟩ := H
  (try dsimp only at H)
  have A8 := Aside0.mk A80
  clear A80
  replace H := Option.bind_eq_some_iff.mp H
  obtain ⟨t163, A90, H⟩ := H
  have A9 := Aside0.mk A90
  clear A90
  replace H := Option.bind_eq_some_iff.mp H
  obtain ⟨⟨t164, t165, t166, t167, t168, t169, t170, t171, t172⟩, A100, H⟩ := H
  (try dsimp only at H)
  have A10 := Aside0.mk A100
  clear A100
  replace H := Option.bind_eq_some_iff.mp H
  obtain ⟨t176, A110, H⟩ := H
  have A11 := Aside0.mk A110
  clear A110
  by_cases c12 : (t176 != t163) = true
  · rw [if_pos c12] at H
    have c12b0 : (t176 != t163) = true := c12
    (try (have c12b1 : decide (t176 = t163) = false := by simpa using c12))
    (try (have c12b2 : (t176 == t163) = false := by simpa using c12))
    (try (have c12b3 : ¬ (t176 = t163) := by simpa using c12))
    clear c12
    exact absurd ((Option.some.inj H).trans hr_.out) (by decide)
  rw [if_neg c12] at H
  have c12b0 : (t176 != t163) = false := by simpa using c12
  (try (have c12b1 : decide (t176 = t163) = true := by simpa using c12))
  (try (have c12b2 : (t176 == t163) = true := by simpa using c12))
  clear c12
  replace H := Option.bind_eq_some_iff.mp H
  obtain ⟨⟨t177, t178, t179, t180, t181, t182, t183, t184, t185⟩, A130, H⟩ := H
  (try dsimp only at H)
  have A13 := Aside0.mk A130
  clear A130
  replace H := Option.bind_eq_some_iff.mp H
  obtain ⟨t188, A140, H⟩ := H
  replace H : (if t188 = true then (some true) else (some false)) = some r := H
  have A14 := Aside0.mk A140
  clear A140
  by_cases c15 : t188 = true
  rotate_left
  · replace c15 := Bool.eq_false_iff.mpr c15
    subst c15
    rw [if_neg (show ¬ (false = true) by decide)] at H
    exact absurd ((Option.some.inj H).trans hr_.out) (by decide)
  subst c15
  rw [if_pos rfl] at H
  obtain rfl := Option.some.inj H
  have hcz16_0 : w6.cell? ⟨gb150, 0, none⟩ = some (.int .i64 a0_0) := (blk_cell BK150.out 0).trans rfl
  have hcz16_1 : w6.cell? ⟨gb150, 1, none⟩ = some (.int .i64 a0_1) := (blk_cell BK150.out 1).trans rfl
  have hcz16_2 : w6.cell? ⟨gb150, 2, none⟩ = some (.int .i64 a0_2) := (blk_cell BK150.out 2).trans rfl
  have hcz16_3 : w6.cell? ⟨gb150, 3, none⟩ = some (.int .i64 a0_3) := (blk_cell BK150.out 3).trans rfl
  have hcz16_4 : w6.cell? ⟨gb150, 4, none⟩ = some (.int .i64 a0_4) := (blk_cell BK150.out 4).trans rfl
  have hcz16_5 : w6.cell? ⟨gb150, 5, none⟩ = some (.int .i64 a0_5) := (blk_cell BK150.out 5).trans rfl
  have hcz16_6 : w6.cell? ⟨gb150, 6, none⟩ = some (.int .i64 a0_6) := (blk_cell BK150.out 6).trans rfl
  have hcz16_7 : w6.cell? ⟨gb150, 7, none⟩ = some (.bool a0_7) := (blk_cell BK150.out 7).trans rfl
  have hcz16_8 : w6.cell? ⟨gb150, 8, none⟩ = some (.slice A0_8 l0_8.length c0_8) := (blk_cell BK150.out 8).trans rfl
  have hfz16_0 := blk_frozen BK150.out 0
  have hfz16_1 := blk_frozen BK150.out 1
  have hfz16_2 := blk_frozen BK150.out 2
  have hfz16_3 := blk_frozen BK150.out 3
  have hfz16_4 := blk_frozen BK150.out 4
  have hfz16_5 := blk_frozen BK150.out 5
  have hfz16_6 := blk_frozen BK150.out 6
  have hfz16_7 := blk_frozen BK150.out 7
  have hfz16_8 := blk_frozen BK150.out 8
  try go_wp2_with (first | ((with_reducible refine gate_callee (f := 17) rfl ?_); refine goesL_ (some 15) rfl rfl Try.func17 (by kernel_rfl) rfl #[.agg #[.int .i64 a0_0, .int .i64 a0_1, .int .i64 a0_2, .int .i64 a0_3, .int .i64 a0_4, .int .i64 a0_5, .int .i64 a0_6, .bool a0_7, .slice A0_8 l0_8.length c0_8]] rfl u6_2 ?_; (with_reducible refine (laws_toMsg.calls k a0_0 a0_1 a0_2 a0_3 a0_4 a0_5 a0_6 a0_7 _ _ l0_8 t152 t153 t154 t155 t156 t157 t158 t159 t160 _ ?side1 ?side2 A8.out).mono ?_); (case side1 => exact u6_6); (case side2 => exact HC0_8.out); rintro e w17 ⟨v161, rfl, ho0, hb⟩; refine ⟨_, rfl, ?_⟩; have n0_ := Aside0.mk (Kd.R_lower ho0 (below_size u6_0)); have n1_ := Aside0.mk (blk_below (g := gb150) (o := .cells #[.int .i64 a0_0, .int .i64 a0_1, .int .i64 a0_2, .int .i64 a0_3, .int .i64 a0_4, .int .i64 a0_5, .int .i64 a0_6, .bool a0_7, .slice A0_8 l0_8.length c0_8] 24 (0, 0)) u6_1 hb); have n2_ := Aside0.mk (below_step u6_0 hb); clear BK150; clear HB; have HO162 := n0_; have BK150 := n1_; have HB := n2_; clear n0_ n1_ n2_; (try clear hb); (try clear hb2); (try clear hk); (try clear hi); (try clear ho0); obtain ⟨Ao18, co18, eo18⟩ := Kd.R_slice HO162.out; subst eo18) | ((with_reducible refine gate_callee (f := 16) rfl ?_); refine goesL_ (some 17) rfl rfl Try.func16 (by kernel_rfl) rfl #[.agg #[.int .i64 t152, .int .i64 t153, .int .i64 t154, .int .i64 t155, .int .i64 t156, .int .i64 t157, .int .i64 t158, .bool t159, .slice Ao18 t160.length co18], .int .i64 a1] rfl u6_2 ?_; (with_reducible refine (spec_MsgOk.calls k t152 t153 t154 t155 t156 t157 t158 t159 _ _ t160 a1 t163 _ ?side1 ?side2 A9.out).mono ?_); (case side1 => exact (by repeat (first | exact (Kd.R_reads' HO162.out).2.2 | (with_reducible refine Kd.C_alloc ?_ _) | (with_reducible refine Kd.C_drewN ?_ _) | (with_reducible refine Kd.C_drew ?_)))); (case side2 => exact (Kd.R_reads' HO162.out).2.1); rintro e w19 ⟨rfl, hb⟩; refine ⟨_, rfl, ?_⟩; have n0_ := Aside0.mk (Kd.R_below u6_5 hb); have n1_ := Aside0.mk (blk_below (g := gb150) (o := .cells #[.int .i64 a0_0, .int .i64 a0_1, .int .i64 a0_2, .int .i64 a0_3, .int .i64 a0_4, .int .i64 a0_5, .int .i64 a0_6, .bool a0_7, .slice A0_8 l0_8.length c0_8] 24 (0, 0)) u6_1 hb); have n2_ := Aside0.mk (below_step u6_0 hb); clear HO162; clear BK150; clear HB; have HO162 := n0_; have BK150 := n1_; have HB := n2_; clear n0_ n1_ n2_; (try clear hb); (try clear hb2); (try clear hk); (try clear hi); have hcz20_0 : w19.cell? ⟨gb150, 0, none⟩ = some (.int .i64 a0_0) := (blk_cell BK150.out 0).trans rfl; have hcz20_1 : w19.cell? ⟨gb150, 1, none⟩ = some (.int .i64 a0_1) := (blk_cell BK150.out 1).trans rfl; have hcz20_2 : w19.cell? ⟨gb150, 2, none⟩ = some (.int .i64 a0_2) := (blk_cell BK150.out 2).trans rfl; have hcz20_3 : w19.cell? ⟨gb150, 3, none⟩ = some (.int .i64 a0_3) := (blk_cell BK150.out 3).trans rfl; have hcz20_4 : w19.cell? ⟨gb150, 4, none⟩ = some (.int .i64 a0_4) := (blk_cell BK150.out 4).trans rfl; have hcz20_5 : w19.cell? ⟨gb150, 5, none⟩ = some (.int .i64 a0_5) := (blk_cell BK150.out 5).trans rfl; have hcz20_6 : w19.cell? ⟨gb150, 6, none⟩ = some (.int .i64 a0_6) := (blk_cell BK150.out 6).trans rfl; have hcz20_7 : w19.cell? ⟨gb150, 7, none⟩ = some (.bool a0_7) := (blk_cell BK150.out 7).trans rfl; have hcz20_8 : w19.cell? ⟨gb150, 8, none⟩ = some (.slice A0_8 l0_8.length c0_8) := (blk_cell BK150.out 8).trans rfl; have hfz20_0 := blk_frozen BK150.out 0; have hfz20_1 := blk_frozen BK150.out 1; have hfz20_2 := blk_frozen BK150.out 2; have hfz20_3 := blk_frozen BK150.out 3; have hfz20_4 := blk_frozen BK150.out 4; have hfz20_5 := blk_frozen BK150.out 5; have hfz20_6 := blk_frozen BK150.out 6; have hfz20_7 := blk_frozen BK150.out 7; have hfz20_8 := blk_frozen BK150.out 8) | ((with_reducible refine gate_callee (f := 17) rfl ?_); refine goesL_ (some 19) rfl rfl Try.func17 (by kernel_rfl) rfl #[.agg #[.int .i64 a0_0, .int .i64 a0_1, .int .i64 a0_2, .int .i64 a0_3, .int .i64 a0_4, .int .i64 a0_5, .int .i64 a0_6, .bool a0_7, .slice A0_8 l0_8.length c0_8]] rfl u6_2 ?_; (with_reducible refine (laws_toMsg.calls k a0_0 a0_1 a0_2 a0_3 a0_4 a0_5 a0_6 a0_7 _ _ l0_8 t164 t165 t166 t167 t168 t169 t170 t171 t172 _ ?side1 ?side2 A10.out).mono ?_); (case side1 => exact u6_6); (case side2 => exact HC0_8.out); rintro e w21 ⟨v173, rfl, ho0, hb⟩; refine ⟨_, rfl, ?_⟩; have n0_ := Aside0.mk (Kd.R_elder' u6_5 (Kd.R_base ho0) hb); have n1_ := Aside0.mk (Kd.R_lower (Kd.R_new' ho0 (Kd.R_lt u6_5)) (below_size u6_0)); have n2_ := Aside0.mk (blk_below (g := gb150) (o := .cells #[.int .i64 a0_0, .int .i64 a0_1, .int .i64 a0_2, .int .i64 a0_3, .int .i64 a0_4, .int .i64 a0_5, .int .i64 a0_6, .bool a0_7, .slice A0_8 l0_8.length c0_8] 24 (0, 0)) u6_1 hb); have n3_ := Aside0.mk (below_step u6_0 hb); clear HO162; clear BK150; clear HB; have HO162 := n0_; have HO174 := n1_; have BK150 := n2_; have HB := n3_; clear n0_ n1_ n2_ n3_; (try clear hb); (try clear hb2); (try clear hk); (try clear hi); (try clear ho0)) | ((with_reducible refine gate_dst (N := 7) rfl ?_); refine box_event ?hg (N := 7) ?hd (cs := #[.int .i64 0, .int .i64 0, .int .i64 0, .int .i64 0, .int .i64 0, .int .i64 0, .int .i64 0, .bool false, .slice none 0 0]) (t := 29) ?hr ?_; (case hd => rfl); (case hg => rfl); (case hr => first | (go_simp; done) | (go_simp; rfl)); intro gb175 hg w22 hbox hb; have n0_ := Aside0.mk (Kd.R_below u6_5 hb); have n1_ := Aside0.mk (Kd.R_below u6_7 hb); have n2_ := Aside0.mk (blk_below (g := gb150) (o := .cells #[.int .i64 a0_0, .int .i64 a0_1, .int .i64 a0_2, .int .i64 a0_3, .int .i64 a0_4, .int .i64 a0_5, .int .i64 a0_6, .bool a0_7, .slice A0_8 l0_8.length c0_8] 24 (0, 0)) u6_1 hb); have n3_ := Aside0.mk (below_step u6_0 hb); have n4_ := Aside0.mk (hbox); have n5_ := Aside0.mk ((by rw [hg]; exact (below_size u6_0) : w.heap.size ≤ gb175)); have n6_ := Aside0.mk ((by rw [hg]; exact (below_size u6_0) : w.heap.size ≤ gb175)); have n7_ := Aside0.mk ((by rw [hg]; exact Nat.ne_of_lt (blk_lt (g := gb150) (o := .cells #[.int .i64 a0_0, .int .i64 a0_1, .int .i64 a0_2, .int .i64 a0_3, .int .i64 a0_4, .int .i64 a0_5, .int .i64 a0_6, .bool a0_7, .slice A0_8 l0_8.length c0_8] 24 (0, 0)) u6_1) : gb150 ≠ gb175)); have n8_ := Aside0.mk ((by rw [hg]; exact Nat.ne_of_gt (blk_lt (g := gb150) (o := .cells #[.int .i64 a0_0, .int .i64 a0_1, .int .i64 a0_2, .int .i64 a0_3, .int .i64 a0_4, .int .i64 a0_5, .int .i64 a0_6, .bool a0_7, .slice A0_8 l0_8.length c0_8] 24 (0, 0)) u6_1) : gb175 ≠ gb150)); clear HO162; clear HO174; clear BK150; clear HB; have HO162 := n0_; have HO174 := n1_; have BK150 := n2_; have HB := n3_; have BK175 := n4_; have GW175 := n5_; have GE175 := n6_; have NB150_175 := n7_; have NB175_150 := n8_; clear n0_ n1_ n2_ n3_ n4_ n5_ n6_ n7_ n8_; clear hb hbox hg; have hnb23 := NB175_150.out; have hnc23 := NB150_175.out; have hcz24_0 : w22.cell? ⟨gb175, 0, none⟩ = some (.int .i64 0) := (blk_cell BK175.out 0).trans rfl; have hcz24_1 : w22.cell? ⟨gb175, 1, none⟩ = some (.int .i64 0) := (blk_cell BK175.out 1).trans rfl; have hcz24_2 : w22.cell? ⟨gb175, 2, none⟩ = some (.int .i64 0) := (blk_cell BK175.out 2).trans rfl; have hcz24_3 : w22.cell? ⟨gb175, 3, none⟩ = some (.int .i64 0) := (blk_cell BK175.out 3).trans rfl; have hcz24_4 : w22.cell? ⟨gb175, 4, none⟩ = some (.int .i64 0) := (blk_cell BK175.out 4).trans rfl; have hcz24_5 : w22.cell? ⟨gb175, 5, none⟩ = some (.int .i64 0) := (blk_cell BK175.out 5).trans rfl; have hcz24_6 : w22.cell? ⟨gb175, 6, none⟩ = some (.int .i64 0) := (blk_cell BK175.out 6).trans rfl; have hcz24_7 : w22.cell? ⟨gb175, 7, none⟩ = some (.bool false) := (blk_cell BK175.out 7).trans rfl; have hcz24_8 : w22.cell? ⟨gb175, 8, none⟩ = some (.slice none 0 0) := (blk_cell BK175.out 8).trans rfl; have hfz24_0 := blk_frozen BK175.out 0; have hfz24_1 := blk_frozen BK175.out 1; have hfz24_2 := blk_frozen BK175.out 2; have hfz24_3 := blk_frozen BK175.out 3; have hfz24_4 := blk_frozen BK175.out 4; have hfz24_5 := blk_frozen BK175.out 5; have hfz24_6 := blk_frozen BK175.out 6; have hfz24_7 := blk_frozen BK175.out 7; have hfz24_8 := blk_frozen BK175.out 8; obtain ⟨Ao25, co25, eo25⟩ := Kd.R_slice HO174.out; subst eo25) | ((with_reducible refine gate_callee (f := 18) rfl ?_); refine goesL_ (some 22) rfl rfl Try.func18 (by kernel_rfl) rfl #[.agg #[.int .i64 t164, .int .i64 t165, .int .i64 t166, .int .i64 t167, .int .i64 t168, .int .i64 t169, .int .i64 t170, .bool t171, .slice Ao25 t172.length co25], .int .i64 a1] rfl u6_2 ?_; (with_reducible refine (impl_MsgOk.calls k t164 t165 t166 t167 t168 t169 t170 t171 _ _ t172 a1 t176 _ ?side1 ?side2 A11.out).mono ?_); (case side1 => exact (by refine (Kd.R_reads' (e := 85) (base := w.heap.size) (ok := fun k_ => (True ∧ some k_ ≠ (.slice Ao18 t160.length co18 : Value).ownBlock)) (n := t172.length) (c := co25) ?_).2.2; exact u6_3)); (case side2 => exact (Kd.R_reads' HO174.out).2.1); rintro e w26 ⟨rfl, hb⟩; refine ⟨_, rfl, ?_⟩; have n0_ := Aside0.mk (Kd.R_below (by (with_reducible repeat (first | apply Kd.R_alloc | apply Kd.R_drewN | apply Kd.R_drew)); exact (Kd.R_mono (Kd.R_far (p := ⟨gb175, 8, none⟩) (Kd.R_far (p := ⟨gb175, 7, none⟩) (Kd.R_far (p := ⟨gb175, 6, none⟩) (Kd.R_far (p := ⟨gb175, 5, none⟩) (Kd.R_far (p := ⟨gb175, 4, none⟩) (Kd.R_far (p := ⟨gb175, 3, none⟩) (Kd.R_far (p := ⟨gb175, 2, none⟩) (Kd.R_far (p := ⟨gb175, 1, none⟩) (Kd.R_far (p := ⟨gb175, 0, none⟩) (Kd.R_types HO162.out BK175.out (by decide)) (fun _ hk => hk.2) (.int .i64 t164)) (fun _ hk => hk.2) (.int .i64 t165)) (fun _ hk => hk.2) (.int .i64 t166)) (fun _ hk => hk.2) (.int .i64 t167)) (fun _ hk => hk.2) (.int .i64 t168)) (fun _ hk => hk.2) (.int .i64 t169)) (fun _ hk => hk.2) (.int .i64 t170)) (fun _ hk => hk.2) (.bool t171)) (fun _ hk => hk.2) (.slice Ao25 t172.length co25)) (fun _ h_ => h_.1))) hb); have n1_ := Aside0.mk (Kd.R_below u6_3 hb); have n2_ := Aside0.mk (blk_below (g := gb150) (o := .cells #[.int .i64 a0_0, .int .i64 a0_1, .int .i64 a0_2, .int .i64 a0_3, .int .i64 a0_4, .int .i64 a0_5, .int .i64 a0_6, .bool a0_7, .slice A0_8 l0_8.length c0_8] 24 (0, 0)) (by (with_reducible repeat (first | refine blk_drewN ?_ _ | refine blk_drew ?_ | refine blk_alloc ?_ _)); refine blk_far ?_ NB150_175.out _; (with_reducible repeat (first | refine blk_drewN ?_ _ | refine blk_drew ?_ | refine blk_alloc ?_ _)); refine blk_far ?_ NB150_175.out _; (with_reducible repeat (first | refine blk_drewN ?_ _ | refine blk_drew ?_ | refine blk_alloc ?_ _)); refine blk_far ?_ NB150_175.out _; (with_reducible repeat (first | refine blk_drewN ?_ _ | refine blk_drew ?_ | refine blk_alloc ?_ _)); refine blk_far ?_ NB150_175.out _; (with_reducible repeat (first | refine blk_drewN ?_ _ | refine blk_drew ?_ | refine blk_alloc ?_ _)); refine blk_far ?_ NB150_175.out _; (with_reducible repeat (first | refine blk_drewN ?_ _ | refine blk_drew ?_ | refine blk_alloc ?_ _)); refine blk_far ?_ NB150_175.out _; (with_reducible repeat (first | refine blk_drewN ?_ _ | refine blk_drew ?_ | refine blk_alloc ?_ _)); refine blk_far ?_ NB150_175.out _; (with_reducible repeat (first | refine blk_drewN ?_ _ | refine blk_drew ?_ | refine blk_alloc ?_ _)); refine blk_far ?_ NB150_175.out _; (with_reducible repeat (first | refine blk_drewN ?_ _ | refine blk_drew ?_ | refine blk_alloc ?_ _)); refine blk_far ?_ NB150_175.out _; (with_reducible repeat (first | refine blk_drewN ?_ _ | refine blk_drew ?_ | refine blk_alloc ?_ _)); exact BK150.out) hb); have n3_ := Aside0.mk (blk_below (g := gb175) (o := .cells #[.int .i64 t164, .int .i64 t165, .int .i64 t166, .int .i64 t167, .int .i64 t168, .int .i64 t169, .int .i64 t170, .bool t171, .slice Ao25 t172.length co25] 29 (0, 0)) (by (with_reducible repeat (first | refine blk_drewN ?_ _ | refine blk_drew ?_ | refine blk_alloc ?_ _)); refine blk_put (cs := #[.int .i64 t164, .int .i64 t165, .int .i64 t166, .int .i64 t167, .int .i64 t168, .int .i64 t169, .int .i64 t170, .bool t171, .slice none 0 0]) ?_ 8 _ rfl; (with_reducible repeat (first | refine blk_drewN ?_ _ | refine blk_drew ?_ | refine blk_alloc ?_ _)); refine blk_put (cs := #[.int .i64 t164, .int .i64 t165, .int .i64 t166, .int .i64 t167, .int .i64 t168, .int .i64 t169, .int .i64 t170, .bool false, .slice none 0 0]) ?_ 7 _ rfl; (with_reducible repeat (first | refine blk_drewN ?_ _ | refine blk_drew ?_ | refine blk_alloc ?_ _)); refine blk_put (cs := #[.int .i64 t164, .int .i64 t165, .int .i64 t166, .int .i64 t167, .int .i64 t168, .int .i64 t169, .int .i64 0, .bool false, .slice none 0 0]) ?_ 6 _ rfl; (with_reducible repeat (first | refine blk_drewN ?_ _ | refine blk_drew ?_ | refine blk_alloc ?_ _)); refine blk_put (cs := #[.int .i64 t164, .int .i64 t165, .int .i64 t166, .int .i64 t167, .int .i64 t168, .int .i64 0, .int .i64 0, .bool false, .slice none 0 0]) ?_ 5 _ rfl; (with_reducible repeat (first | refine blk_drewN ?_ _ | refine blk_drew ?_ | refine blk_alloc ?_ _)); refine blk_put (cs := #[.int .i64 t164, .int .i64 t165, .int .i64 t166, .int .i64 t167, .int .i64 0, .int .i64 0, .int .i64 0, .bool false, .slice none 0 0]) ?_ 4 _ rfl; (with_reducible repeat (first | refine blk_drewN ?_ _ | refine blk_drew ?_ | refine blk_alloc ?_ _)); refine blk_put (cs := #[.int .i64 t164, .int .i64 t165, .int .i64 t166, .int .i64 0, .int .i64 0, .int .i64 0, .int .i64 0, .bool false, .slice none 0 0]) ?_ 3 _ rfl; (with_reducible repeat (first | refine blk_drewN ?_ _ | refine blk_drew ?_ | refine blk_alloc ?_ _)); refine blk_put (cs := #[.int .i64 t164, .int .i64 t165, .int .i64 0, .int .i64 0, .int .i64 0, .int .i64 0, .int .i64 0, .bool false, .slice none 0 0]) ?_ 2 _ rfl; (with_reducible repeat (first | refine blk_drewN ?_ _ | refine blk_drew ?_ | refine blk_alloc ?_ _)); refine blk_put (cs := #[.int .i64 t164, .int .i64 0, .int .i64 0, .int .i64 0, .int .i64 0, .int .i64 0, .int .i64 0, .bool false, .slice none 0 0]) ?_ 1 _ rfl; (with_reducible repeat (first | refine blk_drewN ?_ _ | refine blk_drew ?_ | refine blk_alloc ?_ _)); refine blk_put (cs := #[.int .i64 0, .int .i64 0, .int .i64 0, .int .i64 0, .int .i64 0, .int .i64 0, .int .i64 0, .bool false, .slice none 0 0]) ?_ 0 _ rfl; (with_reducible repeat (first | refine blk_drewN ?_ _ | refine blk_drew ?_ | refine blk_alloc ?_ _)); exact BK175.out) hb); have n4_ := Aside0.mk (below_step u6_4 hb); clear HO162; clear HO174; clear BK150; clear BK175; clear HB; have HO162 := n0_; have HO174 := n1_; have BK150 := n2_; have BK175 := n3_; have HB := n4_; clear n0_ n1_ n2_ n3_ n4_; (try clear hb); (try clear hb2); (try clear hk); (try clear hi)))
  have n0_ := Aside0.mk (Kd.R_drew HO162.out)
  have n1_ := Aside0.mk (Kd.R_drew HO174.out)
  have n2_ := Aside0.mk (blk_drew BK150.out)
  have n3_ := Aside0.mk (blk_drew BK175.out)
  have n4_ := Aside0.mk (below_drew1 HB.out)
  clear HO162
  clear HO174
  clear BK150
  clear BK175
  clear HB
  have HO162 := n0_
  have HO174 := n1_
  have BK150 := n2_
  have BK175 := n3_
  have HB := n4_
  clear n0_ n1_ n2_ n3_ n4_
  refine start_ (n := 5) (S := fun w' => w'.cell? ⟨gb175, 0, none⟩ = some (.int .i64 t164) ∧ w'.cell? ⟨gb175, 1, none⟩ = some (.int .i64 t165) ∧ w'.cell? ⟨gb175, 2, none⟩ = some (.int .i64 t166) ∧ w'.cell? ⟨gb175, 3, none⟩ = some (.int .i64 t167) ∧ w'.cell? ⟨gb175, 4, none⟩ = some (.int .i64 t168) ∧ w'.cell? ⟨gb175, 5, none⟩ = some (.int .i64 t169) ∧ w'.cell? ⟨gb175, 6, none⟩ = some (.int .i64 t170) ∧ w'.cell? ⟨gb175, 7, none⟩ = some (.bool t171) ∧ w'.cell? ⟨gb175, 8, none⟩ = some (.slice Ao25 t172.length co25) ∧ w'.cell? ⟨gb150, 0, none⟩ = some (.int .i64 a0_0) ∧ w'.cell? ⟨gb150, 1, none⟩ = some (.int .i64 a0_1) ∧ w'.cell? ⟨gb150, 2, none⟩ = some (.int .i64 a0_2) ∧ w'.cell? ⟨gb150, 3, none⟩ = some (.int .i64 a0_3) ∧ w'.cell? ⟨gb150, 4, none⟩ = some (.int .i64 a0_4) ∧ w'.cell? ⟨gb150, 5, none⟩ = some (.int .i64 a0_5) ∧ w'.cell? ⟨gb150, 6, none⟩ = some (.int .i64 a0_6) ∧ w'.cell? ⟨gb150, 7, none⟩ = some (.bool a0_7) ∧ w'.cell? ⟨gb150, 8, none⟩ = some (.slice A0_8 l0_8.length c0_8)) (ds := []) #[false, false, false, false, false] (by kernel_rfl) rfl rfl ⟨(blk_cell BK175.out 0).trans rfl, (blk_cell BK175.out 1).trans rfl, (blk_cell BK175.out 2).trans rfl, (blk_cell BK175.out 3).trans rfl, (blk_cell BK175.out 4).trans rfl, (blk_cell BK175.out 5).trans rfl, (blk_cell BK175.out 6).trans rfl, (blk_cell BK175.out 7).trans rfl, (blk_cell BK175.out 8).trans rfl, (blk_cell BK150.out 0).trans rfl, (blk_cell BK150.out 1).trans rfl, (blk_cell BK150.out 2).trans rfl, (blk_cell BK150.out 3).trans rfl, (blk_cell BK150.out 4).trans rfl, (blk_cell BK150.out 5).trans rfl, (blk_cell BK150.out 6).trans rfl, (blk_cell BK150.out 7).trans rfl, (blk_cell BK150.out 8).trans rfl⟩ (fun hHeld => ?_)
  generalize w26.drew = w27 at HO162 HO174 BK150 BK175 HB hHeld ⊢
  refine take_ (i := 0) (N := some 26) (v := ?_) (a' := ?_) #[true, false, false, false, false] rfl rfl (by kernel_rfl) (fun _ _ _ h => h) (Or.inl ⟨by rfl, ?_⟩) hHeld ?_ ?_
  rotate_left
  · rintro w' ⟨s0, s1, s2, s3, s4, s5, s6, s7, s8, s9, s10, s11, s12, s13, s14, s15, s16, s17⟩
    go_simp
    with_reducible rfl
  rotate_left
  · simp only [Act.put, List.setIfInBounds_toArray, List.set_cons_zero, List.set_cons_succ, i64_w, i32_w]
    rfl
  refine take_ (i := 1) (N := some 27) (v := ?_) (a' := ?_) #[true, true, false, false, false] rfl rfl (by kernel_rfl) (fun _ _ _ h => h) (Or.inl ⟨by rfl, ?_⟩) hHeld ?_ ?_
  rotate_left
  · rintro w' ⟨s0, s1, s2, s3, s4, s5, s6, s7, s8, s9, s10, s11, s12, s13, s14, s15, s16, s17⟩
    go_simp
    with_reducible rfl
  rotate_left
  · simp only [Act.put, List.setIfInBounds_toArray, List.set_cons_zero, List.set_cons_succ, i64_w, i32_w]
    rfl
  refine one_ (i := 2) (N := some 28) #[true, true, true, false, false] rfl rfl (by kernel_rfl) (by decide) (fun K hK => ?_)
  refine goes_ Try.func17 (by kernel_rfl) rfl #[.agg #[.int .i64 a0_0, .int .i64 a0_1, .int .i64 a0_2, .int .i64 a0_3, .int .i64 a0_4, .int .i64 a0_5, .int .i64 a0_6, .bool a0_7, .slice A0_8 l0_8.length c0_8]] (by rfl) rfl rfl u6_2 ?_
  with_reducible refine (laws_toMsg.calls k a0_0 a0_1 a0_2 a0_3 a0_4 a0_5 a0_6 a0_7 _ _ l0_8 t177 t178 t179 t180 t181 t182 t183 t184 t185 _ ?side1 ?side2 A13.out).mono ?_
  (case side1 => exact u6_6)
  (case side2 => exact HC0_8.out)
  rintro e w28 ⟨v186, rfl, ho0, hb⟩
  refine ⟨_, rfl, ?_⟩
  have n0_ := Aside0.mk (Kd.R_elder' u6_5 (Kd.R_base ho0) hb)
  have n1_ := Aside0.mk (Kd.R_elder' u6_7 (Kd.R_base ho0) hb)
  have n2_ := Aside0.mk (Kd.R_lower (Kd.R_new' (Kd.R_new' ho0 (Kd.R_lt u6_5)) (Kd.R_lt u6_7)) (below_size u6_4))
  have n3_ := Aside0.mk (blk_below (g := gb150) (o := .cells #[.int .i64 a0_0, .int .i64 a0_1, .int .i64 a0_2, .int .i64 a0_3, .int .i64 a0_4, .int .i64 a0_5, .int .i64 a0_6, .bool a0_7, .slice A0_8 l0_8.length c0_8] 24 (0, 0)) u6_1 hb)
  have n4_ := Aside0.mk (blk_below (g := gb175) (o := .cells #[.int .i64 t164, .int .i64 t165, .int .i64 t166, .int .i64 t167, .int .i64 t168, .int .i64 t169, .int .i64 t170, .bool t171, .slice Ao25 t172.length co25] 29 (0, 0)) u6_9 hb)
  have n5_ := Aside0.mk (below_step u6_4 hb)
  clear HO162
  clear HO174
  clear BK150
  clear BK175
  clear HB
  have HO162 := n0_
  have HO174 := n1_
  have HO187 := n2_
  have BK150 := n3_
  have BK175 := n4_
  have HB := n5_
  clear n0_ n1_ n2_ n3_ n4_ n5_
  (try clear hb)
  (try clear hb2)
  (try clear hk)
  (try clear hi)
  (try clear ho0)
  obtain ⟨Ao29, co29, eo29⟩ := Kd.R_slice HO187.out
  (first | subst eo29 | (injection eo29 with f1_ f2_ f3_; have f4_ := f1_.symm; have f5_ := f3_.symm; clear f1_ f2_ f3_; subst f4_; subst f5_))
  refine hK.out _ _ ⟨(blk_cell BK175.out 0).trans rfl, (blk_cell BK175.out 1).trans rfl, (blk_cell BK175.out 2).trans rfl, (blk_cell BK175.out 3).trans rfl, (blk_cell BK175.out 4).trans rfl, (blk_cell BK175.out 5).trans rfl, (blk_cell BK175.out 6).trans rfl, (blk_cell BK175.out 7).trans rfl, (blk_cell BK175.out 8).trans rfl, (blk_cell BK150.out 0).trans rfl, (blk_cell BK150.out 1).trans rfl, (blk_cell BK150.out 2).trans rfl, (blk_cell BK150.out 3).trans rfl, (blk_cell BK150.out 4).trans rfl, (blk_cell BK150.out 5).trans rfl, (blk_cell BK150.out 6).trans rfl, (blk_cell BK150.out 7).trans rfl, (blk_cell BK150.out 8).trans rfl⟩ (fun hHeld => ?_)
  clear hK K
  refine norm_ (a' := ?_) ?_ ?_
  rotate_left
  · show Act.put _ (some 28) _ = _
    simp only [Act.put, List.setIfInBounds_toArray, List.set_cons_zero, List.set_cons_succ, i64_w, i32_w]
    rfl
  refine one_ (i := 3) (N := some 29) #[true, true, true, true, false] rfl rfl (by kernel_rfl) (by decide) (fun K hK => ?_)
  refine goes_ Try.func19 (by kernel_rfl) rfl #[.agg #[.int .i64 t164, .int .i64 t165, .int .i64 t166, .int .i64 t167, .int .i64 t168, .int .i64 t169, .int .i64 t170, .bool t171, .slice Ao25 t172.length co25], .agg #[.int .i64 t177, .int .i64 t178, .int .i64 t179, .int .i64 t180, .int .i64 t181, .int .i64 t182, .int .i64 t183, .bool t184, .slice Ao29 t185.length co29]] (by rfl) rfl rfl u6_2 ?_
  with_reducible refine (laws_eqMsg.calls k t164 t165 t166 t167 t168 t169 t170 t171 _ _ t172 t177 t178 t179 t180 t181 t182 t183 t184 _ _ t185 true _ ?side1 ?side2 ?side3 ?side4 A14.out).mono ?_
  (case side1 => exact (by repeat (first | exact (Kd.R_reads' HO174.out).2.2 | (with_reducible refine Kd.C_alloc ?_ _) | (with_reducible refine Kd.C_drewN ?_ _) | (with_reducible refine Kd.C_drew ?_))))
  (case side2 => exact (Kd.R_reads' HO174.out).2.1)
  (case side3 => exact (by repeat (first | exact (Kd.R_reads' HO187.out).2.2 | (with_reducible refine Kd.C_alloc ?_ _) | (with_reducible refine Kd.C_drewN ?_ _) | (with_reducible refine Kd.C_drew ?_))))
  (case side4 => exact (Kd.R_reads' HO187.out).2.1)
  rintro e w30 ⟨rfl, hb⟩
  refine ⟨_, rfl, ?_⟩
  have n0_ := Aside0.mk (Kd.R_below u6_5 hb)
  have n1_ := Aside0.mk (Kd.R_below u6_7 hb)
  have n2_ := Aside0.mk (Kd.R_below (by (with_reducible repeat (first | apply Kd.R_alloc | apply Kd.R_drewN | apply Kd.R_drew)); exact HO187.out) hb)
  have n3_ := Aside0.mk (blk_below (g := gb150) (o := .cells #[.int .i64 a0_0, .int .i64 a0_1, .int .i64 a0_2, .int .i64 a0_3, .int .i64 a0_4, .int .i64 a0_5, .int .i64 a0_6, .bool a0_7, .slice A0_8 l0_8.length c0_8] 24 (0, 0)) u6_1 hb)
  have n4_ := Aside0.mk (blk_below (g := gb175) (o := .cells #[.int .i64 t164, .int .i64 t165, .int .i64 t166, .int .i64 t167, .int .i64 t168, .int .i64 t169, .int .i64 t170, .bool t171, .slice Ao25 t172.length co25] 29 (0, 0)) u6_9 hb)
  have n5_ := Aside0.mk (below_step u6_4 hb)
  clear HO162
  clear HO174
  clear HO187
  clear BK150
  clear BK175
  clear HB
  have HO162 := n0_
  have HO174 := n1_
  have HO187 := n2_
  have BK150 := n3_
  have BK175 := n4_
  have HB := n5_
  clear n0_ n1_ n2_ n3_ n4_ n5_
  (try clear hb)
  (try clear hb2)
  (try clear hk)
  (try clear hi)
  refine hK.out _ _ ⟨(blk_cell BK175.out 0).trans rfl, (blk_cell BK175.out 1).trans rfl, (blk_cell BK175.out 2).trans rfl, (blk_cell BK175.out 3).trans rfl, (blk_cell BK175.out 4).trans rfl, (blk_cell BK175.out 5).trans rfl, (blk_cell BK175.out 6).trans rfl, (blk_cell BK175.out 7).trans rfl, (blk_cell BK175.out 8).trans rfl, (blk_cell BK150.out 0).trans rfl, (blk_cell BK150.out 1).trans rfl, (blk_cell BK150.out 2).trans rfl, (blk_cell BK150.out 3).trans rfl, (blk_cell BK150.out 4).trans rfl, (blk_cell BK150.out 5).trans rfl, (blk_cell BK150.out 6).trans rfl, (blk_cell BK150.out 7).trans rfl, (blk_cell BK150.out 8).trans rfl⟩ (fun hHeld => ?_)
  clear hK K
  refine norm_ (a' := ?_) ?_ ?_
  rotate_left
  · show Act.put _ (some 29) _ = _
    simp only [Act.put, List.setIfInBounds_toArray, List.set_cons_zero, List.set_cons_succ, i64_w, i32_w]
    rfl
  refine pure_ (i := 4) (N := some 30) (v := ?_) (a' := ?_) #[true, true, true, true, true] rfl rfl (by kernel_rfl) (fun _ _ _ h => h) (Or.inl ⟨by rfl, ?_⟩) ?_ ?_
  rotate_left
  · intro w'
    go_simp
    with_reducible rfl
  rotate_left
  · simp only [Act.put, List.setIfInBounds_toArray, List.set_cons_zero, List.set_cons_succ, i64_w, i32_w]
    rfl
  refine done_ (by kernel_rfl) ?_
  try go_wp2
  go_ret
  exact ⟨by first | rfl | (simp [errW_none, errW_some] <;> rfl) | (simp [*, errW_none, errW_some] <;> rfl), u6_4⟩

end Go.Proofs.Ytkcadcoohmofcaa.QFnExactMsgOk
