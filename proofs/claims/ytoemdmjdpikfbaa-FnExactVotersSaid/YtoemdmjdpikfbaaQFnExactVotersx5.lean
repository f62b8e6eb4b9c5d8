-- Printed by the session's own program wip/prx.py.
import Derived.Test.YtoemdmjdpikfbaaQFnExactVotersx0
import Derived.Test.YtoemdmjdpikfbaaQFnExactVotersx2
import Derived.Test.YtoemdmjdpikfbaaQFnExactVotersx3
import Derived.Test.YtoemdmjdpikfbaaQFnExactVotersx4
namespace Go.Proofs.Ytoemdmjdpikfbaa.QFnExactVoters
open Go.RowKit Go.Proofs.YtoemdmjdpikfbaaW.PrintWords Go.Proofs.YtoemdmjdpikfbaaW.PrintLast Go.Proofs.YtoemdmjdpikfbaaW.PrintMore
attribute [local go_sem] max2_int min2_int max_two min_two max_three min_three max_four min_four Go.Proofs.Ytoemdmjdpikfbaa.Set.isSome_setCell   -- for this text's walks alone
set_option linter.unusedVariables false
set_option linter.unusedSimpArgs false

-- squeezed
theorem u5_0 {P : Prop} (h : P := by repeat (first | (with_reducible first | exact HB.out | apply below_alloc | apply pw_below_drewN | apply below_drew1 | refine below_set ?_ GE195.out | refine below_set ?_ GE218.out) | exact HB.out)) : P := h
theorem u5_1 {P : Prop} (h : P := by repeat (first | (with_reducible first | exact HB.out | apply below_alloc | apply pw_below_drewN | apply below_drew1 | refine below_set ?_ GE195.out) | exact HB.out)) : P := h
theorem u5_2 {P : Prop} (h : P := by (with_reducible repeat (first | apply Kd.R_alloc | apply Kd.R_drewN | apply Kd.R_drew)); exact HO199.out) : P := h
theorem u5_3 {P : Prop} (h : P := by (with_reducible repeat (first | apply Kd.R_alloc | apply Kd.R_drewN | apply Kd.R_drew)); exact HO202.out) : P := h
theorem u5_4 {P : Prop} (h : P := by (with_reducible repeat (first | apply Kd.R_alloc | apply Kd.R_drewN | apply Kd.R_drew)); exact HO205.out) : P := h
theorem u5_5 {P : Prop} (h : P := by (try simp only [List.map_toArray, List.map_cons, List.map_nil]); first | done | rfl | (simp only [List.length_drop, List.length_take]; rfl)) : P := h
theorem u5_6 {P : Prop} (h : P := by (with_reducible repeat (first | apply Kd.R_alloc | apply Kd.R_drewN | apply Kd.R_drew)); exact HO208.out) : P := h
theorem u5_7 {P : Prop} (h : P := by (with_reducible repeat (first | refine blk_drewN ?_ _ | refine blk_drew ?_ | refine blk_alloc ?_ _)); exact BK195.out) : P := h
theorem u5_8 {P : Prop} (h : P := by (with_reducible repeat (first | apply Kd.R_alloc | apply Kd.R_drewN | apply Kd.R_drew)); exact HO211.out) : P := h
theorem u5_9 {P : Prop} (h : P := by (with_reducible repeat (first | apply Kd.R_alloc | apply Kd.R_drewN | apply Kd.R_drew)); exact HO214.out) : P := h
theorem u5_10 {P : Prop} (h : P := by (with_reducible repeat (first | apply Kd.R_alloc | apply Kd.R_drewN | apply Kd.R_drew)); exact HO217.out) : P := h
theorem u5_11 {P : Prop} (h : P := by (with_reducible repeat (first | apply Kd.R_alloc | apply Kd.R_drewN | apply Kd.R_drew)); exact HO221.out) : P := h
theorem u5_12 {P : Prop} (h : P := by (with_reducible repeat (first | apply Kd.R_alloc | apply Kd.R_drewN | apply Kd.R_drew)); exact (Kd.R_mono (Kd.R_far (p := ⟨gb218, 2, none⟩) (Kd.R_far (p := ⟨gb218, 1, none⟩) (Kd.R_far (p := ⟨gb218, 0, none⟩) (Kd.R_types HO211.out BK218.out (by decide)) (fun _ hk => hk.2) (.slice Ao40 t209.length co40)) (fun _ hk => hk.2) (.slice Ao43 t212.length co43)) (fun _ hk => hk.2) (.slice Ao44 t215.length co44)) (fun _ h_ => h_.1))) : P := h
theorem u5_13 {P : Prop} (h : P := by (with_reducible repeat (first | apply Kd.R_alloc | apply Kd.R_drewN | apply Kd.R_drew)); exact (Kd.R_mono (Kd.R_far (p := ⟨gb218, 2, none⟩) (Kd.R_far (p := ⟨gb218, 1, none⟩) (Kd.R_far (p := ⟨gb218, 0, none⟩) (Kd.R_types HO214.out BK218.out (by decide)) (fun _ hk => hk.2) (.slice Ao40 t209.length co40)) (fun _ hk => hk.2) (.slice Ao43 t212.length co43)) (fun _ hk => hk.2) (.slice Ao44 t215.length co44)) (fun _ h_ => h_.1))) : P := h
theorem u5_14 {P : Prop} (h : P := by (with_reducible repeat (first | apply Kd.R_alloc | apply Kd.R_drewN | apply Kd.R_drew)); exact (Kd.R_mono (Kd.R_far (p := ⟨gb218, 2, none⟩) (Kd.R_far (p := ⟨gb218, 1, none⟩) (Kd.R_far (p := ⟨gb218, 0, none⟩) (Kd.R_types HO217.out BK218.out (by decide)) (fun _ hk => hk.2) (.slice Ao40 t209.length co40)) (fun _ hk => hk.2) (.slice Ao43 t212.length co43)) (fun _ hk => hk.2) (.slice Ao44 t215.length co44)) (fun _ h_ => h_.1))) : P := h
theorem u5_15 {P : Prop} (h : P := by (with_reducible repeat (first | apply Kd.R_alloc | apply Kd.R_drewN | apply Kd.R_drew)); exact HO225.out) : P := h
theorem u5_16 {P : Prop} (h : P := by (with_reducible repeat (first | apply Kd.R_alloc | apply Kd.R_drewN | apply Kd.R_drew)); exact HO228.out) : P := h
theorem u5_17 {P : Prop} (h : P := by (with_reducible repeat (first | apply Kd.R_alloc | apply Kd.R_drewN | apply Kd.R_drew)); exact HO231.out) : P := h
theorem u5_18 {P : Prop} (h : P := by (with_reducible repeat (first | refine blk_drewN ?_ _ | refine blk_drew ?_ | refine blk_alloc ?_ _)); exact BK218.out) : P := h
theorem u5_19 {P : Prop} (h : P := by repeat (first | exact (Kd.C_below HR0_0.out HB.out) | (with_reducible refine Kd.C_alloc ?_ _) | (with_reducible refine Kd.C_drewN ?_ _) | (with_reducible refine Kd.C_drew ?_))) : P := h
theorem u5_20 {P : Prop} (h : P := by repeat (first | exact (Kd.C_below HR0_1.out HB.out) | (with_reducible refine Kd.C_alloc ?_ _) | (with_reducible refine Kd.C_drewN ?_ _) | (with_reducible refine Kd.C_drew ?_))) : P := h
theorem u5_21 {P : Prop} (h : P := by repeat (first | exact (Kd.C_below HR0_2.out HB.out) | (with_reducible refine Kd.C_alloc ?_ _) | (with_reducible refine Kd.C_drewN ?_ _) | (with_reducible refine Kd.C_drew ?_))) : P := h
theorem u5_22 {P : Prop} (h : P := by repeat (first | exact (Kd.R_reads' HO221.out).2.2 | (with_reducible refine Kd.C_alloc ?_ _) | (with_reducible refine Kd.C_drewN ?_ _) | (with_reducible refine Kd.C_drew ?_))) : P := h
theorem u5_23 {P : Prop} (h : P := by (with_reducible repeat (first | apply Kd.R_alloc | apply Kd.R_drewN | apply Kd.R_drew)); exact (Kd.R_mono (Kd.R_far (p := ⟨gb218, 2, none⟩) (Kd.R_far (p := ⟨gb218, 1, none⟩) (Kd.R_far (p := ⟨gb218, 0, none⟩) (Kd.R_types HO199.out BK218.out (by decide)) (fun _ hk => hk.2) (.slice Ao40 t209.length co40)) (fun _ hk => hk.2) (.slice Ao43 t212.length co43)) (fun _ hk => hk.2) (.slice Ao44 t215.length co44)) (fun _ h_ => h_.1))) : P := h
theorem u5_24 {P : Prop} (h : P := by (with_reducible repeat (first | apply Kd.R_alloc | apply Kd.R_drewN | apply Kd.R_drew)); exact (Kd.R_mono (Kd.R_far (p := ⟨gb218, 2, none⟩) (Kd.R_far (p := ⟨gb218, 1, none⟩) (Kd.R_far (p := ⟨gb218, 0, none⟩) (Kd.R_types HO202.out BK218.out (by decide)) (fun _ hk => hk.2) (.slice Ao40 t209.length co40)) (fun _ hk => hk.2) (.slice Ao43 t212.length co43)) (fun _ hk => hk.2) (.slice Ao44 t215.length co44)) (fun _ h_ => h_.1))) : P := h
theorem u5_25 {P : Prop} (h : P := by (with_reducible repeat (first | apply Kd.R_alloc | apply Kd.R_drewN | apply Kd.R_drew)); exact (Kd.R_mono (Kd.R_far (p := ⟨gb218, 2, none⟩) (Kd.R_far (p := ⟨gb218, 1, none⟩) (Kd.R_far (p := ⟨gb218, 0, none⟩) (Kd.R_types HO205.out BK218.out (by decide)) (fun _ hk => hk.2) (.slice Ao40 t209.length co40)) (fun _ hk => hk.2) (.slice Ao43 t212.length co43)) (fun _ hk => hk.2) (.slice Ao44 t215.length co44)) (fun _ h_ => h_.1))) : P := h
theorem u5_26 {P : Prop} (h : P := by (with_reducible repeat (first | apply Kd.R_alloc | apply Kd.R_drewN | apply Kd.R_drew)); exact (Kd.R_mono (Kd.R_far (p := ⟨gb218, 2, none⟩) (Kd.R_far (p := ⟨gb218, 1, none⟩) (Kd.R_far (p := ⟨gb218, 0, none⟩) (Kd.R_types HO208.out BK218.out (by decide)) (fun _ hk => hk.2) (.slice Ao40 t209.length co40)) (fun _ hk => hk.2) (.slice Ao43 t212.length co43)) (fun _ hk => hk.2) (.slice Ao44 t215.length co44)) (fun _ h_ => h_.1))) : P := h
theorem u5_27 {P : Prop} (h : P := by repeat (first | exact (Kd.R_reads' HO208.out).2.2 | (with_reducible refine Kd.C_alloc ?_ _) | (with_reducible refine Kd.C_drewN ?_ _) | (with_reducible refine Kd.C_drew ?_))) : P := h
theorem u5_28 {P : Prop} (h : P := by repeat (first | (with_reducible first | exact HB.out | apply below_alloc | apply pw_below_drewN | apply below_drew1) | exact HB.out)) : P := h
theorem u5_29 {P : Prop} (h : P := by (try simp only [List.map_toArray, List.map_cons, List.map_nil]); first | done | (rw [show t239.length = t219.length from (Kd.R_reads' HO221.out).1.symm] <;> rfl) | rfl | (simp only [List.length_drop, List.length_take]; rfl)) : P := h
theorem u5_30 {P : Prop} (h : P := by rw [show t239.length = t219.length from (Kd.R_reads' HO221.out).1.symm]; exact (Kd.R_reads' HO221.out).2.1) : P := h
theorem u5_31 {P : Prop} (h : P := by (with_reducible repeat (first | apply Kd.R_alloc | apply Kd.R_drewN | apply Kd.R_drew)); exact HO243.out) : P := h
theorem u5_32 {P : Prop} (h : P := by (with_reducible repeat (first | apply Kd.R_alloc | apply Kd.R_drewN | apply Kd.R_drew)); exact HO246.out) : P := h
theorem u5_33 {P : Prop} (h : P := by (with_reducible repeat (first | apply Kd.R_alloc | apply Kd.R_drewN | apply Kd.R_drew)); exact HO249.out) : P := h
/-! ### laws_FnExactVoters: function 5 -/
def laws_FnExactVoters.f (k : Nat) (l0_0 : List Int) (l0_1 : List Int) (l0_2 : List Int) : Option (Bool) := (laws_szConf.f l0_0 l0_1 l0_2 1048576).bind fun t196 => (if t196 < 0 then (some true) else ((laws_toConf.f k l0_0 l0_1 l0_2).bind fun bt197 => ((spec_Voters.f k bt197.1 bt197.2.1 bt197.2.2).bind fun t206 => ((laws_toConf.f k l0_0 l0_1 l0_2).bind fun bt209 => ((impl_Voters.f k bt209.1 bt209.2.1 bt209.2.2).bind fun t219 => ((laws_eqIntS.f k t219 t206).bind fun t222 => (if t222 = true then ((laws_toConf.f k l0_0 l0_1 l0_2).bind fun bt223 => ((laws_eqConf.f k bt209.1 bt209.2.1 bt209.2.2 bt223.1 bt223.2.1 bt223.2.2).bind fun t232 => (if t232 = true then ((laws_markConf.f k bt209.1 bt209.2.1 bt209.2.2 1).bind fun bt233 => (if bt233.1 < 0 then (some false) else ((laws_eqIntS.f k t219 t206).bind fun t237 => (if t237 = true then ((laws_markIntS.f k t219 1).bind fun bt238 => ((laws_heldIntS.f k bt238.2 1).bind fun t240 => (if t240 < 0 then (some false) else (if t240 = bt238.1 then ((laws_toConf.f k l0_0 l0_1 l0_2).bind fun bt241 => ((impl_Voters.f k bt241.1 bt241.2.1 bt241.2.2).bind fun t250 => ((laws_eqIntS.f k t250 t206).bind fun t253 => (if t253 = true then ((laws_heldIntS.f k bt238.2 1).bind fun t254 => (if t254 < 0 then (some false) else (if t254 = bt238.1 then (some true) else (some false)))) else (some false))))) else (some false))))) else (some false))))) else (some false)))) else (some false))))))))
theorem laws_FnExactVoters.mono : ∀ a0 a1 a2 k, LeO (laws_FnExactVoters.f k a0 a1 a2) (laws_FnExactVoters.f (k + 1) a0 a1 a2) := by
  intro a0 a1 a2 k
  unfold laws_FnExactVoters.f
  repeat' first
      | (with_reducible exact impl_Voters.mono _ _ _ _)
      | (with_reducible exact laws_eqConf.mono _ _ _ _ _ _ _)
      | (with_reducible exact laws_eqIntS.mono _ _ _)
      | (with_reducible exact laws_heldIntS.mono _ _ _)
      | (with_reducible exact laws_markConf.mono _ _ _ _ _)
      | (with_reducible exact laws_markIntS.mono _ _ _)
      | (with_reducible exact laws_toConf.mono _ _ _ _)
      | (with_reducible exact spec_Voters.mono _ _ _ _)
      | (with_reducible exact LeO.refl _)
      | (with_reducible exact LeO.none _)
      | (with_reducible refine LeO.ite ?_ ?_)
      | (with_reducible refine LeO.bind ?_ (fun _ => ?_))
      | exact impl_Voters.mono _ _ _ _
      | exact laws_eqConf.mono _ _ _ _ _ _ _
      | exact laws_eqIntS.mono _ _ _
      | exact laws_heldIntS.mono _ _ _
      | exact laws_markConf.mono _ _ _ _ _
      | exact laws_markIntS.mono _ _ _
      | exact laws_toConf.mono _ _ _ _
      | exact spec_Voters.mono _ _ _ _
      | exact LeO.none _
      | refine LeO.ite ?_ ?_
      | refine LeO.bind ?_ (fun _ => ?_)
set_option maxHeartbeats 8000000 in
set_option maxRecDepth 100000 in
theorem laws_FnExactVoters.calls (k : Nat) (A0_0 : Option Addr) (c0_0 : Nat) (l0_0 : List Int) (A0_1 : Option Addr) (c0_1 : Nat) (l0_1 : List Int) (A0_2 : Option Addr) (c0_2 : Nat) (l0_2 : List Int) (r : Bool) (w : World) (hr0_0 : Kd.C (Kd.int .i64) w A0_0 l0_0.length l0_0) (hc0_0 : l0_0.length ≤ c0_0) (hr0_1 : Kd.C (Kd.int .i64) w A0_1 l0_1.length l0_1) (hc0_1 : l0_1.length ≤ c0_1) (hr0_2 : Kd.C (Kd.int .i64) w A0_2 l0_2.length l0_2) (hc0_2 : l0_2.length ≤ c0_2) (h : laws_FnExactVoters.f k l0_0 l0_1 l0_2 = some r) (hr_ : Aside0 (r = true)) :
    Calls Try.prog 5 #[.agg #[.slice A0_0 l0_0.length c0_0, .slice A0_1 l0_1.length c0_1, .slice A0_2 l0_2.length c0_2]] w fun e w' => e = .returned (.bool r) ∧ Below w.heap.size w w' := by
  have hu39 := Try.underlying39
  have hu26 := Try.underlying26
  have HR0_0 := Aside0.mk hr0_0
  have HC0_0 := Aside0.mk hc0_0
  clear hr0_0 hc0_0
  have HR0_1 := Aside0.mk hr0_1
  have HC0_1 := Aside0.mk hc0_1
  clear hr0_1 hc0_1
  have HR0_2 := Aside0.mk hr0_2
  have HC0_2 := Aside0.mk hc0_2
  clear hr0_2 hc0_2
  have HB := Aside0.mk (Below.refl w.heap.size w)
  have H : ((laws_szConf.f l0_0 l0_1 l0_2 1048576).bind fun t196 => (if t196 < 0 then (some true) else ((laws_toConf.f k l0_0 l0_1 l0_2).bind fun bt197 => ((spec_Voters.f k bt197.1 bt197.2.1 bt197.2.2).bind fun t206 => ((laws_toConf.f k l0_0 l0_1 l0_2).bind fun bt209 => ((impl_Voters.f k bt209.1 bt209.2.1 bt209.2.2).bind fun t219 => ((laws_eqIntS.f k t219 t206).bind fun t222 => (if t222 = true then ((laws_toConf.f k l0_0 l0_1 l0_2).bind fun bt223 => ((laws_eqConf.f k bt209.1 bt209.2.1 bt209.2.2 bt223.1 bt223.2.1 bt223.2.2).bind fun t232 => (if t232 = true then ((laws_markConf.f k bt209.1 bt209.2.1 bt209.2.2 1).bind fun bt233 => (if bt233.1 < 0 then (some false) else ((laws_eqIntS.f k t219 t206).bind fun t237 => (if t237 = true then ((laws_markIntS.f k t219 1).bind fun bt238 => ((laws_heldIntS.f k bt238.2 1).bind fun t240 => (if t240 < 0 then (some false) else (if t240 = bt238.1 then ((laws_toConf.f k l0_0 l0_1 l0_2).bind fun bt241 => ((impl_Voters.f k bt241.1 bt241.2.1 bt241.2.2).bind fun t250 => ((laws_eqIntS.f k t250 t206).bind fun t253 => (if t253 = true then ((laws_heldIntS.f k bt238.2 1).bind fun t254 => (if t254 < 0 then (some false) else (if t254 = bt238.1 then (some true) else (some false)))) else (some false))))) else (some false))))) else (some false))))) else (some false)))) else (some false))))))))) = some r := h
  clear h
  replace H := Option.bind_eq_some_iff.mp H
  obtain ⟨t196, A20, H⟩ := H
  have A2 := Aside0.mk A20
  clear A20
  have H9 := Aside0.mk H
  clear H
  go_enter Try.func5, Try.ntmps5
  go_upto_if 15 with (first | ((with_reducible refine gate_dst (N := 1) rfl ?_); refine box_event ?hg (N := 1) ?hd (cs := #[.slice A0_0 l0_0.length c0_0, .slice A0_1 l0_1.length c0_1, .slice A0_2 l0_2.length c0_2]) (t := 39) ?hr ?_; (case hd => rfl); (case hg => rfl); (case hr => first | (go_simp; done) | (go_simp; rfl)); intro gb195 hg w3 hbox hb; have n0_ := Aside0.mk (below_step u5_28 hb); have n1_ := Aside0.mk (hbox); have n2_ := Aside0.mk ((by rw [hg]; exact (below_size u5_28) : w.heap.size ≤ gb195)); have n3_ := Aside0.mk ((by rw [hg]; exact (below_size u5_28) : w.heap.size ≤ gb195)); clear HB; have HB := n0_; have BK195 := n1_; have GW195 := n2_; have GE195 := n3_; clear n0_ n1_ n2_ n3_; clear hb hbox hg; have hcz4_0 : w3.cell? ⟨gb195, 0, none⟩ = some (.slice A0_0 l0_0.length c0_0) := (blk_cell BK195.out 0).trans rfl; have hcz4_1 : w3.cell? ⟨gb195, 1, none⟩ = some (.slice A0_1 l0_1.length c0_1) := (blk_cell BK195.out 1).trans rfl; have hcz4_2 : w3.cell? ⟨gb195, 2, none⟩ = some (.slice A0_2 l0_2.length c0_2) := (blk_cell BK195.out 2).trans rfl; have hfz4_0 := blk_frozen BK195.out 0; have hfz4_1 := blk_frozen BK195.out 1; have hfz4_2 := blk_frozen BK195.out 2) | ((with_reducible refine gate_callee (f := 20) rfl ?_); refine goesL_ (some 13) rfl rfl Try.func20 (by kernel_rfl) rfl #[.agg #[.slice A0_0 l0_0.length c0_0, .slice A0_1 l0_1.length c0_1, .slice A0_2 l0_2.length c0_2], .int .i64 1048576] rfl u5_5 ?_; (with_reducible refine (laws_szConf.calls _ _ l0_0 _ _ l0_1 _ _ l0_2 1048576 t196 _ ?side1 ?side2 ?side3 ?side4 ?side5 ?side6 A2.out).mono ?_); (case side1 => exact u5_19); (case side2 => exact HC0_0.out); (case side3 => exact u5_20); (case side4 => exact HC0_1.out); (case side5 => exact u5_21); (case side6 => exact HC0_2.out); rintro e w5 ⟨rfl, hb⟩; refine ⟨_, rfl, ?_⟩; have n0_ := Aside0.mk (blk_below (g := gb195) (o := .cells #[.slice A0_0 l0_0.length c0_0, .slice A0_1 l0_1.length c0_1, .slice A0_2 l0_2.length c0_2] 39 (0, 0)) u5_7 hb); have n1_ := Aside0.mk (below_step u5_1 hb); clear BK195; clear HB; have BK195 := n0_; have HB := n1_; clear n0_ n1_; (try clear hb); (try clear hb2); (try clear hk); (try clear hi)))
  have H := H9.out
  clear H9
  by_cases c6 : t196 < 0
  · rw [if_pos c6] at H
    have c6b0 : decide (t196 < 0) = true := decide_eq_true c6
    clear c6
    (first | rw [c6b0] | (simp only [i64_w, i32_w]; rw [c6b0]) | skip)
    obtain rfl := Option.some.inj H
    go_wp2
    go_ret
    exact ⟨by first | rfl | (simp [errW_none, errW_some] <;> rfl) | (simp [*, errW_none, errW_some] <;> rfl), u5_1⟩
  rw [if_neg c6] at H
  have c6b0 : decide (t196 < 0) = false := decide_eq_false c6
  clear c6
  (first | rw [c6b0] | (simp only [i64_w, i32_w]; rw [c6b0]) | skip)
  replace H := Option.bind_eq_some_iff.mp H
  obtain ⟨⟨t197, t200, t203⟩, A70, H⟩ := H
  (try dsimp only at H)
  have A7 := Aside0.mk A70
  clear A70
  replace H := Option.bind_eq_some_iff.mp H
  obtain ⟨t206, A80, H⟩ := H
  have A8 := Aside0.mk A80
  clear A80
  replace H := Option.bind_eq_some_iff.mp H
  obtain ⟨⟨t209, t212, t215⟩, A90, H⟩ := H
  (try dsimp only at H)
  have A9 := Aside0.mk A90
  clear A90
  replace H := Option.bind_eq_some_iff.mp H
  obtain ⟨t219, A100, H⟩ := H
  have A10 := Aside0.mk A100
  clear A100
  replace H := Option.bind_eq_some_iff.mp H
  obtain ⟨t222, A110, H⟩ := H
  have A11 := Aside0.mk A110
  clear A110
  by_cases c12 : t222 = true
  rotate_left
  · replace c12 := Bool.eq_false_iff.mpr c12
    subst c12
    rw [if_neg (show ¬ (false = true) by decide)] at H
    exact absurd ((Option.some.inj H).trans hr_.out) (by decide)
  subst c12
  rw [if_pos rfl] at H
  replace H := Option.bind_eq_some_iff.mp H
  obtain ⟨⟨t223, t226, t229⟩, A130, H⟩ := H
  (try dsimp only at H)
  have A13 := Aside0.mk A130
  clear A130
  replace H := Option.bind_eq_some_iff.mp H
  obtain ⟨t232, A140, H⟩ := H
  have A14 := Aside0.mk A140
  clear A140
  by_cases c15 : t232 = true
  rotate_left
  · replace c15 := Bool.eq_false_iff.mpr c15
    subst c15
    rw [if_neg (show ¬ (false = true) by decide)] at H
    exact absurd ((Option.some.inj H).trans hr_.out) (by decide)
  subst c15
  rw [if_pos rfl] at H
  replace H := Option.bind_eq_some_iff.mp H
  obtain ⟨⟨t233, t234, t235, t236⟩, A160, H⟩ := H
  (try dsimp only at H)
  have A16 := Aside0.mk A160
  clear A160
  by_cases c17 : t233 < 0
  · rw [if_pos c17] at H
    have c17b0 : decide (t233 < 0) = true := decide_eq_true c17
    clear c17
    exact absurd ((Option.some.inj H).trans hr_.out) (by decide)
  rw [if_neg c17] at H
  have c17b0 : decide (t233 < 0) = false := decide_eq_false c17
  clear c17
  replace H := Option.bind_eq_some_iff.mp H
  obtain ⟨t237, A180, H⟩ := H
  have A18 := Aside0.mk A180
  clear A180
  by_cases c19 : t237 = true
  rotate_left
  · replace c19 := Bool.eq_false_iff.mpr c19
    subst c19
    rw [if_neg (show ¬ (false = true) by decide)] at H
    exact absurd ((Option.some.inj H).trans hr_.out) (by decide)
  subst c19
  rw [if_pos rfl] at H
  replace H := Option.bind_eq_some_iff.mp H
  obtain ⟨⟨t238, t239⟩, A200, H⟩ := H
  (try dsimp only at H)
  have A20 := Aside0.mk A200
  clear A200
  replace H := Option.bind_eq_some_iff.mp H
  obtain ⟨t240, A210, H⟩ := H
  have A21 := Aside0.mk A210
  clear A210
  by_cases c22 : t240 < 0
  · rw [if_pos c22] at H
    have c22b0 : decide (t240 < 0) = true := decide_eq_true c22
    clear c22
    exact absurd ((Option.some.inj H).trans hr_.out) (by decide)
  rw [if_neg c22] at H
  have c22b0 : decide (t240 < 0) = false := decide_eq_false c22
  clear c22
  by_cases c23 : t240 = t238
  rotate_left
  · rw [if_neg c23] at H
    have c23b0 : (t240 == t238) = false := beq_eq_false_iff_ne.mpr c23
    have c23b1 : (t240 != t238) = true := bne_iff_ne.mpr c23
    exact absurd ((Option.some.inj H).trans hr_.out) (by decide)
  rw [if_pos c23] at H
  have c23b0 : (t240 == t238) = true := beq_iff_eq.mpr c23
  have c23b1 : (t240 != t238) = false := bne_eq_false_iff_eq.mpr c23
  clear c23
  replace H := Option.bind_eq_some_iff.mp H
  obtain ⟨⟨t241, t244, t247⟩, A240, H⟩ := H
  (try dsimp only at H)
  have A24 := Aside0.mk A240
  clear A240
  replace H := Option.bind_eq_some_iff.mp H
  obtain ⟨t250, A250, H⟩ := H
  have A25 := Aside0.mk A250
  clear A250
  replace H := Option.bind_eq_some_iff.mp H
  obtain ⟨t253, A260, H⟩ := H
  have A26 := Aside0.mk A260
  clear A260
  by_cases c27 : t253 = true
  rotate_left
  · replace c27 := Bool.eq_false_iff.mpr c27
    subst c27
    rw [if_neg (show ¬ (false = true) by decide)] at H
    exact absurd ((Option.some.inj H).trans hr_.out) (by decide)
  subst c27
  rw [if_pos rfl] at H
  replace H := Option.bind_eq_some_iff.mp H
  obtain ⟨t254, A280, H⟩ := H
  replace H : (if t254 < 0 then (some false) else (if t254 = t238 then (some true) else (some false))) = some r := H
  have A28 := Aside0.mk A280
  clear A280
  by_cases c29 : t254 < 0
  · rw [if_pos c29] at H
    have c29b0 : decide (t254 < 0) = true := decide_eq_true c29
    clear c29
    exact absurd ((Option.some.inj H).trans hr_.out) (by decide)
  rw [if_neg c29] at H
  have c29b0 : decide (t254 < 0) = false := decide_eq_false c29
  clear c29
  by_cases c30 : t254 = t238
  rotate_left
  · rw [if_neg c30] at H
    have c30b0 : (t254 == t238) = false := beq_eq_false_iff_ne.mpr c30
    have c30b1 : (t254 != t238) = true := bne_iff_ne.mpr c30
    exact absurd ((Option.some.inj H).trans hr_.out) (by decide)
  rw [if_pos c30] at H
  have c30b0 : (t254 == t238) = true := beq_iff_eq.mpr c30
  have c30b1 : (t254 != t238) = false := bne_eq_false_iff_eq.mpr c30
  clear c30
  obtain rfl := Option.some.inj H
  have hcz31_0 : w5.cell? ⟨gb195, 0, none⟩ = some (.slice A0_0 l0_0.length c0_0) := (blk_cell BK195.out 0).trans rfl
  have hcz31_1 : w5.cell? ⟨gb195, 1, none⟩ = some (.slice A0_1 l0_1.length c0_1) := (blk_cell BK195.out 1).trans rfl
  have hcz31_2 : w5.cell? ⟨gb195, 2, none⟩ = some (.slice A0_2 l0_2.length c0_2) := (blk_cell BK195.out 2).trans rfl
  have hfz31_0 := blk_frozen BK195.out 0
  have hfz31_1 := blk_frozen BK195.out 1
  have hfz31_2 := blk_frozen BK195.out 2
  try go_wp2_with (first | ((with_reducible refine gate_callee (f := 22) rfl ?_); refine goesL_ (some 17) rfl rfl Try.func22 (by kernel_rfl) rfl #[.agg #[.slice A0_0 l0_0.length c0_0, .slice A0_1 l0_1.length c0_1, .slice A0_2 l0_2.length c0_2]] rfl u5_5 ?_; (with_reducible refine (laws_toConf.calls k _ _ l0_0 _ _ l0_1 _ _ l0_2 t197 t200 t203 _ ?side1 ?side2 ?side3 ?side4 ?side5 ?side6 A7.out).mono ?_); (case side1 => exact u5_19); (case side2 => exact HC0_0.out); (case side3 => exact u5_20); (case side4 => exact HC0_1.out); (case side5 => exact u5_21); (case side6 => exact HC0_2.out); rintro e w32 ⟨v198, v201, v204, rfl, ho0, ho1, ho2, hb⟩; refine ⟨_, rfl, ?_⟩; have n0_ := Aside0.mk (Kd.R_lower ho0 (below_size u5_1)); have n1_ := Aside0.mk (Kd.R_lower ho1 (below_size u5_1)); have n2_ := Aside0.mk (Kd.R_lower ho2 (below_size u5_1)); have n3_ := Aside0.mk (blk_below (g := gb195) (o := .cells #[.slice A0_0 l0_0.length c0_0, .slice A0_1 l0_1.length c0_1, .slice A0_2 l0_2.length c0_2] 39 (0, 0)) u5_7 hb); have n4_ := Aside0.mk (below_step u5_1 hb); clear BK195; clear HB; have HO199 := n0_; have HO202 := n1_; have HO205 := n2_; have BK195 := n3_; have HB := n4_; clear n0_ n1_ n2_ n3_ n4_; (try clear hb); (try clear hb2); (try clear hk); (try clear hi); (try clear ho0); (try clear ho1); (try clear ho2); obtain ⟨Ao33, co33, eo33⟩ := Kd.R_slice HO199.out; subst eo33; obtain ⟨Ao34, co34, eo34⟩ := Kd.R_slice HO202.out; subst eo34; obtain ⟨Ao35, co35, eo35⟩ := Kd.R_slice HO205.out; subst eo35) | ((with_reducible refine gate_callee (f := 26) rfl ?_); refine goesL_ (some 18) rfl rfl Try.func26 (by kernel_rfl) rfl #[.agg #[.slice Ao33 t197.length co33, .slice Ao34 t200.length co34, .slice Ao35 t203.length co35]] rfl u5_5 ?_; (with_reducible refine (spec_Voters.calls k _ _ t197 _ _ t200 _ _ t203 t206 _ ?side1 ?side2 ?side3 ?side4 ?side5 ?side6 A8.out).mono ?_); (case side1 => exact (by repeat (first | exact (Kd.R_reads' HO199.out).2.2 | (with_reducible refine Kd.C_alloc ?_ _) | (with_reducible refine Kd.C_drewN ?_ _) | (with_reducible refine Kd.C_drew ?_)))); (case side2 => exact (Kd.R_reads' HO199.out).2.1); (case side3 => exact (by repeat (first | exact (Kd.R_reads' HO202.out).2.2 | (with_reducible refine Kd.C_alloc ?_ _) | (with_reducible refine Kd.C_drewN ?_ _) | (with_reducible refine Kd.C_drew ?_)))); (case side4 => exact (Kd.R_reads' HO202.out).2.1); (case side5 => exact (by repeat (first | exact (Kd.R_reads' HO205.out).2.2 | (with_reducible refine Kd.C_alloc ?_ _) | (with_reducible refine Kd.C_drewN ?_ _) | (with_reducible refine Kd.C_drew ?_)))); (case side6 => exact (Kd.R_reads' HO205.out).2.1); rintro e w36 ⟨v207, rfl, ho0, hb⟩; refine ⟨_, rfl, ?_⟩; have n0_ := Aside0.mk (Kd.R_elder' u5_2 (Kd.R_base ho0) hb); have n1_ := Aside0.mk (Kd.R_elder' u5_3 (Kd.R_base ho0) hb); have n2_ := Aside0.mk (Kd.R_elder' u5_4 (Kd.R_base ho0) hb); have n3_ := Aside0.mk (Kd.R_lower (Kd.R_new' (Kd.R_new' (Kd.R_new' ho0 (Kd.R_lt u5_2)) (Kd.R_lt u5_3)) (Kd.R_lt u5_4)) (below_size u5_1)); have n4_ := Aside0.mk (blk_below (g := gb195) (o := .cells #[.slice A0_0 l0_0.length c0_0, .slice A0_1 l0_1.length c0_1, .slice A0_2 l0_2.length c0_2] 39 (0, 0)) u5_7 hb); have n5_ := Aside0.mk (below_step u5_1 hb); clear HO199; clear HO202; clear HO205; clear BK195; clear HB; have HO199 := n0_; have HO202 := n1_; have HO205 := n2_; have HO208 := n3_; have BK195 := n4_; have HB := n5_; clear n0_ n1_ n2_ n3_ n4_ n5_; (try clear hb); (try clear hb2); (try clear hk); (try clear hi); (try clear ho0); have hcz37_0 : w36.cell? ⟨gb195, 0, none⟩ = some (.slice A0_0 l0_0.length c0_0) := (blk_cell BK195.out 0).trans rfl; have hcz37_1 : w36.cell? ⟨gb195, 1, none⟩ = some (.slice A0_1 l0_1.length c0_1) := (blk_cell BK195.out 1).trans rfl; have hcz37_2 : w36.cell? ⟨gb195, 2, none⟩ = some (.slice A0_2 l0_2.length c0_2) := (blk_cell BK195.out 2).trans rfl; have hfz37_0 := blk_frozen BK195.out 0; have hfz37_1 := blk_frozen BK195.out 1; have hfz37_2 := blk_frozen BK195.out 2) | ((with_reducible refine gate_callee (f := 22) rfl ?_); refine goesL_ (some 20) rfl rfl Try.func22 (by kernel_rfl) rfl #[.agg #[.slice A0_0 l0_0.length c0_0, .slice A0_1 l0_1.length c0_1, .slice A0_2 l0_2.length c0_2]] rfl u5_5 ?_; (with_reducible refine (laws_toConf.calls k _ _ l0_0 _ _ l0_1 _ _ l0_2 t209 t212 t215 _ ?side1 ?side2 ?side3 ?side4 ?side5 ?side6 A9.out).mono ?_); (case side1 => exact u5_19); (case side2 => exact HC0_0.out); (case side3 => exact u5_20); (case side4 => exact HC0_1.out); (case side5 => exact u5_21); (case side6 => exact HC0_2.out); rintro e w38 ⟨v210, v213, v216, rfl, ho0, ho1, ho2, hb⟩; refine ⟨_, rfl, ?_⟩; have n0_ := Aside0.mk (Kd.R_mono (Kd.R_told (Kd.R_told (Kd.R_told (Kd.R_old u5_2 hb) (Kd.R_base ho0)) (Kd.R_base ho1)) (Kd.R_base ho2)) (fun _ h_ => h_.1)); have n1_ := Aside0.mk (Kd.R_mono (Kd.R_told (Kd.R_told (Kd.R_told (Kd.R_old u5_3 hb) (Kd.R_base ho0)) (Kd.R_base ho1)) (Kd.R_base ho2)) (fun _ h_ => h_.1)); have n2_ := Aside0.mk (Kd.R_mono (Kd.R_told (Kd.R_told (Kd.R_told (Kd.R_old u5_4 hb) (Kd.R_base ho0)) (Kd.R_base ho1)) (Kd.R_base ho2)) (fun _ h_ => h_.1)); have n3_ := Aside0.mk (Kd.R_mono (Kd.R_told (Kd.R_told (Kd.R_told (Kd.R_old u5_6 hb) (Kd.R_base ho0)) (Kd.R_base ho1)) (Kd.R_base ho2)) (fun _ h_ => h_.1)); have n4_ := Aside0.mk (Kd.R_lower (Kd.R_new' (Kd.R_new' (Kd.R_new' (Kd.R_new' ho0 (Kd.R_lt u5_2)) (Kd.R_lt u5_3)) (Kd.R_lt u5_4)) (Kd.R_lt u5_6)) (below_size u5_1)); have n5_ := Aside0.mk (Kd.R_lower (Kd.R_new' (Kd.R_new' (Kd.R_new' (Kd.R_new' ho1 (Kd.R_lt u5_2)) (Kd.R_lt u5_3)) (Kd.R_lt u5_4)) (Kd.R_lt u5_6)) (below_size u5_1)); have n6_ := Aside0.mk (Kd.R_lower (Kd.R_new' (Kd.R_new' (Kd.R_new' (Kd.R_new' ho2 (Kd.R_lt u5_2)) (Kd.R_lt u5_3)) (Kd.R_lt u5_4)) (Kd.R_lt u5_6)) (below_size u5_1)); have n7_ := Aside0.mk (blk_below (g := gb195) (o := .cells #[.slice A0_0 l0_0.length c0_0, .slice A0_1 l0_1.length c0_1, .slice A0_2 l0_2.length c0_2] 39 (0, 0)) u5_7 hb); have n8_ := Aside0.mk (below_step u5_1 hb); clear HO199; clear HO202; clear HO205; clear HO208; clear BK195; clear HB; have HO199 := n0_; have HO202 := n1_; have HO205 := n2_; have HO208 := n3_; have HO211 := n4_; have HO214 := n5_; have HO217 := n6_; have BK195 := n7_; have HB := n8_; clear n0_ n1_ n2_ n3_ n4_ n5_ n6_ n7_ n8_; (try clear hb); (try clear hb2); (try clear hk); (try clear hi); (try clear ho0); (try clear ho1); (try clear ho2)) | ((with_reducible refine gate_dst (N := 5) rfl ?_); refine box_event ?hg (N := 5) ?hd (cs := #[.slice none 0 0, .slice none 0 0, .slice none 0 0]) (t := 26) ?hr ?_; (case hd => rfl); (case hg => rfl); (case hr => first | (go_simp; done) | (go_simp; rfl)); intro gb218 hg w39 hbox hb; have n0_ := Aside0.mk (Kd.R_below u5_2 hb); have n1_ := Aside0.mk (Kd.R_below u5_3 hb); have n2_ := Aside0.mk (Kd.R_below u5_4 hb); have n3_ := Aside0.mk (Kd.R_below u5_6 hb); have n4_ := Aside0.mk (Kd.R_below u5_8 hb); have n5_ := Aside0.mk (Kd.R_below u5_9 hb); have n6_ := Aside0.mk (Kd.R_below u5_10 hb); have n7_ := Aside0.mk (blk_below (g := gb195) (o := .cells #[.slice A0_0 l0_0.length c0_0, .slice A0_1 l0_1.length c0_1, .slice A0_2 l0_2.length c0_2] 39 (0, 0)) u5_7 hb); have n8_ := Aside0.mk (below_step u5_1 hb); have n9_ := Aside0.mk (hbox); have n10_ := Aside0.mk ((by rw [hg]; exact (below_size u5_1) : w.heap.size ≤ gb218)); have n11_ := Aside0.mk ((by rw [hg]; exact (below_size u5_1) : w.heap.size ≤ gb218)); have n12_ := Aside0.mk ((by rw [hg]; exact Nat.ne_of_lt (blk_lt (g := gb195) (o := .cells #[.slice A0_0 l0_0.length c0_0, .slice A0_1 l0_1.length c0_1, .slice A0_2 l0_2.length c0_2] 39 (0, 0)) u5_7) : gb195 ≠ gb218)); have n13_ := Aside0.mk ((by rw [hg]; exact Nat.ne_of_gt (blk_lt (g := gb195) (o := .cells #[.slice A0_0 l0_0.length c0_0, .slice A0_1 l0_1.length c0_1, .slice A0_2 l0_2.length c0_2] 39 (0, 0)) u5_7) : gb218 ≠ gb195)); clear HO199; clear HO202; clear HO205; clear HO208; clear HO211; clear HO214; clear HO217; clear BK195; clear HB; have HO199 := n0_; have HO202 := n1_; have HO205 := n2_; have HO208 := n3_; have HO211 := n4_; have HO214 := n5_; have HO217 := n6_; have BK195 := n7_; have HB := n8_; have BK218 := n9_; have GW218 := n10_; have GE218 := n11_; have NB195_218 := n12_; have NB218_195 := n13_; clear n0_ n1_ n2_ n3_ n4_ n5_ n6_ n7_ n8_ n9_ n10_ n11_ n12_ n13_; clear hb hbox hg; obtain ⟨Ao40, co40, eo40⟩ := Kd.R_slice HO211.out; subst eo40; have hnb41 := NB218_195.out; have hnc41 := NB195_218.out; have hcz42_0 : w39.cell? ⟨gb218, 0, none⟩ = some (.slice none 0 0) := (blk_cell BK218.out 0).trans rfl; have hcz42_1 : w39.cell? ⟨gb218, 1, none⟩ = some (.slice none 0 0) := (blk_cell BK218.out 1).trans rfl; have hcz42_2 : w39.cell? ⟨gb218, 2, none⟩ = some (.slice none 0 0) := (blk_cell BK218.out 2).trans rfl; have hfz42_0 := blk_frozen BK218.out 0; have hfz42_1 := blk_frozen BK218.out 1; have hfz42_2 := blk_frozen BK218.out 2; obtain ⟨Ao43, co43, eo43⟩ := Kd.R_slice HO214.out; subst eo43; obtain ⟨Ao44, co44, eo44⟩ := Kd.R_slice HO217.out; subst eo44) | ((with_reducible refine gate_callee (f := 19) rfl ?_); refine goesL_ (some 22) rfl rfl Try.func19 (by kernel_rfl) rfl #[.agg #[.slice Ao40 t209.length co40, .slice Ao43 t212.length co43, .slice Ao44 t215.length co44]] rfl u5_5 ?_; (with_reducible refine (impl_Voters.calls k _ _ t209 _ _ t212 _ _ t215 t219 _ ?side1 ?side2 ?side3 ?side4 ?side5 ?side6 A10.out).mono ?_); (case side1 => exact (by refine (Kd.R_reads' (e := 3) (base := w.heap.size) (ok := fun k_ => (((((some k_ ≠ (.slice Ao43 t212.length co43 : Value).ownBlock ∧ some k_ ≠ (.slice Ao44 t215.length co44 : Value).ownBlock) ∧ some k_ ≠ (.slice Ao33 t197.length co33 : Value).ownBlock) ∧ some k_ ≠ (.slice Ao34 t200.length co34 : Value).ownBlock) ∧ some k_ ≠ (.slice Ao35 t203.length co35 : Value).ownBlock) ∧ some k_ ≠ (v207 : Value).ownBlock)) (n := t209.length) (c := co40) ?_).2.2; exact u5_12)); (case side2 => exact (Kd.R_reads' HO211.out).2.1); (case side3 => exact (by refine (Kd.R_reads' (e := 3) (base := w.heap.size) (ok := fun k_ => (((((some k_ ≠ (.slice Ao40 t209.length co40 : Value).ownBlock ∧ some k_ ≠ (.slice Ao44 t215.length co44 : Value).ownBlock) ∧ some k_ ≠ (.slice Ao33 t197.length co33 : Value).ownBlock) ∧ some k_ ≠ (.slice Ao34 t200.length co34 : Value).ownBlock) ∧ some k_ ≠ (.slice Ao35 t203.length co35 : Value).ownBlock) ∧ some k_ ≠ (v207 : Value).ownBlock)) (n := t212.length) (c := co43) ?_).2.2; exact u5_13)); (case side4 => exact (Kd.R_reads' HO214.out).2.1); (case side5 => exact (by refine (Kd.R_reads' (e := 3) (base := w.heap.size) (ok := fun k_ => (((((some k_ ≠ (.slice Ao40 t209.length co40 : Value).ownBlock ∧ some k_ ≠ (.slice Ao43 t212.length co43 : Value).ownBlock) ∧ some k_ ≠ (.slice Ao33 t197.length co33 : Value).ownBlock) ∧ some k_ ≠ (.slice Ao34 t200.length co34 : Value).ownBlock) ∧ some k_ ≠ (.slice Ao35 t203.length co35 : Value).ownBlock) ∧ some k_ ≠ (v207 : Value).ownBlock)) (n := t215.length) (c := co44) ?_).2.2; exact u5_14)); (case side6 => exact (Kd.R_reads' HO217.out).2.1); rintro e w45 ⟨v220, rfl, ho0, hb⟩; refine ⟨_, rfl, ?_⟩; have n0_ := Aside0.mk (Kd.R_elder' u5_23 (Kd.R_base ho0) hb); have n1_ := Aside0.mk (Kd.R_elder' u5_24 (Kd.R_base ho0) hb); have n2_ := Aside0.mk (Kd.R_elder' u5_25 (Kd.R_base ho0) hb); have n3_ := Aside0.mk (Kd.R_elder' u5_26 (Kd.R_base ho0) hb); have n4_ := Aside0.mk (Kd.R_elder' u5_12 (Kd.R_base ho0) hb); have n5_ := Aside0.mk (Kd.R_elder' u5_13 (Kd.R_base ho0) hb); have n6_ := Aside0.mk (Kd.R_elder' u5_14 (Kd.R_base ho0) hb); have n7_ := Aside0.mk (Kd.R_lower (Kd.R_new' (Kd.R_new' (Kd.R_new' (Kd.R_new' (Kd.R_new' (Kd.R_new' (Kd.R_new' ho0 (Kd.R_lt u5_23)) (Kd.R_lt u5_24)) (Kd.R_lt u5_25)) (Kd.R_lt u5_26)) (Kd.R_lt u5_12)) (Kd.R_lt u5_13)) (Kd.R_lt u5_14)) (below_size u5_0)); have n8_ := Aside0.mk (blk_below (g := gb195) (o := .cells #[.slice A0_0 l0_0.length c0_0, .slice A0_1 l0_1.length c0_1, .slice A0_2 l0_2.length c0_2] 39 (0, 0)) (by (with_reducible repeat (first | refine blk_drewN ?_ _ | refine blk_drew ?_ | refine blk_alloc ?_ _)); refine blk_far ?_ NB195_218.out _; (with_reducible repeat (first | refine blk_drewN ?_ _ | refine blk_drew ?_ | refine blk_alloc ?_ _)); refine blk_far ?_ NB195_218.out _; (with_reducible repeat (first | refine blk_drewN ?_ _ | refine blk_drew ?_ | refine blk_alloc ?_ _)); refine blk_far ?_ NB195_218.out _; (with_reducible repeat (first | refine blk_drewN ?_ _ | refine blk_drew ?_ | refine blk_alloc ?_ _)); exact BK195.out) hb); have n9_ := Aside0.mk (blk_below (g := gb218) (o := .cells #[.slice Ao40 t209.length co40, .slice Ao43 t212.length co43, .slice Ao44 t215.length co44] 26 (0, 0)) (by (with_reducible repeat (first | refine blk_drewN ?_ _ | refine blk_drew ?_ | refine blk_alloc ?_ _)); refine blk_put (cs := #[.slice Ao40 t209.length co40, .slice Ao43 t212.length co43, .slice none 0 0]) ?_ 2 _ rfl; (with_reducible repeat (first | refine blk_drewN ?_ _ | refine blk_drew ?_ | refine blk_alloc ?_ _)); refine blk_put (cs := #[.slice Ao40 t209.length co40, .slice none 0 0, .slice none 0 0]) ?_ 1 _ rfl; (with_reducible repeat (first | refine blk_drewN ?_ _ | refine blk_drew ?_ | refine blk_alloc ?_ _)); refine blk_put (cs := #[.slice none 0 0, .slice none 0 0, .slice none 0 0]) ?_ 0 _ rfl; (with_reducible repeat (first | refine blk_drewN ?_ _ | refine blk_drew ?_ | refine blk_alloc ?_ _)); exact BK218.out) hb); have n10_ := Aside0.mk (below_step u5_0 hb); clear HO199; clear HO202; clear HO205; clear HO208; clear HO211; clear HO214; clear HO217; clear BK195; clear BK218; clear HB; have HO199 := n0_; have HO202 := n1_; have HO205 := n2_; have HO208 := n3_; have HO211 := n4_; have HO214 := n5_; have HO217 := n6_; have HO221 := n7_; have BK195 := n8_; have BK218 := n9_; have HB := n10_; clear n0_ n1_ n2_ n3_ n4_ n5_ n6_ n7_ n8_ n9_ n10_; (try clear hb); (try clear hb2); (try clear hk); (try clear hi); (try clear ho0); obtain ⟨Ao46, co46, eo46⟩ := Kd.R_slice HO221.out; subst eo46; obtain ⟨Ao47, co47, eo47⟩ := Kd.R_slice HO208.out; subst eo47) | ((with_reducible refine gate_callee (f := 27) rfl ?_); refine goesL_ (some 25) rfl rfl Try.func27 (by kernel_rfl) rfl #[.slice Ao46 t219.length co46, .slice Ao47 t206.length co47] rfl u5_5 ?_; (with_reducible refine (laws_eqIntS.calls k _ _ t219 _ _ t206 true _ ?side1 ?side2 ?side3 ?side4 A11.out).mono ?_); (case side1 => exact u5_22); (case side2 => exact (Kd.R_reads' HO221.out).2.1); (case side3 => exact u5_27); (case side4 => exact (Kd.R_reads' HO208.out).2.1); rintro e w' ⟨rfl, ⟨nd, rfl⟩⟩; refine ⟨_, rfl, ?_⟩))
  (first | (rw [drewN_self w45]; generalize hq_ : World.drewN w45 _ = w45; have n0_ := Aside0.mk (Kd.R_at hq_ HO199.out); have n1_ := Aside0.mk (Kd.R_at hq_ HO202.out); have n2_ := Aside0.mk (Kd.R_at hq_ HO205.out); have n3_ := Aside0.mk (Kd.R_at hq_ HO208.out); have n4_ := Aside0.mk (Kd.R_at hq_ HO211.out); have n5_ := Aside0.mk (Kd.R_at hq_ HO214.out); have n6_ := Aside0.mk (Kd.R_at hq_ HO217.out); have n7_ := Aside0.mk (Kd.R_at hq_ HO221.out); have n8_ := Aside0.mk (blk_at hq_ BK195.out); have n9_ := Aside0.mk (blk_at hq_ BK218.out); have n10_ := Aside0.mk (below_at hq_ HB.out); clear hq_ HO199 HO202 HO205 HO208 HO211 HO214 HO217 HO221 BK195 BK218 HB; have HO199 := n0_; have HO202 := n1_; have HO205 := n2_; have HO208 := n3_; have HO211 := n4_; have HO214 := n5_; have HO217 := n6_; have HO221 := n7_; have BK195 := n8_; have BK218 := n9_; have HB := n10_; clear n0_ n1_ n2_ n3_ n4_ n5_ n6_ n7_ n8_ n9_ n10_) | skip)
  have n0_ := Aside0.mk (Kd.R_drew HO199.out)
  have n1_ := Aside0.mk (Kd.R_drew HO202.out)
  have n2_ := Aside0.mk (Kd.R_drew HO205.out)
  have n3_ := Aside0.mk (Kd.R_drew HO208.out)
  have n4_ := Aside0.mk (Kd.R_drew HO211.out)
  have n5_ := Aside0.mk (Kd.R_drew HO214.out)
  have n6_ := Aside0.mk (Kd.R_drew HO217.out)
  have n7_ := Aside0.mk (Kd.R_drew HO221.out)
  have n8_ := Aside0.mk (blk_drew BK195.out)
  have n9_ := Aside0.mk (blk_drew BK218.out)
  have n10_ := Aside0.mk (below_drew1 HB.out)
  clear HO199
  clear HO202
  clear HO205
  clear HO208
  clear HO211
  clear HO214
  clear HO217
  clear HO221
  clear BK195
  clear BK218
  clear HB
  have HO199 := n0_
  have HO202 := n1_
  have HO205 := n2_
  have HO208 := n3_
  have HO211 := n4_
  have HO214 := n5_
  have HO217 := n6_
  have HO221 := n7_
  have BK195 := n8_
  have BK218 := n9_
  have HB := n10_
  clear n0_ n1_ n2_ n3_ n4_ n5_ n6_ n7_ n8_ n9_ n10_
  refine start_ (n := 5) (S := fun w' => w'.cell? ⟨gb218, 0, none⟩ = some (.slice Ao40 t209.length co40) ∧ w'.cell? ⟨gb218, 1, none⟩ = some (.slice Ao43 t212.length co43) ∧ w'.cell? ⟨gb218, 2, none⟩ = some (.slice Ao44 t215.length co44) ∧ w'.cell? ⟨gb195, 0, none⟩ = some (.slice A0_0 l0_0.length c0_0) ∧ w'.cell? ⟨gb195, 1, none⟩ = some (.slice A0_1 l0_1.length c0_1) ∧ w'.cell? ⟨gb195, 2, none⟩ = some (.slice A0_2 l0_2.length c0_2)) (ds := []) #[false, false, false, false, false] (by kernel_rfl) rfl rfl ⟨(blk_cell BK218.out 0).trans rfl, (blk_cell BK218.out 1).trans rfl, (blk_cell BK218.out 2).trans rfl, (blk_cell BK195.out 0).trans rfl, (blk_cell BK195.out 1).trans rfl, (blk_cell BK195.out 2).trans rfl⟩ (fun hHeld => ?_)
  generalize w45.drew = w48 at HO199 HO202 HO205 HO208 HO211 HO214 HO217 HO221 BK195 BK218 HB hHeld ⊢
  refine take_ (i := 0) (N := some 27) (v := ?_) (a' := ?_) #[true, false, false, false, false] rfl rfl (by kernel_rfl) (fun _ _ _ h => h) (Or.inl ⟨by rfl, ?_⟩) hHeld ?_ ?_
  rotate_left
  · rintro w' ⟨s0, s1, s2, s3, s4, s5⟩
    go_simp
    with_reducible rfl
  rotate_left
  · simp only [Act.put, List.setIfInBounds_toArray, List.set_cons_zero, List.set_cons_succ, i64_w, i32_w]
    rfl
  refine take_ (i := 1) (N := some 28) (v := ?_) (a' := ?_) #[true, true, false, false, false] rfl rfl (by kernel_rfl) (fun _ _ _ h => h) (Or.inl ⟨by rfl, ?_⟩) hHeld ?_ ?_
  rotate_left
  · rintro w' ⟨s0, s1, s2, s3, s4, s5⟩
    go_simp
    with_reducible rfl
  rotate_left
  · simp only [Act.put, List.setIfInBounds_toArray, List.set_cons_zero, List.set_cons_succ, i64_w, i32_w]
    rfl
  refine one_ (i := 2) (N := some 29) #[true, true, true, false, false] rfl rfl (by kernel_rfl) (by decide) (fun K hK => ?_)
  refine goes_ Try.func22 (by kernel_rfl) rfl #[.agg #[.slice A0_0 l0_0.length c0_0, .slice A0_1 l0_1.length c0_1, .slice A0_2 l0_2.length c0_2]] (by rfl) rfl rfl u5_5 ?_
  with_reducible refine (laws_toConf.calls k _ _ l0_0 _ _ l0_1 _ _ l0_2 t223 t226 t229 _ ?side1 ?side2 ?side3 ?side4 ?side5 ?side6 A13.out).mono ?_
  (case side1 => exact u5_19)
  (case side2 => exact HC0_0.out)
  (case side3 => exact u5_20)
  (case side4 => exact HC0_1.out)
  (case side5 => exact u5_21)
  (case side6 => exact HC0_2.out)
  rintro e w49 ⟨v224, v227, v230, rfl, ho0, ho1, ho2, hb⟩
  refine ⟨_, rfl, ?_⟩
  have n0_ := Aside0.mk (Kd.R_mono (Kd.R_told (Kd.R_told (Kd.R_told (Kd.R_old u5_2 hb) (Kd.R_base ho0)) (Kd.R_base ho1)) (Kd.R_base ho2)) (fun _ h_ => h_.1))
  have n1_ := Aside0.mk (Kd.R_mono (Kd.R_told (Kd.R_told (Kd.R_told (Kd.R_old u5_3 hb) (Kd.R_base ho0)) (Kd.R_base ho1)) (Kd.R_base ho2)) (fun _ h_ => h_.1))
  have n2_ := Aside0.mk (Kd.R_mono (Kd.R_told (Kd.R_told (Kd.R_told (Kd.R_old u5_4 hb) (Kd.R_base ho0)) (Kd.R_base ho1)) (Kd.R_base ho2)) (fun _ h_ => h_.1))
  have n3_ := Aside0.mk (Kd.R_mono (Kd.R_told (Kd.R_told (Kd.R_told (Kd.R_old u5_6 hb) (Kd.R_base ho0)) (Kd.R_base ho1)) (Kd.R_base ho2)) (fun _ h_ => h_.1))
  have n4_ := Aside0.mk (Kd.R_mono (Kd.R_told (Kd.R_told (Kd.R_told (Kd.R_old u5_8 hb) (Kd.R_base ho0)) (Kd.R_base ho1)) (Kd.R_base ho2)) (fun _ h_ => h_.1))
  have n5_ := Aside0.mk (Kd.R_mono (Kd.R_told (Kd.R_told (Kd.R_told (Kd.R_old u5_9 hb) (Kd.R_base ho0)) (Kd.R_base ho1)) (Kd.R_base ho2)) (fun _ h_ => h_.1))
  have n6_ := Aside0.mk (Kd.R_mono (Kd.R_told (Kd.R_told (Kd.R_told (Kd.R_old u5_10 hb) (Kd.R_base ho0)) (Kd.R_base ho1)) (Kd.R_base ho2)) (fun _ h_ => h_.1))
  have n7_ := Aside0.mk (Kd.R_mono (Kd.R_told (Kd.R_told (Kd.R_told (Kd.R_old u5_11 hb) (Kd.R_base ho0)) (Kd.R_base ho1)) (Kd.R_base ho2)) (fun _ h_ => h_.1))
  have n8_ := Aside0.mk (Kd.R_lower (Kd.R_new' (Kd.R_new' (Kd.R_new' (Kd.R_new' (Kd.R_new' (Kd.R_new' (Kd.R_new' (Kd.R_new' ho0 (Kd.R_lt u5_2)) (Kd.R_lt u5_3)) (Kd.R_lt u5_4)) (Kd.R_lt u5_6)) (Kd.R_lt u5_8)) (Kd.R_lt u5_9)) (Kd.R_lt u5_10)) (Kd.R_lt u5_11)) (below_size u5_0))
  have n9_ := Aside0.mk (Kd.R_lower (Kd.R_new' (Kd.R_new' (Kd.R_new' (Kd.R_new' (Kd.R_new' (Kd.R_new' (Kd.R_new' (Kd.R_new' ho1 (Kd.R_lt u5_2)) (Kd.R_lt u5_3)) (Kd.R_lt u5_4)) (Kd.R_lt u5_6)) (Kd.R_lt u5_8)) (Kd.R_lt u5_9)) (Kd.R_lt u5_10)) (Kd.R_lt u5_11)) (below_size u5_0))
  have n10_ := Aside0.mk (Kd.R_lower (Kd.R_new' (Kd.R_new' (Kd.R_new' (Kd.R_new' (Kd.R_new' (Kd.R_new' (Kd.R_new' (Kd.R_new' ho2 (Kd.R_lt u5_2)) (Kd.R_lt u5_3)) (Kd.R_lt u5_4)) (Kd.R_lt u5_6)) (Kd.R_lt u5_8)) (Kd.R_lt u5_9)) (Kd.R_lt u5_10)) (Kd.R_lt u5_11)) (below_size u5_0))
  have n11_ := Aside0.mk (blk_below (g := gb195) (o := .cells #[.slice A0_0 l0_0.length c0_0, .slice A0_1 l0_1.length c0_1, .slice A0_2 l0_2.length c0_2] 39 (0, 0)) u5_7 hb)
  have n12_ := Aside0.mk (blk_below (g := gb218) (o := .cells #[.slice Ao40 t209.length co40, .slice Ao43 t212.length co43, .slice Ao44 t215.length co44] 26 (0, 0)) u5_18 hb)
  have n13_ := Aside0.mk (below_step u5_0 hb)
  clear HO199
  clear HO202
  clear HO205
  clear HO208
  clear HO211
  clear HO214
  clear HO217
  clear HO221
  clear BK195
  clear BK218
  clear HB
  have HO199 := n0_
  have HO202 := n1_
  have HO205 := n2_
  have HO208 := n3_
  have HO211 := n4_
  have HO214 := n5_
  have HO217 := n6_
  have HO221 := n7_
  have HO225 := n8_
  have HO228 := n9_
  have HO231 := n10_
  have BK195 := n11_
  have BK218 := n12_
  have HB := n13_
  clear n0_ n1_ n2_ n3_ n4_ n5_ n6_ n7_ n8_ n9_ n10_ n11_ n12_ n13_
  (try clear hb)
  (try clear hb2)
  (try clear hk)
  (try clear hi)
  (try clear ho0)
  (try clear ho1)
  (try clear ho2)
  obtain ⟨Ao50, co50, eo50⟩ := Kd.R_slice HO225.out
  (first | subst eo50 | (injection eo50 with f1_ f2_ f3_; have f4_ := f1_.symm; have f5_ := f3_.symm; clear f1_ f2_ f3_; subst f4_; subst f5_))
  obtain ⟨Ao51, co51, eo51⟩ := Kd.R_slice HO228.out
  (first | subst eo51 | (injection eo51 with f1_ f2_ f3_; have f4_ := f1_.symm; have f5_ := f3_.symm; clear f1_ f2_ f3_; subst f4_; subst f5_))
  obtain ⟨Ao52, co52, eo52⟩ := Kd.R_slice HO231.out
  (first | subst eo52 | (injection eo52 with f1_ f2_ f3_; have f4_ := f1_.symm; have f5_ := f3_.symm; clear f1_ f2_ f3_; subst f4_; subst f5_))
  refine hK.out _ _ ⟨(blk_cell BK218.out 0).trans rfl, (blk_cell BK218.out 1).trans rfl, (blk_cell BK218.out 2).trans rfl, (blk_cell BK195.out 0).trans rfl, (blk_cell BK195.out 1).trans rfl, (blk_cell BK195.out 2).trans rfl⟩ (fun hHeld => ?_)
  clear hK K
  refine norm_ (a' := ?_) ?_ ?_
  rotate_left
  · show Act.put _ (some 29) _ = _
    simp only [Act.put, List.setIfInBounds_toArray, List.set_cons_zero, List.set_cons_succ, i64_w, i32_w]
    rfl
  refine one_ (i := 3) (N := some 30) #[true, true, true, true, false] rfl rfl (by kernel_rfl) (by decide) (fun K hK => ?_)
  refine goes_ Try.func23 (by kernel_rfl) rfl #[.agg #[.slice Ao40 t209.length co40, .slice Ao43 t212.length co43, .slice Ao44 t215.length co44], .agg #[.slice Ao50 t223.length co50, .slice Ao51 t226.length co51, .slice Ao52 t229.length co52]] (by rfl) rfl rfl u5_5 ?_
  with_reducible refine (laws_eqConf.calls k _ _ t209 _ _ t212 _ _ t215 _ _ t223 _ _ t226 _ _ t229 true _ ?side1 ?side2 ?side3 ?side4 ?side5 ?side6 ?side7 ?side8 ?side9 ?side10 ?side11 ?side12 A14.out).mono ?_
  (case side1 => exact (by repeat (first | exact (Kd.R_reads' HO211.out).2.2 | (with_reducible refine Kd.C_alloc ?_ _) | (with_reducible refine Kd.C_drewN ?_ _) | (with_reducible refine Kd.C_drew ?_))))
  (case side2 => exact (Kd.R_reads' HO211.out).2.1)
  (case side3 => exact (by repeat (first | exact (Kd.R_reads' HO214.out).2.2 | (with_reducible refine Kd.C_alloc ?_ _) | (with_reducible refine Kd.C_drewN ?_ _) | (with_reducible refine Kd.C_drew ?_))))
  (case side4 => exact (Kd.R_reads' HO214.out).2.1)
  (case side5 => exact (by repeat (first | exact (Kd.R_reads' HO217.out).2.2 | (with_reducible refine Kd.C_alloc ?_ _) | (with_reducible refine Kd.C_drewN ?_ _) | (with_reducible refine Kd.C_drew ?_))))
  (case side6 => exact (Kd.R_reads' HO217.out).2.1)
  (case side7 => exact (by repeat (first | exact (Kd.R_reads' HO225.out).2.2 | (with_reducible refine Kd.C_alloc ?_ _) | (with_reducible refine Kd.C_drewN ?_ _) | (with_reducible refine Kd.C_drew ?_))))
  (case side8 => exact (Kd.R_reads' HO225.out).2.1)
  (case side9 => exact (by repeat (first | exact (Kd.R_reads' HO228.out).2.2 | (with_reducible refine Kd.C_alloc ?_ _) | (with_reducible refine Kd.C_drewN ?_ _) | (with_reducible refine Kd.C_drew ?_))))
  (case side10 => exact (Kd.R_reads' HO228.out).2.1)
  (case side11 => exact (by repeat (first | exact (Kd.R_reads' HO231.out).2.2 | (with_reducible refine Kd.C_alloc ?_ _) | (with_reducible refine Kd.C_drewN ?_ _) | (with_reducible refine Kd.C_drew ?_))))
  (case side12 => exact (Kd.R_reads' HO231.out).2.1)
  rintro e w53 ⟨rfl, hb⟩
  refine ⟨_, rfl, ?_⟩
  have n0_ := Aside0.mk (Kd.R_below u5_2 hb)
  have n1_ := Aside0.mk (Kd.R_below u5_3 hb)
  have n2_ := Aside0.mk (Kd.R_below u5_4 hb)
  have n3_ := Aside0.mk (Kd.R_below u5_6 hb)
  have n4_ := Aside0.mk (Kd.R_below u5_8 hb)
  have n5_ := Aside0.mk (Kd.R_below u5_9 hb)
  have n6_ := Aside0.mk (Kd.R_below u5_10 hb)
  have n7_ := Aside0.mk (Kd.R_below u5_11 hb)
  have n8_ := Aside0.mk (Kd.R_below u5_15 hb)
  have n9_ := Aside0.mk (Kd.R_below u5_16 hb)
  have n10_ := Aside0.mk (Kd.R_below u5_17 hb)
  have n11_ := Aside0.mk (blk_below (g := gb195) (o := .cells #[.slice A0_0 l0_0.length c0_0, .slice A0_1 l0_1.length c0_1, .slice A0_2 l0_2.length c0_2] 39 (0, 0)) u5_7 hb)
  have n12_ := Aside0.mk (blk_below (g := gb218) (o := .cells #[.slice Ao40 t209.length co40, .slice Ao43 t212.length co43, .slice Ao44 t215.length co44] 26 (0, 0)) u5_18 hb)
  have n13_ := Aside0.mk (below_step u5_0 hb)
  clear HO199
  clear HO202
  clear HO205
  clear HO208
  clear HO211
  clear HO214
  clear HO217
  clear HO221
  clear HO225
  clear HO228
  clear HO231
  clear BK195
  clear BK218
  clear HB
  have HO199 := n0_
  have HO202 := n1_
  have HO205 := n2_
  have HO208 := n3_
  have HO211 := n4_
  have HO214 := n5_
  have HO217 := n6_
  have HO221 := n7_
  have HO225 := n8_
  have HO228 := n9_
  have HO231 := n10_
  have BK195 := n11_
  have BK218 := n12_
  have HB := n13_
  clear n0_ n1_ n2_ n3_ n4_ n5_ n6_ n7_ n8_ n9_ n10_ n11_ n12_ n13_
  (try clear hb)
  (try clear hb2)
  (try clear hk)
  (try clear hi)
  refine hK.out _ _ ⟨(blk_cell BK218.out 0).trans rfl, (blk_cell BK218.out 1).trans rfl, (blk_cell BK218.out 2).trans rfl, (blk_cell BK195.out 0).trans rfl, (blk_cell BK195.out 1).trans rfl, (blk_cell BK195.out 2).trans rfl⟩ (fun hHeld => ?_)
  clear hK K
  refine norm_ (a' := ?_) ?_ ?_
  rotate_left
  · show Act.put _ (some 30) _ = _
    simp only [Act.put, List.setIfInBounds_toArray, List.set_cons_zero, List.set_cons_succ, i64_w, i32_w]
    rfl
  refine pure_ (i := 4) (N := some 31) (v := ?_) (a' := ?_) #[true, true, true, true, true] rfl rfl (by kernel_rfl) (fun _ _ _ h => h) (Or.inl ⟨by rfl, ?_⟩) ?_ ?_
  rotate_left
  · intro w'
    go_simp
    with_reducible rfl
  rotate_left
  · simp only [Act.put, List.setIfInBounds_toArray, List.set_cons_zero, List.set_cons_succ, i64_w, i32_w]
    rfl
  refine done_ (by kernel_rfl) ?_
  have hcz54_0 : w53.cell? ⟨gb218, 0, none⟩ = some (.slice Ao40 t209.length co40) := (blk_cell BK218.out 0).trans rfl
  have hcz54_1 : w53.cell? ⟨gb218, 1, none⟩ = some (.slice Ao43 t212.length co43) := (blk_cell BK218.out 1).trans rfl
  have hcz54_2 : w53.cell? ⟨gb218, 2, none⟩ = some (.slice Ao44 t215.length co44) := (blk_cell BK218.out 2).trans rfl
  have hfz54_0 := blk_frozen BK218.out 0
  have hfz54_1 := blk_frozen BK218.out 1
  have hfz54_2 := blk_frozen BK218.out 2
  try go_wp2_with (first | ((with_reducible refine gate_callee (f := 24) rfl ?_); refine goesL_ (some 34) rfl rfl Try.func24 (by kernel_rfl) rfl #[.agg #[.slice Ao40 t209.length co40, .slice Ao43 t212.length co43, .slice Ao44 t215.length co44], .int .i64 1] rfl u5_5 ?_; (with_reducible refine (laws_markConf.calls k (fun k_ => some k_ = (.slice Ao40 t209.length co40 : Value).ownBlock) (.slice Ao40 t209.length co40) t209 (fun k_ => some k_ = (.slice Ao43 t212.length co43 : Value).ownBlock) (.slice Ao43 t212.length co43) t212 (fun k_ => some k_ = (.slice Ao44 t215.length co44 : Value).ownBlock) (.slice Ao44 t215.length co44) t215 1 t233 t234 t235 t236 w _ ?side1 ?side2 ?side3 ?side4 ?side5 ?side6 ?side7 ?side8 ?side9 ?side10 A16.out).mono ?_); (case side1 => exact u5_0); (case side2 => exact Kd.R_tight rfl HO211.out); (case side3 => exact fun k_ e_ => (HO211.out.1 k_ e_.symm).1.1.1.1.1.1.1.1.1); (case side4 => exact fun k_ e_ => (HO211.out.1 k_ e_.symm).1.1.1.1.1.1.1.1.2); (case side5 => exact Kd.R_tight rfl HO214.out); (case side6 => exact fun k_ e_ => (HO214.out.1 k_ e_.symm).1.1.1.1.1.1.1.1.1); (case side7 => exact fun k_ e_ => (HO214.out.1 k_ e_.symm).1.1.1.1.1.1.1.1.2); (case side8 => exact Kd.R_tight rfl HO217.out); (case side9 => exact fun k_ e_ => (HO217.out.1 k_ e_.symm).1.1.1.1.1.1.1.1.1); (case side10 => exact fun k_ e_ => (HO217.out.1 k_ e_.symm).1.1.1.1.1.1.1.1.2); rintro e w55 ⟨rfl, hy0, hy1, hy2, hb, hkp⟩; refine ⟨_, rfl, ?_⟩; have n0_ := Aside0.mk (blk_kept u5_7 hkp (fun hs_ => Or.elim hs_ (fun e_ => (fun e_ => (Kd.R_ne HO211.out BK195.out (by decide)) e_) e_) (fun e_ => Or.elim e_ (fun e_ => (fun e_ => (Kd.R_ne HO214.out BK195.out (by decide)) e_) e_) (fun e_ => (fun e_ => (Kd.R_ne HO217.out BK195.out (by decide)) e_) e_)))); have n1_ := Aside0.mk (Kd.R_mono (ok' := fun k_ => some k_ ≠ (.slice Ao34 t200.length co34 : Value).ownBlock ∧ some k_ ≠ (.slice Ao35 t203.length co35 : Value).ownBlock ∧ some k_ ≠ (.slice Ao47 t206.length co47 : Value).ownBlock ∧ some k_ ≠ (.slice Ao40 t209.length co40 : Value).ownBlock ∧ some k_ ≠ (.slice Ao43 t212.length co43 : Value).ownBlock ∧ some k_ ≠ (.slice Ao44 t215.length co44 : Value).ownBlock ∧ some k_ ≠ (.slice Ao46 t219.length co46 : Value).ownBlock ∧ some k_ ≠ (.slice Ao50 t223.length co50 : Value).ownBlock ∧ some k_ ≠ (.slice Ao51 t226.length co51 : Value).ownBlock ∧ some k_ ≠ (.slice Ao52 t229.length co52 : Value).ownBlock) (Kd.R_keptB (HO199.out) hkp (fun k_ hk_ hs_ => Or.elim hs_ (fun e_ => (hk_.1.1.1.1.1.1.2) e_) (fun e_ => Or.elim e_ (fun e_ => (hk_.1.1.1.1.1.2) e_) (fun e_ => (hk_.1.1.1.1.2) e_)))) (fun k_ hk_ => ⟨hk_.1.1.1.1.1.1.1.1.1.1, hk_.1.1.1.1.1.1.1.1.1.2, hk_.1.1.1.1.1.1.1.1.2, hk_.1.1.1.1.1.1.1.2, hk_.1.1.1.1.1.1.2, hk_.1.1.1.1.1.2, hk_.1.1.1.1.2, hk_.1.1.1.2, hk_.1.1.2, hk_.1.2⟩)); have n2_ := Aside0.mk (Kd.R_mono (ok' := fun k_ => some k_ ≠ (.slice Ao33 t197.length co33 : Value).ownBlock ∧ some k_ ≠ (.slice Ao35 t203.length co35 : Value).ownBlock ∧ some k_ ≠ (.slice Ao47 t206.length co47 : Value).ownBlock ∧ some k_ ≠ (.slice Ao40 t209.length co40 : Value).ownBlock ∧ some k_ ≠ (.slice Ao43 t212.length co43 : Value).ownBlock ∧ some k_ ≠ (.slice Ao44 t215.length co44 : Value).ownBlock ∧ some k_ ≠ (.slice Ao46 t219.length co46 : Value).ownBlock ∧ some k_ ≠ (.slice Ao50 t223.length co50 : Value).ownBlock ∧ some k_ ≠ (.slice Ao51 t226.length co51 : Value).ownBlock ∧ some k_ ≠ (.slice Ao52 t229.length co52 : Value).ownBlock) (Kd.R_keptB (HO202.out) hkp (fun k_ hk_ hs_ => Or.elim hs_ (fun e_ => (hk_.1.1.1.1.1.1.2) e_) (fun e_ => Or.elim e_ (fun e_ => (hk_.1.1.1.1.1.2) e_) (fun e_ => (hk_.1.1.1.1.2) e_)))) (fun k_ hk_ => ⟨hk_.1.1.1.1.1.1.1.1.1.1, hk_.1.1.1.1.1.1.1.1.1.2, hk_.1.1.1.1.1.1.1.1.2, hk_.1.1.1.1.1.1.1.2, hk_.1.1.1.1.1.1.2, hk_.1.1.1.1.1.2, hk_.1.1.1.1.2, hk_.1.1.1.2, hk_.1.1.2, hk_.1.2⟩)); have n3_ := Aside0.mk (Kd.R_mono (ok' := fun k_ => some k_ ≠ (.slice Ao33 t197.length co33 : Value).ownBlock ∧ some k_ ≠ (.slice Ao34 t200.length co34 : Value).ownBlock ∧ some k_ ≠ (.slice Ao47 t206.length co47 : Value).ownBlock ∧ some k_ ≠ (.slice Ao40 t209.length co40 : Value).ownBlock ∧ some k_ ≠ (.slice Ao43 t212.length co43 : Value).ownBlock ∧ some k_ ≠ (.slice Ao44 t215.length co44 : Value).ownBlock ∧ some k_ ≠ (.slice Ao46 t219.length co46 : Value).ownBlock ∧ some k_ ≠ (.slice Ao50 t223.length co50 : Value).ownBlock ∧ some k_ ≠ (.slice Ao51 t226.length co51 : Value).ownBlock ∧ some k_ ≠ (.slice Ao52 t229.length co52 : Value).ownBlock) (Kd.R_keptB (HO205.out) hkp (fun k_ hk_ hs_ => Or.elim hs_ (fun e_ => (hk_.1.1.1.1.1.1.2) e_) (fun e_ => Or.elim e_ (fun e_ => (hk_.1.1.1.1.1.2) e_) (fun e_ => (hk_.1.1.1.1.2) e_)))) (fun k_ hk_ => ⟨hk_.1.1.1.1.1.1.1.1.1.1, hk_.1.1.1.1.1.1.1.1.1.2, hk_.1.1.1.1.1.1.1.1.2, hk_.1.1.1.1.1.1.1.2, hk_.1.1.1.1.1.1.2, hk_.1.1.1.1.1.2, hk_.1.1.1.1.2, hk_.1.1.1.2, hk_.1.1.2, hk_.1.2⟩)); have n4_ := Aside0.mk (Kd.R_mono (ok' := fun k_ => some k_ ≠ (.slice Ao33 t197.length co33 : Value).ownBlock ∧ some k_ ≠ (.slice Ao34 t200.length co34 : Value).ownBlock ∧ some k_ ≠ (.slice Ao35 t203.length co35 : Value).ownBlock ∧ some k_ ≠ (.slice Ao40 t209.length co40 : Value).ownBlock ∧ some k_ ≠ (.slice Ao43 t212.length co43 : Value).ownBlock ∧ some k_ ≠ (.slice Ao44 t215.length co44 : Value).ownBlock ∧ some k_ ≠ (.slice Ao46 t219.length co46 : Value).ownBlock ∧ some k_ ≠ (.slice Ao50 t223.length co50 : Value).ownBlock ∧ some k_ ≠ (.slice Ao51 t226.length co51 : Value).ownBlock ∧ some k_ ≠ (.slice Ao52 t229.length co52 : Value).ownBlock) (Kd.R_keptB (HO208.out) hkp (fun k_ hk_ hs_ => Or.elim hs_ (fun e_ => (hk_.1.1.1.1.1.1.2) e_) (fun e_ => Or.elim e_ (fun e_ => (hk_.1.1.1.1.1.2) e_) (fun e_ => (hk_.1.1.1.1.2) e_)))) (fun k_ hk_ => ⟨hk_.1.1.1.1.1.1.1.1.1.1.2, hk_.1.1.1.1.1.1.1.1.1.2, hk_.1.1.1.1.1.1.1.1.2, hk_.1.1.1.1.1.1.1.2, hk_.1.1.1.1.1.1.2, hk_.1.1.1.1.1.2, hk_.1.1.1.1.2, hk_.1.1.1.2, hk_.1.1.2, hk_.1.2⟩)); have n5_ := Aside0.mk (Kd.R_reok rfl hy0 (fun k_ e_ => HO211.out.1 k_ e_)); have n6_ := Aside0.mk (Kd.R_reok rfl hy1 (fun k_ e_ => HO214.out.1 k_ e_)); have n7_ := Aside0.mk (Kd.R_reok rfl hy2 (fun k_ e_ => HO217.out.1 k_ e_)); have n8_ := Aside0.mk (blk_kept u5_18 hkp (fun hs_ => Or.elim hs_ (fun e_ => (fun e_ => (Kd.R_ne HO211.out BK218.out (by decide)) e_) e_) (fun e_ => Or.elim e_ (fun e_ => (fun e_ => (Kd.R_ne HO214.out BK218.out (by decide)) e_) e_) (fun e_ => (fun e_ => (Kd.R_ne HO217.out BK218.out (by decide)) e_) e_)))); have n9_ := Aside0.mk (Kd.R_mono (ok' := fun k_ => some k_ ≠ (.slice Ao33 t197.length co33 : Value).ownBlock ∧ some k_ ≠ (.slice Ao34 t200.length co34 : Value).ownBlock ∧ some k_ ≠ (.slice Ao35 t203.length co35 : Value).ownBlock ∧ some k_ ≠ (.slice Ao47 t206.length co47 : Value).ownBlock ∧ some k_ ≠ (.slice Ao40 t209.length co40 : Value).ownBlock ∧ some k_ ≠ (.slice Ao43 t212.length co43 : Value).ownBlock ∧ some k_ ≠ (.slice Ao44 t215.length co44 : Value).ownBlock ∧ some k_ ≠ (.slice Ao50 t223.length co50 : Value).ownBlock ∧ some k_ ≠ (.slice Ao51 t226.length co51 : Value).ownBlock ∧ some k_ ≠ (.slice Ao52 t229.length co52 : Value).ownBlock) (Kd.R_keptB (HO221.out) hkp (fun k_ hk_ hs_ => Or.elim hs_ (fun e_ => (hk_.1.1.1.1.1.2) e_) (fun e_ => Or.elim e_ (fun e_ => (hk_.1.1.1.1.2) e_) (fun e_ => (hk_.1.1.1.2) e_)))) (fun k_ hk_ => ⟨hk_.1.1.1.1.1.1.1.1.1.1.2, hk_.1.1.1.1.1.1.1.1.1.2, hk_.1.1.1.1.1.1.1.1.2, hk_.1.1.1.1.1.1.1.2, hk_.1.1.1.1.1.1.2, hk_.1.1.1.1.1.2, hk_.1.1.1.1.2, hk_.1.1.1.2, hk_.1.1.2, hk_.1.2⟩)); have n10_ := Aside0.mk (Kd.R_mono (ok' := fun k_ => some k_ ≠ (.slice Ao33 t197.length co33 : Value).ownBlock ∧ some k_ ≠ (.slice Ao34 t200.length co34 : Value).ownBlock ∧ some k_ ≠ (.slice Ao35 t203.length co35 : Value).ownBlock ∧ some k_ ≠ (.slice Ao47 t206.length co47 : Value).ownBlock ∧ some k_ ≠ (.slice Ao40 t209.length co40 : Value).ownBlock ∧ some k_ ≠ (.slice Ao43 t212.length co43 : Value).ownBlock ∧ some k_ ≠ (.slice Ao44 t215.length co44 : Value).ownBlock ∧ some k_ ≠ (.slice Ao46 t219.length co46 : Value).ownBlock ∧ some k_ ≠ (.slice Ao51 t226.length co51 : Value).ownBlock ∧ some k_ ≠ (.slice Ao52 t229.length co52 : Value).ownBlock) (Kd.R_keptB (HO225.out) hkp (fun k_ hk_ hs_ => Or.elim hs_ (fun e_ => (hk_.1.1.1.2) e_) (fun e_ => Or.elim e_ (fun e_ => (hk_.1.1.2) e_) (fun e_ => (hk_.1.2) e_)))) (fun k_ hk_ => ⟨hk_.1.1.1.1.1.1.1.1.2, hk_.1.1.1.1.1.1.1.2, hk_.1.1.1.1.1.1.2, hk_.1.1.1.1.1.2, hk_.1.1.1.1.2, hk_.1.1.1.2, hk_.1.1.2, hk_.1.2, hk_.1.1.1.1.1.1.1.1.1.1, hk_.1.1.1.1.1.1.1.1.1.2⟩)); have n11_ := Aside0.mk (Kd.R_mono (ok' := fun k_ => some k_ ≠ (.slice Ao33 t197.length co33 : Value).ownBlock ∧ some k_ ≠ (.slice Ao34 t200.length co34 : Value).ownBlock ∧ some k_ ≠ (.slice Ao35 t203.length co35 : Value).ownBlock ∧ some k_ ≠ (.slice Ao47 t206.length co47 : Value).ownBlock ∧ some k_ ≠ (.slice Ao40 t209.length co40 : Value).ownBlock ∧ some k_ ≠ (.slice Ao43 t212.length co43 : Value).ownBlock ∧ some k_ ≠ (.slice Ao44 t215.length co44 : Value).ownBlock ∧ some k_ ≠ (.slice Ao46 t219.length co46 : Value).ownBlock ∧ some k_ ≠ (.slice Ao50 t223.length co50 : Value).ownBlock ∧ some k_ ≠ (.slice Ao52 t229.length co52 : Value).ownBlock) (Kd.R_keptB (HO228.out) hkp (fun k_ hk_ hs_ => Or.elim hs_ (fun e_ => (hk_.1.1.1.2) e_) (fun e_ => Or.elim e_ (fun e_ => (hk_.1.1.2) e_) (fun e_ => (hk_.1.2) e_)))) (fun k_ hk_ => ⟨hk_.1.1.1.1.1.1.1.1.2, hk_.1.1.1.1.1.1.1.2, hk_.1.1.1.1.1.1.2, hk_.1.1.1.1.1.2, hk_.1.1.1.1.2, hk_.1.1.1.2, hk_.1.1.2, hk_.1.2, hk_.1.1.1.1.1.1.1.1.1.1, hk_.1.1.1.1.1.1.1.1.1.2⟩)); have n12_ := Aside0.mk (Kd.R_mono (ok' := fun k_ => some k_ ≠ (.slice Ao33 t197.length co33 : Value).ownBlock ∧ some k_ ≠ (.slice Ao34 t200.length co34 : Value).ownBlock ∧ some k_ ≠ (.slice Ao35 t203.length co35 : Value).ownBlock ∧ some k_ ≠ (.slice Ao47 t206.length co47 : Value).ownBlock ∧ some k_ ≠ (.slice Ao40 t209.length co40 : Value).ownBlock ∧ some k_ ≠ (.slice Ao43 t212.length co43 : Value).ownBlock ∧ some k_ ≠ (.slice Ao44 t215.length co44 : Value).ownBlock ∧ some k_ ≠ (.slice Ao46 t219.length co46 : Value).ownBlock ∧ some k_ ≠ (.slice Ao50 t223.length co50 : Value).ownBlock ∧ some k_ ≠ (.slice Ao51 t226.length co51 : Value).ownBlock) (Kd.R_keptB (HO231.out) hkp (fun k_ hk_ hs_ => Or.elim hs_ (fun e_ => (hk_.1.1.1.2) e_) (fun e_ => Or.elim e_ (fun e_ => (hk_.1.1.2) e_) (fun e_ => (hk_.1.2) e_)))) (fun k_ hk_ => ⟨hk_.1.1.1.1.1.1.1.1.2, hk_.1.1.1.1.1.1.1.2, hk_.1.1.1.1.1.1.2, hk_.1.1.1.1.1.2, hk_.1.1.1.1.2, hk_.1.1.1.2, hk_.1.1.2, hk_.1.2, hk_.1.1.1.1.1.1.1.1.1.1, hk_.1.1.1.1.1.1.1.1.1.2⟩)); have n13_ := Aside0.mk (hb); clear BK195; clear HO199; clear HO202; clear HO205; clear HO208; clear HO211; clear HO214; clear HO217; clear BK218; clear HO221; clear HO225; clear HO228; clear HO231; clear HB; have BK195 := n0_; have HO199 := n1_; have HO202 := n2_; have HO205 := n3_; have HO208 := n4_; have HO211 := n5_; have HO214 := n6_; have HO217 := n7_; have BK218 := n8_; have HO221 := n9_; have HO225 := n10_; have HO228 := n11_; have HO231 := n12_; have HB := n13_; clear n0_ n1_ n2_ n3_ n4_ n5_ n6_ n7_ n8_ n9_ n10_ n11_ n12_ n13_; (try clear hb); (try clear hkp); (try clear hy0); (try clear hy1); (try clear hy2)) | (go_at_call 27; (with_reducible refine (laws_eqIntS.calls k _ _ t219 _ _ t206 true _ ?side1 ?side2 ?side3 ?side4 A18.out).mono ?_); (case side1 => exact u5_22); (case side2 => exact (Kd.R_reads' HO221.out).2.1); (case side3 => exact u5_27); (case side4 => exact (Kd.R_reads' HO208.out).2.1); rintro e w' ⟨rfl, ⟨nd, rfl⟩⟩) | ((with_reducible refine gate_callee (f := 28) rfl ?_); refine goesL_ (some 45) rfl rfl Try.func28 (by kernel_rfl) rfl #[.slice Ao46 t219.length co46, .int .i64 1] rfl u5_5 ?_; (with_reducible refine (laws_markIntS.calls k (fun k_ => some k_ = (.slice Ao46 t219.length co46 : Value).ownBlock) (.slice Ao46 t219.length co46) t219 1 t238 t239 w _ ?side1 ?side2 A20.out).mono ?_); (case side1 => exact u5_0); (case side2 => exact Kd.R_tight rfl HO221.out); rintro e w56 ⟨rfl, hy0, hb, hkp⟩; refine ⟨_, rfl, ?_⟩; have n0_ := Aside0.mk (blk_kept u5_7 hkp (fun hs_ => (fun e_ => (Kd.R_ne HO221.out BK195.out (by decide)) e_) hs_)); have n1_ := Aside0.mk (Kd.R_mono (ok' := fun k_ => some k_ ≠ (.slice Ao34 t200.length co34 : Value).ownBlock ∧ some k_ ≠ (.slice Ao35 t203.length co35 : Value).ownBlock ∧ some k_ ≠ (.slice Ao47 t206.length co47 : Value).ownBlock ∧ some k_ ≠ (.slice Ao40 t209.length co40 : Value).ownBlock ∧ some k_ ≠ (.slice Ao43 t212.length co43 : Value).ownBlock ∧ some k_ ≠ (.slice Ao44 t215.length co44 : Value).ownBlock ∧ some k_ ≠ (.slice Ao46 t219.length co46 : Value).ownBlock ∧ some k_ ≠ (.slice Ao50 t223.length co50 : Value).ownBlock ∧ some k_ ≠ (.slice Ao51 t226.length co51 : Value).ownBlock ∧ some k_ ≠ (.slice Ao52 t229.length co52 : Value).ownBlock) (Kd.R_keptB (HO199.out) hkp (fun k_ hk_ hs_ => (hk_.2.2.2.2.2.2.1) hs_)) (fun k_ hk_ => ⟨hk_.1.1, hk_.1.2.1, hk_.1.2.2.1, hk_.1.2.2.2.1, hk_.1.2.2.2.2.1, hk_.1.2.2.2.2.2.1, hk_.1.2.2.2.2.2.2.1, hk_.1.2.2.2.2.2.2.2.1, hk_.1.2.2.2.2.2.2.2.2.1, hk_.1.2.2.2.2.2.2.2.2.2⟩)); have n2_ := Aside0.mk (Kd.R_mono (ok' := fun k_ => some k_ ≠ (.slice Ao33 t197.length co33 : Value).ownBlock ∧ some k_ ≠ (.slice Ao35 t203.length co35 : Value).ownBlock ∧ some k_ ≠ (.slice Ao47 t206.length co47 : Value).ownBlock ∧ some k_ ≠ (.slice Ao40 t209.length co40 : Value).ownBlock ∧ some k_ ≠ (.slice Ao43 t212.length co43 : Value).ownBlock ∧ some k_ ≠ (.slice Ao44 t215.length co44 : Value).ownBlock ∧ some k_ ≠ (.slice Ao46 t219.length co46 : Value).ownBlock ∧ some k_ ≠ (.slice Ao50 t223.length co50 : Value).ownBlock ∧ some k_ ≠ (.slice Ao51 t226.length co51 : Value).ownBlock ∧ some k_ ≠ (.slice Ao52 t229.length co52 : Value).ownBlock) (Kd.R_keptB (HO202.out) hkp (fun k_ hk_ hs_ => (hk_.2.2.2.2.2.2.1) hs_)) (fun k_ hk_ => ⟨hk_.1.1, hk_.1.2.1, hk_.1.2.2.1, hk_.1.2.2.2.1, hk_.1.2.2.2.2.1, hk_.1.2.2.2.2.2.1, hk_.1.2.2.2.2.2.2.1, hk_.1.2.2.2.2.2.2.2.1, hk_.1.2.2.2.2.2.2.2.2.1, hk_.1.2.2.2.2.2.2.2.2.2⟩)); have n3_ := Aside0.mk (Kd.R_mono (ok' := fun k_ => some k_ ≠ (.slice Ao33 t197.length co33 : Value).ownBlock ∧ some k_ ≠ (.slice Ao34 t200.length co34 : Value).ownBlock ∧ some k_ ≠ (.slice Ao47 t206.length co47 : Value).ownBlock ∧ some k_ ≠ (.slice Ao40 t209.length co40 : Value).ownBlock ∧ some k_ ≠ (.slice Ao43 t212.length co43 : Value).ownBlock ∧ some k_ ≠ (.slice Ao44 t215.length co44 : Value).ownBlock ∧ some k_ ≠ (.slice Ao46 t219.length co46 : Value).ownBlock ∧ some k_ ≠ (.slice Ao50 t223.length co50 : Value).ownBlock ∧ some k_ ≠ (.slice Ao51 t226.length co51 : Value).ownBlock ∧ some k_ ≠ (.slice Ao52 t229.length co52 : Value).ownBlock) (Kd.R_keptB (HO205.out) hkp (fun k_ hk_ hs_ => (hk_.2.2.2.2.2.2.1) hs_)) (fun k_ hk_ => ⟨hk_.1.1, hk_.1.2.1, hk_.1.2.2.1, hk_.1.2.2.2.1, hk_.1.2.2.2.2.1, hk_.1.2.2.2.2.2.1, hk_.1.2.2.2.2.2.2.1, hk_.1.2.2.2.2.2.2.2.1, hk_.1.2.2.2.2.2.2.2.2.1, hk_.1.2.2.2.2.2.2.2.2.2⟩)); have n4_ := Aside0.mk (Kd.R_mono (ok' := fun k_ => some k_ ≠ (.slice Ao33 t197.length co33 : Value).ownBlock ∧ some k_ ≠ (.slice Ao34 t200.length co34 : Value).ownBlock ∧ some k_ ≠ (.slice Ao35 t203.length co35 : Value).ownBlock ∧ some k_ ≠ (.slice Ao40 t209.length co40 : Value).ownBlock ∧ some k_ ≠ (.slice Ao43 t212.length co43 : Value).ownBlock ∧ some k_ ≠ (.slice Ao44 t215.length co44 : Value).ownBlock ∧ some k_ ≠ (.slice Ao46 t219.length co46 : Value).ownBlock ∧ some k_ ≠ (.slice Ao50 t223.length co50 : Value).ownBlock ∧ some k_ ≠ (.slice Ao51 t226.length co51 : Value).ownBlock ∧ some k_ ≠ (.slice Ao52 t229.length co52 : Value).ownBlock) (Kd.R_keptB (HO208.out) hkp (fun k_ hk_ hs_ => (hk_.2.2.2.2.2.2.1) hs_)) (fun k_ hk_ => ⟨hk_.1.1, hk_.1.2.1, hk_.1.2.2.1, hk_.1.2.2.2.1, hk_.1.2.2.2.2.1, hk_.1.2.2.2.2.2.1, hk_.1.2.2.2.2.2.2.1, hk_.1.2.2.2.2.2.2.2.1, hk_.1.2.2.2.2.2.2.2.2.1, hk_.1.2.2.2.2.2.2.2.2.2⟩)); have n5_ := Aside0.mk (Kd.R_mono (ok' := fun k_ => some k_ ≠ (.slice Ao33 t197.length co33 : Value).ownBlock ∧ some k_ ≠ (.slice Ao34 t200.length co34 : Value).ownBlock ∧ some k_ ≠ (.slice Ao35 t203.length co35 : Value).ownBlock ∧ some k_ ≠ (.slice Ao47 t206.length co47 : Value).ownBlock ∧ some k_ ≠ (.slice Ao43 t212.length co43 : Value).ownBlock ∧ some k_ ≠ (.slice Ao44 t215.length co44 : Value).ownBlock ∧ some k_ ≠ (.slice Ao46 t219.length co46 : Value).ownBlock ∧ some k_ ≠ (.slice Ao50 t223.length co50 : Value).ownBlock ∧ some k_ ≠ (.slice Ao51 t226.length co51 : Value).ownBlock ∧ some k_ ≠ (.slice Ao52 t229.length co52 : Value).ownBlock) (Kd.R_keptB (HO211.out) hkp (fun k_ hk_ hs_ => (hk_.1.1.1.2) hs_)) (fun k_ hk_ => ⟨hk_.1.1.1.1.1.1.1.1.2, hk_.1.1.1.1.1.1.1.2, hk_.1.1.1.1.1.1.2, hk_.1.1.1.1.1.2, hk_.1.1.1.1.1.1.1.1.1.1, hk_.1.1.1.1.1.1.1.1.1.2, hk_.1.1.1.1.2, hk_.1.1.1.2, hk_.1.1.2, hk_.1.2⟩)); have n6_ := Aside0.mk (Kd.R_mono (ok' := fun k_ => some k_ ≠ (.slice Ao33 t197.length co33 : Value).ownBlock ∧ some k_ ≠ (.slice Ao34 t200.length co34 : Value).ownBlock ∧ some k_ ≠ (.slice Ao35 t203.length co35 : Value).ownBlock ∧ some k_ ≠ (.slice Ao47 t206.length co47 : Value).ownBlock ∧ some k_ ≠ (.slice Ao40 t209.length co40 : Value).ownBlock ∧ some k_ ≠ (.slice Ao44 t215.length co44 : Value).ownBlock ∧ some k_ ≠ (.slice Ao46 t219.length co46 : Value).ownBlock ∧ some k_ ≠ (.slice Ao50 t223.length co50 : Value).ownBlock ∧ some k_ ≠ (.slice Ao51 t226.length co51 : Value).ownBlock ∧ some k_ ≠ (.slice Ao52 t229.length co52 : Value).ownBlock) (Kd.R_keptB (HO214.out) hkp (fun k_ hk_ hs_ => (hk_.1.1.1.2) hs_)) (fun k_ hk_ => ⟨hk_.1.1.1.1.1.1.1.1.2, hk_.1.1.1.1.1.1.1.2, hk_.1.1.1.1.1.1.2, hk_.1.1.1.1.1.2, hk_.1.1.1.1.1.1.1.1.1.1, hk_.1.1.1.1.1.1.1.1.1.2, hk_.1.1.1.1.2, hk_.1.1.1.2, hk_.1.1.2, hk_.1.2⟩)); have n7_ := Aside0.mk (Kd.R_mono (ok' := fun k_ => some k_ ≠ (.slice Ao33 t197.length co33 : Value).ownBlock ∧ some k_ ≠ (.slice Ao34 t200.length co34 : Value).ownBlock ∧ some k_ ≠ (.slice Ao35 t203.length co35 : Value).ownBlock ∧ some k_ ≠ (.slice Ao47 t206.length co47 : Value).ownBlock ∧ some k_ ≠ (.slice Ao40 t209.length co40 : Value).ownBlock ∧ some k_ ≠ (.slice Ao43 t212.length co43 : Value).ownBlock ∧ some k_ ≠ (.slice Ao46 t219.length co46 : Value).ownBlock ∧ some k_ ≠ (.slice Ao50 t223.length co50 : Value).ownBlock ∧ some k_ ≠ (.slice Ao51 t226.length co51 : Value).ownBlock ∧ some k_ ≠ (.slice Ao52 t229.length co52 : Value).ownBlock) (Kd.R_keptB (HO217.out) hkp (fun k_ hk_ hs_ => (hk_.1.1.1.2) hs_)) (fun k_ hk_ => ⟨hk_.1.1.1.1.1.1.1.1.2, hk_.1.1.1.1.1.1.1.2, hk_.1.1.1.1.1.1.2, hk_.1.1.1.1.1.2, hk_.1.1.1.1.1.1.1.1.1.1, hk_.1.1.1.1.1.1.1.1.1.2, hk_.1.1.1.1.2, hk_.1.1.1.2, hk_.1.1.2, hk_.1.2⟩)); have n8_ := Aside0.mk (blk_kept u5_18 hkp (fun hs_ => (fun e_ => (Kd.R_ne HO221.out BK218.out (by decide)) e_) hs_)); have n9_ := Aside0.mk (Kd.R_reok rfl hy0 (fun k_ e_ => HO221.out.1 k_ e_)); have n10_ := Aside0.mk (Kd.R_mono (ok' := fun k_ => some k_ ≠ (.slice Ao33 t197.length co33 : Value).ownBlock ∧ some k_ ≠ (.slice Ao34 t200.length co34 : Value).ownBlock ∧ some k_ ≠ (.slice Ao35 t203.length co35 : Value).ownBlock ∧ some k_ ≠ (.slice Ao47 t206.length co47 : Value).ownBlock ∧ some k_ ≠ (.slice Ao40 t209.length co40 : Value).ownBlock ∧ some k_ ≠ (.slice Ao43 t212.length co43 : Value).ownBlock ∧ some k_ ≠ (.slice Ao44 t215.length co44 : Value).ownBlock ∧ some k_ ≠ (.slice Ao46 t219.length co46 : Value).ownBlock ∧ some k_ ≠ (.slice Ao51 t226.length co51 : Value).ownBlock ∧ some k_ ≠ (.slice Ao52 t229.length co52 : Value).ownBlock) (Kd.R_keptB (HO225.out) hkp (fun k_ hk_ hs_ => (hk_.2.2.2.2.2.2.2.1) hs_)) (fun k_ hk_ => ⟨hk_.1.1, hk_.1.2.1, hk_.1.2.2.1, hk_.1.2.2.2.1, hk_.1.2.2.2.2.1, hk_.1.2.2.2.2.2.1, hk_.1.2.2.2.2.2.2.1, hk_.1.2.2.2.2.2.2.2.1, hk_.1.2.2.2.2.2.2.2.2.1, hk_.1.2.2.2.2.2.2.2.2.2⟩)); have n11_ := Aside0.mk (Kd.R_mono (ok' := fun k_ => some k_ ≠ (.slice Ao33 t197.length co33 : Value).ownBlock ∧ some k_ ≠ (.slice Ao34 t200.length co34 : Value).ownBlock ∧ some k_ ≠ (.slice Ao35 t203.length co35 : Value).ownBlock ∧ some k_ ≠ (.slice Ao47 t206.length co47 : Value).ownBlock ∧ some k_ ≠ (.slice Ao40 t209.length co40 : Value).ownBlock ∧ some k_ ≠ (.slice Ao43 t212.length co43 : Value).ownBlock ∧ some k_ ≠ (.slice Ao44 t215.length co44 : Value).ownBlock ∧ some k_ ≠ (.slice Ao46 t219.length co46 : Value).ownBlock ∧ some k_ ≠ (.slice Ao50 t223.length co50 : Value).ownBlock ∧ some k_ ≠ (.slice Ao52 t229.length co52 : Value).ownBlock) (Kd.R_keptB (HO228.out) hkp (fun k_ hk_ hs_ => (hk_.2.2.2.2.2.2.2.1) hs_)) (fun k_ hk_ => ⟨hk_.1.1, hk_.1.2.1, hk_.1.2.2.1, hk_.1.2.2.2.1, hk_.1.2.2.2.2.1, hk_.1.2.2.2.2.2.1, hk_.1.2.2.2.2.2.2.1, hk_.1.2.2.2.2.2.2.2.1, hk_.1.2.2.2.2.2.2.2.2.1, hk_.1.2.2.2.2.2.2.2.2.2⟩)); have n12_ := Aside0.mk (Kd.R_mono (ok' := fun k_ => some k_ ≠ (.slice Ao33 t197.length co33 : Value).ownBlock ∧ some k_ ≠ (.slice Ao34 t200.length co34 : Value).ownBlock ∧ some k_ ≠ (.slice Ao35 t203.length co35 : Value).ownBlock ∧ some k_ ≠ (.slice Ao47 t206.length co47 : Value).ownBlock ∧ some k_ ≠ (.slice Ao40 t209.length co40 : Value).ownBlock ∧ some k_ ≠ (.slice Ao43 t212.length co43 : Value).ownBlock ∧ some k_ ≠ (.slice Ao44 t215.length co44 : Value).ownBlock ∧ some k_ ≠ (.slice Ao46 t219.length co46 : Value).ownBlock ∧ some k_ ≠ (.slice Ao50 t223.length co50 : Value).ownBlock ∧ some k_ ≠ (.slice Ao51 t226.length co51 : Value).ownBlock) (Kd.R_keptB (HO231.out) hkp (fun k_ hk_ hs_ => (hk_.2.2.2.2.2.2.2.1) hs_)) (fun k_ hk_ => ⟨hk_.1.1, hk_.1.2.1, hk_.1.2.2.1, hk_.1.2.2.2.1, hk_.1.2.2.2.2.1, hk_.1.2.2.2.2.2.1, hk_.1.2.2.2.2.2.2.1, hk_.1.2.2.2.2.2.2.2.1, hk_.1.2.2.2.2.2.2.2.2.1, hk_.1.2.2.2.2.2.2.2.2.2⟩)); have n13_ := Aside0.mk (hb); clear BK195; clear HO199; clear HO202; clear HO205; clear HO208; clear HO211; clear HO214; clear HO217; clear BK218; clear HO221; clear HO225; clear HO228; clear HO231; clear HB; have BK195 := n0_; have HO199 := n1_; have HO202 := n2_; have HO205 := n3_; have HO208 := n4_; have HO211 := n5_; have HO214 := n6_; have HO217 := n7_; have BK218 := n8_; have HO221 := n9_; have HO225 := n10_; have HO228 := n11_; have HO231 := n12_; have HB := n13_; clear n0_ n1_ n2_ n3_ n4_ n5_ n6_ n7_ n8_ n9_ n10_ n11_ n12_ n13_; (try clear hb); (try clear hkp); (try clear hy0)) | ((with_reducible refine gate_callee (f := 29) rfl ?_); refine goesL_ (some 48) rfl rfl Try.func29 (by kernel_rfl) rfl #[.slice Ao46 t239.length co46, .int .i64 1] rfl u5_29 ?_; (with_reducible refine (laws_heldIntS.calls k _ _ t239 1 t240 _ ?side1 ?side2 A21.out).mono ?_); (case side1 => exact u5_22); (case side2 => exact u5_30); rintro e w' ⟨rfl, ⟨nd, rfl⟩⟩; refine ⟨_, rfl, ?_⟩; have hcz57_0 : w56.cell? ⟨gb195, 0, none⟩ = some (.slice A0_0 l0_0.length c0_0) := (blk_cell BK195.out 0).trans rfl; have hcz57_1 : w56.cell? ⟨gb195, 1, none⟩ = some (.slice A0_1 l0_1.length c0_1) := (blk_cell BK195.out 1).trans rfl; have hcz57_2 : w56.cell? ⟨gb195, 2, none⟩ = some (.slice A0_2 l0_2.length c0_2) := (blk_cell BK195.out 2).trans rfl; have hfz57_0 := blk_frozen BK195.out 0; have hfz57_1 := blk_frozen BK195.out 1; have hfz57_2 := blk_frozen BK195.out 2) | ((with_reducible refine gate_callee (f := 22) rfl ?_); refine goesL_ (some 55) rfl rfl Try.func22 (by kernel_rfl) rfl #[.agg #[.slice A0_0 l0_0.length c0_0, .slice A0_1 l0_1.length c0_1, .slice A0_2 l0_2.length c0_2]] rfl u5_5 ?_; (with_reducible refine (laws_toConf.calls k _ _ l0_0 _ _ l0_1 _ _ l0_2 t241 t244 t247 _ ?side1 ?side2 ?side3 ?side4 ?side5 ?side6 A24.out).mono ?_); (case side1 => exact (by repeat (first | exact (Kd.C_below HR0_0.out u5_0) | (with_reducible refine Kd.C_alloc ?_ _) | (with_reducible refine Kd.C_drewN ?_ _) | (with_reducible refine Kd.C_drew ?_)))); (case side2 => exact HC0_0.out); (case side3 => exact (by repeat (first | exact (Kd.C_below HR0_1.out u5_0) | (with_reducible refine Kd.C_alloc ?_ _) | (with_reducible refine Kd.C_drewN ?_ _) | (with_reducible refine Kd.C_drew ?_)))); (case side4 => exact HC0_1.out); (case side5 => exact (by repeat (first | exact (Kd.C_below HR0_2.out u5_0) | (with_reducible refine Kd.C_alloc ?_ _) | (with_reducible refine Kd.C_drewN ?_ _) | (with_reducible refine Kd.C_drew ?_)))); (case side6 => exact HC0_2.out); rintro e w58 ⟨v242, v245, v248, rfl, ho0, ho1, ho2, hb⟩; refine ⟨_, rfl, ?_⟩; have n0_ := Aside0.mk (Kd.R_mono (Kd.R_told (Kd.R_told (Kd.R_told (Kd.R_old u5_2 hb) (Kd.R_base ho0)) (Kd.R_base ho1)) (Kd.R_base ho2)) (fun _ h_ => h_.1)); have n1_ := Aside0.mk (Kd.R_mono (Kd.R_told (Kd.R_told (Kd.R_told (Kd.R_old u5_3 hb) (Kd.R_base ho0)) (Kd.R_base ho1)) (Kd.R_base ho2)) (fun _ h_ => h_.1)); have n2_ := Aside0.mk (Kd.R_mono (Kd.R_told (Kd.R_told (Kd.R_told (Kd.R_old u5_4 hb) (Kd.R_base ho0)) (Kd.R_base ho1)) (Kd.R_base ho2)) (fun _ h_ => h_.1)); have n3_ := Aside0.mk (Kd.R_mono (Kd.R_told (Kd.R_told (Kd.R_told (Kd.R_old u5_6 hb) (Kd.R_base ho0)) (Kd.R_base ho1)) (Kd.R_base ho2)) (fun _ h_ => h_.1)); have n4_ := Aside0.mk (Kd.R_mono (Kd.R_told (Kd.R_told (Kd.R_told (Kd.R_old u5_8 hb) (Kd.R_base ho0)) (Kd.R_base ho1)) (Kd.R_base ho2)) (fun _ h_ => h_.1)); have n5_ := Aside0.mk (Kd.R_mono (Kd.R_told (Kd.R_told (Kd.R_told (Kd.R_old u5_9 hb) (Kd.R_base ho0)) (Kd.R_base ho1)) (Kd.R_base ho2)) (fun _ h_ => h_.1)); have n6_ := Aside0.mk (Kd.R_mono (Kd.R_told (Kd.R_told (Kd.R_told (Kd.R_old u5_10 hb) (Kd.R_base ho0)) (Kd.R_base ho1)) (Kd.R_base ho2)) (fun _ h_ => h_.1)); have n7_ := Aside0.mk (Kd.R_mono (Kd.R_told (Kd.R_told (Kd.R_told (Kd.R_old u5_11 hb) (Kd.R_base ho0)) (Kd.R_base ho1)) (Kd.R_base ho2)) (fun _ h_ => h_.1)); have n8_ := Aside0.mk (Kd.R_mono (Kd.R_told (Kd.R_told (Kd.R_told (Kd.R_old u5_15 hb) (Kd.R_base ho0)) (Kd.R_base ho1)) (Kd.R_base ho2)) (fun _ h_ => h_.1)); have n9_ := Aside0.mk (Kd.R_mono (Kd.R_told (Kd.R_told (Kd.R_told (Kd.R_old u5_16 hb) (Kd.R_base ho0)) (Kd.R_base ho1)) (Kd.R_base ho2)) (fun _ h_ => h_.1)); have n10_ := Aside0.mk (Kd.R_mono (Kd.R_told (Kd.R_told (Kd.R_told (Kd.R_old u5_17 hb) (Kd.R_base ho0)) (Kd.R_base ho1)) (Kd.R_base ho2)) (fun _ h_ => h_.1)); have n11_ := Aside0.mk (Kd.R_lower (Kd.R_new' (Kd.R_new' (Kd.R_new' (Kd.R_new' (Kd.R_new' (Kd.R_new' (Kd.R_new' (Kd.R_new' (Kd.R_new' (Kd.R_new' (Kd.R_new' ho0 (Kd.R_lt u5_2)) (Kd.R_lt u5_3)) (Kd.R_lt u5_4)) (Kd.R_lt u5_6)) (Kd.R_lt u5_8)) (Kd.R_lt u5_9)) (Kd.R_lt u5_10)) (Kd.R_lt u5_11)) (Kd.R_lt u5_15)) (Kd.R_lt u5_16)) (Kd.R_lt u5_17)) (below_size u5_0)); have n12_ := Aside0.mk (Kd.R_lower (Kd.R_new' (Kd.R_new' (Kd.R_new' (Kd.R_new' (Kd.R_new' (Kd.R_new' (Kd.R_new' (Kd.R_new' (Kd.R_new' (Kd.R_new' (Kd.R_new' ho1 (Kd.R_lt u5_2)) (Kd.R_lt u5_3)) (Kd.R_lt u5_4)) (Kd.R_lt u5_6)) (Kd.R_lt u5_8)) (Kd.R_lt u5_9)) (Kd.R_lt u5_10)) (Kd.R_lt u5_11)) (Kd.R_lt u5_15)) (Kd.R_lt u5_16)) (Kd.R_lt u5_17)) (below_size u5_0)); have n13_ := Aside0.mk (Kd.R_lower (Kd.R_new' (Kd.R_new' (Kd.R_new' (Kd.R_new' (Kd.R_new' (Kd.R_new' (Kd.R_new' (Kd.R_new' (Kd.R_new' (Kd.R_new' (Kd.R_new' ho2 (Kd.R_lt u5_2)) (Kd.R_lt u5_3)) (Kd.R_lt u5_4)) (Kd.R_lt u5_6)) (Kd.R_lt u5_8)) (Kd.R_lt u5_9)) (Kd.R_lt u5_10)) (Kd.R_lt u5_11)) (Kd.R_lt u5_15)) (Kd.R_lt u5_16)) (Kd.R_lt u5_17)) (below_size u5_0)); have n14_ := Aside0.mk (blk_below (g := gb195) (o := .cells #[.slice A0_0 l0_0.length c0_0, .slice A0_1 l0_1.length c0_1, .slice A0_2 l0_2.length c0_2] 39 (0, 0)) u5_7 hb); have n15_ := Aside0.mk (blk_below (g := gb218) (o := .cells #[.slice Ao40 t209.length co40, .slice Ao43 t212.length co43, .slice Ao44 t215.length co44] 26 (0, 0)) u5_18 hb); have n16_ := Aside0.mk (below_step u5_0 hb); clear HO199; clear HO202; clear HO205; clear HO208; clear HO211; clear HO214; clear HO217; clear HO221; clear HO225; clear HO228; clear HO231; clear BK195; clear BK218; clear HB; have HO199 := n0_; have HO202 := n1_; have HO205 := n2_; have HO208 := n3_; have HO211 := n4_; have HO214 := n5_; have HO217 := n6_; have HO221 := n7_; have HO225 := n8_; have HO228 := n9_; have HO231 := n10_; have HO243 := n11_; have HO246 := n12_; have HO249 := n13_; have BK195 := n14_; have BK218 := n15_; have HB := n16_; clear n0_ n1_ n2_ n3_ n4_ n5_ n6_ n7_ n8_ n9_ n10_ n11_ n12_ n13_ n14_ n15_ n16_; (try clear hb); (try clear hb2); (try clear hk); (try clear hi); (try clear ho0); (try clear ho1); (try clear ho2); obtain ⟨Ao59, co59, eo59⟩ := Kd.R_slice HO243.out; subst eo59; obtain ⟨Ao60, co60, eo60⟩ := Kd.R_slice HO246.out; subst eo60; obtain ⟨Ao61, co61, eo61⟩ := Kd.R_slice HO249.out; subst eo61) | ((with_reducible refine gate_callee (f := 19) rfl ?_); refine goesL_ (some 56) rfl rfl Try.func19 (by kernel_rfl) rfl #[.agg #[.slice Ao59 t241.length co59, .slice Ao60 t244.length co60, .slice Ao61 t247.length co61]] rfl u5_5 ?_; (with_reducible refine (impl_Voters.calls k _ _ t241 _ _ t244 _ _ t247 t250 _ ?side1 ?side2 ?side3 ?side4 ?side5 ?side6 A25.out).mono ?_); (case side1 => exact (by repeat (first | exact (Kd.R_reads' HO243.out).2.2 | (with_reducible refine Kd.C_alloc ?_ _) | (with_reducible refine Kd.C_drewN ?_ _) | (with_reducible refine Kd.C_drew ?_)))); (case side2 => exact (Kd.R_reads' HO243.out).2.1); (case side3 => exact (by repeat (first | exact (Kd.R_reads' HO246.out).2.2 | (with_reducible refine Kd.C_alloc ?_ _) | (with_reducible refine Kd.C_drewN ?_ _) | (with_reducible refine Kd.C_drew ?_)))); (case side4 => exact (Kd.R_reads' HO246.out).2.1); (case side5 => exact (by repeat (first | exact (Kd.R_reads' HO249.out).2.2 | (with_reducible refine Kd.C_alloc ?_ _) | (with_reducible refine Kd.C_drewN ?_ _) | (with_reducible refine Kd.C_drew ?_)))); (case side6 => exact (Kd.R_reads' HO249.out).2.1); rintro e w62 ⟨v251, rfl, ho0, hb⟩; refine ⟨_, rfl, ?_⟩; have n0_ := Aside0.mk (Kd.R_elder' u5_2 (Kd.R_base ho0) hb); have n1_ := Aside0.mk (Kd.R_elder' u5_3 (Kd.R_base ho0) hb); have n2_ := Aside0.mk (Kd.R_elder' u5_4 (Kd.R_base ho0) hb); have n3_ := Aside0.mk (Kd.R_elder' u5_6 (Kd.R_base ho0) hb); have n4_ := Aside0.mk (Kd.R_elder' u5_8 (Kd.R_base ho0) hb); have n5_ := Aside0.mk (Kd.R_elder' u5_9 (Kd.R_base ho0) hb); have n6_ := Aside0.mk (Kd.R_elder' u5_10 (Kd.R_base ho0) hb); have n7_ := Aside0.mk (Kd.R_elder' u5_11 (Kd.R_base ho0) hb); have n8_ := Aside0.mk (Kd.R_elder' u5_15 (Kd.R_base ho0) hb); have n9_ := Aside0.mk (Kd.R_elder' u5_16 (Kd.R_base ho0) hb); have n10_ := Aside0.mk (Kd.R_elder' u5_17 (Kd.R_base ho0) hb); have n11_ := Aside0.mk (Kd.R_elder' u5_31 (Kd.R_base ho0) hb); have n12_ := Aside0.mk (Kd.R_elder' u5_32 (Kd.R_base ho0) hb); have n13_ := Aside0.mk (Kd.R_elder' u5_33 (Kd.R_base ho0) hb); have n14_ := Aside0.mk (Kd.R_lower (Kd.R_new' (Kd.R_new' (Kd.R_new' (Kd.R_new' (Kd.R_new' (Kd.R_new' (Kd.R_new' (Kd.R_new' (Kd.R_new' (Kd.R_new' (Kd.R_new' (Kd.R_new' (Kd.R_new' (Kd.R_new' ho0 (Kd.R_lt u5_2)) (Kd.R_lt u5_3)) (Kd.R_lt u5_4)) (Kd.R_lt u5_6)) (Kd.R_lt u5_8)) (Kd.R_lt u5_9)) (Kd.R_lt u5_10)) (Kd.R_lt u5_11)) (Kd.R_lt u5_15)) (Kd.R_lt u5_16)) (Kd.R_lt u5_17)) (Kd.R_lt u5_31)) (Kd.R_lt u5_32)) (Kd.R_lt u5_33)) (below_size u5_0)); have n15_ := Aside0.mk (blk_below (g := gb195) (o := .cells #[.slice A0_0 l0_0.length c0_0, .slice A0_1 l0_1.length c0_1, .slice A0_2 l0_2.length c0_2] 39 (0, 0)) u5_7 hb); have n16_ := Aside0.mk (blk_below (g := gb218) (o := .cells #[.slice Ao40 t209.length co40, .slice Ao43 t212.length co43, .slice Ao44 t215.length co44] 26 (0, 0)) u5_18 hb); have n17_ := Aside0.mk (below_step u5_0 hb); clear HO199; clear HO202; clear HO205; clear HO208; clear HO211; clear HO214; clear HO217; clear HO221; clear HO225; clear HO228; clear HO231; clear HO243; clear HO246; clear HO249; clear BK195; clear BK218; clear HB; have HO199 := n0_; have HO202 := n1_; have HO205 := n2_; have HO208 := n3_; have HO211 := n4_; have HO214 := n5_; have HO217 := n6_; have HO221 := n7_; have HO225 := n8_; have HO228 := n9_; have HO231 := n10_; have HO243 := n11_; have HO246 := n12_; have HO249 := n13_; have HO252 := n14_; have BK195 := n15_; have BK218 := n16_; have HB := n17_; clear n0_ n1_ n2_ n3_ n4_ n5_ n6_ n7_ n8_ n9_ n10_ n11_ n12_ n13_ n14_ n15_ n16_ n17_; (try clear hb); (try clear hb2); (try clear hk); (try clear hi); (try clear ho0); obtain ⟨Ao63, co63, eo63⟩ := Kd.R_slice HO252.out; subst eo63) | ((with_reducible refine gate_callee (f := 27) rfl ?_); refine goesL_ (some 59) rfl rfl Try.func27 (by kernel_rfl) rfl #[.slice Ao63 t250.length co63, .slice Ao47 t206.length co47] rfl u5_5 ?_; (with_reducible refine (laws_eqIntS.calls k _ _ t250 _ _ t206 true _ ?side1 ?side2 ?side3 ?side4 A26.out).mono ?_); (case side1 => exact (by repeat (first | exact (Kd.R_reads' HO252.out).2.2 | (with_reducible refine Kd.C_alloc ?_ _) | (with_reducible refine Kd.C_drewN ?_ _) | (with_reducible refine Kd.C_drew ?_)))); (case side2 => exact (Kd.R_reads' HO252.out).2.1); (case side3 => exact u5_27); (case side4 => exact (Kd.R_reads' HO208.out).2.1); rintro e w' ⟨rfl, ⟨nd, rfl⟩⟩; refine ⟨_, rfl, ?_⟩) | ((with_reducible refine gate_callee (f := 29) rfl ?_); refine goesL_ (some 63) rfl rfl Try.func29 (by kernel_rfl) rfl #[.slice Ao46 t239.length co46, .int .i64 1] rfl u5_29 ?_; (with_reducible refine (laws_heldIntS.calls k _ _ t239 1 t254 _ ?side1 ?side2 A28.out).mono ?_); (case side1 => exact u5_22); (case side2 => exact u5_30); rintro e w' ⟨rfl, ⟨nd, rfl⟩⟩; refine ⟨_, rfl, ?_⟩))
  go_ret
  exact ⟨by first | rfl | (simp [errW_none, errW_some] <;> rfl) | (simp [*, errW_none, errW_some] <;> rfl), u5_0⟩

end Go.Proofs.Ytoemdmjdpikfbaa.QFnExactVoters
